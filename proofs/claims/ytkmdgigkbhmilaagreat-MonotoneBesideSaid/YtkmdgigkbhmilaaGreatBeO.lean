/-The pieces of a curve:the reference. -/
import Derived.Test.YtkmdgigkbhmilaaGreatBeN
namespace Go.Proofs.YtkmdgigkbhmilaaGreat
open Go Go.RowKit
variable {w:Bool}{k:Ci}{A B C D E F K U n s1:Int}{S1:List CellD}{l:Ln}{f p q t:Pt}{a b c d e:Rat}
theorem pI {c:Cv}(hc:c.good) {L:List Pt}(hL: ∀p∈L,GP p) (lL:L.length≤90) (hon: ∀p∈L,(c).on p=true) (h2S:2≤(cE c ([c.p,c.q]++L)).length):Ok Tryz.prog 51 [.a (ap c),.c (.s ((L).length) (aI aj (L)))] [.c (.s ((fk c L).length) (aI ap (fk c L))),.c (.i .i64 0)]:=by
 have gp_:=cn hc
 have gq_:=dy hc
 have hL2: ∀p∈ [c.p,c.q]++L,GP p:=fun p hp=>by
  rcases lj.1 hp with h|h
  ·simp only[gD,zK,or_false] at h
   rcases h with h|h<;>subst h<;>assumption
  ·exact hL p h
 have lS:(cE c ([c.p,c.q]++L)).length≤92:=by
  have:=rS (c:=c) (l:=[c.p,c.q]++L)
  rw[fp] at this
  exact nn this (by show 2+L.length≤92;omega)
 refine fD Tryz.func51 56 [.tmp 4,.tmp 5] rfl<|aa<|bo<|fN<|aa<|aa<|bo<|fN<|aT<|bF (ι:={n:Nat // n≤L.length}) (fun i=>⟨56,[(1,.v (.c (.s ((L).length) (aI aj (L))))),(2,.p 2 0),(6,.v (.c (.i .i64 (i.1:Int))))],[(2,48,ap c)]⟩) (fun i=>L.length-i.1) ⟨0,iH _⟩ (aB ⟨rfl,rfl,rfl,trivial⟩ ⟨rfl,trivial⟩ rfl) ?_
 rintro⟨n,h2⟩
 replace h2:n≤L.length:=h2
 show Dw _ _ ⟨56,[(1,.v (.c (.s ((L).length) (aI aj (L))))),(2,.p 2 0),(6,.v (.c (.i .i64 (n:Int))))],[(2,48,ap c)]⟩ _
 refine aa<|aa<|bo<|fN ?_
 refine aX rfl (fun hc1=>?_) (fun hc1=>?_)
 ·have g1:n<L.length:=by have:=of_decide_eq_true hc1;omega
  refine aJ<|aa<|aT<|aa<|lq 7 rfl rfl<|bH (cD (ag _) aY rfl)<|dU 2<|bH (mR dPt aP g1 fw rfl)<|bH (db (us:=aj (L.getD n dPt)) bv rfl rfl rfl rfl) ?_
  refine bH (dt rfl (jQ (HE hc (rF hL n)) (hon _ (cz g1))))<|yQ<|dz<|bj<|ba rfl<|aJ<|bo<|bR 1<|a7 (fB (by omega) rfl)<|fN ?_
  exact⟨⟨n+1,g1⟩,aB ⟨rfl,rfl,rfl,trivial⟩ ⟨rfl,trivial⟩ rfl,by show L.length-(n+1)<L.length-n;omega⟩
 ·refine bG<|aa<|lq 10 rfl rfl<|bH (cD (ag _) aY rfl)<|dU 1<|bH (aV (us:=aj c.p) bv rfl rfl (fl _) rfl rfl) ?_
  refine dU 1<|bH (aV (us:=aj c.q) bv rfl rfl (f5 _) rfl rfl) ?_
  refine bH (mr (us:=aj c.p++aj c.q) iC rfl rfl rfl (by decide) (by decide) rfl) ?_
  refine dU 1 ?_
  refine bH (sN (n':=([c.p,c.q]++L).length) (us':=aI aj ([c.p,c.q]++L)) (EM iC rfl rfl rfl (aG aP _) (by decide) (by decide) (by omega) (jA (by omega)) rfl) (by rw[fp];rfl) (by rw[io];rfl)) ?_
  refine bH (dt rfl (LB hc hL2 (by rw[fp];show 2+L.length≤100;omega)))<|yQ<|dz<|bj<|aa<|bo<|a7 (gV rfl) ?_
  refine bj<|aa<|aa<|bo<|fN<|aT ?_
  refine uX (ι:={x9:Nat×Nat×List CellD // x9.1+2≤(cE c ([c.p,c.q]++L)).length∧x9.1+1≤x9.2.1∧x9.2.1≤maxLen∧x9.2.2.length=(x9.2.1-(x9.1+1))*66}) (fun i=>⟨56,[(2,.p 2 0),(7,.v (.c (.s (((cE c ([c.p,c.q]++L))).length) (aI aj ((cE c ([c.p,c.q]++L))))))),(8,.o 54 (i.1.1+1) i.1.2.1),(9,.v (.c (.i .i64 (((i.1.1+2:Nat):Int)))))],[(2,48,ap c),(54,48,aI ap (i9 c ((cE c ([c.p,c.q]++L)).take (i.1.1+2)))++i.1.2.2)]⟩) (fun i=>(cE c ([c.p,c.q]++L)).length-i.1.1) ((cE c ([c.p,c.q]++L)).length+1) ?_ ?_
  ·refine aa<|aa<|bo<|bR 3<|a7 (aZ (c:=true) (fe rfl) (decide_eq_true (by omega))) ?_
   refine bj<|cO rfl<|aJ<|aa<|aT<|aa<|bo<|a7 (cD (ag _) aY rfl)<|pg (kW AE rfl) rfl<|gZ (bn aY rfl rfl rfl (ag _) rfl rfl) ?_
   refine bj<|aa<|qV 11 [10,999999] ew (by kernel_rfl) rfl rfl<|dU 2<|bH (gI (r:=0) rfl rfl rfl rfl) ?_
   refine bH (bJ (us:=aj ((cE c ([c.p,c.q]++L)).getD 0 dPt)++aI aj ((cE c ([c.p,c.q]++L)).drop (0+1))) fw rfl rfl (by omega) (aG aP _) (gj aP (eJ (by omega))) rfl) ?_
   refine bH (db (us:=aj ((((cE c ([c.p,c.q]++L)).getD 0 dPt)))) bv rfl rfl rfl rfl) ?_
   refine dU 2<|bH (bJ (us:=aj ((cE c ([c.p,c.q]++L)).getD 1 dPt)++aI aj ((cE c ([c.p,c.q]++L)).drop (1+1))) fw rfl rfl (by omega) (aG aP _) (gj aP (eJ (by omega))) rfl) ?_
   refine bH (db (us:=aj ((((cE c ([c.p,c.q]++L)).getD 1 dPt)))) bv rfl rfl rfl rfl) ?_
   refine dU 1 ?_
   refine i4 (bm (us:=ap (c.setp ((((cE c ([c.p,c.q]++L)).getD 0 dPt))))) bv rfl rfl rfl rfl (by rw[ag];decide) (wu _ _) rfl) rfl rfl rfl rfl ?_
   refine kj<|ry<|bR 1 ?_
   refine gZ (bm (us:=ap (c.ends ((((cE c ([c.p,c.q]++L)).getD 0 dPt))) ((((cE c ([c.p,c.q]++L)).getD 1 dPt))))) bv rfl rfl rfl rfl (by rw[ag];decide) (Dt _ _ _) rfl) ?_
   refine bj<|bo<|bR 1<|a7 (cD (ag _) aY rfl)<|a7 (cV (n:=1) (us:=ap (c.ends ((((cE c ([c.p,c.q]++L)).getD 0 dPt))) ((((cE c ([c.p,c.q]++L)).getD 1 dPt))))) ja rfl (tM rfl (ag _)) (dX (ag _)) (by decide) (by decide) rfl) ?_
   refine pK (ys:=ap (c.ends ((((cE c ([c.p,c.q]++L)).getD 0 dPt))) ((((cE c ([c.p,c.q]++L)).getD 1 dPt))))) ja rfl rfl (dX (ag _)) (by decide) (by decide) (by decide) rfl rfl (fun cg2 rg2 hga2 hgb2 hgc2=>?_)
   refine fN<|bo<|bR 1<|a7 (gI (r:=2) rfl rfl rfl rfl) ?_
   refine fN ?_
   exact⟨⟨⟨0,cg2,rg2⟩,by omega,by omega,hgb2,hgc2⟩,aB ⟨rfl,rfl,rfl,rfl,trivial⟩ ⟨rfl,by rw[zM (i:=0) _ (by omega),Nn,zI,lU];rfl,trivial⟩ rfl,by show(cE c ([c.p,c.q]++L)).length-0<(cE c ([c.p,c.q]++L)).length+1;omega⟩
  ·rintro⟨⟨n,cp,rs⟩,h3,h4,h5,h6⟩
   dsimp only at h3 h4 h5 h6
   show Dw _ _ ⟨56,[(2,.p 2 0),(7,.v (.c (.s (((cE c ([c.p,c.q]++L))).length) (aI aj ((cE c ([c.p,c.q]++L))))))),(8,.o 54 (n+1) cp),(9,.v (.c (.i .i64 (((n+2:Nat):Int)))))],[(2,48,ap c),(54,48,aI ap (i9 c ((cE c ([c.p,c.q]++L)).take (n+2)))++rs)]⟩ _
   refine aa<|aa<|bo<|fN ?_
   refine aX rfl (fun hc3=>?_) (fun hc3=>?_)
   ·have g2:n+2<(cE c ([c.p,c.q]++L)).length:=by have:=of_decide_eq_true hc3;omega
    refine aJ<|aa<|aT<|aa<|bo<|a7 (cD (ag _) aY rfl)<|pg (kW AE rfl) rfl<|gZ (bn aY rfl rfl rfl (ag _) rfl rfl) ?_
    refine bj<|aa<|qV 11 [10,999999] ew (by kernel_rfl) rfl rfl<|dU 2<|bH (cr (((n+1:Nat):Int)) ((bT (by omega) (by omega)).trans (congrArg some (by omega))) rfl)<|bH (bJ (us:=aj ((cE c ([c.p,c.q]++L)).getD (n+1) dPt)++aI aj ((cE c ([c.p,c.q]++L)).drop ((n+1)+1))) fw rfl rfl (by omega) (aG aP _) (gj aP (eJ (by omega))) rfl) ?_
    refine bH (db (us:=aj ((((cE c ([c.p,c.q]++L)).getD (n+1) dPt)))) bv rfl rfl rfl rfl) ?_
    refine dU 2<|bH (bJ (us:=aj ((cE c ([c.p,c.q]++L)).getD (n+2) dPt)++aI aj ((cE c ([c.p,c.q]++L)).drop ((n+2)+1))) fw rfl rfl (by omega) (aG aP _) (gj aP (eJ (by omega))) rfl) ?_
    refine bH (db (us:=aj ((((cE c ([c.p,c.q]++L)).getD (n+2) dPt)))) bv rfl rfl rfl rfl) ?_
    refine dU 1 ?_
    refine i4 (bm (us:=ap (c.setp ((((cE c ([c.p,c.q]++L)).getD (n+1) dPt))))) bv rfl rfl rfl rfl (by rw[ag];decide) (wu _ _) rfl) rfl rfl rfl rfl ?_
    refine kj<|ry<|bR 1 ?_
    refine gZ (bm (us:=ap (c.ends ((((cE c ([c.p,c.q]++L)).getD (n+1) dPt))) ((((cE c ([c.p,c.q]++L)).getD (n+2) dPt))))) bv rfl rfl rfl rfl (by rw[ag];decide) (Dt _ _ _) rfl) ?_
    refine bj<|bo<|bR 1<|a7 (cD (ag _) aY rfl)<|a7 (cV (n:=1) (us:=ap (c.ends ((((cE c ([c.p,c.q]++L)).getD (n+1) dPt))) ((((cE c ([c.p,c.q]++L)).getD (n+2) dPt))))) ja rfl (tM rfl (ag _)) (dX (ag _)) (by decide) (by decide) rfl) ?_
    refine vX (us:=aI ap (i9 c ((cE c ([c.p,c.q]++L)).take (n+2)))) (rest:=rs) (ys:=ap (c.ends ((((cE c ([c.p,c.q]++L)).getD (n+1) dPt))) ((((cE c ([c.p,c.q]++L)).getD (n+2) dPt))))) ja rfl rfl rfl (by rw[aG ag,iF,fQ,fT (by omega)];rfl) (by assumption) (dX (ag _)) (by decide) (by omega) (by assumption) (by omega) (jA (by omega)) (.inl rfl) rfl (fun cg4 rg4 hga4 hgb4 hgc4=>?_)
    refine fN<|bo<|bR 1<|a7 (cr (((n+1+2:Nat):Int)) ((bL (by omega) (by omega)).trans (congrArg some (by omega))) rfl)<|fN ?_
    exact⟨⟨⟨n+1,cg4,rg4⟩,by omega,by omega,hgb4,hgc4⟩,aB ⟨rfl,rfl,rfl,rfl,trivial⟩ ⟨rfl,by rw[zM (i:=n+1) _ (by omega),io,lU];rfl,trivial⟩ rfl,by show(cE c ([c.p,c.q]++L)).length-(n+1)<(cE c ([c.p,c.q]++L)).length-n;omega⟩
   ·have g2:n+2=(cE c ([c.p,c.q]++L)).length:=by have:=of_decide_eq_false hc3;omega
    refine bG<|aa<|bo<|fN ?_
    refine dj (t:=4) (m:=66) (us:=aI ap (i9 c ((cE c ([c.p,c.q]++L)).take (n+2)))) rfl rfl (lE (n:=n+1) (by rw[aG ag,iF,fQ,fT (by omega)];rfl) (by assumption) (by omega)) (by omega) (by assumption) (iX (by rw[aG ag,iF,fQ,fT (by omega)];rfl))<|bb ?_
    rw[show fk c L=i9 c ((cE c ([c.p,c.q]++L)).take (n+2)) from by rw[g2,tI];rfl,show(i9 c ((cE c ([c.p,c.q]++L)).take (n+2))).length=n+1 from by rw[iF,fQ,fT (by omega)];rfl]
    exact ai (al (al ae))
theorem Rr {c:Cv}(hc:c.good):Ok Tryz.prog 38 [.a (ap c)] [.a (ap c.rev)]:=by
 cases c with
 |seg l f t=>exact RS hc.1 hc.2.1 hc.2.2
 |arc k w f t=>exact PW hc.1 hc.2.1 hc.2.2
theorem TC {c d:Cv}(hc:c.good) (hd:d.good):Ok Tryz.prog 94 [.a (ap c),.a (ap d)] [.c (.b (i7 c d))]:=by
 cases c with
 |seg l f t=>
  cases d with
  |seg m u v=>exact Q0 hc.1 hc.2.1 hc.2.2 hd.1 hd.2.1 hd.2.2
  |arc d w2 u v=>exact NH hc.1 hc.2.1 hc.2.2 hd.1 hd.2.1 hd.2.2
 |arc k w f t=>
  cases d with
  |seg m u v=>exact Rv hc.1 hc.2.1 hc.2.2 hd.1 hd.2.1 hd.2.2
  |arc d w2 u v=>exact OZ hc.1 hc.2.1 hc.2.2 hd.1 hd.2.1 hd.2.2
theorem Xs {c d:Cv}(hc:c.good) (hd:d.good):Ok Tryz.prog 117 [.a (ap c),.a (ap d)] [.c (.s ((j9 c d).length) (aI aj (j9 c d))),.c (.i .i64 (Io c d))]:=by
 cases c with
 |seg l f t=>
  cases d with
  |seg m u v=>exact S5 hc.1 hc.2.1 hc.2.2 hd.1 hd.2.1 hd.2.2
  |arc d w2 u v=>exact UI hc.1 hc.2.1 hc.2.2 hd.1 hd.2.1 hd.2.2
 |arc k w f t=>
  cases d with
  |seg m u v=>exact TR hc.1 hc.2.1 hc.2.2 hd.1 hd.2.1 hd.2.2
  |arc d w2 u v=>exact Uk hc.1 hc.2.1 hc.2.2 hd.1 hd.2.1 hd.2.2
theorem Be {c d:Cv}(hc:c.good) (hd:d.good):Ok Tryz.prog 50 [.a (ap c),.a (ap d)] [.c (.s (((cG c d)).length) (aI aj ((cG c d)))),.c (.b (CF c d))]:=by
 have hM: ∀p∈(bh c d),GP p:=zj hc hd
 have lM:(bh c d).length≤4:=CS
 have hML: ∀p∈(cG c d),GP p:=pv hc hd
 have lML:(cG c d).length≤4:=mv
 refine fD Tryz.func50 121 [.tmp 4,.tmp 5] rfl ?_
 refine aa ?_
 refine ah ?_
 refine aa ?_
 refine ah ?_
 refine ar (cD (ag _) aY rfl) ?_
 refine ar (cD (ag _) aY rfl) ?_
 refine ac rfl (TC hc hd) ?_
 refine aa ?_
 refine ah ?_
 refine ar (aV (us:=aj c.p) bv rfl rfl (fl _) rfl rfl) ?_
 refine ar (aV (us:=aj c.q) bv rfl rfl (f5 _) rfl rfl) ?_
 refine ar (aV (us:=aj d.p) bv rfl rfl (fl _) rfl rfl) ?_
 refine ar (aV (us:=aj d.q) bv rfl rfl (f5 _) rfl rfl) ?_
 refine ar (cV (n:=4) (us:=aj c.p++aj c.q++aj d.p++aj d.q) iC rfl rfl rfl (by decide) (by decide) rfl) ?_
 refine jd (ι:=Unit) (fun i=>⟨121,[(2,.p 2 0),(3,.p 3 0),(6,.v (.c (.b (i7 c d)))),(7,.v (.c (.s (((bh c d)).length) (aI aj ((bh c d))))))],[(2,48,ap c),(3,48,ap d)]⟩) ?_ ?_
 ·refine aa<|ah ?_
  refine aX rfl (fun hc1=>?_) (fun hc1=>?_)
  ·have m0:bh c d=j9 c d:=Ir (by simpa using hc1)
   refine ah ?_
   refine ar (cD (ag _) aY rfl) ?_
   refine ar (cD (ag _) aY rfl) ?_
   refine ac rfl (Xs hc hd) ?_
   exact⟨(),aB ⟨rfl,rfl,rfl,congrArg (fun q=>some (DV.v (.c (.s (List.length q) (aI aj q))))) m0.symm,trivial⟩ ⟨rfl,rfl,trivial⟩ rfl⟩
  ·have m0:bh c d=[c.p,c.q,d.p,d.q]:=Rq (by simpa using hc1)
   refine aJ ?_
   exact⟨(),aB ⟨rfl,rfl,rfl,(congrArg (fun q=>some (DV.v (.c (.s 4 q)))) (abc _ _ _ _)).trans (congrArg (fun q=>some (DV.v (.c (.s (List.length q) (aI aj q))))) m0.symm),trivial⟩ ⟨rfl,rfl,trivial⟩ rfl⟩
 ·rintro⟨⟩
  show Dw _ _ ⟨121,[(2,.p 2 0),(3,.p 3 0),(6,.v (.c (.b (i7 c d)))),(7,.v (.c (.s (((bh c d)).length) (aI aj ((bh c d))))))],[(2,48,ap c),(3,48,ap d)]⟩ _
  refine aa<|bo<|a7 (gV rfl) ?_
  refine bj ?_
  refine jd (ι:=Unit) (fun i=>⟨121,[(2,.p 2 0),(3,.p 3 0),(6,.v (.c (.b (i7 c d)))),(8,.v (.c (.s ((((bh c d).filter (dM c d))).length) (aI aj (((bh c d).filter (dM c d)))))))],[(2,48,ap c),(3,48,ap d)]⟩) ?_ ?_
  ·refine aa<|ah<|aT ?_
   refine bF (ι:=Sum ({n:Nat // n≤(bh c d).length∧(((bh c d).take n).filter (dM c d))=[]}) ({x9:Nat×Nat×List CellD // x9.1≤(bh c d).length∧(((bh c d).take x9.1).filter (dM c d)).length≤x9.2.1∧x9.2.1≤maxLen∧x9.2.2.length=(x9.2.1-(((bh c d).take x9.1).filter (dM c d)).length)*20})) (fun i=>match i with| .inl i=>⟨121,[(2,.p 2 0),(3,.p 3 0),(6,.v (.c (.b (i7 c d)))),(7,.v (.c (.s (((bh c d)).length) (aI aj ((bh c d)))))),(8,.z),(9,.v (.c (.i .i64 (i.1:Int))))],[(2,48,ap c),(3,48,ap d)]⟩| .inr i=>⟨121,[(2,.p 2 0),(3,.p 3 0),(6,.v (.c (.b (i7 c d)))),(7,.v (.c (.s (((bh c d)).length) (aI aj ((bh c d)))))),(8,.o 58 ((((bh c d).take i.1.1).filter (dM c d)).length) i.1.2.1),(9,.v (.c (.i .i64 (i.1.1:Int))))],[(2,48,ap c),(3,48,ap d),(58,46,aI aj (((bh c d).take i.1.1).filter (dM c d))++i.1.2.2)]⟩) (fun i=>match i with| .inl i=>(bh c d).length-i.1| .inr i=>(bh c d).length-i.1.1) (.inl ⟨0,iH _,rfl⟩) (aB ⟨rfl,rfl,rfl,rfl,rfl,rfl,trivial⟩ ⟨rfl,rfl,trivial⟩ rfl) ?_
   rintro(⟨n,h2,h3⟩|⟨⟨n,cp,rs⟩,h2,h3,h4,h5⟩)
   ·replace h2:n≤(bh c d).length:=h2
    replace h3:(((bh c d).take n).filter (dM c d))=[]:=h3
    show Dw _ _ ⟨121,[(2,.p 2 0),(3,.p 3 0),(6,.v (.c (.b (i7 c d)))),(7,.v (.c (.s (((bh c d)).length) (aI aj ((bh c d)))))),(8,.z),(9,.v (.c (.i .i64 (n:Int))))],[(2,48,ap c),(3,48,ap d)]⟩ _
    refine aa<|aa<|ah ?_
    refine aX rfl (fun hc2=>?_) (fun hc2=>?_)
    ·have g1:n<(bh c d).length:=by have:=of_decide_eq_true hc2;omega
     refine aJ ?_
     refine aa ?_
     refine aT ?_
     refine aa ?_
     refine di 14 [] ?_
     refine aq (cD (ag _) aY rfl) ?_
     refine aq (mR dPt aP g1 fw rfl) ?_
     refine aq (db (us:=aj ((((bh c d).getD n dPt)))) bv rfl rfl rfl rfl) ?_
     refine aO rfl (HE hc (rF hM n)) ?_
     refine xi (bp rfl) (fun c3 hb3=>?_)
     cases c3
     ·have g2:(((bh c d).take (n+1)).filter (dM c d))=(((bh c d).take n).filter (dM c d)):=EN g1 (KN hb3)
      refine ba rfl<|aJ<|ah<|ar (fB (by omega) rfl) ?_
      exact⟨.inl ⟨n+1,g1,by rw[g2];exact h3⟩,aB ⟨rfl,rfl,rfl,rfl,rfl,rfl,trivial⟩ ⟨rfl,rfl,trivial⟩ rfl,by show(bh c d).length-(n+1)<(bh c d).length-n;omega⟩
     ·refine aq (cD (ag _) aY rfl)<|aq (mR dPt aP g1 fw rfl)<|aq (db (us:=aj ((((bh c d).getD n dPt)))) bv rfl rfl rfl rfl) ?_
      refine aO rfl (HE hd (rF hM n)) ?_
      refine aX rfl (fun hc4=>?_) (fun hc4=>?_)
      ·have g2:(((bh c d).take (n+1)).filter (dM c d))=(((bh c d).take n).filter (dM c d))++[((bh c d).getD n dPt)]:=Ru g1 (Oj hb3 hc4)
       refine ah<|ar (mR dPt aP g1 fw rfl)<|ar (db (us:=aj ((((bh c d).getD n dPt)))) bv rfl rfl rfl rfl) ?_
       refine ar (cV (n:=1) (us:=aj ((((bh c d).getD n dPt)))) iC rfl rfl rfl (by decide) (by decide) rfl) ?_
       refine DL.mk<|pK (ys:=aj ((((bh c d).getD n dPt)))) iC rfl rfl rfl (by decide) (by decide) (by decide) rfl rfl (fun cg5 rg5 hga5 hgb5 hgc5=>fE ?_)
       refine ah<|ar (fB (by omega) rfl) ?_
       exact⟨.inr ⟨⟨n+1,cg5,rg5⟩,g1,by show(((bh c d).take (n+1)).filter (dM c d)).length≤cg5;rw[g2,h3];exact hga5,hgb5,by show rg5.length=(cg5-(((bh c d).take (n+1)).filter (dM c d)).length)*20;rw[g2,h3];exact hgc5⟩,aB ⟨rfl,rfl,rfl,rfl,congrArg (fun q=>some (DV.o 58 q cg5)) (by rw[g2,h3];rfl),rfl,trivial⟩ ⟨rfl,rfl,congrArg (fun q=>some (46,q++rg5)) (by rw[g2,h3];exact(lU _).symm),trivial⟩ rfl,by show(bh c d).length-(n+1)<(bh c d).length-n;omega⟩
      ·have g2:(((bh c d).take (n+1)).filter (dM c d))=(((bh c d).take n).filter (dM c d)):=EN g1 (KQ hc4)
       refine aJ<|ah<|ar (fB (by omega) rfl) ?_
       exact⟨.inl ⟨n+1,g1,by rw[g2];exact h3⟩,aB ⟨rfl,rfl,rfl,rfl,rfl,rfl,trivial⟩ ⟨rfl,rfl,trivial⟩ rfl,by show(bh c d).length-(n+1)<(bh c d).length-n;omega⟩
    ·have g1:(bh c d).length≤n:=by have:=of_decide_eq_false hc2;omega
     have m1:((bh c d).filter (dM c d))=[]:=by rw[←h3,iB g1]
     refine JQ (t:=8) rfl<|bG ?_
     exact⟨(),aB ⟨rfl,rfl,rfl,congrArg (fun q=>some (DV.v (.c (.s (List.length q) (aI aj q))))) m1.symm,trivial⟩ ⟨rfl,rfl,trivial⟩ rfl⟩
   ·dsimp only at h2 h3 h4 h5
    have h6:(((bh c d).take n).filter (dM c d)).length≤4:=nn (List.length_filter_le _ _) (by rw[fQ];omega)
    show Dw _ _ ⟨121,[(2,.p 2 0),(3,.p 3 0),(6,.v (.c (.b (i7 c d)))),(7,.v (.c (.s (((bh c d)).length) (aI aj ((bh c d)))))),(8,.o 58 ((((bh c d).take n).filter (dM c d)).length) cp),(9,.v (.c (.i .i64 (n:Int))))],[(2,48,ap c),(3,48,ap d),(58,46,aI aj (((bh c d).take n).filter (dM c d))++rs)]⟩ _
    refine aa<|aa<|ah ?_
    refine aX rfl (fun hc6=>?_) (fun hc6=>?_)
    ·have g1:n<(bh c d).length:=by have:=of_decide_eq_true hc6;omega
     refine aJ ?_
     refine aa ?_
     refine aT ?_
     refine aa ?_
     refine di 14 [] ?_
     refine aq (cD (ag _) aY rfl) ?_
     refine aq (mR dPt aP g1 fw rfl) ?_
     refine aq (db (us:=aj ((((bh c d).getD n dPt)))) bv rfl rfl rfl rfl) ?_
     refine aO rfl (HE hc (rF hM n)) ?_
     refine xi (bp rfl) (fun c7 hb7=>?_)
     cases c7
     ·have g2:(((bh c d).take (n+1)).filter (dM c d))=(((bh c d).take n).filter (dM c d)):=EN g1 (KN hb7)
      refine ba rfl<|aJ<|ah<|ar (fB (by omega) rfl) ?_
      exact⟨.inr ⟨⟨n+1,cp,rs⟩,g1,by show(((bh c d).take (n+1)).filter (dM c d)).length≤cp;rw[g2];exact h3,h4,by show rs.length=(cp-(((bh c d).take (n+1)).filter (dM c d)).length)*20;rw[g2];exact h5⟩,aB ⟨rfl,rfl,rfl,rfl,congrArg (fun q=>some (DV.o 58 q cp)) (by rw[g2]),rfl,trivial⟩ ⟨rfl,rfl,congrArg (fun q=>some (46,q++rs)) (by rw[g2]),trivial⟩ rfl,by show(bh c d).length-(n+1)<(bh c d).length-n;omega⟩
     ·refine aq (cD (ag _) aY rfl)<|aq (mR dPt aP g1 fw rfl)<|aq (db (us:=aj ((((bh c d).getD n dPt)))) bv rfl rfl rfl rfl) ?_
      refine aO rfl (HE hd (rF hM n)) ?_
      refine aX rfl (fun hc8=>?_) (fun hc8=>?_)
      ·have g2:(((bh c d).take (n+1)).filter (dM c d))=(((bh c d).take n).filter (dM c d))++[((bh c d).getD n dPt)]:=Ru g1 (Oj hb7 hc8)
       refine ah<|ar (mR dPt aP g1 fw rfl)<|ar (db (us:=aj ((((bh c d).getD n dPt)))) bv rfl rfl rfl rfl) ?_
       refine ar (cV (n:=1) (us:=aj ((((bh c d).getD n dPt)))) iC rfl rfl rfl (by decide) (by decide) rfl) ?_
       refine DL.mk<|vX (us:=aI aj (((bh c d).take n).filter (dM c d))) (rest:=rs) (ys:=aj ((((bh c d).getD n dPt)))) iC rfl rfl rfl (aG aP _) (by assumption) rfl (by decide) (by omega) (by assumption) (by omega) (jA (by omega)) (.inl rfl) rfl (fun cg9 rg9 hga9 hgb9 hgc9=>fE ?_)
       refine ah<|ar (fB (by omega) rfl) ?_
       exact⟨.inr ⟨⟨n+1,cg9,rg9⟩,g1,by show(((bh c d).take (n+1)).filter (dM c d)).length≤cg9;rw[g2,fp];exact hga9,hgb9,by show rg9.length=(cg9-(((bh c d).take (n+1)).filter (dM c d)).length)*20;rw[g2,fp];exact hgc9⟩,aB ⟨rfl,rfl,rfl,rfl,congrArg (fun q=>some (DV.o 58 q cg9)) (by rw[g2,fp];rfl),rfl,trivial⟩ ⟨rfl,rfl,congrArg (fun q=>some (46,q++rg9)) (by rw[g2,io,lU]),trivial⟩ rfl,by show(bh c d).length-(n+1)<(bh c d).length-n;omega⟩
      ·have g2:(((bh c d).take (n+1)).filter (dM c d))=(((bh c d).take n).filter (dM c d)):=EN g1 (KQ hc8)
       refine aJ<|ah<|ar (fB (by omega) rfl) ?_
       exact⟨.inr ⟨⟨n+1,cp,rs⟩,g1,by show(((bh c d).take (n+1)).filter (dM c d)).length≤cp;rw[g2];exact h3,h4,by show rs.length=(cp-(((bh c d).take (n+1)).filter (dM c d)).length)*20;rw[g2];exact h5⟩,aB ⟨rfl,rfl,rfl,rfl,congrArg (fun q=>some (DV.o 58 q cp)) (by rw[g2]),rfl,trivial⟩ ⟨rfl,rfl,congrArg (fun q=>some (46,q++rs)) (by rw[g2]),trivial⟩ rfl,by show(bh c d).length-(n+1)<(bh c d).length-n;omega⟩
    ·have g1:(bh c d).length≤n:=by have:=of_decide_eq_false hc6;omega
     have m1:((bh c d).filter (dM c d))=(((bh c d).take n).filter (dM c d)):=by rw[iB g1]
     refine dj (t:=8) (m:=20) (us:=aI aj (((bh c d).take n).filter (dM c d))) rfl rfl (lE (n:=(((bh c d).take n).filter (dM c d)).length) (aG aP _) (by assumption) (by omega)) (by omega) (by assumption) (iX (aG aP _))<|bG ?_
     exact⟨(),aB ⟨rfl,rfl,rfl,congrArg (fun q=>some (DV.v (.c (.s (List.length q) (aI aj q))))) m1.symm,trivial⟩ ⟨rfl,rfl,trivial⟩ rfl⟩
  ·rintro⟨⟩
   show Dw _ _ ⟨121,[(2,.p 2 0),(3,.p 3 0),(6,.v (.c (.b (i7 c d)))),(8,.v (.c (.s ((((bh c d).filter (dM c d))).length) (aI aj (((bh c d).filter (dM c d)))))))],[(2,48,ap c),(3,48,ap d)]⟩ _
   refine aa ?_
   refine ah ?_
   refine ar (cD (ag _) aY rfl) ?_
   refine ac rfl (LB hc (fun p hp=>hM p (zi.1 hp).1) (nn (List.length_filter_le _ _) (by omega))) ?_
   refine aa ?_
   refine ah ?_
   refine jd (ι:=Unit) (fun i=>⟨121,[(3,.p 3 0),(6,.v (.c (.b (i7 c d)))),(8,.v (.c (.s (((cG c d)).length) (aI aj ((cG c d)))))),(10,.v (.c (.b false)))],[(3,48,ap (iN c d))]⟩) ?_ ?_
   ·refine aa ?_
    refine di 31 [] ?_
    refine aq (cT jb rfl rfl (pm _) rfl) ?_
    refine xi (bp rfl) (fun c10 hb10=>?_)
    cases c10
    ·refine aq (bp rfl) ?_
     refine aq (bp rfl) ?_
     refine aq (cT jb rfl rfl (pm _) rfl) ?_
     refine xi (bp rfl) (fun c11 hb11=>?_)
     cases c11
     ·exact absurd hb11 (by rw[hb10];decide)
     ·refine aq (aV (us:=aj c.p) bv rfl rfl (fl _) rfl rfl) ?_
      refine aq (aV (us:=aj c.q) bv rfl rfl (f5 _) rfl rfl) ?_
      refine aO rfl (oz (cn hc) (dy hc)) ?_
      refine aq (aV (us:=aj d.p) bv rfl rfl (fl _) rfl rfl) ?_
      refine aq (aV (us:=aj d.q) bv rfl rfl (f5 _) rfl rfl) ?_
      refine aO rfl (oz (cn hd) (dy hd)) ?_
      refine aX rfl (fun hc12=>?_) (fun hc12=>?_)
      ·have m2:(iN c d)=d.rev:=abF hb10 hc12
       refine ah ?_
       refine ar (cD (ag _) aY rfl) ?_
       refine ac rfl (Rr hd) ?_
       refine jF (bn aY rfl rfl rfl (ag _) (ag _) rfl) ?_
       exact⟨(),aB ⟨rfl,rfl,rfl,rfl,trivial⟩ ⟨congrArg (fun q=>some (48,ap q)) m2.symm,trivial⟩ rfl⟩
      ·have m2:(iN c d)=d:=abS hb10 hc12
       refine aJ ?_
       exact⟨(),aB ⟨rfl,rfl,rfl,rfl,trivial⟩ ⟨congrArg (fun q=>some (48,ap q)) m2.symm,trivial⟩ rfl⟩
    ·refine aq (cT jb rfl rfl (pm _) rfl) ?_
     refine xi (bp rfl) (fun c13 hb13=>?_)
     cases c13
     ·refine aq (bp rfl) ?_
      refine aq (cT jb rfl rfl (pm _) rfl) ?_
      refine xi (bp rfl) (fun c14 hb14=>?_)
      cases c14
      ·have m2:(iN c d)=d:=abH hb10 hb13
       refine ba rfl<|aJ ?_
       exact⟨(),aB ⟨rfl,rfl,rfl,rfl,trivial⟩ ⟨congrArg (fun q=>some (48,ap q)) m2.symm,trivial⟩ rfl⟩
      ·exact absurd hb14 (by rw[hb10];decide)
     ·refine aq (cT jb rfl rfl (A5 _) rfl) ?_
      refine aq (cT jb rfl rfl (A5 _) rfl) ?_
      refine aq (iv rfl rfl iI rfl) ?_
      refine xi (bp rfl) (fun c15 hb15=>?_)
      cases c15
      ·refine aq (cT jb rfl rfl (pm _) rfl) ?_
       refine xi (bp rfl) (fun c16 hb16=>?_)
       cases c16
       ·have m2:(iN c d)=d:=aca hb10 hb13 hb15
        refine ba rfl<|aJ ?_
        exact⟨(),aB ⟨rfl,rfl,rfl,rfl,trivial⟩ ⟨congrArg (fun q=>some (48,ap q)) m2.symm,trivial⟩ rfl⟩
       ·exact absurd hb16 (by rw[hb10];decide)
      ·have m2:(iN c d)=d.rev:=acc hb10 hb13 hb15
       refine DQ.mk<|sP (pk rfl)<|dY ?_
       refine cO rfl ?_
       refine ah ?_
       refine ar (cD (ag _) aY rfl) ?_
       refine ac rfl (Rr hd) ?_
       refine jF (bn aY rfl rfl rfl (ag _) (ag _) rfl) ?_
       exact⟨(),aB ⟨rfl,rfl,rfl,rfl,trivial⟩ ⟨congrArg (fun q=>some (48,ap q)) m2.symm,trivial⟩ rfl⟩
   ·rintro⟨⟩
    show Dw _ _ ⟨121,[(3,.p 3 0),(6,.v (.c (.b (i7 c d)))),(8,.v (.c (.s (((cG c d)).length) (aI aj ((cG c d)))))),(10,.v (.c (.b false)))],[(3,48,ap (iN c d))]⟩ _
    refine aa<|aa<|ah<|aT<|bF (ι:={r:Nat //(r=0∨r+1≤(cG c d).length)∧(i7 c d=false→r=0)}) (fun i=>⟨121,[(3,.p 3 0),(6,.v (.c (.b (i7 c d)))),(8,.v (.c (.s (((cG c d)).length) (aI aj ((cG c d)))))),(10,.v (.c (.b (KP (iN c d) (cG c d) i.1)))),(11,.v (.c (.i .i64 (((i.1+1:Nat):Int)))))],[(3,48,ap (iN c d))]⟩) (fun i=>(cG c d).length-i.1) ⟨0,.inl rfl,fun _=>rfl⟩ (aB ⟨rfl,rfl,rfl,rfl,rfl,trivial⟩ ⟨rfl,trivial⟩ rfl) ?_
    rintro⟨r,h2,h3⟩
    replace h2:r=0∨r+1≤(cG c d).length:=h2
    replace h3:i7 c d=false→r=0:=h3
    show Dw _ _ ⟨121,[(3,.p 3 0),(6,.v (.c (.b (i7 c d)))),(8,.v (.c (.s (((cG c d)).length) (aI aj ((cG c d)))))),(10,.v (.c (.b (KP (iN c d) (cG c d) r)))),(11,.v (.c (.i .i64 (((r+1:Nat):Int)))))],[(3,48,ap (iN c d))]⟩ _
    refine aa<|aa<|ah ?_
    refine kT (bp rfl) (fun c17 hb17=>?_)
    cases c17
    ·have m3:CF c d=false:=UB hb17
     refine ba rfl<|bG<|aa<|ah<|bb ?_
     rw[show CF c d=KP (iN c d) (cG c d) r from by rw[m3,h3 hb17];rfl]
     exact ai (al (al ae))
    ·have m4:i7 c d=true:=hb17
     refine aX rfl (fun hc18=>?_) (fun hc18=>?_)
     ·have g3:r+1<(cG c d).length:=by have:=of_decide_eq_true hc18;omega
      refine aJ<|aa<|aT<|di 16 [] ?_
      refine xi (bp rfl) (fun c19 hb19=>?_)
      cases c19
      ·have g4:KP (iN c d) (cG c d) (r+1)=decide ((iN c d).ord ((cG c d).getD r dPt) ((cG c d).getD (r+1) dPt)<0):=ZI hb19
       refine aq (cD (ag _) aY rfl)<|aq (cr (((r:Nat):Int)) ((bT (by omega) (by omega)).trans (congrArg some (by omega))) rfl)<|aq (bJ (us:=aj ((cG c d).getD r dPt)++aI aj ((cG c d).drop (r+1))) fw rfl rfl (by omega) (aG aP _) (gj aP (eJ (by omega))) rfl) ?_
       refine aq (db (us:=aj ((((cG c d).getD r dPt)))) bv rfl rfl rfl rfl) ?_
       refine aq (bJ (us:=aj ((cG c d).getD (r+1) dPt)++aI aj ((cG c d).drop ((r+1)+1))) fw rfl rfl (by omega) (aG aP _) (gj aP (eJ (by omega))) rfl) ?_
       refine aq (db (us:=aj ((((cG c d).getD (r+1) dPt)))) bv rfl rfl rfl rfl) ?_
       refine aO rfl (Qu (Jk hd) (rF hML _) (rF hML _))<|ah<|ar (cr (((r+1+1:Nat):Int)) ((bL (by omega) (by omega)).trans (congrArg some (by omega))) rfl) ?_
       exact⟨⟨r+1,.inr (by omega),fun h=>absurd h (by rw[m4];decide)⟩,aB ⟨rfl,rfl,rfl,congrArg (fun q=>some (DV.v (.c (.b q)))) g4.symm,rfl,trivial⟩ ⟨rfl,trivial⟩ rfl,by show(cG c d).length-(r+1)<(cG c d).length-r;omega⟩
      ·have g4:KP (iN c d) (cG c d) (r+1)=true:=Zj hb19
       refine ah<|ar (cr (((r+1+1:Nat):Int)) ((bL (by omega) (by omega)).trans (congrArg some (by omega))) rfl) ?_
       exact⟨⟨r+1,.inr (by omega),fun h=>absurd h (by rw[m4];decide)⟩,aB ⟨rfl,rfl,rfl,congrArg (fun q=>some (DV.v (.c (.b q)))) g4.symm,rfl,trivial⟩ ⟨rfl,trivial⟩ rfl,by show(cG c d).length-(r+1)<(cG c d).length-r;omega⟩
     ·have g3:(cG c d).length≤r+1:=by have:=of_decide_eq_false hc18;omega
      refine bG<|aa<|ah<|bb ?_
      rw[UE hb17 (by omega:(cG c d).length-1=r)]
      exact ai (al (al ae))
theorem TN (ha:Rz 1 a) (hb:Rz 1 b) (hc:Rz 1 c) (hd:Rz 1 d) (hn:b-d=0∧c-a=0):Ok Tryz.prog 112 [.a ((cR a++cR b)),.a ((cR c++cR d))] [.a (dA),.c (.i .i64 6)]:=by
 refine bU Tryz.func112 rfl ?_
 refine cU 12 [] ?_
 refine aO rfl (fV (aW hb) (aW hd)) ?_
 refine aO rfl (fV (aW hc) (aW ha)) ?_
 refine aq (aC (us:=(cR (b-d)++cR (c-a)++F8)) Sp OD rfl rfl rfl) ?_
 refine ac rfl (ce) ?_
 refine kT (bp rfl) (fun c1 hb1=>?_)
 cases c1
 ·exact absurd hb1 (by simp[ij.2 hn.1])
 ·refine ac rfl (ce) ?_
  refine dr rfl (fun hc2=>?_) (fun hc2=>?_)
  ·refine ar (aC (us:=dA) Sp OD rfl rfl rfl) ?_
   exact ai (a8 AI rfl (al ae))
  ·exact absurd hc2 (by simp[ij.2 hn.2])
theorem aav (ha:Rz 1 a) (hb:Rz 1 b) (hc:Rz 1 c) (hd:Rz 1 d) (hn: ¬(b-d=0∧c-a=0)):Ok Tryz.prog 112 [.a ((cR a++cR b)),.a ((cR c++cR d))] [.a ((cR (b-d)++cR (c-a)++cR ((b-d)*a+(c-a)*b))),.c (.i .i64 0)]:=by
 refine bU Tryz.func112 rfl ?_
 refine cU 12 [] ?_
 refine aO rfl (fV (aW hb) (aW hd)) ?_
 refine aO rfl (fV (aW hc) (aW ha)) ?_
 refine aq (aC (us:=(cR (b-d)++cR (c-a)++F8)) Sp OD rfl rfl rfl) ?_
 refine ac rfl (ce) ?_
 refine kT (bp rfl) (fun c1 hb1=>?_)
 cases c1
 ·refine mi rfl ?_
  refine cU 12 [] ?_
  refine aO rfl (de (aW (az hb hd)) (aW ha)) ?_
  refine aO rfl (de (aW (az hc ha)) (aW hb)) ?_
  refine aO rfl (jJ (aW (aF (az hb hd) ha)) (aW (aF (az hc ha) hb))) ?_
  refine jF (bm (us:=(cR (b-d)++cR (c-a)++cR (((b-d)*a)+((c-a)*b)))) bt rfl rfl rfl rfl (dV rfl) rfl rfl) ?_
  exact ai (a8 AI rfl (al ae))
 ·refine ac rfl (ce) ?_
  refine dr rfl (fun hc2=>?_) (fun hc2=>?_)
  ·exact absurd ⟨ij.1 (by simpa using hb1),ij.1 (by simpa using hc2)⟩ hn
  ·refine cU 12 [] ?_
   refine aO rfl (de (aW (az hb hd)) (aW ha)) ?_
   refine aO rfl (de (aW (az hc ha)) (aW hb)) ?_
   refine aO rfl (jJ (aW (aF (az hb hd) ha)) (aW (aF (az hc ha) hb))) ?_
   refine jF (bm (us:=(cR (b-d)++cR (c-a)++cR (((b-d)*a)+((c-a)*b)))) bt rfl rfl rfl rfl (dV rfl) rfl rfl) ?_
   exact ai (a8 AI rfl (al ae))
theorem EJ (ha:Rz 1 a) (hb:Rz 1 b) (hc:Rz 1 c) (hd:Rz 1 d) (hn:b-d=0∧c-a=0):Ok Tryz.prog 45 [.a ((cR a++cR b)),.a ((cR c++cR d))] [.a (([.b false]++dA++dA++[.b false]++r8++r8)),.c (.i .i64 6)]:=by
 refine fD Tryz.func45 23 [.cell 4 48,.tmp 5] rfl ?_
 refine aa ?_
 refine ah ?_
 refine aa ?_
 refine ah ?_
 refine ac rfl (TN ha hb hc hd hn) ?_
 refine aa ?_
 refine aa ?_
 refine ah ?_
 refine cO rfl ?_
 refine aa ?_
 refine bo ?_
 refine a7 (aC (us:=([.b false]++dA++dA++[.b false]++r8++r8)) Jz AE rfl rfl rfl) ?_
 refine fN<|bb ?_
 exact ai (gE (us:=([.b false]++dA++dA++[.b false]++r8++r8)) aY rfl rfl (by kernel_rfl) (by kernel_rfl) (al ae))
theorem Kh (ha:Rz 1 a) (hb:Rz 1 b) (hc:Rz 1 c) (hd:Rz 1 d) (hn: ¬(b-d=0∧c-a=0)):Ok Tryz.prog 45 [.a ((cR a++cR b)),.a ((cR c++cR d))] [.a (([.b false]++fm (Sn a b c d)++dA++[.b false]++aj (rP a b)++aj (rP c d))),.c (.i .i64 0)]:=by
 refine fD Tryz.func45 23 [.cell 4 48,.tmp 5] rfl ?_
 refine aa ?_
 refine ah ?_
 refine aa ?_
 refine ah ?_
 refine ac rfl (aav ha hb hc hd hn) ?_
 refine aa ?_
 refine aa ?_
 refine ah ?_
 refine ba rfl ?_
 refine aJ ?_
 refine aa ?_
 refine lq 6 rfl rfl ?_
 refine dU 2 ?_
 refine bH (dt rfl (o4))<|dU 1<|bH (dt rfl (o4))<|bH (aC (us:=([.b false]++(cR (b-d)++cR (c-a)++cR ((b-d)*a+(c-a)*b))++dA++[.b false]++(cR a++cR 0++cR b++cR 0++cR 0)++(cR c++cR 0++cR d++cR 0++cR 0))) Jz AE rfl rfl rfl) ?_
 refine kj<|dz<|fN<|bb ?_
 exact ai (gE (us:=([.b false]++(cR (b-d)++cR (c-a)++cR ((b-d)*a+(c-a)*b))++dA++[.b false]++(cR a++cR 0++cR b++cR 0++cR 0)++(cR c++cR 0++cR d++cR 0++cR 0))) aY rfl rfl (by kernel_rfl) (by kernel_rfl) (al ae))
theorem QP {f:Rat}(ha:Rz 1 a) (hb:Rz 1 b) (hc:Rz 1 c) (hd:Rz 1 d) (he:Rz 1 e) (hf:Rz 1 f):Ok Tryz.prog 109 [.a ((cR a++cR b)),.a ((cR c++cR d)),.a ((cR e++cR f))] [.c (.i .i64 (aR ((c-a)*(f-b)) ((d-b)*(e-a))))]:=by
 refine bU Tryz.func109 rfl ?_
 refine cU 12 [] ?_
 refine aO rfl (gN (aW hc) (aW ha)) ?_
 refine aO rfl (gN (aW hf) (aW hb)) ?_
 refine aO rfl (cb (aW (az hc ha)) (aW (az hf hb))) ?_
 refine cU 12 [] ?_
 refine aO rfl (gN (aW hd) (aW hb)) ?_
 refine aO rfl (gN (aW he) (aW ha)) ?_
 refine aO rfl (cb (aW (az hd hb)) (aW (az he ha))) ?_
 refine ac rfl (jl (aW (aF (az hc ha) (az hf hb))) (aW (aF (az hd hb) (az he ha)))) ?_
 exact ai (al ae)
theorem abM {f:Rat}(ha:Rz 1 a) (hb:Rz 1 b) (hc:Rz 1 c) (hd:Rz 1 d) (he:Rz 1 e) (hf:Rz 1 f) (hn:p9 a b c d e f≠0):Ok Tryz.prog 110 [.a ((cR a++cR b)),.a ((cR c++cR d)),.a ((cR e++cR f))] [.a (cg (X4 a b c d e f)),.c (.i .i64 0)]:=by
 have h0:((c-a)*(f-b)-(d-b)*(e-a))+((c-a)*(f-b)-(d-b)*(e-a))≠0:=fun h=>hn (by unfold p9;grind)
 refine bU Tryz.func110 rfl ?_
 refine cU 24 [] ?_
 refine aO rfl (fV (aW hc) (aW ha)) ?_
 refine aO rfl (fV (aW hd) (aW hb)) ?_
 refine aO rfl (fV (aW he) (aW ha)) ?_
 refine aO rfl (fV (aW hf) (aW hb)) ?_
 refine cU 8 [] ?_
 refine aO rfl (de (aW (az hc ha)) (aW (az hf hb))) ?_
 refine aO rfl (de (aW (az hd hb)) (aW (az he ha))) ?_
 refine aO rfl (fV (aW (aF (az hc ha) (az hf hb))) (aW (aF (az hd hb) (az he ha)))) ?_
 refine ac rfl (ce) ?_
 refine dr rfl (fun hc1=>?_) (fun hc1=>?_)
 ·exact absurd (show p9 a b c d e f=0 from ij.1 (beq_iff_eq.1 hc1)) hn
 ·refine ac rfl (jJ (aW (az (aF (az hc ha) (az hf hb)) (aF (az hd hb) (az he ha)))) (aW (az (aF (az hc ha) (az hf hb)) (aF (az hd hb) (az he ha))))) ?_
  refine cU 16 [] ?_
  refine aO rfl (de (aW (az hc ha)) (aW (az hc ha))) ?_
  refine aO rfl (de (aW (az hd hb)) (aW (az hd hb))) ?_
  refine aO rfl (jJ (aW (aF (az hc ha) (az hc ha))) (aW (aF (az hd hb) (az hd hb)))) ?_
  refine aO rfl (de (aW (az he ha)) (aW (az he ha))) ?_
  refine aO rfl (de (aW (az hf hb)) (aW (az hf hb))) ?_
  refine aO rfl (jJ (aW (aF (az he ha) (az he ha))) (aW (aF (az hf hb) (az hf hb)))) ?_
  refine cU 20 [] ?_
  refine aO rfl (de (aW (eh (aF (az hc ha) (az hc ha)) (aF (az hd hb) (az hd hb)))) (aW (az hf hb))) ?_
  refine aO rfl (de (aW (eh (aF (az he ha) (az he ha)) (aF (az hf hb) (az hf hb)))) (aW (az hd hb))) ?_
  refine aO rfl (fV (aW (aF (eh (aF (az hc ha) (az hc ha)) (aF (az hd hb) (az hd hb))) (az hf hb))) (aW (aF (eh (aF (az he ha) (az he ha)) (aF (az hf hb) (az hf hb))) (az hd hb)))) ?_
  refine aO rfl (GU (aW (az (aF (eh (aF (az hc ha) (az hc ha)) (aF (az hd hb) (az hd hb))) (az hf hb)) (aF (eh (aF (az he ha) (az he ha)) (aF (az hf hb) (az hf hb))) (az hd hb)))) (aW (eh (az (aF (az hc ha) (az hf hb)) (aF (az hd hb) (az he ha))) (az (aF (az hc ha) (az hf hb)) (aF (az hd hb) (az he ha))))) (by assumption)) ?_
  refine aO rfl (de (aW (eh (aF (az he ha) (az he ha)) (aF (az hf hb) (az hf hb)))) (aW (az hc ha))) ?_
  refine aO rfl (de (aW (eh (aF (az hc ha) (az hc ha)) (aF (az hd hb) (az hd hb)))) (aW (az he ha))) ?_
  refine aO rfl (fV (aW (aF (eh (aF (az he ha) (az he ha)) (aF (az hf hb) (az hf hb))) (az hc ha))) (aW (aF (eh (aF (az hc ha) (az hc ha)) (aF (az hd hb) (az hd hb))) (az he ha)))) ?_
  refine aO rfl (GU (aW (az (aF (eh (aF (az he ha) (az he ha)) (aF (az hf hb) (az hf hb))) (az hc ha)) (aF (eh (aF (az hc ha) (az hc ha)) (aF (az hd hb) (az hd hb))) (az he ha)))) (aW (eh (az (aF (az hc ha) (az hf hb)) (aF (az hd hb) (az he ha))) (az (aF (az hc ha) (az hf hb)) (aF (az hd hb) (az he ha))))) (by assumption)) ?_
  refine cU 16 [] ?_
  refine aO rfl (jJ (aW ha) (aW (lT (az (aF (eh (aF (az hc ha) (az hc ha)) (aF (az hd hb) (az hd hb))) (az hf hb)) (aF (eh (aF (az he ha) (az he ha)) (aF (az hf hb) (az hf hb))) (az hd hb))) (eh (az (aF (az hc ha) (az hf hb)) (aF (az hd hb) (az he ha))) (az (aF (az hc ha) (az hf hb)) (aF (az hd hb) (az he ha)))) (by assumption)))) ?_
  refine aO rfl (jJ (aW hb) (aW (lT (az (aF (eh (aF (az he ha) (az he ha)) (aF (az hf hb) (az hf hb))) (az hc ha)) (aF (eh (aF (az hc ha) (az hc ha)) (aF (az hd hb) (az hd hb))) (az he ha))) (eh (az (aF (az hc ha) (az hf hb)) (aF (az hd hb) (az he ha))) (az (aF (az hc ha) (az hf hb)) (aF (az hd hb) (az he ha)))) (by assumption)))) ?_
  refine aO rfl (de (aW (lT (az (aF (eh (aF (az hc ha) (az hc ha)) (aF (az hd hb) (az hd hb))) (az hf hb)) (aF (eh (aF (az he ha) (az he ha)) (aF (az hf hb) (az hf hb))) (az hd hb))) (eh (az (aF (az hc ha) (az hf hb)) (aF (az hd hb) (az he ha))) (az (aF (az hc ha) (az hf hb)) (aF (az hd hb) (az he ha)))) (by assumption))) (aW (lT (az (aF (eh (aF (az hc ha) (az hc ha)) (aF (az hd hb) (az hd hb))) (az hf hb)) (aF (eh (aF (az he ha) (az he ha)) (aF (az hf hb) (az hf hb))) (az hd hb))) (eh (az (aF (az hc ha) (az hf hb)) (aF (az hd hb) (az he ha))) (az (aF (az hc ha) (az hf hb)) (aF (az hd hb) (az he ha)))) (by assumption)))) ?_
  refine aO rfl (de (aW (lT (az (aF (eh (aF (az he ha) (az he ha)) (aF (az hf hb) (az hf hb))) (az hc ha)) (aF (eh (aF (az hc ha) (az hc ha)) (aF (az hd hb) (az hd hb))) (az he ha))) (eh (az (aF (az hc ha) (az hf hb)) (aF (az hd hb) (az he ha))) (az (aF (az hc ha) (az hf hb)) (aF (az hd hb) (az he ha)))) (by assumption))) (aW (lT (az (aF (eh (aF (az he ha) (az he ha)) (aF (az hf hb) (az hf hb))) (az hc ha)) (aF (eh (aF (az hc ha) (az hc ha)) (aF (az hd hb) (az hd hb))) (az he ha))) (eh (az (aF (az hc ha) (az hf hb)) (aF (az hd hb) (az he ha))) (az (aF (az hc ha) (az hf hb)) (aF (az hd hb) (az he ha)))) (by assumption)))) ?_
  refine aO rfl (jJ (aW (aF (lT (az (aF (eh (aF (az hc ha) (az hc ha)) (aF (az hd hb) (az hd hb))) (az hf hb)) (aF (eh (aF (az he ha) (az he ha)) (aF (az hf hb) (az hf hb))) (az hd hb))) (eh (az (aF (az hc ha) (az hf hb)) (aF (az hd hb) (az he ha))) (az (aF (az hc ha) (az hf hb)) (aF (az hd hb) (az he ha)))) (by assumption)) (lT (az (aF (eh (aF (az hc ha) (az hc ha)) (aF (az hd hb) (az hd hb))) (az hf hb)) (aF (eh (aF (az he ha) (az he ha)) (aF (az hf hb) (az hf hb))) (az hd hb))) (eh (az (aF (az hc ha) (az hf hb)) (aF (az hd hb) (az he ha))) (az (aF (az hc ha) (az hf hb)) (aF (az hd hb) (az he ha)))) (by assumption)))) (aW (aF (lT (az (aF (eh (aF (az he ha) (az he ha)) (aF (az hf hb) (az hf hb))) (az hc ha)) (aF (eh (aF (az hc ha) (az hc ha)) (aF (az hd hb) (az hd hb))) (az he ha))) (eh (az (aF (az hc ha) (az hf hb)) (aF (az hd hb) (az he ha))) (az (aF (az hc ha) (az hf hb)) (aF (az hd hb) (az he ha)))) (by assumption)) (lT (az (aF (eh (aF (az he ha) (az he ha)) (aF (az hf hb) (az hf hb))) (az hc ha)) (aF (eh (aF (az hc ha) (az hc ha)) (aF (az hd hb) (az hd hb))) (az he ha))) (eh (az (aF (az hc ha) (az hf hb)) (aF (az hd hb) (az he ha))) (az (aF (az hc ha) (az hf hb)) (aF (az hd hb) (az he ha)))) (by assumption))))) ?_
  refine aq (aC (us:=(cR (a+((((((c-a)*(c-a))+((d-b)*(d-b)))*(f-b))-((((e-a)*(e-a))+((f-b)*(f-b)))*(d-b)))/((((c-a)*(f-b))-((d-b)*(e-a)))+(((c-a)*(f-b))-((d-b)*(e-a))))))++cR (b+((((((e-a)*(e-a))+((f-b)*(f-b)))*(c-a))-((((c-a)*(c-a))+((d-b)*(d-b)))*(e-a)))/((((c-a)*(f-b))-((d-b)*(e-a)))+(((c-a)*(f-b))-((d-b)*(e-a))))))++cR ((((((((c-a)*(c-a))+((d-b)*(d-b)))*(f-b))-((((e-a)*(e-a))+((f-b)*(f-b)))*(d-b)))/((((c-a)*(f-b))-((d-b)*(e-a)))+(((c-a)*(f-b))-((d-b)*(e-a)))))*((((((c-a)*(c-a))+((d-b)*(d-b)))*(f-b))-((((e-a)*(e-a))+((f-b)*(f-b)))*(d-b)))/((((c-a)*(f-b))-((d-b)*(e-a)))+(((c-a)*(f-b))-((d-b)*(e-a))))))+(((((((e-a)*(e-a))+((f-b)*(f-b)))*(c-a))-((((c-a)*(c-a))+((d-b)*(d-b)))*(e-a)))/((((c-a)*(f-b))-((d-b)*(e-a)))+(((c-a)*(f-b))-((d-b)*(e-a)))))*((((((e-a)*(e-a))+((f-b)*(f-b)))*(c-a))-((((c-a)*(c-a))+((d-b)*(d-b)))*(e-a)))/((((c-a)*(f-b))-((d-b)*(e-a)))+(((c-a)*(f-b))-((d-b)*(e-a))))))))) Yt Tp rfl rfl rfl) ?_
  exact ai (a8 rg rfl (al ae))
theorem Oa {f:Rat}(ha:Rz 1 a) (hb:Rz 1 b) (hc:Rz 1 c) (hd:Rz 1 d) (he:Rz 1 e) (hf:Rz 1 f) (hn:p9 a b c d e f≠0):Ok Tryz.prog 43 [.a ((cR a++cR b)),.a ((cR c++cR d)),.a ((cR e++cR f))] [.a (([.b true]++dA++cg (X4 a b c d e f)++[.b (decide (aR ((c-a)*(f-b)) ((d-b)*(e-a))<0))]++aj (rP a b)++aj (rP e f))),.c (.i .i64 0)]:=by
 refine fD Tryz.func43 37 [.cell 6 48,.tmp 7] rfl ?_
 refine aa ?_
 refine ah ?_
 refine aa ?_
 refine ah ?_
 refine ac rfl (QP ha hb hc hd he hf) ?_
 refine aa ?_
 refine ah ?_
 refine ac rfl (abM ha hb hc hd he hf hn) ?_
 refine aa ?_
 refine aa ?_
 refine ah ?_
 refine kT (bp rfl) (fun c1 hb1=>?_)
 cases c1
 ·refine ba rfl<|aJ<|aa<|lq 8 rfl rfl<|dU 4<|bH (dt rfl (o4))<|dU 1<|bH (dt rfl (o4))<|bH (aC (us:=([.b true]++dA++cg (X4 a b c d e f)++[.b (decide ((aR ((c-a)*(f-b)) ((d-b)*(e-a)))<0))]++(cR a++cR 0++cR b++cR 0++cR 0)++(cR e++cR 0++cR f++cR 0++cR 0))) Jz AE rfl rfl rfl) ?_
  refine kj<|dz<|fN<|bb ?_
  exact ai (gE (us:=([.b true]++dA++cg (X4 a b c d e f)++[.b (decide ((aR ((c-a)*(f-b)) ((d-b)*(e-a)))<0))]++(cR a++cR 0++cR b++cR 0++cR 0)++(cR e++cR 0++cR f++cR 0++cR 0))) aY rfl rfl (by kernel_rfl) (by kernel_rfl) (al ae))
 ·exact absurd (Qr.1 (by simpa using hb1)) hn
theorem YE {f:Rat}(ha:Rz 1 a) (hb:Rz 1 b) (hc:Rz 1 c) (hd:Rz 1 d) (he:Rz 1 e) (hf:Rz 1 f) (hn:p9 a b c d e f=0):Ok Tryz.prog 110 [.a ((cR a++cR b)),.a ((cR c++cR d)),.a ((cR e++cR f))] [.a (dA),.c (.i .i64 6)]:=by
 refine bU Tryz.func110 rfl ?_
 refine cU 24 [] ?_
 refine aO rfl (fV (aW hc) (aW ha)) ?_
 refine aO rfl (fV (aW hd) (aW hb)) ?_
 refine aO rfl (fV (aW he) (aW ha)) ?_
 refine aO rfl (fV (aW hf) (aW hb)) ?_
 refine cU 8 [] ?_
 refine aO rfl (de (aW (az hc ha)) (aW (az hf hb))) ?_
 refine aO rfl (de (aW (az hd hb)) (aW (az he ha))) ?_
 refine aO rfl (fV (aW (aF (az hc ha) (az hf hb))) (aW (aF (az hd hb) (az he ha)))) ?_
 refine ac rfl (ce) ?_
 refine dr rfl (fun hc1=>?_) (fun hc1=>?_)
 ·refine ar (aC (us:=dA) Yt Tp rfl rfl rfl) ?_
  exact ai (a8 rg rfl (al ae))
 ·exact absurd hc1 (by have h9:=ij.2 hn;simpa [p9] using h9)
theorem Ti {f:Rat}(ha:Rz 1 a) (hb:Rz 1 b) (hc:Rz 1 c) (hd:Rz 1 d) (he:Rz 1 e) (hf:Rz 1 f) (hn:p9 a b c d e f=0):Ok Tryz.prog 43 [.a ((cR a++cR b)),.a ((cR c++cR d)),.a ((cR e++cR f))] [.a (([.b false]++dA++dA++[.b false]++r8++r8)),.c (.i .i64 6)]:=by
 refine fD Tryz.func43 37 [.cell 6 48,.tmp 7] rfl ?_
 refine aa ?_
 refine ah ?_
 refine aa ?_
 refine ah ?_
 refine ac rfl (QP ha hb hc hd he hf) ?_
 refine aa ?_
 refine ah ?_
 refine ac rfl (YE ha hb hc hd he hf hn) ?_
 refine aa ?_
 refine aa ?_
 refine ah ?_
 refine kT (bp rfl) (fun c1 hb1=>?_)
 cases c1
 ·exact absurd hb1 (by simp[Qr.2 hn])
 ·refine cO rfl<|aa<|bo<|a7 (aC (us:=([.b false]++dA++dA++[.b false]++r8++r8)) Jz AE rfl rfl rfl) ?_
  refine fN<|bb ?_
  exact ai (gE (us:=([.b false]++dA++dA++[.b false]++r8++r8)) aY rfl rfl (by kernel_rfl) (by kernel_rfl) (al ae))
theorem Ve (hk:GK k):Ok Tryz.prog 107 [.a (cg k)] [.a (aj (mh k)),.a (aj (ln k))]:=by
 have o1:Rz 6000000 (1:Rat):=jY.m_
 refine bU Tryz.func107 rfl ?_
 refine ac rfl (cW (nC (by decide) (by decide)) (show((1:Int):Rat)=1 from rfl)) ?_
 refine ac rfl (cW (nC (by decide) (by decide)) (show((0:Int):Rat)=0 from rfl)) ?_
 refine cU 19 [] ?_
 refine aO rfl (xC o1) ?_
 refine aO rfl (KX (hk.x.m_) (jY.neg.m_) (hk.y.m_) (dL (by decide)) (hk.q.m_)) ?_
 refine aO rfl (KX (hk.x.m_) (jY.m_) (hk.y.m_) (dL (by decide)) (hk.q.m_)) ?_
 exact ai (a8 bv rfl (a8 bv rfl ae))
theorem Wu (hk:GK k):Ok Tryz.prog 178 [.a (cg k)] [.c (.s ((DR k).length) (aI ap (DR k)))]:=by
 refine fD Tryz.func178 19 [.tmp 2] rfl ?_
 refine aa ?_
 refine ah ?_
 refine aa ?_
 refine ah ?_
 refine ac rfl (Ve hk) ?_
 refine aa ?_
 refine bo ?_
 refine bR 3 ?_
 refine a7 (aC (us:=([.b true]++dA++cg k++[.b false]++aj (mh k)++aj (ln k))) Jz AE rfl rfl rfl) ?_
 refine bR 3<|a7 (aC (us:=([.b true]++dA++cg k++[.b false]++aj (ln k)++aj (mh k))) Jz AE rfl rfl rfl) ?_
 refine a7 (cV (n:=2) (us:=([.b true]++dA++cg k++[.b false]++aj (mh k)++aj (ln k))++([.b true]++dA++cg k++[.b false]++aj (ln k)++aj (mh k))) ja rfl (by kernel_rfl) (by kernel_rfl) (by decide) (by decide) rfl) ?_
 refine fN<|bb ?_
 exact ai (al ae)
theorem mO (hA: -128≤A∧A≤127) (hU:0≤U∧U≤255):Ok Tryz.prog 177 [.c (.i .i8 A),.c (.i .u8 U)] [dR (qD A (uD U))]:=by
 refine bU Tryz.func177 rfl<|ar (cS (r:=A) Y8 C9 rfl (sG (by omega) (by omega)) rfl) ?_
 refine ar (fJ (r:=U%4) rfl rfl (by decide) (lk hU.1) rfl) ?_
 refine ar (cS (r:=U%4) ZP C9 rfl (sG (by omega) (by omega)) rfl) ?_
 refine ar (cr (uD U) ((bL (by omega) (by omega)).trans rfl) rfl)<|ac rfl (Mq (by omega) (by omega) (by have:=Ho hU.1;omega) (by have:=Ho hU.1;omega) (by have:=Ho hU.1;omega)) ?_
 exact ai (a8 bt rfl ae)
theorem Td (hK:0≤K∧K≤255) (hU:0≤U∧U≤255) (hA: -128≤A∧A≤127) (hB: -128≤B∧B≤127) (hC: -128≤C∧C≤127) (hD: -128≤D∧D≤127) (_hE: -128≤E∧E≤127) (_hF: -128≤F∧F≤127) {f:Rat}(ea:qD A (uD U)=a) (eb:qD B (uD U)=b) (ec:qD C (uD U)=c) (ed:qD D (uD U)=d) (_ee:qD E (uD U)=e) (_ef:qD F (uD U)=f) (_za:Rz 1 a) (_zb:Rz 1 b) (_zc:Rz 1 c) (_zd:Rz 1 d) (_ze:Rz 1 e) (_zf:Rz 1 f) (hk:K%3=2) (hq: ¬0<c):Ok Tryz.prog 98 [.a (([.i .u8 K]++[.i .u8 U]++[.i .i8 A]++[.i .i8 B]++[.i .i8 C]++[.i .i8 D]++[.i .i8 E]++[.i .i8 F]))] [.c (.s 0 [])]:=by
 refine fD Tryz.func98 80 [.tmp 2] rfl ?_
 refine aa ?_
 refine ah ?_
 refine aa ?_
 refine di 12 [] ?_
 refine aq (bW mU rfl) ?_
 refine aq (bW xu rfl) ?_
 refine aO rfl (cW (mO ⟨by omega,by omega⟩ ⟨by omega,by omega⟩) ea) ?_
 refine aq (bW mU rfl) ?_
 refine aq (bW xu rfl) ?_
 refine aO rfl (cW (mO ⟨by omega,by omega⟩ ⟨by omega,by omega⟩) eb) ?_
 refine aq (aC (us:=(cR a++cR b)) ro q9 rfl rfl rfl) ?_
 refine aa ?_
 refine di 12 [] ?_
 refine aq (bW mU rfl) ?_
 refine aq (bW xu rfl) ?_
 refine aO rfl (cW (mO ⟨by omega,by omega⟩ ⟨by omega,by omega⟩) ec) ?_
 refine aq (bW mU rfl) ?_
 refine aq (bW xu rfl) ?_
 refine aO rfl (cW (mO ⟨by omega,by omega⟩ ⟨by omega,by omega⟩) ed) ?_
 refine aq (aC (us:=(cR c++cR d)) ro q9 rfl rfl rfl) ?_
 refine aa<|aa<|bo<|bR 2<|a7 (fJ (r:=K%3) rfl rfl (by decide) (lk hK.1) rfl) ?_
 refine a7 (aZ (c:=true) (fe rfl) (by rw[hk];rfl)) ?_
 refine bj ?_
 refine cO rfl ?_
 refine aa ?_
 refine ah ?_
 refine ar (bW mU rfl) ?_
 refine ar (bW xu rfl) ?_
 refine ac rfl (cW (mO ⟨by omega,by omega⟩ ⟨by omega,by omega⟩) ec) ?_
 refine aa ?_
 refine aa ?_
 refine ah ?_
 refine ac rfl (ce) ?_
 refine aX rfl (fun hc1=>?_) (fun hc1=>?_)
 ·refine aa<|ah<|bb ?_
  exact ai (al ae)
 ·exact absurd (CL (fun h=>of_decide_eq_false hc1 (by omega)) (fun h=>of_decide_eq_false hc1 (by omega))) hq
theorem SF (hK:0≤K∧K≤255) (hU:0≤U∧U≤255) (hA: -128≤A∧A≤127) (hB: -128≤B∧B≤127) (hC: -128≤C∧C≤127) (hD: -128≤D∧D≤127) (_hE: -128≤E∧E≤127) (_hF: -128≤F∧F≤127) {f:Rat}(ea:qD A (uD U)=a) (eb:qD B (uD U)=b) (ec:qD C (uD U)=c) (ed:qD D (uD U)=d) (_ee:qD E (uD U)=e) (_ef:qD F (uD U)=f) (za:Rz 1 a) (zb:Rz 1 b) (zc:Rz 1 c) (_zd:Rz 1 d) (_ze:Rz 1 e) (_zf:Rz 1 f) (hk:K%3=2) (hq:0<c):Ok Tryz.prog 98 [.a (([.i .u8 K]++[.i .u8 U]++[.i .i8 A]++[.i .i8 B]++[.i .i8 C]++[.i .i8 D]++[.i .i8 E]++[.i .i8 F]))] [.c (.s ((DR ⟨a,b,c⟩).length) (aI ap (DR ⟨a,b,c⟩)))]:=by
 refine fD Tryz.func98 80 [.tmp 2] rfl ?_
 refine aa ?_
 refine ah ?_
 refine aa ?_
 refine di 12 [] ?_
 refine aq (bW mU rfl) ?_
 refine aq (bW xu rfl) ?_
 refine aO rfl (cW (mO ⟨by omega,by omega⟩ ⟨by omega,by omega⟩) ea) ?_
 refine aq (bW mU rfl) ?_
 refine aq (bW xu rfl) ?_
 refine aO rfl (cW (mO ⟨by omega,by omega⟩ ⟨by omega,by omega⟩) eb) ?_
 refine aq (aC (us:=(cR a++cR b)) ro q9 rfl rfl rfl) ?_
 refine aa ?_
 refine di 12 [] ?_
 refine aq (bW mU rfl) ?_
 refine aq (bW xu rfl) ?_
 refine aO rfl (cW (mO ⟨by omega,by omega⟩ ⟨by omega,by omega⟩) ec) ?_
 refine aq (bW mU rfl) ?_
 refine aq (bW xu rfl) ?_
 refine aO rfl (cW (mO ⟨by omega,by omega⟩ ⟨by omega,by omega⟩) ed) ?_
 refine aq (aC (us:=(cR c++cR d)) ro q9 rfl rfl rfl) ?_
 refine aa<|aa<|bo<|bR 2<|a7 (fJ (r:=K%3) rfl rfl (by decide) (lk hK.1) rfl) ?_
 refine a7 (aZ (c:=true) (fe rfl) (by rw[hk];rfl)) ?_
 refine bj ?_
 refine cO rfl ?_
 refine aa ?_
 refine ah ?_
 refine ar (bW mU rfl) ?_
 refine ar (bW xu rfl) ?_
 refine ac rfl (cW (mO ⟨by omega,by omega⟩ ⟨by omega,by omega⟩) ec) ?_
 refine aa ?_
 refine aa ?_
 refine ah ?_
 refine ac rfl (ce) ?_
 refine aX rfl (fun hc1=>?_) (fun hc1=>?_)
 ·exact absurd (of_decide_eq_true hc1) (by unfold aR;rw[if_neg (by grind),if_pos hq];decide)
 ·refine aJ ?_
  refine aa ?_
  refine ah ?_
  refine ar (aC (us:=(cR a++cR b++cR c)) Yt Tp rfl rfl rfl) ?_
  refine ac rfl (Wu (k:=⟨a,b,c⟩) ⟨za,zb,zc.m_⟩)<|bb ?_
  exact ai (al ae)
theorem KZ (hK:0≤K∧K≤255) (hU:0≤U∧U≤255) (hA: -128≤A∧A≤127) (hB: -128≤B∧B≤127) (hC: -128≤C∧C≤127) (hD: -128≤D∧D≤127) (hE: -128≤E∧E≤127) (hF: -128≤F∧F≤127) {f:Rat}(ea:qD A (uD U)=a) (eb:qD B (uD U)=b) (ec:qD C (uD U)=c) (ed:qD D (uD U)=d) (ee:qD E (uD U)=e) (ef:qD F (uD U)=f) (za:Rz 1 a) (zb:Rz 1 b) (zc:Rz 1 c) (zd:Rz 1 d) (ze:Rz 1 e) (zf:Rz 1 f) (hk:K%3=1) (hk2:K%3≠2) (lS:S1.length=66) (hS:Ok Tryz.prog 45 [.a ((cR a++cR b)),.a ((cR c++cR d))] [.a S1,.c (.i .i64 s1)]) (hn:p9 a b c d e f≠0):Ok Tryz.prog 98 [.a (([.i .u8 K]++[.i .u8 U]++[.i .i8 A]++[.i .i8 B]++[.i .i8 C]++[.i .i8 D]++[.i .i8 E]++[.i .i8 F]))] [.c (.s (([I7 a b c d e f]).length) (aI ap ([I7 a b c d e f])))]:=by
 refine fD Tryz.func98 80 [.tmp 2] rfl ?_
 refine aa ?_
 refine ah ?_
 refine aa ?_
 refine di 12 [] ?_
 refine aq (bW mU rfl) ?_
 refine aq (bW xu rfl) ?_
 refine aO rfl (cW (mO ⟨by omega,by omega⟩ ⟨by omega,by omega⟩) ea) ?_
 refine aq (bW mU rfl) ?_
 refine aq (bW xu rfl) ?_
 refine aO rfl (cW (mO ⟨by omega,by omega⟩ ⟨by omega,by omega⟩) eb) ?_
 refine aq (aC (us:=(cR a++cR b)) ro q9 rfl rfl rfl) ?_
 refine aa ?_
 refine di 12 [] ?_
 refine aq (bW mU rfl) ?_
 refine aq (bW xu rfl) ?_
 refine aO rfl (cW (mO ⟨by omega,by omega⟩ ⟨by omega,by omega⟩) ec) ?_
 refine aq (bW mU rfl) ?_
 refine aq (bW xu rfl) ?_
 refine aO rfl (cW (mO ⟨by omega,by omega⟩ ⟨by omega,by omega⟩) ed) ?_
 refine aq (aC (us:=(cR c++cR d)) ro q9 rfl rfl rfl) ?_
 refine aa<|aa<|bo<|bR 2<|a7 (fJ (r:=K%3) rfl rfl (by decide) (lk hK.1) rfl) ?_
 refine a7 (aZ (c:=false) (fe rfl) (by simpa using hk2)) ?_
 refine bj ?_
 refine ba rfl ?_
 refine aJ ?_
 refine aa ?_
 refine ah ?_
 refine ac rfl (hS) ?_
 refine jF (bn aY rfl rfl rfl (lS) rfl rfl) ?_
 refine aa<|aa<|bo<|bR 2<|a7 (fJ (r:=K%3) rfl rfl (by decide) (lk hK.1) rfl) ?_
 refine a7 (aZ (c:=true) (fe rfl) (by rw[hk];rfl)) ?_
 refine bj ?_
 refine cO rfl ?_
 refine di 19 [6,999999] ?_
 refine aq (bW mU rfl) ?_
 refine aq (bW xu rfl) ?_
 refine aO rfl (cW (mO ⟨by omega,by omega⟩ ⟨by omega,by omega⟩) ee) ?_
 refine aq (bW mU rfl) ?_
 refine aq (bW xu rfl) ?_
 refine aO rfl (cW (mO ⟨by omega,by omega⟩ ⟨by omega,by omega⟩) ef) ?_
 refine aq (aC (us:=(cR e++cR f)) ro q9 rfl rfl rfl) ?_
 refine aO rfl (Oa za zb zc zd ze zf hn) ?_
 refine DQ.mk<|i4 (bn aY rfl rfl rfl rfl lS rfl) rfl rfl rfl rfl<|dY ?_
 refine aa ?_
 refine aa ?_
 refine ah ?_
 refine ba rfl ?_
 refine aJ ?_
 refine aa ?_
 refine ah ?_
 refine ar (gC aY rfl) ?_
 refine ar (cV (n:=1) (us:=([.b true]++dA++cg (X4 a b c d e f)++[.b (decide (aR ((c-a)*(f-b)) ((d-b)*(e-a))<0))]++aj (rP a b)++aj (rP e f))) ja rfl rfl rfl (by decide) (by decide) rfl) ?_
 refine bb ?_
 exact ai (al ae)
theorem Sm (hK:0≤K∧K≤255) (hU:0≤U∧U≤255) (hA: -128≤A∧A≤127) (hB: -128≤B∧B≤127) (hC: -128≤C∧C≤127) (hD: -128≤D∧D≤127) (_hE: -128≤E∧E≤127) (_hF: -128≤F∧F≤127) {f:Rat}(ea:qD A (uD U)=a) (eb:qD B (uD U)=b) (ec:qD C (uD U)=c) (ed:qD D (uD U)=d) (_ee:qD E (uD U)=e) (_ef:qD F (uD U)=f) (za:Rz 1 a) (zb:Rz 1 b) (zc:Rz 1 c) (zd:Rz 1 d) (_ze:Rz 1 e) (_zf:Rz 1 f) (hk1:K%3≠1) (hk2:K%3≠2) (hs: ¬(b-d=0∧c-a=0)):Ok Tryz.prog 98 [.a (([.i .u8 K]++[.i .u8 U]++[.i .i8 A]++[.i .i8 B]++[.i .i8 C]++[.i .i8 D]++[.i .i8 E]++[.i .i8 F]))] [.c (.s (([Ol a b c d]).length) (aI ap ([Ol a b c d])))]:=by
 refine fD Tryz.func98 80 [.tmp 2] rfl ?_
 refine aa ?_
 refine ah ?_
 refine aa ?_
 refine di 12 [] ?_
 refine aq (bW mU rfl) ?_
 refine aq (bW xu rfl) ?_
 refine aO rfl (cW (mO ⟨by omega,by omega⟩ ⟨by omega,by omega⟩) ea) ?_
 refine aq (bW mU rfl) ?_
 refine aq (bW xu rfl) ?_
 refine aO rfl (cW (mO ⟨by omega,by omega⟩ ⟨by omega,by omega⟩) eb) ?_
 refine aq (aC (us:=(cR a++cR b)) ro q9 rfl rfl rfl) ?_
 refine aa ?_
 refine di 12 [] ?_
 refine aq (bW mU rfl) ?_
 refine aq (bW xu rfl) ?_
 refine aO rfl (cW (mO ⟨by omega,by omega⟩ ⟨by omega,by omega⟩) ec) ?_
 refine aq (bW mU rfl) ?_
 refine aq (bW xu rfl) ?_
 refine aO rfl (cW (mO ⟨by omega,by omega⟩ ⟨by omega,by omega⟩) ed) ?_
 refine aq (aC (us:=(cR c++cR d)) ro q9 rfl rfl rfl) ?_
 refine aa<|aa<|bo<|bR 2<|a7 (fJ (r:=K%3) rfl rfl (by decide) (lk hK.1) rfl) ?_
 refine a7 (aZ (c:=false) (fe rfl) (by simpa using hk2)) ?_
 refine bj ?_
 refine ba rfl ?_
 refine aJ ?_
 refine aa ?_
 refine ah ?_
 refine ac rfl (Kh za zb zc zd hs) ?_
 refine jF (dZ aY rfl) ?_
 refine aa ?_
 refine aa ?_
 refine bo ?_
 refine bR 2 ?_
 refine a7 (fJ (r:=K%3) rfl rfl (by decide) (lk hK.1) rfl) ?_
 refine a7 (aZ (c:=false) (fe rfl) (by simpa using hk1)) ?_
 refine bj ?_
 refine ba rfl ?_
 refine aJ ?_
 refine aa ?_
 refine aa ?_
 refine ah ?_
 refine ba rfl ?_
 refine aJ ?_
 refine aa ?_
 refine ah ?_
 refine ar (gC aY rfl) ?_
 refine ar (cV (n:=1) (us:=([.b false]++fm (Sn a b c d)++dA++[.b false]++aj (rP a b)++aj (rP c d))) ja rfl rfl rfl (by decide) (by decide) rfl) ?_
 refine bb ?_
 exact ai (al ae)
theorem Ki (hK:0≤K∧K≤255) (hU:0≤U∧U≤255) (hA: -128≤A∧A≤127) (hB: -128≤B∧B≤127) (hC: -128≤C∧C≤127) (hD: -128≤D∧D≤127) (hE: -128≤E∧E≤127) (hF: -128≤F∧F≤127) {f:Rat}(ea:qD A (uD U)=a) (eb:qD B (uD U)=b) (ec:qD C (uD U)=c) (ed:qD D (uD U)=d) (ee:qD E (uD U)=e) (ef:qD F (uD U)=f) (za:Rz 1 a) (zb:Rz 1 b) (zc:Rz 1 c) (zd:Rz 1 d) (ze:Rz 1 e) (zf:Rz 1 f) (hk:K%3=1) (hk2:K%3≠2) (lS:S1.length=66) (hS:Ok Tryz.prog 45 [.a ((cR a++cR b)),.a ((cR c++cR d))] [.a S1,.c (.i .i64 s1)]) (hn:p9 a b c d e f=0):Ok Tryz.prog 98 [.a (([.i .u8 K]++[.i .u8 U]++[.i .i8 A]++[.i .i8 B]++[.i .i8 C]++[.i .i8 D]++[.i .i8 E]++[.i .i8 F]))] [.c (.s 0 [])]:=by
 refine fD Tryz.func98 80 [.tmp 2] rfl ?_
 refine aa ?_
 refine ah ?_
 refine aa ?_
 refine di 12 [] ?_
 refine aq (bW mU rfl) ?_
 refine aq (bW xu rfl) ?_
 refine aO rfl (cW (mO ⟨by omega,by omega⟩ ⟨by omega,by omega⟩) ea) ?_
 refine aq (bW mU rfl) ?_
 refine aq (bW xu rfl) ?_
 refine aO rfl (cW (mO ⟨by omega,by omega⟩ ⟨by omega,by omega⟩) eb) ?_
 refine aq (aC (us:=(cR a++cR b)) ro q9 rfl rfl rfl) ?_
 refine aa ?_
 refine di 12 [] ?_
 refine aq (bW mU rfl) ?_
 refine aq (bW xu rfl) ?_
 refine aO rfl (cW (mO ⟨by omega,by omega⟩ ⟨by omega,by omega⟩) ec) ?_
 refine aq (bW mU rfl) ?_
 refine aq (bW xu rfl) ?_
 refine aO rfl (cW (mO ⟨by omega,by omega⟩ ⟨by omega,by omega⟩) ed) ?_
 refine aq (aC (us:=(cR c++cR d)) ro q9 rfl rfl rfl) ?_
 refine aa<|aa<|bo<|bR 2<|a7 (fJ (r:=K%3) rfl rfl (by decide) (lk hK.1) rfl) ?_
 refine a7 (aZ (c:=false) (fe rfl) (by simpa using hk2)) ?_
 refine bj ?_
 refine ba rfl ?_
 refine aJ ?_
 refine aa ?_
 refine ah ?_
 refine ac rfl (hS) ?_
 refine jF (bn aY rfl rfl rfl (lS) rfl rfl) ?_
 refine aa<|aa<|bo<|bR 2<|a7 (fJ (r:=K%3) rfl rfl (by decide) (lk hK.1) rfl) ?_
 refine a7 (aZ (c:=true) (fe rfl) (by rw[hk];rfl)) ?_
 refine bj ?_
 refine cO rfl ?_
 refine di 19 [6,999999] ?_
 refine aq (bW mU rfl) ?_
 refine aq (bW xu rfl) ?_
 refine aO rfl (cW (mO ⟨by omega,by omega⟩ ⟨by omega,by omega⟩) ee) ?_
 refine aq (bW mU rfl) ?_
 refine aq (bW xu rfl) ?_
 refine aO rfl (cW (mO ⟨by omega,by omega⟩ ⟨by omega,by omega⟩) ef) ?_
 refine aq (aC (us:=(cR e++cR f)) ro q9 rfl rfl rfl) ?_
 refine aO rfl (Ti za zb zc zd ze zf hn) ?_
 refine DQ.mk<|i4 (bn aY rfl rfl rfl rfl lS rfl) rfl rfl rfl rfl<|dY ?_
 refine aa<|aa<|ah<|cO rfl<|aa<|ah<|bb ?_
 exact ai (al ae)
theorem UD (hK:0≤K∧K≤255) (hU:0≤U∧U≤255) (hA: -128≤A∧A≤127) (hB: -128≤B∧B≤127) (hC: -128≤C∧C≤127) (hD: -128≤D∧D≤127) (_hE: -128≤E∧E≤127) (_hF: -128≤F∧F≤127) {f:Rat}(ea:qD A (uD U)=a) (eb:qD B (uD U)=b) (ec:qD C (uD U)=c) (ed:qD D (uD U)=d) (_ee:qD E (uD U)=e) (_ef:qD F (uD U)=f) (za:Rz 1 a) (zb:Rz 1 b) (zc:Rz 1 c) (zd:Rz 1 d) (_ze:Rz 1 e) (_zf:Rz 1 f) (hk1:K%3≠1) (hk2:K%3≠2) (hs:b-d=0∧c-a=0):Ok Tryz.prog 98 [.a (([.i .u8 K]++[.i .u8 U]++[.i .i8 A]++[.i .i8 B]++[.i .i8 C]++[.i .i8 D]++[.i .i8 E]++[.i .i8 F]))] [.c (.s 0 [])]:=by
 refine fD Tryz.func98 80 [.tmp 2] rfl ?_
 refine aa ?_
 refine ah ?_
 refine aa ?_
 refine di 12 [] ?_
 refine aq (bW mU rfl) ?_
 refine aq (bW xu rfl) ?_
 refine aO rfl (cW (mO ⟨by omega,by omega⟩ ⟨by omega,by omega⟩) ea) ?_
 refine aq (bW mU rfl) ?_
 refine aq (bW xu rfl) ?_
 refine aO rfl (cW (mO ⟨by omega,by omega⟩ ⟨by omega,by omega⟩) eb) ?_
 refine aq (aC (us:=(cR a++cR b)) ro q9 rfl rfl rfl) ?_
 refine aa ?_
 refine di 12 [] ?_
 refine aq (bW mU rfl) ?_
 refine aq (bW xu rfl) ?_
 refine aO rfl (cW (mO ⟨by omega,by omega⟩ ⟨by omega,by omega⟩) ec) ?_
 refine aq (bW mU rfl) ?_
 refine aq (bW xu rfl) ?_
 refine aO rfl (cW (mO ⟨by omega,by omega⟩ ⟨by omega,by omega⟩) ed) ?_
 refine aq (aC (us:=(cR c++cR d)) ro q9 rfl rfl rfl) ?_
 refine aa<|aa<|bo<|bR 2<|a7 (fJ (r:=K%3) rfl rfl (by decide) (lk hK.1) rfl) ?_
 refine a7 (aZ (c:=false) (fe rfl) (by simpa using hk2)) ?_
 refine bj ?_
 refine ba rfl ?_
 refine aJ ?_
 refine aa ?_
 refine ah ?_
 refine ac rfl (EJ za zb zc zd hs) ?_
 refine jF (dZ aY rfl) ?_
 refine aa ?_
 refine aa ?_
 refine bo ?_
 refine bR 2 ?_
 refine a7 (fJ (r:=K%3) rfl rfl (by decide) (lk hK.1) rfl) ?_
 refine a7 (aZ (c:=false) (fe rfl) (by simpa using hk1)) ?_
 refine bj<|ba rfl<|aJ<|aa<|aa<|ah<|cO rfl<|aa<|ah<|bb ?_
 exact ai (al ae)
theorem YZ (hK:0≤K∧K≤255) (hU:0≤U∧U≤255) (hA: -128≤A∧A≤127) (hB: -128≤B∧B≤127) (hC: -128≤C∧C≤127) (hD: -128≤D∧D≤127) (hE: -128≤E∧E≤127) (hF: -128≤F∧F≤127):Ok Tryz.prog 98 [.a (([.i .u8 K]++[.i .u8 U]++[.i .i8 A]++[.i .i8 B]++[.i .i8 C]++[.i .i8 D]++[.i .i8 E]++[.i .i8 F]))] [.c (.s ((vG K U A B C D E F).length) (aI ap (vG K U A B C D E F)))]:=by
 have u:=Ho hU.1
 unfold vG
 by_cases hk:K%3=2
 ·rw[if_pos hk]
  by_cases hq:0<qD C (uD U)
  ·rw[if_pos hq];exact SF hK hU hA hB hC hD hE hF rfl rfl rfl rfl rfl rfl (ca hA u) (ca hB u) (ca hC u) (ca hD u) (ca hE u) (ca hF u) hk hq
  ·rw[if_neg hq];exact Td hK hU hA hB hC hD hE hF rfl rfl rfl rfl rfl rfl (ca hA u) (ca hB u) (ca hC u) (ca hD u) (ca hE u) (ca hF u) hk hq
 ·rw[if_neg hk]
  by_cases hk1:K%3=1
  ·rw[if_pos hk1]
   by_cases hn:p9 (qD A (uD U)) (qD B (uD U)) (qD C (uD U)) (qD D (uD U)) (qD E (uD U)) (qD F (uD U))=0
   ·rw[if_pos hn]
    by_cases hs:qD B (uD U)-qD D (uD U)=0∧qD C (uD U)-qD A (uD U)=0
    ·exact Ki hK hU hA hB hC hD hE hF rfl rfl rfl rfl rfl rfl (ca hA u) (ca hB u) (ca hC u) (ca hD u) (ca hE u) (ca hF u) hk1 hk rfl (EJ (ca hA u) (ca hB u) (ca hC u) (ca hD u) hs) hn
    ·exact Ki hK hU hA hB hC hD hE hF rfl rfl rfl rfl rfl rfl (ca hA u) (ca hB u) (ca hC u) (ca hD u) (ca hE u) (ca hF u) hk1 hk rfl (Kh (ca hA u) (ca hB u) (ca hC u) (ca hD u) hs) hn
   ·rw[if_neg hn]
    by_cases hs:qD B (uD U)-qD D (uD U)=0∧qD C (uD U)-qD A (uD U)=0
    ·exact KZ hK hU hA hB hC hD hE hF rfl rfl rfl rfl rfl rfl (ca hA u) (ca hB u) (ca hC u) (ca hD u) (ca hE u) (ca hF u) hk1 hk rfl (EJ (ca hA u) (ca hB u) (ca hC u) (ca hD u) hs) hn
    ·exact KZ hK hU hA hB hC hD hE hF rfl rfl rfl rfl rfl rfl (ca hA u) (ca hB u) (ca hC u) (ca hD u) (ca hE u) (ca hF u) hk1 hk rfl (Kh (ca hA u) (ca hB u) (ca hC u) (ca hD u) hs) hn
  ·rw[if_neg hk1]
   by_cases hs:qD B (uD U)-qD D (uD U)=0∧qD C (uD U)-qD A (uD U)=0
   ·rw[if_pos hs];exact UD hK hU hA hB hC hD hE hF rfl rfl rfl rfl rfl rfl (ca hA u) (ca hB u) (ca hC u) (ca hD u) (ca hE u) (ca hF u) hk1 hk hs
   ·rw[if_neg hs];exact Sm hK hU hA hB hC hD hE hF rfl rfl rfl rfl rfl rfl (ca hA u) (ca hB u) (ca hC u) (ca hD u) (ca hE u) (ca hF u) hk1 hk hs
theorem OQ (hk:GK k) (hp:GP p):Ok Tryz.prog 308 [.a (cg k),.a (aj p)] [.c (.i .i64 (zJ k p))]:=by
 refine bU Tryz.func308 rfl ?_
 refine cU 6 [] ?_
 refine aO rfl (rd) ?_
 refine aO rfl (xRY hp (hk.y.m_))<|cU 14 [] ?_
 refine xi (bp rfl) (fun c1 hb1=>?_)
 cases c1
 ·refine xi (bp rfl) (fun c2 hb2=>?_)
  cases c2
  ·refine mi rfl<|ai ?_
   rw[WI hb1 hb2]
   exact al ae
  ·refine aO rfl (mq) ?_
   refine aO rfl (xRX hp (hk.x.m_)) ?_
   refine dr rfl (fun hc3=>?_) (fun hc3=>?_)
   ·refine ai ?_
    rw[abq hb1 hb2 hc3]
    exact al ae
   ·refine ai ?_
    rw[Zx hb1 hb2 hc3]
    exact al ae
 ·refine DQ.mk<|sP (pk rfl)<|dY ?_
  refine oC rfl<|ai ?_
  rw[ZJ hb1]
  exact al ae
theorem Gt (hk:GK k) (hp:GP p) (hq:GP q):Ok Tryz.prog 304 [.a (cg k),.a (aj p),.a (aj q)] [.c (.i .i64 (pF k p q))]:=by
 have b1:=N4 k p
 have b2:=N4 k q
 have b3:=gS p q
 refine bU Tryz.func304 rfl ?_
 refine cU 8 [] ?_
 refine aO rfl (OQ hk hp) ?_
 refine aO rfl (OQ hk hq) ?_
 refine dr rfl (fun hc1=>?_) (fun hc1=>?_)
 ·refine ar (cr ((zJ k p)-(zJ k q)) (bT (by omega) (by omega)) rfl)<|ai ?_
  rw[Yv (k:=k) (p:=p) (q:=q) (by simpa using hc1)]
  exact al ae
 ·refine cU 6 [] ?_
  refine aO rfl (mq) ?_
  refine aO rfl (mq) ?_
  refine aO rfl (xCX hp hq) ?_
  refine dr rfl (fun hc2=>?_) (fun hc2=>?_)
  ·refine ar (fG (r:= -cx p q) rfl (yR b3) rfl) ?_
   refine ai ?_
   rw[Ut (k:=k) (p:=p) (q:=q) (by simpa using hc1) hc2]
   exact al ae
  ·refine ai ?_
   rw[SH (k:=k) (p:=p) (q:=q) (by simpa using hc1) hc2]
   exact al ae
theorem KL (hk:GK k) (hf:GP f) (hp:GP p):Ok Tryz.prog 302 [.a (cg k),.a (aj f),.a (aj p)] [.c (.i .i64 (rx k f p))]:=by
 refine bU Tryz.func302 rfl ?_
 refine ac rfl (Gt hk hp hf) ?_
 refine dr rfl (fun hc1=>?_) (fun hc1=>?_)
 ·refine ai ?_
  rw[Ye hc1]
  exact al ae
 ·refine dr rfl (fun hc2=>?_) (fun hc2=>?_)
  ·refine ai ?_
   rw[Yn hc1 hc2]
   exact al ae
  ·refine ai ?_
   rw[Yi hc1 hc2]
   exact al ae
theorem QR:Ok Tryz.prog 303 [.c (.i .i64 n)] [.c (.i .i64 (Xr n))]:=by
 refine bU Tryz.func303 rfl<|ar (FI rfl rfl rfl) ?_
 refine ar (LE rfl rfl rfl) ?_
 refine ai ?_
 rw[show Xr n=min 1 (max (-1) n) from rfl]
 exact al ae
theorem Eu (hk:GK k) (hf:GP f) (hp:GP p) (hq:GP q):Ok Tryz.prog 291 [.a (cg k),.a (aj f),.a (aj p),.a (aj q)] [.c (.i .i64 (Cn k f p q))]:=by
 have b1:=Qw k f p
 have b2:=Qw k f q
 refine bU Tryz.func291 rfl ?_
 refine cU 10 [] ?_
 refine aO rfl (KL hk hf hp) ?_
 refine aO rfl (KL hk hf hq) ?_
 refine dr rfl (fun hc1=>?_) (fun hc1=>?_)
 ·refine ar (cr ((rx k f p)-(rx k f q)) (bT (by omega) (by omega)) rfl)<|ac rfl (QR) ?_
  refine ai ?_
  rw[Y0 (k:=k) (f:=f) (p:=p) (q:=q) (by simpa using hc1)]
  exact al ae
 ·refine ac rfl (Gt hk hp hq)<|ac rfl (QR) ?_
  refine ai ?_
  rw[Ze (k:=k) (f:=f) (p:=p) (q:=q) (by simpa using hc1)]
  exact al ae
theorem Qx (_hk:GK k) (_hf:GP f) (_ht:GP t):Ok Tryz.prog 104 [.a (([.b true]++dA++cg k++[.b w]++aj f++aj t))] [.a (([.b true]++dA++cg k++[.b (!w)]++aj t++aj f))]:=by
 refine bU Tryz.func104 rfl ?_
 refine ar (dx (aj t) bv rfl (by kernel_rfl)) ?_
 refine ar (dx (aj f) bv rfl (by kernel_rfl)) ?_
 refine jF (bm (us:=([.b true]++dA++cg k++[.b w]++aj t++aj t)) bv rfl rfl rfl rfl (dV (by kernel_rfl)) (by kernel_rfl) rfl) ?_
 refine jF (bm (us:=([.b true]++dA++cg k++[.b w]++aj t++aj f)) bv rfl rfl rfl rfl (dV (by kernel_rfl)) (by kernel_rfl) rfl) ?_
 refine ar (bW jb rfl) ?_
 refine ar (bp rfl) ?_
 refine ar (bW jb rfl) ?_
 refine jF (bm (us:=([.b true]++dA++cg k++[.b (!w)]++aj t++aj f)) jb rfl rfl rfl rfl (dV (by kernel_rfl)) (by kernel_rfl) rfl) ?_
 refine ar (gC aY rfl) ?_
 refine jF (dZ aY rfl) ?_
 exact ai (gE (us:=([.b true]++dA++cg k++[.b (!w)]++aj t++aj f)) aY rfl rfl (by kernel_rfl) (by kernel_rfl) ae)
theorem Wt (_hl:GL l) (_hf:GP f) (_ht:GP t):Ok Tryz.prog 104 [.a (([.b false]++fm l++dA++[.b false]++aj f++aj t))] [.a (([.b false]++fm l++dA++[.b false]++aj t++aj f))]:=by
 refine bU Tryz.func104 rfl ?_
 refine ar (dx (aj t) bv rfl (by kernel_rfl)) ?_
 refine ar (dx (aj f) bv rfl (by kernel_rfl)) ?_
 refine jF (bm (us:=([.b false]++fm l++dA++[.b false]++aj t++aj t)) bv rfl rfl rfl rfl (dV (by kernel_rfl)) (by kernel_rfl) rfl) ?_
 refine jF (bm (us:=([.b false]++fm l++dA++[.b false]++aj t++aj f)) bv rfl rfl rfl rfl (dV (by kernel_rfl)) (by kernel_rfl) rfl) ?_
 refine ar (bW jb rfl) ?_
 refine ar (bp rfl) ?_
 refine jF (bm (us:=([.b false]++fm l++dA++[.b false]++aj t++aj f)) jb rfl rfl rfl rfl (dV (by kernel_rfl)) (by kernel_rfl) rfl) ?_
 refine ar (gC aY rfl) ?_
 refine jF (dZ aY rfl) ?_
 exact ai (gE (us:=([.b false]++fm l++dA++[.b false]++aj t++aj f)) aY rfl rfl (by kernel_rfl) (by kernel_rfl) ae)
theorem SM (hk:GK k) (hf:GP f) (ht:GP t):Ok Tryz.prog 290 [.a (([.b true]++dA++cg k++[.b true]++aj f++aj t))] [.a (([.b true]++dA++cg k++[.b false]++aj t++aj f))]:=by
 refine bU Tryz.func290 rfl ?_
 refine ar (bW jb rfl) ?_
 refine oC rfl ?_
 refine ar (gC aY rfl) ?_
 refine ac rfl (Qx (w:=true) hk hf ht) ?_
 refine jF (dZ aY rfl) ?_
 exact ai (gE (us:=([.b true]++dA++cg k++[.b false]++aj t++aj f)) aY rfl rfl (by kernel_rfl) (by kernel_rfl) ae)
theorem TG (_hk:GK k) (_hf:GP f) (_ht:GP t):Ok Tryz.prog 290 [.a (([.b true]++dA++cg k++[.b false]++aj f++aj t))] [.a (([.b true]++dA++cg k++[.b false]++aj f++aj t))]:=by
 refine bU Tryz.func290 rfl ?_
 refine ar (bW jb rfl) ?_
 refine mi rfl ?_
 refine ar (gC aY rfl) ?_
 refine jF (dZ aY rfl) ?_
 exact ai (gE (us:=([.b true]++dA++cg k++[.b false]++aj f++aj t)) aY rfl rfl (by kernel_rfl) (by kernel_rfl) ae)
theorem W7 (hk:GK k) (_hf:GP f) (_ht:GP t) (hp:GP p):Ok Tryz.prog 246 [.a (([.b true]++dA++cg k++[.b w]++aj f++aj t)),.a (aj p)] [.c (.b ((Cv.arc k w f t).supp p))]:=by
 refine bU Tryz.func246 rfl ?_
 refine ar (bW jb rfl) ?_
 refine oC rfl ?_
 refine ar (dx (cg k) rg rfl (by kernel_rfl)) ?_
 refine ac rfl (Q1 hk hp) ?_
 exact ai (al ae)
theorem Jv (hk:GK k) (h0:0<k.q) (of:OnK k f) (ot:OnK k t) (op:OnK k p):Ok Tryz.prog 247 [.a (([.b true]++dA++cg k++[.b true]++aj f++aj t)),.a (aj p)] [.c (.b (decide ((Cv.arc k true f t).ord f p≤0)&&decide ((Cv.arc k true f t).ord p t≤0)))]:=by
 have hf:=of.1
 have ht:=ot.1
 have hp:=op.1
 have e1:(decide ((Cv.arc k true f t).ord f p≤0)&&decide ((Cv.arc k true f t).ord p t≤0))=decide (Cn k t p f≤0):=HS h0 of ot op
 refine bU Tryz.func247 rfl ?_
 refine ar (bW jb rfl) ?_
 refine mi rfl ?_
 refine ar (gC aY rfl) ?_
 refine ac rfl (SM hk hf ht) ?_
 refine jF (dZ aY rfl) ?_
 refine ar (dx (cg k) rg rfl (by kernel_rfl)) ?_
 refine ar (dx (aj t) bv rfl (by kernel_rfl)) ?_
 refine ar (dx (aj f) bv rfl (by kernel_rfl)) ?_
 refine ac rfl (Eu hk ht hp hf) ?_
 refine ai ?_
 rw[e1]
 exact al ae
theorem G2 (hk:GK k) (_h0:0<k.q) (of:OnK k f) (ot:OnK k t) (op:OnK k p):Ok Tryz.prog 247 [.a (([.b true]++dA++cg k++[.b false]++aj f++aj t)),.a (aj p)] [.c (.b (decide ((Cv.arc k false f t).ord f p≤0)&&decide ((Cv.arc k false f t).ord p t≤0)))]:=by
 have hf:=of.1
 have ht:=ot.1
 have hp:=op.1
 have e1:(decide ((Cv.arc k false f t).ord f p≤0)&&decide ((Cv.arc k false f t).ord p t≤0))=decide (Cn k f p t≤0):=BK hf ht hp
 refine bU Tryz.func247 rfl ?_
 refine ar (bW jb rfl) ?_
 refine mi rfl ?_
 refine ar (gC aY rfl) ?_
 refine ac rfl (TG hk hf ht) ?_
 refine jF (dZ aY rfl) ?_
 refine ar (dx (cg k) rg rfl (by kernel_rfl)) ?_
 refine ar (dx (aj f) bv rfl (by kernel_rfl)) ?_
 refine ar (dx (aj t) bv rfl (by kernel_rfl)) ?_
 refine ac rfl (Eu hk hf hp ht) ?_
 refine ai ?_
 rw[e1]
 exact al ae
theorem YX (hk:GK k) (h0:0<k.q) (of:OnK k f) (ot:OnK k t) (op:OnK k p):Ok Tryz.prog 247 [.a (([.b true]++dA++cg k++[.b w]++aj f++aj t)),.a (aj p)] [.c (.b (decide ((Cv.arc k w f t).ord f p≤0)&&decide ((Cv.arc k w f t).ord p t≤0)))]:=by
 cases w with
 |true=>exact Jv hk h0 of ot op
 |false=>exact G2 hk h0 of ot op
theorem V7 (hk:GK k) (h0:0<k.q) (of:OnK k f) (ot:OnK k t) (hp:GP p):Ok Tryz.prog 181 [.a (([.b true]++dA++cg k++[.b w]++aj f++aj t)),.a (aj p)] [.c (.b ((Cv.arc k w f t).on p))]:=by
 have hf:=of.1
 have ht:=ot.1
 refine bU Tryz.func181 rfl ?_
 refine ar (gC aY rfl) ?_
 refine ac rfl (W7 hk hf ht hp) ?_
 refine kT (bp rfl) (fun c1 hb1=>?_)
 cases c1
 ·refine ai ?_
  rw[Xg (c:=(Cv.arc k w f t)) (p:=p) hb1]
  exact al ae
 ·have op:OnK k p:=⟨hp,bD.1 hb1⟩
  refine ar (gC aY rfl) ?_
  refine ac rfl (YX hk h0 of ot op) ?_
  refine ai ?_
  rw[CH (c:=(Cv.arc k w f t)) (p:=p) hb1]
  exact al ae
theorem OS (hk:GK k) (h0:0<k.q) (of:OnK k f) (ot:OnK k t) (hp:GP p):Ok Tryz.prog 102 [.a (([.b true]++dA++cg k++[.b w]++aj f++aj t)),.a (aj p)] [.c (.b ((Cv.arc k w f t).inner p))]:=by
 have hf:=of.1
 have ht:=ot.1
 refine bU Tryz.func102 rfl ?_
 refine ar (gC aY rfl) ?_
 refine ac rfl (V7 hk h0 of ot hp) ?_
 refine kT (bp rfl) (fun c1 hb1=>?_)
 cases c1
 ·refine ar (bp rfl)<|ai ?_
  rw[UT (c:=(Cv.arc k w f t)) (p:=p) hb1]
  exact al ae
 ·refine ar (dx (aj f) bv rfl (by kernel_rfl)) ?_
  refine ac rfl (ym hf hp) ?_
  refine kT (bp rfl) (fun c2 hb2=>?_)
  cases c2
  ·refine ai ?_
   rw[Ov (c:=(Cv.arc k w f t)) (p:=p) hb1 hb2]
   exact al ae
  ·refine ar (dx (aj t) bv rfl (by kernel_rfl)) ?_
   refine ac rfl (ym ht hp) ?_
   refine ai ?_
   rw[NR (c:=(Cv.arc k w f t)) (p:=p) hb1 hb2]
   exact al ae
theorem E6 (hk:GK k) (hf:GP f) (ht:GP t) (hp:GP p):Ok Tryz.prog 108 [.a (([.b true]++dA++cg k++[.b w]++aj f++aj t)),.a (aj p)] [.c (.b ((Cv.arc k w f t).inner p))]:=by
 refine bU Tryz.func108 rfl ?_
 refine ar (gC aY rfl) ?_
 refine ac rfl (V5 hk hf ht hp) ?_
 refine kT (bp rfl) (fun c1 hb1=>?_)
 cases c1
 ·refine ar (bp rfl)<|ai ?_
  rw[UT (c:=(Cv.arc k w f t)) (p:=p) hb1]
  exact al ae
 ·refine ar (dx (aj f) bv rfl (by kernel_rfl)) ?_
  refine ac rfl (LM hf hp) ?_
  refine kT (bp rfl) (fun c2 hb2=>?_)
  cases c2
  ·refine ai ?_
   rw[Ov (c:=(Cv.arc k w f t)) (p:=p) hb1 hb2]
   exact al ae
  ·refine ar (dx (aj t) bv rfl (by kernel_rfl)) ?_
   refine ac rfl (LM ht hp) ?_
   refine ai ?_
   rw[NR (c:=(Cv.arc k w f t)) (p:=p) hb1 hb2]
   exact al ae
theorem A6 (_hl:GL l) (hf:GP f) (ht:GP t):Ok Tryz.prog 31 [.a (([.b false]++fm l++dA++[.b false]++aj f++aj t))] [.c (.b ((Cv.seg l f t).vert))]:=by
 refine bU Tryz.func31 rfl ?_
 refine cU 13 [] ?_
 refine aq (bW jb rfl) ?_
 refine aq (bp rfl) ?_
 refine aq (dx (aj f) bv rfl (by kernel_rfl)) ?_
 refine aO rfl (mq) ?_
 refine aq (dx (aj t) bv rfl (by kernel_rfl))<|aO rfl (mq) ?_
 refine aO rfl (xEX hf ht) ?_
 exact ai (al ae)
theorem yq (_hk:GK k) (_hf:GP f) (_ht:GP t):Ok Tryz.prog 31 [.a (([.b true]++dA++cg k++[.b w]++aj f++aj t))] [.c (.b ((Cv.arc k w f t).vert))]:=by
 refine bU Tryz.func31 rfl ?_
 refine cU 13 [] ?_
 refine aq (bW jb rfl) ?_
 refine aq (bp rfl) ?_
 exact ai (al ae)
theorem yEX (hp:GP p) (hq:GP q):Ok Tryz.prog 19 [.a ((cR p.a1++cR p.b1++cR (zc p.b1 p.c))),.a ((cR q.a1++cR q.b1++cR (zc q.b1 q.c)))] [.c (.b (cx p q==0))]:=by
 refine bU Tryz.func19 rfl ?_
 refine ac rfl (YU hp hq) ?_
 exact ai (al ae)
theorem Lw (_hl:GL l) (hf:GP f) (ht:GP t):Ok Tryz.prog 59 [.a (([.b false]++fm l++dA++[.b false]++aj f++aj t))] [.c (.b ((Cv.seg l f t).vert))]:=by
 refine bU Tryz.func59 rfl ?_
 refine cU 13 [] ?_
 refine aq (bW jb rfl) ?_
 refine aq (bp rfl) ?_
 refine aq (dx (aj f) bv rfl (by kernel_rfl)) ?_
 refine aO rfl (jt) ?_
 refine aq (dx (aj t) bv rfl (by kernel_rfl))<|aO rfl (jt) ?_
 refine aO rfl (yEX hf ht) ?_
 exact ai (al ae)
theorem KK (_hk:GK k) (_hf:GP f) (_ht:GP t):Ok Tryz.prog 59 [.a (([.b true]++dA++cg k++[.b w]++aj f++aj t))] [.c (.b ((Cv.arc k w f t).vert))]:=by
 refine bU Tryz.func59 rfl ?_
 refine cU 13 [] ?_
 refine aq (bW jb rfl) ?_
 refine aq (bp rfl) ?_
 exact ai (al ae)
theorem Pm {c:Cv}(hc:CvV c):Ok Tryz.prog 31 [.a (ap c)] [.c (.b c.vert)]:=by
 cases c with
 |seg l f t=>exact A6 hc.g.1 hc.g.2.1 hc.g.2.2
 |arc k w f t=>exact yq hc.g.1 hc.g.2.1 hc.g.2.2
theorem Ez {c:Cv}(hc:CvV c):Ok Tryz.prog 38 [.a (ap c)] [.a (ap c.rev)]:=by
 cases c with
 |seg l f t=>exact RS hc.g.1 hc.g.2.1 hc.g.2.2
 |arc k w f t=>exact PW hc.g.1 hc.g.2.1 hc.g.2.2
end Go.Proofs.YtkmdgigkbhmilaaGreat
