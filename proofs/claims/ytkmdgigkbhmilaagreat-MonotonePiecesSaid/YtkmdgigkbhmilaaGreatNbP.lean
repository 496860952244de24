/-The pieces of a curve:the reference. -/
import Derived.Test.YtkmdgigkbhmilaaGreatNbO
namespace Go.Proofs.YtkmdgigkbhmilaaGreat
open Go Go.RowKit
theorem mr {c:Cv}(hc:c.good) {L:List Pt}(hL: ∀p∈L,GP p) (lL:L.length≤90) (hon: ∀p∈L,(c).on p=true) (h2S:2≤(cr c ([c.p,c.q]++L)).length):Ok Tryz.prog 51 [.a (aB c),.c (.s ((L).length) (aI au (L)))] [.c (.s ((eE c L).length) (aI aB (eE c L))),.c (.i .i64 0)]:=by
 have gp_:=cn hc
 have gq_:=cH hc
 have hL2: ∀p∈ [c.p,c.q]++L,GP p:=fun p hp=>by
  rcases List.mem_append.1 hp with h|h
  ·simp only[List.mem_cons,List.not_mem_nil,or_false] at h
   rcases h with h|h<;>subst h<;>assumption
  ·exact hL p h
 have lS:(cr c ([c.p,c.q]++L)).length≤92:=by
  have:=nC (c:=c) (l:=[c.p,c.q]++L)
  rw[List.length_append] at this
  exact Nat.le_trans this (by show 2+L.length≤92;omega)
 refine Ok.fn Tryz.func51 56 [.tmp 4,.tmp 5] rfl<|aa<|ab<|ag<|aa<|aa<|ab<|ag<|aJ<|bD (ι:={n:Nat // n≤L.length}) (fun i=>⟨56,[(1,.v (.c (.s ((L).length) (aI au (L))))),(2,.p 2 0),(6,.v (.c (.i .i64 (i.1:Int))))],[(2,48,aB c)]⟩) (fun i=>L.length-i.1) ⟨0,Nat.zero_le _⟩ (aM ⟨rfl,rfl,rfl,trivial⟩ ⟨rfl,trivial⟩ rfl) ?_
 rintro⟨n,h2⟩
 replace h2:n≤L.length:=h2
 show Dw _ _ ⟨56,[(1,.v (.c (.s ((L).length) (aI au (L))))),(2,.p 2 0),(6,.v (.c (.i .i64 (n:Int))))],[(2,48,aB c)]⟩ _
 refine aa<|aa<|ab<|ag ?_
 refine aw rfl (fun hc1=>?_) (fun hc1=>?_)
 ·have g1:n<L.length:=by have:=of_decide_eq_true hc1;omega
  refine ao<|aa<|aJ<|aa<|aR 7 rfl rfl<|aj (aA (us:=aB c) bd rfl rfl (bv _) (ak _) rfl) ?_
  refine ap 2<|aj (aW (us:=au (L.getD n dPt)++aI au (L.drop (n+1))) ek rfl rfl (by omega) (aG aO _) (bz aO (bi g1)) rfl) ?_
  refine aj (bb (us:=au (L.getD n dPt)) bo rfl rfl rfl rfl) ?_
  refine aj (am rfl (gQ (wv hc (GP.getD hL n)) (hon _ (b8 g1))))<|bk<|az<|ar<|aP rfl<|ao<|ab<|al 1<|ah (aK (r:=((n+1:Nat):Int)) rfl rfl ((aQ (by omega) (by omega)).trans (congrArg some (by omega))) rfl) ?_
  refine ag ?_
  exact⟨⟨n+1,g1⟩,aM ⟨rfl,rfl,rfl,trivial⟩ ⟨rfl,trivial⟩ rfl,by show L.length-(n+1)<L.length-n;omega⟩
 ·refine bj<|aa<|aR 10 rfl rfl<|aj (aA (us:=aB c) bd rfl rfl (bv _) (ak _) rfl) ?_
  refine ap 1<|aj (aA (us:=au c.p) bo rfl rfl (dW _) rfl rfl) ?_
  refine ap 1<|aj (aA (us:=au c.q) bo rfl rfl (dY _) rfl rfl) ?_
  refine aj (jB (us:=au c.p++au c.q) ft rfl rfl rfl (by decide) (by decide) rfl) ?_
  refine ap 1<|aj (oX (n':=([c.p,c.q]++L).length) (us':=aI au ([c.p,c.q]++L)) (zk ft rfl rfl rfl (aG aO _) (by decide) (by decide) (by omega) (gP (by omega)) rfl) (by rw[List.length_append];rfl) (by rw[fA];rfl)) ?_
  refine aj (am rfl (F6 hc hL2 (by rw[List.length_append];show 2+L.length≤100;omega)))<|bk<|az<|ar<|aa<|ab<|ah (fF rfl) ?_
  refine ar<|aa<|aa<|ab<|ag<|aJ ?_
  refine n6 (ι:={x9:Nat×Nat×List CellD // x9.1+2≤(cr c ([c.p,c.q]++L)).length∧x9.1+1≤x9.2.1∧x9.2.1≤maxLen∧x9.2.2.length=(x9.2.1-(x9.1+1))*66}) (fun i=>⟨56,[(2,.p 2 0),(7,.v (.c (.s (((cr c ([c.p,c.q]++L))).length) (aI au ((cr c ([c.p,c.q]++L))))))),(8,.o 54 (i.1.1+1) i.1.2.1),(9,.v (.c (.i .i64 (((i.1.1+2:Nat):Int)))))],[(2,48,aB c),(54,48,aI aB (gT c ((cr c ([c.p,c.q]++L)).take (i.1.1+2)))++i.1.2.2)]⟩) (fun i=>(cr c ([c.p,c.q]++L)).length-i.1.1) ((cr c ([c.p,c.q]++L)).length+1) ?_ ?_
  ·refine aa<|aa<|ab<|al 3<|ah (bQ (c:=true) (iP rfl) (decide_eq_true (by omega))) ?_
   refine ar<|bg rfl<|ao<|aa<|aJ<|aa<|ab<|ah (aA (us:=aB c) bd rfl rfl (bv _) (ak _) rfl) ?_
   refine aC (ai eo rfl) rfl<|bL (aZ bd rfl rfl rfl (ak _) rfl rfl) ?_
   refine ar<|aa<|bZ 11 [10,999999] aU (by kernel_rfl) rfl rfl<|ap 2<|aj (aK (r:=0) rfl rfl rfl rfl) ?_
   refine aj (aW (us:=au ((cr c ([c.p,c.q]++L)).getD 0 dPt)++aI au ((cr c ([c.p,c.q]++L)).drop (0+1))) ek rfl rfl (by omega) (aG aO _) (bz aO (bi (by omega))) rfl) ?_
   refine aj (bb (us:=au ((((cr c ([c.p,c.q]++L)).getD 0 dPt)))) bo rfl rfl rfl rfl) ?_
   refine ap 2<|aj (aW (us:=au ((cr c ([c.p,c.q]++L)).getD 1 dPt)++aI au ((cr c ([c.p,c.q]++L)).drop (1+1))) ek rfl rfl (by omega) (aG aO _) (bz aO (bi (by omega))) rfl) ?_
   refine aj (bb (us:=au ((((cr c ([c.p,c.q]++L)).getD 1 dPt)))) bo rfl rfl rfl rfl) ?_
   refine ap 1<|gw (bm (us:=aB (c.setp ((((cr c ([c.p,c.q]++L)).getD 0 dPt))))) bo rfl rfl rfl rfl (by rw[ak];decide) (qj _ _) rfl) rfl rfl rfl rfl ?_
   refine aY<|bl<|al 1<|bL (bm (us:=aB (c.ends ((((cr c ([c.p,c.q]++L)).getD 0 dPt))) ((((cr c ([c.p,c.q]++L)).getD 1 dPt))))) bo rfl rfl rfl rfl (by rw[ak];decide) (x5 _ _ _) rfl) ?_
   refine ar<|ab<|al 1<|ah (aA (us:=aB (c.ends ((((cr c ([c.p,c.q]++L)).getD 0 dPt))) ((((cr c ([c.p,c.q]++L)).getD 1 dPt))))) bd rfl rfl (bv _) (ak _) rfl) ?_
   refine ah (cC (n:=1) (us:=aB (c.ends ((((cr c ([c.p,c.q]++L)).getD 0 dPt))) ((((cr c ([c.p,c.q]++L)).getD 1 dPt))))) gA rfl (o7 rfl (ak _)) (dE (ak _)) (by decide) (by decide) rfl) ?_
   refine mm (ys:=aB (c.ends ((((cr c ([c.p,c.q]++L)).getD 0 dPt))) ((((cr c ([c.p,c.q]++L)).getD 1 dPt))))) gA rfl rfl (dE (ak _)) (by decide) (by decide) (by decide) rfl rfl (fun cg2 rg2 hga2 hgb2 hgc2=>?_)
   refine ag<|ab<|al 1<|ah (aK (r:=2) rfl rfl rfl rfl) ?_
   refine ag ?_
   exact⟨⟨⟨0,cg2,rg2⟩,by omega,by omega,hgb2,hgc2⟩,aM ⟨rfl,rfl,rfl,rfl,trivial⟩ ⟨rfl,by rw[tp (i:=0) _ (by omega),Gy,List.nil_append,iH];rfl,trivial⟩ rfl,by show(cr c ([c.p,c.q]++L)).length-0<(cr c ([c.p,c.q]++L)).length+1;omega⟩
  ·rintro⟨⟨n,cp,rs⟩,h3,h4,h5,h6⟩
   dsimp only at h3 h4 h5 h6
   show Dw _ _ ⟨56,[(2,.p 2 0),(7,.v (.c (.s (((cr c ([c.p,c.q]++L))).length) (aI au ((cr c ([c.p,c.q]++L))))))),(8,.o 54 (n+1) cp),(9,.v (.c (.i .i64 (((n+2:Nat):Int)))))],[(2,48,aB c),(54,48,aI aB (gT c ((cr c ([c.p,c.q]++L)).take (n+2)))++rs)]⟩ _
   refine aa<|aa<|ab<|ag ?_
   refine aw rfl (fun hc3=>?_) (fun hc3=>?_)
   ·have g2:n+2<(cr c ([c.p,c.q]++L)).length:=by have:=of_decide_eq_true hc3;omega
    refine ao<|aa<|aJ<|aa<|ab<|ah (aA (us:=aB c) bd rfl rfl (bv _) (ak _) rfl) ?_
    refine aC (ai eo rfl) rfl<|bL (aZ bd rfl rfl rfl (ak _) rfl rfl) ?_
    refine ar<|aa<|bZ 11 [10,999999] aU (by kernel_rfl) rfl rfl<|ap 2<|aj (aK (r:=((n+1:Nat):Int)) rfl rfl ((bV (by omega) (by omega)).trans (congrArg some (by omega))) rfl) ?_
    refine aj (aW (us:=au ((cr c ([c.p,c.q]++L)).getD (n+1) dPt)++aI au ((cr c ([c.p,c.q]++L)).drop ((n+1)+1))) ek rfl rfl (by omega) (aG aO _) (bz aO (bi (by omega))) rfl) ?_
    refine aj (bb (us:=au ((((cr c ([c.p,c.q]++L)).getD (n+1) dPt)))) bo rfl rfl rfl rfl) ?_
    refine ap 2<|aj (aW (us:=au ((cr c ([c.p,c.q]++L)).getD (n+2) dPt)++aI au ((cr c ([c.p,c.q]++L)).drop ((n+2)+1))) ek rfl rfl (by omega) (aG aO _) (bz aO (bi (by omega))) rfl) ?_
    refine aj (bb (us:=au ((((cr c ([c.p,c.q]++L)).getD (n+2) dPt)))) bo rfl rfl rfl rfl) ?_
    refine ap 1<|gw (bm (us:=aB (c.setp ((((cr c ([c.p,c.q]++L)).getD (n+1) dPt))))) bo rfl rfl rfl rfl (by rw[ak];decide) (qj _ _) rfl) rfl rfl rfl rfl ?_
    refine aY<|bl<|al 1<|bL (bm (us:=aB (c.ends ((((cr c ([c.p,c.q]++L)).getD (n+1) dPt))) ((((cr c ([c.p,c.q]++L)).getD (n+2) dPt))))) bo rfl rfl rfl rfl (by rw[ak];decide) (x5 _ _ _) rfl) ?_
    refine ar<|ab<|al 1<|ah (aA (us:=aB (c.ends ((((cr c ([c.p,c.q]++L)).getD (n+1) dPt))) ((((cr c ([c.p,c.q]++L)).getD (n+2) dPt))))) bd rfl rfl (bv _) (ak _) rfl) ?_
    refine ah (cC (n:=1) (us:=aB (c.ends ((((cr c ([c.p,c.q]++L)).getD (n+1) dPt))) ((((cr c ([c.p,c.q]++L)).getD (n+2) dPt))))) gA rfl (o7 rfl (ak _)) (dE (ak _)) (by decide) (by decide) rfl) ?_
    refine mQ (us:=aI aB (gT c ((cr c ([c.p,c.q]++L)).take (n+2)))) (rest:=rs) (ys:=aB (c.ends ((((cr c ([c.p,c.q]++L)).getD (n+1) dPt))) ((((cr c ([c.p,c.q]++L)).getD (n+2) dPt))))) gA rfl rfl rfl (by rw[aG ak,fZ,List.length_take,Nat.min_eq_left (by omega)];rfl) (by assumption) (dE (ak _)) (by decide) (by omega) (by assumption) (by omega) (gP (by omega)) (.inl rfl) rfl (fun cg4 rg4 hga4 hgb4 hgc4=>?_)
    refine ag<|ab<|al 1<|ah (aK (r:=((n+1+2:Nat):Int)) rfl rfl ((aQ (by omega) (by omega)).trans (congrArg some (by omega))) rfl) ?_
    refine ag ?_
    exact⟨⟨⟨n+1,cg4,rg4⟩,by omega,by omega,hgb4,hgc4⟩,aM ⟨rfl,rfl,rfl,rfl,trivial⟩ ⟨rfl,by rw[tp (i:=n+1) _ (by omega),fA,iH];rfl,trivial⟩ rfl,by show(cr c ([c.p,c.q]++L)).length-(n+1)<(cr c ([c.p,c.q]++L)).length-n;omega⟩
   ·have g2:n+2=(cr c ([c.p,c.q]++L)).length:=by have:=of_decide_eq_false hc3;omega
    refine bj<|aa<|ab<|ag<|cV (t:=4) (m:=66) (us:=aI aB (gT c ((cr c ([c.p,c.q]++L)).take (n+2)))) rfl rfl (iY (n:=n+1) (by rw[aG ak,fZ,List.length_take,Nat.min_eq_left (by omega)];rfl) (by assumption) (by omega)) (by omega) (by assumption) (fX (by rw[aG ak,fZ,List.length_take,Nat.min_eq_left (by omega)];rfl))<|an ?_
    rw[show eE c L=gT c ((cr c ([c.p,c.q]++L)).take (n+2)) from by rw[g2,List.take_length];rfl,show(gT c ((cr c ([c.p,c.q]++L)).take (n+2))).length=n+1 from by rw[fZ,List.length_take,Nat.min_eq_left (by omega)];rfl]
    exact aq (aE (aE ae))
theorem LE {c:Cv}(hc:c.good):Ok Tryz.prog 38 [.a (aB c)] [.a (aB c.rev)]:=by
 cases c with
 |seg l f t=>exact Ii hc.1 hc.2.1 hc.2.2
 |arc k w f t=>exact Lb hc.1 hc.2.1 hc.2.2
theorem Ft {c d:Cv}(hc:c.good) (hd:d.good):Ok Tryz.prog 94 [.a (aB c),.a (aB d)] [.c (.b (fV c d))]:=by
 cases c with
 |seg l f t=>
  cases d with
  |seg m u v=>exact KF hc.1 hc.2.1 hc.2.2 hd.1 hd.2.1 hd.2.2
  |arc d w2 u v=>exact Jt hc.1 hc.2.1 hc.2.2 hd.1 hd.2.1 hd.2.2
 |arc k w f t=>
  cases d with
  |seg m u v=>exact IP hc.1 hc.2.1 hc.2.2 hd.1 hd.2.1 hd.2.2
  |arc d w2 u v=>exact HK hc.1 hc.2.1 hc.2.2 hd.1 hd.2.1 hd.2.2
theorem P0 {c d:Cv}(hc:c.good) (hd:d.good):Ok Tryz.prog 117 [.a (aB c),.a (aB d)] [.c (.s ((ms c d).length) (aI au (ms c d))),.c (.i .i64 (Bg c d))]:=by
 cases c with
 |seg l f t=>
  cases d with
  |seg m u v=>exact Nh hc.1 hc.2.1 hc.2.2 hd.1 hd.2.1 hd.2.2
  |arc d w2 u v=>exact Nv hc.1 hc.2.1 hc.2.2 hd.1 hd.2.1 hd.2.2
 |arc k w f t=>
  cases d with
  |seg m u v=>exact No hc.1 hc.2.1 hc.2.2 hd.1 hd.2.1 hd.2.2
  |arc d w2 u v=>exact NJ hc.1 hc.2.1 hc.2.2 hd.1 hd.2.1 hd.2.2
theorem uj {c d:Cv}(hc:c.good) (hd:d.good):Ok Tryz.prog 50 [.a (aB c),.a (aB d)] [.c (.s (((cT c d)).length) (aI au ((cT c d)))),.c (.b (wu c d))]:=by
 have hM: ∀p∈(a8 c d),GP p:=ya hc hd
 have lM:(a8 c d).length≤4:=vr
 have hML: ∀p∈(cT c d),GP p:=nM hc hd
 have lML:(cT c d).length≤4:=jI
 refine Ok.fn Tryz.func50 121 [.tmp 4,.tmp 5] rfl<|aa<|ab<|ag<|aa<|ab<|ah (aA (us:=aB c) bd rfl rfl (bv _) (ak _) rfl) ?_
 refine ah (aA (us:=aB d) bd rfl rfl (bv _) (ak _) rfl) ?_
 refine ah (am rfl (Ft hc hd))<|ag<|aa<|ab<|al 1<|ah (aA (us:=au c.p) bo rfl rfl (dW _) rfl rfl) ?_
 refine al 1<|ah (aA (us:=au c.q) bo rfl rfl (dY _) rfl rfl) ?_
 refine al 1<|ah (aA (us:=au d.p) bo rfl rfl (dW _) rfl rfl) ?_
 refine al 1<|ah (aA (us:=au d.q) bo rfl rfl (dY _) rfl rfl) ?_
 refine ah (cC (n:=4) (us:=au c.p++au c.q++au d.p++au d.q) ft rfl rfl rfl (by decide) (by decide) rfl) ?_
 refine ag ?_
 refine gE (ι:=Unit) (fun i=>⟨121,[(2,.p 2 0),(3,.p 3 0),(6,.v (.c (.b (fV c d)))),(7,.v (.c (.s (((a8 c d)).length) (aI au ((a8 c d))))))],[(2,48,aB c),(3,48,aB d)]⟩) ?_ ?_
 ·refine aa<|ab<|ag ?_
  refine aw rfl (fun hc1=>?_) (fun hc1=>?_)
  ·have m0:a8 c d=ms c d:=K3 (by simpa using hc1)
   refine ab<|ah (aA (us:=aB c) bd rfl rfl (bv _) (ak _) rfl) ?_
   refine ah (aA (us:=aB d) bd rfl rfl (bv _) (ak _) rfl) ?_
   refine ah (am rfl (P0 hc hd))<|ag ?_
   exact⟨(),aM ⟨rfl,rfl,rfl,congrArg (fun q=>some (DV.v (.c (.s (List.length q) (aI au q))))) m0.symm,trivial⟩ ⟨rfl,rfl,trivial⟩ rfl⟩
  ·have m0:a8 c d=[c.p,c.q,d.p,d.q]:=Lw (by simpa using hc1)
   refine ao ?_
   exact⟨(),aM ⟨rfl,rfl,rfl,(congrArg (fun q=>some (DV.v (.c (.s 4 q)))) (TB _ _ _ _)).trans (congrArg (fun q=>some (DV.v (.c (.s (List.length q) (aI au q))))) m0.symm),trivial⟩ ⟨rfl,rfl,trivial⟩ rfl⟩
 ·rintro⟨⟩
  show Dw _ _ ⟨121,[(2,.p 2 0),(3,.p 3 0),(6,.v (.c (.b (fV c d)))),(7,.v (.c (.s (((a8 c d)).length) (aI au ((a8 c d))))))],[(2,48,aB c),(3,48,aB d)]⟩ _
  refine aa<|ab<|ah (fF rfl) ?_
  refine ar ?_
  refine gE (ι:=Unit) (fun i=>⟨121,[(2,.p 2 0),(3,.p 3 0),(6,.v (.c (.b (fV c d)))),(8,.v (.c (.s ((((a8 c d).filter (dC c d))).length) (aI au (((a8 c d).filter (dC c d)))))))],[(2,48,aB c),(3,48,aB d)]⟩) ?_ ?_
  ·refine aa<|ab<|ag<|aJ ?_
   refine bD (ι:=Sum ({n:Nat // n≤(a8 c d).length∧(((a8 c d).take n).filter (dC c d))=[]}) ({x9:Nat×Nat×List CellD // x9.1≤(a8 c d).length∧(((a8 c d).take x9.1).filter (dC c d)).length≤x9.2.1∧x9.2.1≤maxLen∧x9.2.2.length=(x9.2.1-(((a8 c d).take x9.1).filter (dC c d)).length)*20})) (fun i=>match i with| .inl i=>⟨121,[(2,.p 2 0),(3,.p 3 0),(6,.v (.c (.b (fV c d)))),(7,.v (.c (.s (((a8 c d)).length) (aI au ((a8 c d)))))),(8,.z),(9,.v (.c (.i .i64 (i.1:Int))))],[(2,48,aB c),(3,48,aB d)]⟩| .inr i=>⟨121,[(2,.p 2 0),(3,.p 3 0),(6,.v (.c (.b (fV c d)))),(7,.v (.c (.s (((a8 c d)).length) (aI au ((a8 c d)))))),(8,.o 58 ((((a8 c d).take i.1.1).filter (dC c d)).length) i.1.2.1),(9,.v (.c (.i .i64 (i.1.1:Int))))],[(2,48,aB c),(3,48,aB d),(58,46,aI au (((a8 c d).take i.1.1).filter (dC c d))++i.1.2.2)]⟩) (fun i=>match i with| .inl i=>(a8 c d).length-i.1| .inr i=>(a8 c d).length-i.1.1) (.inl ⟨0,Nat.zero_le _,rfl⟩) (aM ⟨rfl,rfl,rfl,rfl,rfl,rfl,trivial⟩ ⟨rfl,rfl,trivial⟩ rfl) ?_
   rintro(⟨n,h2,h3⟩|⟨⟨n,cp,rs⟩,h2,h3,h4,h5⟩)
   ·replace h2:n≤(a8 c d).length:=h2
    replace h3:(((a8 c d).take n).filter (dC c d))=[]:=h3
    show Dw _ _ ⟨121,[(2,.p 2 0),(3,.p 3 0),(6,.v (.c (.b (fV c d)))),(7,.v (.c (.s (((a8 c d)).length) (aI au ((a8 c d)))))),(8,.z),(9,.v (.c (.i .i64 (n:Int))))],[(2,48,aB c),(3,48,aB d)]⟩ _
    refine aa<|aa<|ab<|ag ?_
    refine aw rfl (fun hc2=>?_) (fun hc2=>?_)
    ·have g1:n<(a8 c d).length:=by have:=of_decide_eq_true hc2;omega
     refine ao<|aa<|aJ<|aa<|aR 14 rfl rfl<|aj (aA (us:=aB c) bd rfl rfl (bv _) (ak _) rfl) ?_
     refine ap 2<|aj (aW (us:=au ((a8 c d).getD n dPt)++aI au ((a8 c d).drop (n+1))) ek rfl rfl (by omega) (aG aO _) (bz aO (bi g1)) rfl) ?_
     refine aj (bb (us:=au ((((a8 c d).getD n dPt)))) bo rfl rfl rfl rfl) ?_
     refine aj (am rfl (wv hc (GP.getD hM n))) ?_
     refine fb (bN rfl) (fun c3 hb3=>?_)
     cases c3
     ·have g2:(((a8 c d).take (n+1)).filter (dC c d))=(((a8 c d).take n).filter (dC c d)):=zL g1 (Ff hb3)
      refine bk<|az<|ar<|aP rfl<|ao<|ab<|al 1<|ah (aK (r:=((n+1:Nat):Int)) rfl rfl ((aQ (by omega) (by omega)).trans (congrArg some (by omega))) rfl) ?_
      refine ag ?_
      exact⟨.inl ⟨n+1,g1,by rw[g2];exact h3⟩,aM ⟨rfl,rfl,rfl,rfl,rfl,rfl,trivial⟩ ⟨rfl,rfl,trivial⟩ rfl,by show(a8 c d).length-(n+1)<(a8 c d).length-n;omega⟩
     ·refine aj (aA (us:=aB d) bd rfl rfl (bv _) (ak _) rfl) ?_
      refine ap 2<|aj (aW (us:=au ((a8 c d).getD n dPt)++aI au ((a8 c d).drop (n+1))) ek rfl rfl (by omega) (aG aO _) (bz aO (bi g1)) rfl) ?_
      refine aj (bb (us:=au ((((a8 c d).getD n dPt)))) bo rfl rfl rfl rfl) ?_
      refine aj (am rfl (wv hd (GP.getD hM n)))<|bk<|az<|ar ?_
      refine aw rfl (fun hc4=>?_) (fun hc4=>?_)
      ·have g2:(((a8 c d).take (n+1)).filter (dC c d))=(((a8 c d).take n).filter (dC c d))++[((a8 c d).getD n dPt)]:=KC g1 (Ip hb3 hc4)
       refine ab<|al 3<|ah (aW (us:=au ((a8 c d).getD n dPt)++aI au ((a8 c d).drop (n+1))) ek rfl rfl (by omega) (aG aO _) (bz aO (bi g1)) rfl) ?_
       refine ah (bb (us:=au ((((a8 c d).getD n dPt)))) bo rfl rfl rfl rfl) ?_
       refine ah (cC (n:=1) (us:=au ((((a8 c d).getD n dPt)))) ft rfl rfl rfl (by decide) (by decide) rfl) ?_
       refine mm (ys:=au ((((a8 c d).getD n dPt)))) ft rfl rfl rfl (by decide) (by decide) (by decide) rfl rfl (fun cg5 rg5 hga5 hgb5 hgc5=>?_)
       refine ag<|ab<|al 1<|ah (aK (r:=((n+1:Nat):Int)) rfl rfl ((aQ (by omega) (by omega)).trans (congrArg some (by omega))) rfl) ?_
       refine ag ?_
       exact⟨.inr ⟨⟨n+1,cg5,rg5⟩,g1,by show(((a8 c d).take (n+1)).filter (dC c d)).length≤cg5;rw[g2,h3];exact hga5,hgb5,by show rg5.length=(cg5-(((a8 c d).take (n+1)).filter (dC c d)).length)*20;rw[g2,h3];exact hgc5⟩,aM ⟨rfl,rfl,rfl,rfl,congrArg (fun q=>some (DV.o 58 q cg5)) (by rw[g2,h3];rfl),rfl,trivial⟩ ⟨rfl,rfl,congrArg (fun q=>some (46,q++rg5)) (by rw[g2,h3];exact(iH _).symm),trivial⟩ rfl,by show(a8 c d).length-(n+1)<(a8 c d).length-n;omega⟩
      ·have g2:(((a8 c d).take (n+1)).filter (dC c d))=(((a8 c d).take n).filter (dC c d)):=zL g1 (FY hc4)
       refine ao<|ab<|al 1<|ah (aK (r:=((n+1:Nat):Int)) rfl rfl ((aQ (by omega) (by omega)).trans (congrArg some (by omega))) rfl) ?_
       refine ag ?_
       exact⟨.inl ⟨n+1,g1,by rw[g2];exact h3⟩,aM ⟨rfl,rfl,rfl,rfl,rfl,rfl,trivial⟩ ⟨rfl,rfl,trivial⟩ rfl,by show(a8 c d).length-(n+1)<(a8 c d).length-n;omega⟩
    ·have g1:(a8 c d).length≤n:=by have:=of_decide_eq_false hc2;omega
     have m1:((a8 c d).filter (dC c d))=[]:=by rw[←h3,List.take_of_length_le g1]
     refine DI (t:=8) rfl<|bj ?_
     exact⟨(),aM ⟨rfl,rfl,rfl,congrArg (fun q=>some (DV.v (.c (.s (List.length q) (aI au q))))) m1.symm,trivial⟩ ⟨rfl,rfl,trivial⟩ rfl⟩
   ·dsimp only at h2 h3 h4 h5
    have h6:(((a8 c d).take n).filter (dC c d)).length≤4:=Nat.le_trans (List.length_filter_le _ _) (by rw[List.length_take];omega)
    show Dw _ _ ⟨121,[(2,.p 2 0),(3,.p 3 0),(6,.v (.c (.b (fV c d)))),(7,.v (.c (.s (((a8 c d)).length) (aI au ((a8 c d)))))),(8,.o 58 ((((a8 c d).take n).filter (dC c d)).length) cp),(9,.v (.c (.i .i64 (n:Int))))],[(2,48,aB c),(3,48,aB d),(58,46,aI au (((a8 c d).take n).filter (dC c d))++rs)]⟩ _
    refine aa<|aa<|ab<|ag ?_
    refine aw rfl (fun hc6=>?_) (fun hc6=>?_)
    ·have g1:n<(a8 c d).length:=by have:=of_decide_eq_true hc6;omega
     refine ao<|aa<|aJ<|aa<|aR 14 rfl rfl<|aj (aA (us:=aB c) bd rfl rfl (bv _) (ak _) rfl) ?_
     refine ap 2<|aj (aW (us:=au ((a8 c d).getD n dPt)++aI au ((a8 c d).drop (n+1))) ek rfl rfl (by omega) (aG aO _) (bz aO (bi g1)) rfl) ?_
     refine aj (bb (us:=au ((((a8 c d).getD n dPt)))) bo rfl rfl rfl rfl) ?_
     refine aj (am rfl (wv hc (GP.getD hM n))) ?_
     refine fb (bN rfl) (fun c7 hb7=>?_)
     cases c7
     ·have g2:(((a8 c d).take (n+1)).filter (dC c d))=(((a8 c d).take n).filter (dC c d)):=zL g1 (Ff hb7)
      refine bk<|az<|ar<|aP rfl<|ao<|ab<|al 1<|ah (aK (r:=((n+1:Nat):Int)) rfl rfl ((aQ (by omega) (by omega)).trans (congrArg some (by omega))) rfl) ?_
      refine ag ?_
      exact⟨.inr ⟨⟨n+1,cp,rs⟩,g1,by show(((a8 c d).take (n+1)).filter (dC c d)).length≤cp;rw[g2];exact h3,h4,by show rs.length=(cp-(((a8 c d).take (n+1)).filter (dC c d)).length)*20;rw[g2];exact h5⟩,aM ⟨rfl,rfl,rfl,rfl,congrArg (fun q=>some (DV.o 58 q cp)) (by rw[g2]),rfl,trivial⟩ ⟨rfl,rfl,congrArg (fun q=>some (46,q++rs)) (by rw[g2]),trivial⟩ rfl,by show(a8 c d).length-(n+1)<(a8 c d).length-n;omega⟩
     ·refine aj (aA (us:=aB d) bd rfl rfl (bv _) (ak _) rfl) ?_
      refine ap 2<|aj (aW (us:=au ((a8 c d).getD n dPt)++aI au ((a8 c d).drop (n+1))) ek rfl rfl (by omega) (aG aO _) (bz aO (bi g1)) rfl) ?_
      refine aj (bb (us:=au ((((a8 c d).getD n dPt)))) bo rfl rfl rfl rfl) ?_
      refine aj (am rfl (wv hd (GP.getD hM n)))<|bk<|az<|ar ?_
      refine aw rfl (fun hc8=>?_) (fun hc8=>?_)
      ·have g2:(((a8 c d).take (n+1)).filter (dC c d))=(((a8 c d).take n).filter (dC c d))++[((a8 c d).getD n dPt)]:=KC g1 (Ip hb7 hc8)
       refine ab<|al 3<|ah (aW (us:=au ((a8 c d).getD n dPt)++aI au ((a8 c d).drop (n+1))) ek rfl rfl (by omega) (aG aO _) (bz aO (bi g1)) rfl) ?_
       refine ah (bb (us:=au ((((a8 c d).getD n dPt)))) bo rfl rfl rfl rfl) ?_
       refine ah (cC (n:=1) (us:=au ((((a8 c d).getD n dPt)))) ft rfl rfl rfl (by decide) (by decide) rfl) ?_
       refine mQ (us:=aI au (((a8 c d).take n).filter (dC c d))) (rest:=rs) (ys:=au ((((a8 c d).getD n dPt)))) ft rfl rfl rfl (aG aO _) (by assumption) rfl (by decide) (by omega) (by assumption) (by omega) (gP (by omega)) (.inl rfl) rfl (fun cg9 rg9 hga9 hgb9 hgc9=>?_)
       refine ag<|ab<|al 1<|ah (aK (r:=((n+1:Nat):Int)) rfl rfl ((aQ (by omega) (by omega)).trans (congrArg some (by omega))) rfl) ?_
       refine ag ?_
       exact⟨.inr ⟨⟨n+1,cg9,rg9⟩,g1,by show(((a8 c d).take (n+1)).filter (dC c d)).length≤cg9;rw[g2,List.length_append];exact hga9,hgb9,by show rg9.length=(cg9-(((a8 c d).take (n+1)).filter (dC c d)).length)*20;rw[g2,List.length_append];exact hgc9⟩,aM ⟨rfl,rfl,rfl,rfl,congrArg (fun q=>some (DV.o 58 q cg9)) (by rw[g2,List.length_append];rfl),rfl,trivial⟩ ⟨rfl,rfl,congrArg (fun q=>some (46,q++rg9)) (by rw[g2,fA,iH]),trivial⟩ rfl,by show(a8 c d).length-(n+1)<(a8 c d).length-n;omega⟩
      ·have g2:(((a8 c d).take (n+1)).filter (dC c d))=(((a8 c d).take n).filter (dC c d)):=zL g1 (FY hc8)
       refine ao<|ab<|al 1<|ah (aK (r:=((n+1:Nat):Int)) rfl rfl ((aQ (by omega) (by omega)).trans (congrArg some (by omega))) rfl) ?_
       refine ag ?_
       exact⟨.inr ⟨⟨n+1,cp,rs⟩,g1,by show(((a8 c d).take (n+1)).filter (dC c d)).length≤cp;rw[g2];exact h3,h4,by show rs.length=(cp-(((a8 c d).take (n+1)).filter (dC c d)).length)*20;rw[g2];exact h5⟩,aM ⟨rfl,rfl,rfl,rfl,congrArg (fun q=>some (DV.o 58 q cp)) (by rw[g2]),rfl,trivial⟩ ⟨rfl,rfl,congrArg (fun q=>some (46,q++rs)) (by rw[g2]),trivial⟩ rfl,by show(a8 c d).length-(n+1)<(a8 c d).length-n;omega⟩
    ·have g1:(a8 c d).length≤n:=by have:=of_decide_eq_false hc6;omega
     have m1:((a8 c d).filter (dC c d))=(((a8 c d).take n).filter (dC c d)):=by rw[List.take_of_length_le g1]
     refine cV (t:=8) (m:=20) (us:=aI au (((a8 c d).take n).filter (dC c d))) rfl rfl (iY (n:=(((a8 c d).take n).filter (dC c d)).length) (aG aO _) (by assumption) (by omega)) (by omega) (by assumption) (fX (aG aO _))<|bj ?_
     exact⟨(),aM ⟨rfl,rfl,rfl,congrArg (fun q=>some (DV.v (.c (.s (List.length q) (aI au q))))) m1.symm,trivial⟩ ⟨rfl,rfl,trivial⟩ rfl⟩
  ·rintro⟨⟩
   show Dw _ _ ⟨121,[(2,.p 2 0),(3,.p 3 0),(6,.v (.c (.b (fV c d)))),(8,.v (.c (.s ((((a8 c d).filter (dC c d))).length) (aI au (((a8 c d).filter (dC c d)))))))],[(2,48,aB c),(3,48,aB d)]⟩ _
   refine aa<|ab<|ah (aA (us:=aB c) bd rfl rfl (bv _) (ak _) rfl) ?_
   refine al 1<|ah (am rfl (F6 hc (fun p hp=>hM p (List.mem_filter.1 hp).1) (Nat.le_trans (List.length_filter_le _ _) (by omega))))<|ag<|aa<|ab<|ag ?_
   refine gE (ι:=Unit) (fun i=>⟨121,[(3,.p 3 0),(6,.v (.c (.b (fV c d)))),(8,.v (.c (.s (((cT c d)).length) (aI au ((cT c d)))))),(10,.v (.c (.b false)))],[(3,48,aB (fU c d))]⟩) ?_ ?_
   ·refine aa<|aR 31 rfl rfl<|ap 1<|aj (bE xf rfl rfl (mA _) rfl) ?_
    refine fb (bN rfl) (fun c10 hb10=>?_)
    cases c10
    ·refine ap 12<|aj (bE xf rfl rfl (mA _) rfl) ?_
     refine ap 1 ?_
     refine fb (bN rfl) (fun c11 hb11=>?_)
     cases c11
     ·exact absurd hb11 (by rw[hb10];decide)
     ·refine ap 1<|aj (aA (us:=au c.p) bo rfl rfl (dW _) rfl rfl) ?_
      refine ap 1<|aj (aA (us:=au c.q) bo rfl rfl (dY _) rfl rfl) ?_
      refine aj (am rfl (kW (cn hc) (cH hc)))<|ap 1<|aj (aA (us:=au d.p) bo rfl rfl (dW _) rfl rfl) ?_
      refine ap 1<|aj (aA (us:=au d.q) bo rfl rfl (dY _) rfl rfl) ?_
      refine aj (am rfl (kW (cn hd) (cH hd)))<|bk<|az<|ar ?_
      refine aw rfl (fun hc12=>?_) (fun hc12=>?_)
      ·have m2:(fU c d)=d.rev:=UT hb10 hc12
       refine ab<|ah (aA (us:=aB d) bd rfl rfl (bv _) (ak _) rfl) ?_
       refine ah (am rfl (LE hd))<|bL (aZ bd rfl rfl rfl (ak _) (ak _) rfl) ?_
       refine ar ?_
       exact⟨(),aM ⟨rfl,rfl,rfl,rfl,trivial⟩ ⟨congrArg (fun q=>some (48,aB q)) m2.symm,trivial⟩ rfl⟩
      ·have m2:(fU c d)=d:=VE hb10 hc12
       refine ao ?_
       exact⟨(),aM ⟨rfl,rfl,rfl,rfl,trivial⟩ ⟨congrArg (fun q=>some (48,aB q)) m2.symm,trivial⟩ rfl⟩
    ·refine ap 1<|aj (bE xf rfl rfl (mA _) rfl) ?_
     refine ap 1 ?_
     refine fb (bN rfl) (fun c13 hb13=>?_)
     cases c13
     ·refine ap 8<|aj (bE xf rfl rfl (mA _) rfl) ?_
      refine ap 1 ?_
      refine fb (bN rfl) (fun c14 hb14=>?_)
      cases c14
      ·have m2:(fU c d)=d:=U5 hb10 hb13
       refine bk<|az<|ar<|aP rfl<|ao ?_
       exact⟨(),aM ⟨rfl,rfl,rfl,rfl,trivial⟩ ⟨congrArg (fun q=>some (48,aB q)) m2.symm,trivial⟩ rfl⟩
      ·exact absurd hb14 (by rw[hb10];decide)
     ·refine ap 1<|aj (bE xf rfl rfl (qA _) rfl) ?_
      refine ap 1<|aj (bE xf rfl rfl (qA _) rfl) ?_
      refine aj (ff rfl rfl fp rfl) ?_
      refine ap 1 ?_
      refine fb (bN rfl) (fun c15 hb15=>?_)
      cases c15
      ·refine ap 1<|aj (bE xf rfl rfl (mA _) rfl) ?_
       refine ap 1 ?_
       refine fb (bN rfl) (fun c16 hb16=>?_)
       cases c16
       ·have m2:(fU c d)=d:=VF hb10 hb13 hb15
        refine bk<|az<|ar<|aP rfl<|ao ?_
        exact⟨(),aM ⟨rfl,rfl,rfl,rfl,trivial⟩ ⟨congrArg (fun q=>some (48,aB q)) m2.symm,trivial⟩ rfl⟩
       ·exact absurd hb16 (by rw[hb10];decide)
      ·have m2:(fU c d)=d.rev:=Vb hb10 hb13 hb15
       refine bk<|az<|ar<|bg rfl<|ab<|ah (aA (us:=aB d) bd rfl rfl (bv _) (ak _) rfl) ?_
       refine ah (am rfl (LE hd))<|bL (aZ bd rfl rfl rfl (ak _) (ak _) rfl) ?_
       refine ar ?_
       exact⟨(),aM ⟨rfl,rfl,rfl,rfl,trivial⟩ ⟨congrArg (fun q=>some (48,aB q)) m2.symm,trivial⟩ rfl⟩
   ·rintro⟨⟩
    show Dw _ _ ⟨121,[(3,.p 3 0),(6,.v (.c (.b (fV c d)))),(8,.v (.c (.s (((cT c d)).length) (aI au ((cT c d)))))),(10,.v (.c (.b false)))],[(3,48,aB (fU c d))]⟩ _
    refine aa<|aa<|ab<|ag<|aJ<|bD (ι:={r:Nat //(r=0∨r+1≤(cT c d).length)∧(fV c d=false→r=0)}) (fun i=>⟨121,[(3,.p 3 0),(6,.v (.c (.b (fV c d)))),(8,.v (.c (.s (((cT c d)).length) (aI au ((cT c d)))))),(10,.v (.c (.b (FT (fU c d) (cT c d) i.1)))),(11,.v (.c (.i .i64 (((i.1+1:Nat):Int)))))],[(3,48,aB (fU c d))]⟩) (fun i=>(cT c d).length-i.1) ⟨0,.inl rfl,fun _=>rfl⟩ (aM ⟨rfl,rfl,rfl,rfl,rfl,trivial⟩ ⟨rfl,trivial⟩ rfl) ?_
    rintro⟨r,h2,h3⟩
    replace h2:r=0∨r+1≤(cT c d).length:=h2
    replace h3:fV c d=false→r=0:=h3
    show Dw _ _ ⟨121,[(3,.p 3 0),(6,.v (.c (.b (fV c d)))),(8,.v (.c (.s (((cT c d)).length) (aI au ((cT c d)))))),(10,.v (.c (.b (FT (fU c d) (cT c d) r)))),(11,.v (.c (.i .i64 (((r+1:Nat):Int)))))],[(3,48,aB (fU c d))]⟩ _
    refine aa<|aa<|ab<|al 1 ?_
    refine cg (bN rfl) (fun c17 hb17=>?_)
    cases c17
    ·have m3:wu c d=false:=Ox hb17
     refine ag<|aP rfl<|bj<|aa<|ab<|ag<|an ?_
     rw[show wu c d=FT (fU c d) (cT c d) r from by rw[m3,h3 hb17];rfl]
     exact aq (aE (aE ae))
    ·have m4:fV c d=true:=hb17
     refine ag ?_
     refine aw rfl (fun hc18=>?_) (fun hc18=>?_)
     ·have g3:r+1<(cT c d).length:=by have:=of_decide_eq_true hc18;omega
      refine ao<|aa<|aJ<|aR 16 rfl rfl<|ap 1 ?_
      refine fb (bN rfl) (fun c19 hb19=>?_)
      cases c19
      ·have g4:FT (fU c d) (cT c d) (r+1)=decide ((fU c d).ord ((cT c d).getD r dPt) ((cT c d).getD (r+1) dPt)<0):=Sg hb19
       refine aj (aA (us:=aB (fU c d)) bd rfl rfl (bv _) (ak _) rfl) ?_
       refine ap 2<|aj (aK (r:=((r:Nat):Int)) rfl rfl ((bV (by omega) (by omega)).trans (congrArg some (by omega))) rfl) ?_
       refine aj (aW (us:=au ((cT c d).getD r dPt)++aI au ((cT c d).drop (r+1))) ek rfl rfl (by omega) (aG aO _) (bz aO (bi (by omega))) rfl) ?_
       refine aj (bb (us:=au ((((cT c d).getD r dPt)))) bo rfl rfl rfl rfl) ?_
       refine ap 2<|aj (aW (us:=au ((cT c d).getD (r+1) dPt)++aI au ((cT c d).drop ((r+1)+1))) ek rfl rfl (by omega) (aG aO _) (bz aO (bi (by omega))) rfl) ?_
       refine aj (bb (us:=au ((((cT c d).getD (r+1) dPt)))) bo rfl rfl rfl rfl) ?_
       refine aj (am rfl (Je (Du hd) (GP.getD hML _) (GP.getD hML _)))<|bk<|az<|ar<|ab<|al 1<|ah (aK (r:=((r+1+1:Nat):Int)) rfl rfl ((aQ (by omega) (by omega)).trans (congrArg some (by omega))) rfl) ?_
       refine ag ?_
       exact⟨⟨r+1,.inr (by omega),fun h=>absurd h (by rw[m4];decide)⟩,aM ⟨rfl,rfl,rfl,congrArg (fun q=>some (DV.v (.c (.b q)))) g4.symm,rfl,trivial⟩ ⟨rfl,trivial⟩ rfl,by show(cT c d).length-(r+1)<(cT c d).length-r;omega⟩
      ·have g4:FT (fU c d) (cT c d) (r+1)=true:=Tm hb19
       refine bk<|az<|ar<|ab<|al 1<|ah (aK (r:=((r+1+1:Nat):Int)) rfl rfl ((aQ (by omega) (by omega)).trans (congrArg some (by omega))) rfl) ?_
       refine ag ?_
       exact⟨⟨r+1,.inr (by omega),fun h=>absurd h (by rw[m4];decide)⟩,aM ⟨rfl,rfl,rfl,congrArg (fun q=>some (DV.v (.c (.b q)))) g4.symm,rfl,trivial⟩ ⟨rfl,trivial⟩ rfl,by show(cT c d).length-(r+1)<(cT c d).length-r;omega⟩
     ·have g3:(cT c d).length≤r+1:=by have:=of_decide_eq_false hc18;omega
      refine bj<|aa<|ab<|ag<|an ?_
      rw[NZ hb17 (by omega:(cT c d).length-1=r)]
      exact aq (aE (aE ae))
theorem N1 {a b c d:Rat}(ha:Rz 1 a) (hb:Rz 1 b) (hc:Rz 1 c) (hd:Rz 1 d) (hn:b-d=0∧c-a=0):Ok Tryz.prog 112 [.a ((cR a++cR b)),.a ((cR c++cR d))] [.a (cS),.c (.i .i64 6)]:=by
 refine Ok.fn Tryz.func112 42 [.cell 4 42,.tmp 5] rfl<|aa<|ab<|al 2<|aC (ai tX rfl) rfl<|ag<|aa<|aR 12 rfl rfl<|ap 1<|aj (aF (cR b) aD rfl)<|ap 1<|aj (aF (cR d) aD rfl)<|aj (am rfl (eL (aX hb) (aX hd)))<|ap 1 ?_
 refine aj (aF (cR c) aD rfl)<|ap 1<|aj (aF (cR a) aD rfl)<|aj (am rfl (eL (aX hc) (aX ha)))<|aj (aN (us:=(cR (b-d)++cR (c-a)++ua)) Mx tX rfl rfl rfl) ?_
 refine ba (ai tX rfl) rfl<|aY<|bl<|ag<|aa<|aa<|ab<|al 1<|ah (aF (cR (b-d)) aD rfl)<|ah (am rfl (db))<|al 1 ?_
 refine cg (bN rfl) (fun c1 hb1=>?_)
 cases c1
 ·exact absurd hb1 (by simp[fu.2 hn.1])
 ·refine al 1<|ah (aF (cR (c-a)) aD rfl)<|ah (am rfl (db))<|ag ?_
  refine aw rfl (fun hc2=>?_) (fun hc2=>?_)
  ·refine aa<|ab<|ah (aN (us:=cS) Mx tX rfl rfl rfl) ?_
   refine ag<|an ?_
   exact aq (a7 sZ rfl (aE ae))
  ·exact absurd hc2 (by simp[fu.2 hn.2])
theorem Ux {a b c d:Rat}(ha:Rz 1 a) (hb:Rz 1 b) (hc:Rz 1 c) (hd:Rz 1 d) (hn: ¬(b-d=0∧c-a=0)):Ok Tryz.prog 112 [.a ((cR a++cR b)),.a ((cR c++cR d))] [.a ((cR (b-d)++cR (c-a)++cR ((b-d)*a+(c-a)*b))),.c (.i .i64 0)]:=by
 refine Ok.fn Tryz.func112 42 [.cell 4 42,.tmp 5] rfl<|aa<|ab<|al 2<|aC (ai tX rfl) rfl<|ag<|aa<|aR 12 rfl rfl<|ap 1<|aj (aF (cR b) aD rfl)<|ap 1<|aj (aF (cR d) aD rfl)<|aj (am rfl (eL (aX hb) (aX hd)))<|ap 1 ?_
 refine aj (aF (cR c) aD rfl)<|ap 1<|aj (aF (cR a) aD rfl)<|aj (am rfl (eL (aX hc) (aX ha)))<|aj (aN (us:=(cR (b-d)++cR (c-a)++ua)) Mx tX rfl rfl rfl) ?_
 refine ba (ai tX rfl) rfl<|aY<|bl<|ag<|aa<|aa<|ab<|al 1<|ah (aF (cR (b-d)) aD rfl)<|ah (am rfl (db))<|al 1 ?_
 refine cg (bN rfl) (fun c1 hb1=>?_)
 cases c1
 ·refine ag<|aP rfl<|ao<|aa<|aR 12 rfl rfl<|ap 1<|aj (aF (cR (b-d)) aD rfl)<|ap 1<|aj (aF (cR a) aD rfl)<|aj (am rfl (cZ (aX (Rz.sub hb hd)) (aX ha)))<|ap 1<|aj (aF (cR (c-a)) aD rfl)<|ap 1<|aj (aF (cR b) aD rfl) ?_
  refine aj (am rfl (cZ (aX (Rz.sub hc ha)) (aX hb)))<|aj (am rfl (ii (aX (Rz.mul (Rz.sub hb hd) ha)) (aX (Rz.mul (Rz.sub hc ha) hb))))<|bk<|az<|bL (bm (us:=(cR (b-d)++cR (c-a)++cR (((b-d)*a)+((c-a)*b)))) aD rfl rfl rfl rfl (Nat.le_of_ble_eq_true rfl) rfl rfl) ?_
  refine ar<|aa<|ab<|ag<|an ?_
  exact aq (a7 sZ rfl (aE ae))
 ·refine al 1<|ah (aF (cR (c-a)) aD rfl)<|ah (am rfl (db))<|ag ?_
  refine aw rfl (fun hc2=>?_) (fun hc2=>?_)
  ·exact absurd ⟨fu.1 (by simpa using hb1),fu.1 (by simpa using hc2)⟩ hn
  ·refine ao<|aa<|aR 12 rfl rfl<|ap 1<|aj (aF (cR (b-d)) aD rfl)<|ap 1<|aj (aF (cR a) aD rfl)<|aj (am rfl (cZ (aX (Rz.sub hb hd)) (aX ha)))<|ap 1<|aj (aF (cR (c-a)) aD rfl)<|ap 1<|aj (aF (cR b) aD rfl)<|aj (am rfl (cZ (aX (Rz.sub hc ha)) (aX hb)))<|aj (am rfl (ii (aX (Rz.mul (Rz.sub hb hd) ha)) (aX (Rz.mul (Rz.sub hc ha) hb)))) ?_
   refine bk<|az<|bL (bm (us:=(cR (b-d)++cR (c-a)++cR (((b-d)*a)+((c-a)*b)))) aD rfl rfl rfl rfl (Nat.le_of_ble_eq_true rfl) rfl rfl) ?_
   refine ar<|aa<|ab<|ag<|an ?_
   exact aq (a7 sZ rfl (aE ae))
theorem zZ {a b c d:Rat}(ha:Rz 1 a) (hb:Rz 1 b) (hc:Rz 1 c) (hd:Rz 1 d) (hn:b-d=0∧c-a=0):Ok Tryz.prog 45 [.a ((cR a++cR b)),.a ((cR c++cR d))] [.a (([.b false]++cS++cS++[.b false]++ob++ob)),.c (.i .i64 6)]:=by
 refine Ok.fn Tryz.func45 23 [.cell 4 48,.tmp 5] rfl<|aa<|ab<|al 2<|aC (ai eo rfl) rfl<|ag<|aa<|ab<|al 2<|ah (am rfl (N1 ha hb hc hd hn))<|al 3<|aC (ai tX rfl) rfl<|ag<|aa ?_
 refine aa<|ab<|ag<|bg rfl<|aa<|ab<|ah (aN (us:=([.b false]++cS++cS++[.b false]++ob++ob)) Eo eo rfl rfl rfl) ?_
 refine ag<|an ?_
 exact aq (fr (us:=([.b false]++cS++cS++[.b false]++ob++ob)) bd rfl rfl (by kernel_rfl) (by kernel_rfl) (aE ae))
theorem EH {a b c d:Rat}(ha:Rz 1 a) (hb:Rz 1 b) (hc:Rz 1 c) (hd:Rz 1 d) (hn: ¬(b-d=0∧c-a=0)):Ok Tryz.prog 45 [.a ((cR a++cR b)),.a ((cR c++cR d))] [.a (([.b false]++dV (My a b c d)++cS++[.b false]++au (rP a b)++au (rP c d))),.c (.i .i64 0)]:=by
 refine Ok.fn Tryz.func45 23 [.cell 4 48,.tmp 5] rfl<|aa<|ab<|al 2<|aC (ai eo rfl) rfl<|ag<|aa<|ab<|al 2<|ah (am rfl (Ux ha hb hc hd hn))<|al 3<|aC (ai tX rfl) rfl<|ag<|aa ?_
 refine aa<|ab<|ag<|aP rfl<|ao<|aa<|aR 6 rfl rfl<|ap 2<|aj (am rfl (ln))<|ap 1<|aj (am rfl (ln))<|aj (aN (us:=([.b false]++(cR (b-d)++cR (c-a)++cR ((b-d)*a+(c-a)*b))++cS++[.b false]++(cR a++cR 0++cR b++cR 0++cR 0)++(cR c++cR 0++cR d++cR 0++cR 0))) Eo eo rfl rfl rfl) ?_
 refine aY<|az<|ag<|an ?_
 exact aq (fr (us:=([.b false]++(cR (b-d)++cR (c-a)++cR ((b-d)*a+(c-a)*b))++cS++[.b false]++(cR a++cR 0++cR b++cR 0++cR 0)++(cR c++cR 0++cR d++cR 0++cR 0))) bd rfl rfl (by kernel_rfl) (by kernel_rfl) (aE ae))
theorem Iu {a b c d e f:Rat}(ha:Rz 1 a) (hb:Rz 1 b) (hc:Rz 1 c) (hd:Rz 1 d) (he:Rz 1 e) (hf:Rz 1 f):Ok Tryz.prog 109 [.a ((cR a++cR b)),.a ((cR c++cR d)),.a ((cR e++cR f))] [.c (.i .i64 (aV ((c-a)*(f-b)) ((d-b)*(e-a))))]:=by
 refine Ok.fn Tryz.func109 34 [.tmp 6] rfl<|aa<|ab<|ag<|aa<|aR 12 rfl rfl<|ap 1<|aj (aF (cR c) aD rfl)<|ap 1<|aj (aF (cR a) aD rfl)<|aj (am rfl (eP (aX hc) (aX ha)))<|ap 1<|aj (aF (cR f) aD rfl)<|ap 1 ?_
 refine aj (aF (cR b) aD rfl)<|aj (am rfl (eP (aX hf) (aX hb)))<|aj (am rfl (cW (aX (Rz.sub hc ha)) (aX (Rz.sub hf hb))))<|ba (ai bJ rfl) rfl<|aY<|bl<|ag<|aa<|aR 12 rfl rfl<|ap 1<|aj (aF (cR d) aD rfl)<|ap 1<|aj (aF (cR b) aD rfl)<|aj (am rfl (eP (aX hd) (aX hb))) ?_
 refine ap 1<|aj (aF (cR e) aD rfl)<|ap 1<|aj (aF (cR a) aD rfl)<|aj (am rfl (eP (aX he) (aX ha)))<|aj (am rfl (cW (aX (Rz.sub hd hb)) (aX (Rz.sub he ha))))<|ba (ai bJ rfl) rfl<|aY<|bl<|ag<|aa<|ab<|al 2<|ah (am rfl (gl (aX (Rz.mul (Rz.sub hc ha) (Rz.sub hf hb))) (aX (Rz.mul (Rz.sub hd hb) (Rz.sub he ha))))) ?_
 refine ag<|an ?_
 exact aq (aE ae)
theorem VP {a b c d e f:Rat}(ha:Rz 1 a) (hb:Rz 1 b) (hc:Rz 1 c) (hd:Rz 1 d) (he:Rz 1 e) (hf:Rz 1 f) (hn:lj a b c d e f≠0):Ok Tryz.prog 110 [.a ((cR a++cR b)),.a ((cR c++cR d)),.a ((cR e++cR f))] [.a (ca (RS a b c d e f)),.c (.i .i64 0)]:=by
 have h0:((c-a)*(f-b)-(d-b)*(e-a))+((c-a)*(f-b)-(d-b)*(e-a))≠0:=fun h=>hn (by unfold lj;grind)
 refine Ok.fn Tryz.func110 99 [.cell 6 44,.tmp 7] rfl<|aa<|ab<|al 3<|aC (ai Eh rfl) rfl<|ag<|aa<|aR 24 rfl rfl<|ap 1<|aj (aF (cR c) aD rfl)<|ap 1<|aj (aF (cR a) aD rfl)<|aj (am rfl (eL (aX hc) (aX ha)))<|ap 1 ?_
 refine aj (aF (cR d) aD rfl)<|ap 1<|aj (aF (cR b) aD rfl)<|aj (am rfl (eL (aX hd) (aX hb)))<|ap 1<|aj (aF (cR e) aD rfl)<|ap 1<|aj (aF (cR a) aD rfl)<|aj (am rfl (eL (aX he) (aX ha)))<|ap 1<|aj (aF (cR f) aD rfl)<|ap 1<|aj (aF (cR b) aD rfl)<|aj (am rfl (eL (aX hf) (aX hb))) ?_
 refine ba (ai bJ rfl) rfl<|ba (ai bJ rfl) rfl<|ba (ai bJ rfl) rfl<|ba (ai bJ rfl) rfl<|aY<|lI<|ag<|aa<|aR 8 rfl rfl<|ap 2<|aj (am rfl (cZ (aX (Rz.sub hc ha)) (aX (Rz.sub hf hb))))<|ap 2<|aj (am rfl (cZ (aX (Rz.sub hd hb)) (aX (Rz.sub he ha))))<|aj (am rfl (eL (aX (Rz.mul (Rz.sub hc ha) (Rz.sub hf hb))) (aX (Rz.mul (Rz.sub hd hb) (Rz.sub he ha))))) ?_
 refine ba (ai bJ rfl) rfl<|aY<|bl<|ag<|aa<|aa<|ab<|al 1<|ah (am rfl (db))<|ag ?_
 refine aw rfl (fun hc1=>?_) (fun hc1=>?_)
 ·exact absurd (show lj a b c d e f=0 from fu.1 (beq_iff_eq.1 hc1)) hn
 ·refine ao<|aa<|ab<|al 2<|ah (am rfl (ii (aX (Rz.sub (Rz.mul (Rz.sub hc ha) (Rz.sub hf hb)) (Rz.mul (Rz.sub hd hb) (Rz.sub he ha)))) (aX (Rz.sub (Rz.mul (Rz.sub hc ha) (Rz.sub hf hb)) (Rz.mul (Rz.sub hd hb) (Rz.sub he ha))))))<|ag<|aa<|aR 16 rfl rfl<|ap 2<|aj (am rfl (cZ (aX (Rz.sub hc ha)) (aX (Rz.sub hc ha))))<|ap 2<|aj (am rfl (cZ (aX (Rz.sub hd hb)) (aX (Rz.sub hd hb))))<|aj (am rfl (ii (aX (Rz.mul (Rz.sub hc ha) (Rz.sub hc ha))) (aX (Rz.mul (Rz.sub hd hb) (Rz.sub hd hb)))))<|ap 2 ?_
  refine aj (am rfl (cZ (aX (Rz.sub he ha)) (aX (Rz.sub he ha))))<|ap 2<|aj (am rfl (cZ (aX (Rz.sub hf hb)) (aX (Rz.sub hf hb))))<|aj (am rfl (ii (aX (Rz.mul (Rz.sub he ha) (Rz.sub he ha))) (aX (Rz.mul (Rz.sub hf hb) (Rz.sub hf hb)))))<|ba (ai bJ rfl) rfl<|ba (ai bJ rfl) rfl<|aY<|bG<|ag<|aa<|aR 20 rfl rfl<|ap 2<|aj (am rfl (cZ (aX (Rz.add (Rz.mul (Rz.sub hc ha) (Rz.sub hc ha)) (Rz.mul (Rz.sub hd hb) (Rz.sub hd hb)))) (aX (Rz.sub hf hb))))<|ap 2 ?_
  refine aj (am rfl (cZ (aX (Rz.add (Rz.mul (Rz.sub he ha) (Rz.sub he ha)) (Rz.mul (Rz.sub hf hb) (Rz.sub hf hb)))) (aX (Rz.sub hd hb))))<|aj (am rfl (eL (aX (Rz.mul (Rz.add (Rz.mul (Rz.sub hc ha) (Rz.sub hc ha)) (Rz.mul (Rz.sub hd hb) (Rz.sub hd hb))) (Rz.sub hf hb))) (aX (Rz.mul (Rz.add (Rz.mul (Rz.sub he ha) (Rz.sub he ha)) (Rz.mul (Rz.sub hf hb) (Rz.sub hf hb))) (Rz.sub hd hb)))))<|ap 1<|aj (am rfl (Br (aX (Rz.sub (Rz.mul (Rz.add (Rz.mul (Rz.sub hc ha) (Rz.sub hc ha)) (Rz.mul (Rz.sub hd hb) (Rz.sub hd hb))) (Rz.sub hf hb)) (Rz.mul (Rz.add (Rz.mul (Rz.sub he ha) (Rz.sub he ha)) (Rz.mul (Rz.sub hf hb) (Rz.sub hf hb))) (Rz.sub hd hb)))) (aX (Rz.add (Rz.sub (Rz.mul (Rz.sub hc ha) (Rz.sub hf hb)) (Rz.mul (Rz.sub hd hb) (Rz.sub he ha))) (Rz.sub (Rz.mul (Rz.sub hc ha) (Rz.sub hf hb)) (Rz.mul (Rz.sub hd hb) (Rz.sub he ha))))) (by assumption)))<|ap 2<|aj (am rfl (cZ (aX (Rz.add (Rz.mul (Rz.sub he ha) (Rz.sub he ha)) (Rz.mul (Rz.sub hf hb) (Rz.sub hf hb)))) (aX (Rz.sub hc ha))))<|ap 2<|aj (am rfl (cZ (aX (Rz.add (Rz.mul (Rz.sub hc ha) (Rz.sub hc ha)) (Rz.mul (Rz.sub hd hb) (Rz.sub hd hb)))) (aX (Rz.sub he ha))))<|aj (am rfl (eL (aX (Rz.mul (Rz.add (Rz.mul (Rz.sub he ha) (Rz.sub he ha)) (Rz.mul (Rz.sub hf hb) (Rz.sub hf hb))) (Rz.sub hc ha))) (aX (Rz.mul (Rz.add (Rz.mul (Rz.sub hc ha) (Rz.sub hc ha)) (Rz.mul (Rz.sub hd hb) (Rz.sub hd hb))) (Rz.sub he ha)))))<|ap 1<|aj (am rfl (Br (aX (Rz.sub (Rz.mul (Rz.add (Rz.mul (Rz.sub he ha) (Rz.sub he ha)) (Rz.mul (Rz.sub hf hb) (Rz.sub hf hb))) (Rz.sub hc ha)) (Rz.mul (Rz.add (Rz.mul (Rz.sub hc ha) (Rz.sub hc ha)) (Rz.mul (Rz.sub hd hb) (Rz.sub hd hb))) (Rz.sub he ha)))) (aX (Rz.add (Rz.sub (Rz.mul (Rz.sub hc ha) (Rz.sub hf hb)) (Rz.mul (Rz.sub hd hb) (Rz.sub he ha))) (Rz.sub (Rz.mul (Rz.sub hc ha) (Rz.sub hf hb)) (Rz.mul (Rz.sub hd hb) (Rz.sub he ha))))) (by assumption)))<|ba (ai bJ rfl) rfl<|ba (ai bJ rfl) rfl<|aY ?_
  refine bG<|ag<|aa<|aR 16 rfl rfl<|ap 1<|aj (aF (cR a) aD rfl)<|ap 1<|aj (am rfl (ii (aX ha) (aX (Rz.div (Rz.sub (Rz.mul (Rz.add (Rz.mul (Rz.sub hc ha) (Rz.sub hc ha)) (Rz.mul (Rz.sub hd hb) (Rz.sub hd hb))) (Rz.sub hf hb)) (Rz.mul (Rz.add (Rz.mul (Rz.sub he ha) (Rz.sub he ha)) (Rz.mul (Rz.sub hf hb) (Rz.sub hf hb))) (Rz.sub hd hb))) (Rz.add (Rz.sub (Rz.mul (Rz.sub hc ha) (Rz.sub hf hb)) (Rz.mul (Rz.sub hd hb) (Rz.sub he ha))) (Rz.sub (Rz.mul (Rz.sub hc ha) (Rz.sub hf hb)) (Rz.mul (Rz.sub hd hb) (Rz.sub he ha)))) (by assumption)))))<|ap 1<|aj (aF (cR b) aD rfl)<|ap 1<|aj (am rfl (ii (aX hb) (aX (Rz.div (Rz.sub (Rz.mul (Rz.add (Rz.mul (Rz.sub he ha) (Rz.sub he ha)) (Rz.mul (Rz.sub hf hb) (Rz.sub hf hb))) (Rz.sub hc ha)) (Rz.mul (Rz.add (Rz.mul (Rz.sub hc ha) (Rz.sub hc ha)) (Rz.mul (Rz.sub hd hb) (Rz.sub hd hb))) (Rz.sub he ha))) (Rz.add (Rz.sub (Rz.mul (Rz.sub hc ha) (Rz.sub hf hb)) (Rz.mul (Rz.sub hd hb) (Rz.sub he ha))) (Rz.sub (Rz.mul (Rz.sub hc ha) (Rz.sub hf hb)) (Rz.mul (Rz.sub hd hb) (Rz.sub he ha)))) (by assumption)))))<|ap 2<|aj (am rfl (cZ (aX (Rz.div (Rz.sub (Rz.mul (Rz.add (Rz.mul (Rz.sub hc ha) (Rz.sub hc ha)) (Rz.mul (Rz.sub hd hb) (Rz.sub hd hb))) (Rz.sub hf hb)) (Rz.mul (Rz.add (Rz.mul (Rz.sub he ha) (Rz.sub he ha)) (Rz.mul (Rz.sub hf hb) (Rz.sub hf hb))) (Rz.sub hd hb))) (Rz.add (Rz.sub (Rz.mul (Rz.sub hc ha) (Rz.sub hf hb)) (Rz.mul (Rz.sub hd hb) (Rz.sub he ha))) (Rz.sub (Rz.mul (Rz.sub hc ha) (Rz.sub hf hb)) (Rz.mul (Rz.sub hd hb) (Rz.sub he ha)))) (by assumption))) (aX (Rz.div (Rz.sub (Rz.mul (Rz.add (Rz.mul (Rz.sub hc ha) (Rz.sub hc ha)) (Rz.mul (Rz.sub hd hb) (Rz.sub hd hb))) (Rz.sub hf hb)) (Rz.mul (Rz.add (Rz.mul (Rz.sub he ha) (Rz.sub he ha)) (Rz.mul (Rz.sub hf hb) (Rz.sub hf hb))) (Rz.sub hd hb))) (Rz.add (Rz.sub (Rz.mul (Rz.sub hc ha) (Rz.sub hf hb)) (Rz.mul (Rz.sub hd hb) (Rz.sub he ha))) (Rz.sub (Rz.mul (Rz.sub hc ha) (Rz.sub hf hb)) (Rz.mul (Rz.sub hd hb) (Rz.sub he ha)))) (by assumption))))) ?_
  refine ap 2<|aj (am rfl (cZ (aX (Rz.div (Rz.sub (Rz.mul (Rz.add (Rz.mul (Rz.sub he ha) (Rz.sub he ha)) (Rz.mul (Rz.sub hf hb) (Rz.sub hf hb))) (Rz.sub hc ha)) (Rz.mul (Rz.add (Rz.mul (Rz.sub hc ha) (Rz.sub hc ha)) (Rz.mul (Rz.sub hd hb) (Rz.sub hd hb))) (Rz.sub he ha))) (Rz.add (Rz.sub (Rz.mul (Rz.sub hc ha) (Rz.sub hf hb)) (Rz.mul (Rz.sub hd hb) (Rz.sub he ha))) (Rz.sub (Rz.mul (Rz.sub hc ha) (Rz.sub hf hb)) (Rz.mul (Rz.sub hd hb) (Rz.sub he ha)))) (by assumption))) (aX (Rz.div (Rz.sub (Rz.mul (Rz.add (Rz.mul (Rz.sub he ha) (Rz.sub he ha)) (Rz.mul (Rz.sub hf hb) (Rz.sub hf hb))) (Rz.sub hc ha)) (Rz.mul (Rz.add (Rz.mul (Rz.sub hc ha) (Rz.sub hc ha)) (Rz.mul (Rz.sub hd hb) (Rz.sub hd hb))) (Rz.sub he ha))) (Rz.add (Rz.sub (Rz.mul (Rz.sub hc ha) (Rz.sub hf hb)) (Rz.mul (Rz.sub hd hb) (Rz.sub he ha))) (Rz.sub (Rz.mul (Rz.sub hc ha) (Rz.sub hf hb)) (Rz.mul (Rz.sub hd hb) (Rz.sub he ha)))) (by assumption)))))<|aj (am rfl (ii (aX (Rz.mul (Rz.div (Rz.sub (Rz.mul (Rz.add (Rz.mul (Rz.sub hc ha) (Rz.sub hc ha)) (Rz.mul (Rz.sub hd hb) (Rz.sub hd hb))) (Rz.sub hf hb)) (Rz.mul (Rz.add (Rz.mul (Rz.sub he ha) (Rz.sub he ha)) (Rz.mul (Rz.sub hf hb) (Rz.sub hf hb))) (Rz.sub hd hb))) (Rz.add (Rz.sub (Rz.mul (Rz.sub hc ha) (Rz.sub hf hb)) (Rz.mul (Rz.sub hd hb) (Rz.sub he ha))) (Rz.sub (Rz.mul (Rz.sub hc ha) (Rz.sub hf hb)) (Rz.mul (Rz.sub hd hb) (Rz.sub he ha)))) (by assumption)) (Rz.div (Rz.sub (Rz.mul (Rz.add (Rz.mul (Rz.sub hc ha) (Rz.sub hc ha)) (Rz.mul (Rz.sub hd hb) (Rz.sub hd hb))) (Rz.sub hf hb)) (Rz.mul (Rz.add (Rz.mul (Rz.sub he ha) (Rz.sub he ha)) (Rz.mul (Rz.sub hf hb) (Rz.sub hf hb))) (Rz.sub hd hb))) (Rz.add (Rz.sub (Rz.mul (Rz.sub hc ha) (Rz.sub hf hb)) (Rz.mul (Rz.sub hd hb) (Rz.sub he ha))) (Rz.sub (Rz.mul (Rz.sub hc ha) (Rz.sub hf hb)) (Rz.mul (Rz.sub hd hb) (Rz.sub he ha)))) (by assumption)))) (aX (Rz.mul (Rz.div (Rz.sub (Rz.mul (Rz.add (Rz.mul (Rz.sub he ha) (Rz.sub he ha)) (Rz.mul (Rz.sub hf hb) (Rz.sub hf hb))) (Rz.sub hc ha)) (Rz.mul (Rz.add (Rz.mul (Rz.sub hc ha) (Rz.sub hc ha)) (Rz.mul (Rz.sub hd hb) (Rz.sub hd hb))) (Rz.sub he ha))) (Rz.add (Rz.sub (Rz.mul (Rz.sub hc ha) (Rz.sub hf hb)) (Rz.mul (Rz.sub hd hb) (Rz.sub he ha))) (Rz.sub (Rz.mul (Rz.sub hc ha) (Rz.sub hf hb)) (Rz.mul (Rz.sub hd hb) (Rz.sub he ha)))) (by assumption)) (Rz.div (Rz.sub (Rz.mul (Rz.add (Rz.mul (Rz.sub he ha) (Rz.sub he ha)) (Rz.mul (Rz.sub hf hb) (Rz.sub hf hb))) (Rz.sub hc ha)) (Rz.mul (Rz.add (Rz.mul (Rz.sub hc ha) (Rz.sub hc ha)) (Rz.mul (Rz.sub hd hb) (Rz.sub hd hb))) (Rz.sub he ha))) (Rz.add (Rz.sub (Rz.mul (Rz.sub hc ha) (Rz.sub hf hb)) (Rz.mul (Rz.sub hd hb) (Rz.sub he ha))) (Rz.sub (Rz.mul (Rz.sub hc ha) (Rz.sub hf hb)) (Rz.mul (Rz.sub hd hb) (Rz.sub he ha)))) (by assumption))))))<|aj (aN (us:=(cR (a+((((((c-a)*(c-a))+((d-b)*(d-b)))*(f-b))-((((e-a)*(e-a))+((f-b)*(f-b)))*(d-b)))/((((c-a)*(f-b))-((d-b)*(e-a)))+(((c-a)*(f-b))-((d-b)*(e-a))))))++cR (b+((((((e-a)*(e-a))+((f-b)*(f-b)))*(c-a))-((((c-a)*(c-a))+((d-b)*(d-b)))*(e-a)))/((((c-a)*(f-b))-((d-b)*(e-a)))+(((c-a)*(f-b))-((d-b)*(e-a))))))++cR ((((((((c-a)*(c-a))+((d-b)*(d-b)))*(f-b))-((((e-a)*(e-a))+((f-b)*(f-b)))*(d-b)))/((((c-a)*(f-b))-((d-b)*(e-a)))+(((c-a)*(f-b))-((d-b)*(e-a)))))*((((((c-a)*(c-a))+((d-b)*(d-b)))*(f-b))-((((e-a)*(e-a))+((f-b)*(f-b)))*(d-b)))/((((c-a)*(f-b))-((d-b)*(e-a)))+(((c-a)*(f-b))-((d-b)*(e-a))))))+(((((((e-a)*(e-a))+((f-b)*(f-b)))*(c-a))-((((c-a)*(c-a))+((d-b)*(d-b)))*(e-a)))/((((c-a)*(f-b))-((d-b)*(e-a)))+(((c-a)*(f-b))-((d-b)*(e-a)))))*((((((e-a)*(e-a))+((f-b)*(f-b)))*(c-a))-((((c-a)*(c-a))+((d-b)*(d-b)))*(e-a)))/((((c-a)*(f-b))-((d-b)*(e-a)))+(((c-a)*(f-b))-((d-b)*(e-a))))))))) Qk Eh rfl rfl rfl) ?_
  refine aY<|az<|ag<|an ?_
  exact aq (a7 mJ rfl (aE ae))
theorem LP {a b c d e f:Rat}(ha:Rz 1 a) (hb:Rz 1 b) (hc:Rz 1 c) (hd:Rz 1 d) (he:Rz 1 e) (hf:Rz 1 f) (hn:lj a b c d e f≠0):Ok Tryz.prog 43 [.a ((cR a++cR b)),.a ((cR c++cR d)),.a ((cR e++cR f))] [.a (([.b true]++cS++ca (RS a b c d e f)++[.b (decide (aV ((c-a)*(f-b)) ((d-b)*(e-a))<0))]++au (rP a b)++au (rP e f))),.c (.i .i64 0)]:=by
 refine Ok.fn Tryz.func43 37 [.cell 6 48,.tmp 7] rfl<|aa<|ab<|al 3<|aC (ai eo rfl) rfl<|ag<|aa<|ab<|al 3<|ah (am rfl (Iu ha hb hc hd he hf))<|ag<|aa<|ab<|al 3 ?_
 refine ah (am rfl (VP ha hb hc hd he hf hn))<|al 3<|aC (ai Eh rfl) rfl<|ag<|aa<|aa<|ab<|al 2 ?_
 refine cg (bN rfl) (fun c1 hb1=>?_)
 cases c1
 ·refine ag<|aP rfl<|ao<|aa<|aR 8 rfl rfl<|ap 4<|aj (am rfl (ln))<|ap 1<|aj (am rfl (ln))<|aj (aN (us:=([.b true]++cS++ca (RS a b c d e f)++[.b (decide ((aV ((c-a)*(f-b)) ((d-b)*(e-a)))<0))]++(cR a++cR 0++cR b++cR 0++cR 0)++(cR e++cR 0++cR f++cR 0++cR 0))) Eo eo rfl rfl rfl) ?_
  refine aY<|az<|ag<|an ?_
  exact aq (fr (us:=([.b true]++cS++ca (RS a b c d e f)++[.b (decide ((aV ((c-a)*(f-b)) ((d-b)*(e-a)))<0))]++(cR a++cR 0++cR b++cR 0++cR 0)++(cR e++cR 0++cR f++cR 0++cR 0))) bd rfl rfl (by kernel_rfl) (by kernel_rfl) (aE ae))
 ·exact absurd (I9.1 (by simpa using hb1)) hn
theorem QD {a b c d e f:Rat}(ha:Rz 1 a) (hb:Rz 1 b) (hc:Rz 1 c) (hd:Rz 1 d) (he:Rz 1 e) (hf:Rz 1 f) (hn:lj a b c d e f=0):Ok Tryz.prog 110 [.a ((cR a++cR b)),.a ((cR c++cR d)),.a ((cR e++cR f))] [.a (cS),.c (.i .i64 6)]:=by
 refine Ok.fn Tryz.func110 99 [.cell 6 44,.tmp 7] rfl<|aa<|ab<|al 3<|aC (ai Eh rfl) rfl<|ag<|aa<|aR 24 rfl rfl<|ap 1<|aj (aF (cR c) aD rfl)<|ap 1<|aj (aF (cR a) aD rfl)<|aj (am rfl (eL (aX hc) (aX ha)))<|ap 1 ?_
 refine aj (aF (cR d) aD rfl)<|ap 1<|aj (aF (cR b) aD rfl)<|aj (am rfl (eL (aX hd) (aX hb)))<|ap 1<|aj (aF (cR e) aD rfl)<|ap 1<|aj (aF (cR a) aD rfl)<|aj (am rfl (eL (aX he) (aX ha)))<|ap 1<|aj (aF (cR f) aD rfl)<|ap 1<|aj (aF (cR b) aD rfl)<|aj (am rfl (eL (aX hf) (aX hb))) ?_
 refine ba (ai bJ rfl) rfl<|ba (ai bJ rfl) rfl<|ba (ai bJ rfl) rfl<|ba (ai bJ rfl) rfl<|aY<|lI<|ag<|aa<|aR 8 rfl rfl<|ap 2<|aj (am rfl (cZ (aX (Rz.sub hc ha)) (aX (Rz.sub hf hb))))<|ap 2<|aj (am rfl (cZ (aX (Rz.sub hd hb)) (aX (Rz.sub he ha))))<|aj (am rfl (eL (aX (Rz.mul (Rz.sub hc ha) (Rz.sub hf hb))) (aX (Rz.mul (Rz.sub hd hb) (Rz.sub he ha))))) ?_
 refine ba (ai bJ rfl) rfl<|aY<|bl<|ag<|aa<|aa<|ab<|al 1<|ah (am rfl (db))<|ag ?_
 refine aw rfl (fun hc1=>?_) (fun hc1=>?_)
 ·refine aa<|ab<|ah (aN (us:=cS) Qk Eh rfl rfl rfl) ?_
  refine ag<|an ?_
  exact aq (a7 mJ rfl (aE ae))
 ·exact absurd hc1 (by have h9:=fu.2 hn;simpa [lj] using h9)
theorem NP {a b c d e f:Rat}(ha:Rz 1 a) (hb:Rz 1 b) (hc:Rz 1 c) (hd:Rz 1 d) (he:Rz 1 e) (hf:Rz 1 f) (hn:lj a b c d e f=0):Ok Tryz.prog 43 [.a ((cR a++cR b)),.a ((cR c++cR d)),.a ((cR e++cR f))] [.a (([.b false]++cS++cS++[.b false]++ob++ob)),.c (.i .i64 6)]:=by
 refine Ok.fn Tryz.func43 37 [.cell 6 48,.tmp 7] rfl<|aa<|ab<|al 3<|aC (ai eo rfl) rfl<|ag<|aa<|ab<|al 3<|ah (am rfl (Iu ha hb hc hd he hf))<|ag<|aa<|ab<|al 3 ?_
 refine ah (am rfl (QD ha hb hc hd he hf hn))<|al 3<|aC (ai Eh rfl) rfl<|ag<|aa<|aa<|ab<|al 2 ?_
 refine cg (bN rfl) (fun c1 hb1=>?_)
 cases c1
 ·exact absurd hb1 (by simp[I9.2 hn])
 ·refine ag<|bg rfl<|aa<|ab<|ah (aN (us:=([.b false]++cS++cS++[.b false]++ob++ob)) Eo eo rfl rfl rfl) ?_
  refine ag<|an ?_
  exact aq (fr (us:=([.b false]++cS++cS++[.b false]++ob++ob)) bd rfl rfl (by kernel_rfl) (by kernel_rfl) (aE ae))
theorem Ps {k:Ci}(hk:GK k):Ok Tryz.prog 107 [.a (ca k)] [.a (au (jt k)),.a (au (i9 k))]:=by
 have o1:Rz 60000 (1:Rat):=iy.m_
 refine Ok.fn Tryz.func107 27 [.cell 2 46,.cell 3 46] rfl<|aa<|ab<|al 1<|aC (ai fO rfl) rfl<|aC (ai fO rfl) rfl<|ar<|aa<|ab<|ah (am rfl (dt (gM (by decide) (by decide)) (show((1:Int):Rat)=1 from rfl)))<|ah (am rfl (dt (gM (by decide) (by decide)) (show((0:Int):Rat)=0 from rfl)))<|aC (ai bJ rfl) rfl<|aC (ai bJ rfl) rfl<|ag ?_
 refine aa<|aR 19 rfl rfl<|ap 1<|aj (aF (cR k.x) aD rfl)<|ap 1<|aj (am rfl (r7 o1))<|ap 1<|aj (aF (cR k.y) aD rfl)<|ap 2<|aj (aF (cR k.q) aD rfl)<|aj (am rfl (EW (hk.x.m_) (iy.neg.m_) (hk.y.m_) (Rz.zero (by decide)) (hk.q.m_)))<|ap 1<|aj (aF (cR k.x) aD rfl)<|ap 2 ?_
 refine aj (aF (cR k.y) aD rfl)<|ap 2<|aj (aF (cR k.q) aD rfl)<|aj (am rfl (EW (hk.x.m_) (iy.m_) (hk.y.m_) (Rz.zero (by decide)) (hk.q.m_)))<|aY<|az<|ag<|an ?_
 exact aq (a7 bo rfl (a7 bo rfl ae))
theorem Qf {k:Ci}(hk:GK k):Ok Tryz.prog 178 [.a (ca k)] [.c (.s ((tG k).length) (aI aB (tG k)))]:=by
 refine Ok.fn Tryz.func178 19 [.tmp 2] rfl<|aa<|ab<|ag<|aa<|ab<|al 1<|ah (am rfl (Ps hk))<|al 3<|aC (ai fO rfl) rfl<|aC (ai fO rfl) rfl<|ag<|aa<|ab ?_
 refine al 3<|ah (aN (us:=([.b true]++cS++ca k++[.b false]++au (jt k)++au (i9 k))) Eo eo rfl rfl rfl) ?_
 refine al 3<|ah (aN (us:=([.b true]++cS++ca k++[.b false]++au (i9 k)++au (jt k))) Eo eo rfl rfl rfl) ?_
 refine ah (cC (n:=2) (us:=([.b true]++cS++ca k++[.b false]++au (jt k)++au (i9 k))++([.b true]++cS++ca k++[.b false]++au (i9 k)++au (jt k))) gA rfl (by kernel_rfl) (by kernel_rfl) (by decide) (by decide) rfl) ?_
 refine ag<|an ?_
 exact aq (aE ae)
theorem jL {A U:Int}(hA: -128≤A∧A≤127) (hU:0≤U∧U≤255):Ok Tryz.prog 177 [.c (.i .i8 A),.c (.i .u8 U)] [dR (qD A (uD U))]:=by
 refine Ok.fn Tryz.func177 12 [.cell 4 35] rfl<|aa<|ab<|aC (ai bJ rfl) rfl<|ar<|aa<|ab<|al 1<|ah (bF (r:=A) SL kZ rfl (iU (by omega) (by omega)) rfl) ?_
 refine al 1<|ah (eF (r:=U%4) rfl rfl (by decide) (Int.tmod_eq_emod_of_nonneg hU.1) rfl) ?_
 refine ah (bF (r:=U%4) Kg kZ rfl (iU (by omega) (by omega)) rfl) ?_
 refine ah (aK (r:=uD U) rfl rfl ((aQ (by omega) (by omega)).trans rfl) rfl) ?_
 refine ah (am rfl (yB (by omega) (by omega) (by have:=Bz hU.1;omega) (by have:=Bz hU.1;omega) (by have:=Bz hU.1;omega)))<|ag<|an ?_
 exact aq (a7 aD rfl ae)
theorem Mh {K U A B C D E F:Int}(hK:0≤K∧K≤255) (hU:0≤U∧U≤255) (hA: -128≤A∧A≤127) (hB: -128≤B∧B≤127) (hC: -128≤C∧C≤127) (hD: -128≤D∧D≤127) (_hE: -128≤E∧E≤127) (_hF: -128≤F∧F≤127) {a b c d e f:Rat}(ea:qD A (uD U)=a) (eb:qD B (uD U)=b) (ec:qD C (uD U)=c) (ed:qD D (uD U)=d) (_ee:qD E (uD U)=e) (_ef:qD F (uD U)=f) (_za:Rz 1 a) (_zb:Rz 1 b) (_zc:Rz 1 c) (_zd:Rz 1 d) (_ze:Rz 1 e) (_zf:Rz 1 f) (hk:K%3=2) (hq: ¬0<c):Ok Tryz.prog 98 [.a (([.i .u8 K]++[.i .u8 U]++[.i .i8 A]++[.i .i8 B]++[.i .i8 C]++[.i .i8 D]++[.i .i8 E]++[.i .i8 F]))] [.c (.s 0 [])]:=by
 refine Ok.fn Tryz.func98 80 [.tmp 2] rfl<|aa<|ab<|ag<|aa<|aR 12 rfl rfl<|ap 4<|aj (am rfl (dt (jL ⟨by omega,by omega⟩ ⟨by omega,by omega⟩) ea))<|ap 4<|aj (am rfl (dt (jL ⟨by omega,by omega⟩ ⟨by omega,by omega⟩) eb))<|aj (aN (us:=(cR a++cR b)) nr il rfl rfl rfl) ?_
 refine ba (ai il rfl) rfl<|aY<|bl<|ag<|aa<|aR 12 rfl rfl<|ap 4<|aj (am rfl (dt (jL ⟨by omega,by omega⟩ ⟨by omega,by omega⟩) ec))<|ap 4<|aj (am rfl (dt (jL ⟨by omega,by omega⟩ ⟨by omega,by omega⟩) ed))<|aj (aN (us:=(cR c++cR d)) nr il rfl rfl rfl) ?_
 refine ba (ai il rfl) rfl<|aY<|bl<|ag<|aa<|aa<|ab<|al 2<|ah (eF (r:=K%3) rfl rfl (by decide) (Int.tmod_eq_emod_of_nonneg hK.1) rfl) ?_
 refine ah (bQ (c:=true) (iP rfl) (by rw[hk];rfl)) ?_
 refine ar<|bg rfl<|aa<|ab<|al 4<|ah (am rfl (dt (jL ⟨by omega,by omega⟩ ⟨by omega,by omega⟩) ec))<|aC (ai bJ rfl) rfl<|ag<|aa<|aa<|ab<|al 1<|ah (am rfl (db))<|ag ?_
 refine aw rfl (fun hc1=>?_) (fun hc1=>?_)
 ·refine aa<|ab<|ag<|an ?_
  exact aq (aE ae)
 ·exact absurd (uV (fun h=>of_decide_eq_false hc1 (by omega)) (fun h=>of_decide_eq_false hc1 (by omega))) hq
theorem Mp {K U A B C D E F:Int}(hK:0≤K∧K≤255) (hU:0≤U∧U≤255) (hA: -128≤A∧A≤127) (hB: -128≤B∧B≤127) (hC: -128≤C∧C≤127) (hD: -128≤D∧D≤127) (_hE: -128≤E∧E≤127) (_hF: -128≤F∧F≤127) {a b c d e f:Rat}(ea:qD A (uD U)=a) (eb:qD B (uD U)=b) (ec:qD C (uD U)=c) (ed:qD D (uD U)=d) (_ee:qD E (uD U)=e) (_ef:qD F (uD U)=f) (za:Rz 1 a) (zb:Rz 1 b) (zc:Rz 1 c) (_zd:Rz 1 d) (_ze:Rz 1 e) (_zf:Rz 1 f) (hk:K%3=2) (hq:0<c):Ok Tryz.prog 98 [.a (([.i .u8 K]++[.i .u8 U]++[.i .i8 A]++[.i .i8 B]++[.i .i8 C]++[.i .i8 D]++[.i .i8 E]++[.i .i8 F]))] [.c (.s ((tG ⟨a,b,c⟩).length) (aI aB (tG ⟨a,b,c⟩)))]:=by
 refine Ok.fn Tryz.func98 80 [.tmp 2] rfl<|aa<|ab<|ag<|aa<|aR 12 rfl rfl<|ap 4<|aj (am rfl (dt (jL ⟨by omega,by omega⟩ ⟨by omega,by omega⟩) ea))<|ap 4<|aj (am rfl (dt (jL ⟨by omega,by omega⟩ ⟨by omega,by omega⟩) eb))<|aj (aN (us:=(cR a++cR b)) nr il rfl rfl rfl) ?_
 refine ba (ai il rfl) rfl<|aY<|bl<|ag<|aa<|aR 12 rfl rfl<|ap 4<|aj (am rfl (dt (jL ⟨by omega,by omega⟩ ⟨by omega,by omega⟩) ec))<|ap 4<|aj (am rfl (dt (jL ⟨by omega,by omega⟩ ⟨by omega,by omega⟩) ed))<|aj (aN (us:=(cR c++cR d)) nr il rfl rfl rfl) ?_
 refine ba (ai il rfl) rfl<|aY<|bl<|ag<|aa<|aa<|ab<|al 2<|ah (eF (r:=K%3) rfl rfl (by decide) (Int.tmod_eq_emod_of_nonneg hK.1) rfl) ?_
 refine ah (bQ (c:=true) (iP rfl) (by rw[hk];rfl)) ?_
 refine ar<|bg rfl<|aa<|ab<|al 4<|ah (am rfl (dt (jL ⟨by omega,by omega⟩ ⟨by omega,by omega⟩) ec))<|aC (ai bJ rfl) rfl<|ag<|aa<|aa<|ab<|al 1<|ah (am rfl (db))<|ag ?_
 refine aw rfl (fun hc1=>?_) (fun hc1=>?_)
 ·exact absurd (of_decide_eq_true hc1) (by unfold aV;rw[if_neg (by grind),if_pos hq];decide)
 ·refine ao<|aa<|ab<|al 1<|ah (aF (cR a) aD rfl)<|al 1<|ah (aF (cR b) aD rfl)<|al 1<|ah (aN (us:=(cR a++cR b++cR c)) Qk Eh rfl rfl rfl) ?_
  refine ah (am rfl (Qf (k:=⟨a,b,c⟩) ⟨za,zb,zc.m_⟩))<|ag<|an ?_
  exact aq (aE ae)
theorem EV {K U A B C D E F:Int}(hK:0≤K∧K≤255) (hU:0≤U∧U≤255) (hA: -128≤A∧A≤127) (hB: -128≤B∧B≤127) (hC: -128≤C∧C≤127) (hD: -128≤D∧D≤127) (hE: -128≤E∧E≤127) (hF: -128≤F∧F≤127) {a b c d e f:Rat}(ea:qD A (uD U)=a) (eb:qD B (uD U)=b) (ec:qD C (uD U)=c) (ed:qD D (uD U)=d) (ee:qD E (uD U)=e) (ef:qD F (uD U)=f) (za:Rz 1 a) (zb:Rz 1 b) (zc:Rz 1 c) (zd:Rz 1 d) (ze:Rz 1 e) (zf:Rz 1 f) (hk:K%3=1) (hk2:K%3≠2) {S1:List CellD}{s1:Int}(lS:S1.length=66) (hS:Ok Tryz.prog 45 [.a ((cR a++cR b)),.a ((cR c++cR d))] [.a S1,.c (.i .i64 s1)]) (hn:lj a b c d e f≠0):Ok Tryz.prog 98 [.a (([.i .u8 K]++[.i .u8 U]++[.i .i8 A]++[.i .i8 B]++[.i .i8 C]++[.i .i8 D]++[.i .i8 E]++[.i .i8 F]))] [.c (.s (([Dm a b c d e f]).length) (aI aB ([Dm a b c d e f])))]:=by
 refine Ok.fn Tryz.func98 80 [.tmp 2] rfl<|aa<|ab<|ag<|aa<|aR 12 rfl rfl<|ap 4<|aj (am rfl (dt (jL ⟨by omega,by omega⟩ ⟨by omega,by omega⟩) ea))<|ap 4<|aj (am rfl (dt (jL ⟨by omega,by omega⟩ ⟨by omega,by omega⟩) eb))<|aj (aN (us:=(cR a++cR b)) nr il rfl rfl rfl) ?_
 refine ba (ai il rfl) rfl<|aY<|bl<|ag<|aa<|aR 12 rfl rfl<|ap 4<|aj (am rfl (dt (jL ⟨by omega,by omega⟩ ⟨by omega,by omega⟩) ec))<|ap 4<|aj (am rfl (dt (jL ⟨by omega,by omega⟩ ⟨by omega,by omega⟩) ed))<|aj (aN (us:=(cR c++cR d)) nr il rfl rfl rfl) ?_
 refine ba (ai il rfl) rfl<|aY<|bl<|ag<|aa<|aa<|ab<|al 2<|ah (eF (r:=K%3) rfl rfl (by decide) (Int.tmod_eq_emod_of_nonneg hK.1) rfl) ?_
 refine ah (bQ (c:=false) (iP rfl) (by simpa using hk2)) ?_
 refine ar<|aP rfl<|ao<|aa<|ab<|al 2<|ah (am rfl (hS))<|al 3<|aC (ai eo rfl) rfl<|bL (aZ bd rfl rfl rfl (lS) rfl rfl) ?_
 refine ag<|aa<|aa<|ab<|al 2<|ah (eF (r:=K%3) rfl rfl (by decide) (Int.tmod_eq_emod_of_nonneg hK.1) rfl) ?_
 refine ah (bQ (c:=true) (iP rfl) (by rw[hk];rfl)) ?_
 refine ar<|bg rfl<|bZ 19 [6,999999] aU (by kernel_rfl) rfl rfl<|ap 6<|aj (am rfl (dt (jL ⟨by omega,by omega⟩ ⟨by omega,by omega⟩) ee))<|ap 4<|aj (am rfl (dt (jL ⟨by omega,by omega⟩ ⟨by omega,by omega⟩) ef))<|aj (aN (us:=(cR e++cR f)) nr il rfl rfl rfl) ?_
 refine aj (am rfl (LP za zb zc zd ze zf hn))<|ap 3<|gw (aZ bd rfl rfl rfl rfl lS rfl) rfl rfl rfl rfl ?_
 refine bk<|bl<|ar<|aa<|aa<|ab<|ag<|aP rfl<|ao<|aa<|ab<|al 1<|ah (cC (n:=1) (us:=([.b true]++cS++ca (RS a b c d e f)++[.b (decide (aV ((c-a)*(f-b)) ((d-b)*(e-a))<0))]++au (rP a b)++au (rP e f))) gA rfl rfl rfl (by decide) (by decide) rfl) ?_
 refine ag<|an ?_
 exact aq (aE ae)
theorem MK {K U A B C D E F:Int}(hK:0≤K∧K≤255) (hU:0≤U∧U≤255) (hA: -128≤A∧A≤127) (hB: -128≤B∧B≤127) (hC: -128≤C∧C≤127) (hD: -128≤D∧D≤127) (_hE: -128≤E∧E≤127) (_hF: -128≤F∧F≤127) {a b c d e f:Rat}(ea:qD A (uD U)=a) (eb:qD B (uD U)=b) (ec:qD C (uD U)=c) (ed:qD D (uD U)=d) (_ee:qD E (uD U)=e) (_ef:qD F (uD U)=f) (za:Rz 1 a) (zb:Rz 1 b) (zc:Rz 1 c) (zd:Rz 1 d) (_ze:Rz 1 e) (_zf:Rz 1 f) (hk1:K%3≠1) (hk2:K%3≠2) (hs: ¬(b-d=0∧c-a=0)):Ok Tryz.prog 98 [.a (([.i .u8 K]++[.i .u8 U]++[.i .i8 A]++[.i .i8 B]++[.i .i8 C]++[.i .i8 D]++[.i .i8 E]++[.i .i8 F]))] [.c (.s (([LN a b c d]).length) (aI aB ([LN a b c d])))]:=by
 refine Ok.fn Tryz.func98 80 [.tmp 2] rfl<|aa<|ab<|ag<|aa<|aR 12 rfl rfl<|ap 4<|aj (am rfl (dt (jL ⟨by omega,by omega⟩ ⟨by omega,by omega⟩) ea))<|ap 4<|aj (am rfl (dt (jL ⟨by omega,by omega⟩ ⟨by omega,by omega⟩) eb))<|aj (aN (us:=(cR a++cR b)) nr il rfl rfl rfl) ?_
 refine ba (ai il rfl) rfl<|aY<|bl<|ag<|aa<|aR 12 rfl rfl<|ap 4<|aj (am rfl (dt (jL ⟨by omega,by omega⟩ ⟨by omega,by omega⟩) ec))<|ap 4<|aj (am rfl (dt (jL ⟨by omega,by omega⟩ ⟨by omega,by omega⟩) ed))<|aj (aN (us:=(cR c++cR d)) nr il rfl rfl rfl) ?_
 refine ba (ai il rfl) rfl<|aY<|bl<|ag<|aa<|aa<|ab<|al 2<|ah (eF (r:=K%3) rfl rfl (by decide) (Int.tmod_eq_emod_of_nonneg hK.1) rfl) ?_
 refine ah (bQ (c:=false) (iP rfl) (by simpa using hk2)) ?_
 refine ar<|aP rfl<|ao<|aa<|ab<|al 2<|ah (am rfl (EH za zb zc zd hs))<|al 3<|aC (ai eo rfl) rfl<|ag<|aa<|aa<|ab<|al 2 ?_
 refine ah (eF (r:=K%3) rfl rfl (by decide) (Int.tmod_eq_emod_of_nonneg hK.1) rfl) ?_
 refine ah (bQ (c:=false) (iP rfl) (by simpa using hk1)) ?_
 refine ar<|aP rfl<|ao<|aa<|aa<|ab<|ag<|aP rfl<|ao<|aa<|ab<|al 1<|ah (cC (n:=1) (us:=([.b false]++dV (My a b c d)++cS++[.b false]++au (rP a b)++au (rP c d))) gA rfl rfl rfl (by decide) (by decide) rfl) ?_
 refine ag<|an ?_
 exact aq (aE ae)
theorem Fk {K U A B C D E F:Int}(hK:0≤K∧K≤255) (hU:0≤U∧U≤255) (hA: -128≤A∧A≤127) (hB: -128≤B∧B≤127) (hC: -128≤C∧C≤127) (hD: -128≤D∧D≤127) (hE: -128≤E∧E≤127) (hF: -128≤F∧F≤127) {a b c d e f:Rat}(ea:qD A (uD U)=a) (eb:qD B (uD U)=b) (ec:qD C (uD U)=c) (ed:qD D (uD U)=d) (ee:qD E (uD U)=e) (ef:qD F (uD U)=f) (za:Rz 1 a) (zb:Rz 1 b) (zc:Rz 1 c) (zd:Rz 1 d) (ze:Rz 1 e) (zf:Rz 1 f) (hk:K%3=1) (hk2:K%3≠2) {S1:List CellD}{s1:Int}(lS:S1.length=66) (hS:Ok Tryz.prog 45 [.a ((cR a++cR b)),.a ((cR c++cR d))] [.a S1,.c (.i .i64 s1)]) (hn:lj a b c d e f=0):Ok Tryz.prog 98 [.a (([.i .u8 K]++[.i .u8 U]++[.i .i8 A]++[.i .i8 B]++[.i .i8 C]++[.i .i8 D]++[.i .i8 E]++[.i .i8 F]))] [.c (.s 0 [])]:=by
 refine Ok.fn Tryz.func98 80 [.tmp 2] rfl<|aa<|ab<|ag<|aa<|aR 12 rfl rfl<|ap 4<|aj (am rfl (dt (jL ⟨by omega,by omega⟩ ⟨by omega,by omega⟩) ea))<|ap 4<|aj (am rfl (dt (jL ⟨by omega,by omega⟩ ⟨by omega,by omega⟩) eb))<|aj (aN (us:=(cR a++cR b)) nr il rfl rfl rfl) ?_
 refine ba (ai il rfl) rfl<|aY<|bl<|ag<|aa<|aR 12 rfl rfl<|ap 4<|aj (am rfl (dt (jL ⟨by omega,by omega⟩ ⟨by omega,by omega⟩) ec))<|ap 4<|aj (am rfl (dt (jL ⟨by omega,by omega⟩ ⟨by omega,by omega⟩) ed))<|aj (aN (us:=(cR c++cR d)) nr il rfl rfl rfl) ?_
 refine ba (ai il rfl) rfl<|aY<|bl<|ag<|aa<|aa<|ab<|al 2<|ah (eF (r:=K%3) rfl rfl (by decide) (Int.tmod_eq_emod_of_nonneg hK.1) rfl) ?_
 refine ah (bQ (c:=false) (iP rfl) (by simpa using hk2)) ?_
 refine ar<|aP rfl<|ao<|aa<|ab<|al 2<|ah (am rfl (hS))<|al 3<|aC (ai eo rfl) rfl<|bL (aZ bd rfl rfl rfl (lS) rfl rfl) ?_
 refine ag<|aa<|aa<|ab<|al 2<|ah (eF (r:=K%3) rfl rfl (by decide) (Int.tmod_eq_emod_of_nonneg hK.1) rfl) ?_
 refine ah (bQ (c:=true) (iP rfl) (by rw[hk];rfl)) ?_
 refine ar<|bg rfl<|bZ 19 [6,999999] aU (by kernel_rfl) rfl rfl<|ap 6<|aj (am rfl (dt (jL ⟨by omega,by omega⟩ ⟨by omega,by omega⟩) ee))<|ap 4<|aj (am rfl (dt (jL ⟨by omega,by omega⟩ ⟨by omega,by omega⟩) ef))<|aj (aN (us:=(cR e++cR f)) nr il rfl rfl rfl) ?_
 refine aj (am rfl (NP za zb zc zd ze zf hn))<|ap 3<|gw (aZ bd rfl rfl rfl rfl lS rfl) rfl rfl rfl rfl ?_
 refine bk<|bl<|ar<|aa<|aa<|ab<|ag<|bg rfl<|aa<|ab<|ag<|an ?_
 exact aq (aE ae)
theorem NS {K U A B C D E F:Int}(hK:0≤K∧K≤255) (hU:0≤U∧U≤255) (hA: -128≤A∧A≤127) (hB: -128≤B∧B≤127) (hC: -128≤C∧C≤127) (hD: -128≤D∧D≤127) (_hE: -128≤E∧E≤127) (_hF: -128≤F∧F≤127) {a b c d e f:Rat}(ea:qD A (uD U)=a) (eb:qD B (uD U)=b) (ec:qD C (uD U)=c) (ed:qD D (uD U)=d) (_ee:qD E (uD U)=e) (_ef:qD F (uD U)=f) (za:Rz 1 a) (zb:Rz 1 b) (zc:Rz 1 c) (zd:Rz 1 d) (_ze:Rz 1 e) (_zf:Rz 1 f) (hk1:K%3≠1) (hk2:K%3≠2) (hs:b-d=0∧c-a=0):Ok Tryz.prog 98 [.a (([.i .u8 K]++[.i .u8 U]++[.i .i8 A]++[.i .i8 B]++[.i .i8 C]++[.i .i8 D]++[.i .i8 E]++[.i .i8 F]))] [.c (.s 0 [])]:=by
 refine Ok.fn Tryz.func98 80 [.tmp 2] rfl<|aa<|ab<|ag<|aa<|aR 12 rfl rfl<|ap 4<|aj (am rfl (dt (jL ⟨by omega,by omega⟩ ⟨by omega,by omega⟩) ea))<|ap 4<|aj (am rfl (dt (jL ⟨by omega,by omega⟩ ⟨by omega,by omega⟩) eb))<|aj (aN (us:=(cR a++cR b)) nr il rfl rfl rfl) ?_
 refine ba (ai il rfl) rfl<|aY<|bl<|ag<|aa<|aR 12 rfl rfl<|ap 4<|aj (am rfl (dt (jL ⟨by omega,by omega⟩ ⟨by omega,by omega⟩) ec))<|ap 4<|aj (am rfl (dt (jL ⟨by omega,by omega⟩ ⟨by omega,by omega⟩) ed))<|aj (aN (us:=(cR c++cR d)) nr il rfl rfl rfl) ?_
 refine ba (ai il rfl) rfl<|aY<|bl<|ag<|aa<|aa<|ab<|al 2<|ah (eF (r:=K%3) rfl rfl (by decide) (Int.tmod_eq_emod_of_nonneg hK.1) rfl) ?_
 refine ah (bQ (c:=false) (iP rfl) (by simpa using hk2)) ?_
 refine ar<|aP rfl<|ao<|aa<|ab<|al 2<|ah (am rfl (zZ za zb zc zd hs))<|al 3<|aC (ai eo rfl) rfl<|ag<|aa<|aa<|ab<|al 2 ?_
 refine ah (eF (r:=K%3) rfl rfl (by decide) (Int.tmod_eq_emod_of_nonneg hK.1) rfl) ?_
 refine ah (bQ (c:=false) (iP rfl) (by simpa using hk1)) ?_
 refine ar<|aP rfl<|ao<|aa<|aa<|ab<|ag<|bg rfl<|aa<|ab<|ag<|an ?_
 exact aq (aE ae)
theorem Ta {K U A B C D E F:Int}(hK:0≤K∧K≤255) (hU:0≤U∧U≤255) (hA: -128≤A∧A≤127) (hB: -128≤B∧B≤127) (hC: -128≤C∧C≤127) (hD: -128≤D∧D≤127) (hE: -128≤E∧E≤127) (hF: -128≤F∧F≤127):Ok Tryz.prog 98 [.a (([.i .u8 K]++[.i .u8 U]++[.i .i8 A]++[.i .i8 B]++[.i .i8 C]++[.i .i8 D]++[.i .i8 E]++[.i .i8 F]))] [.c (.s ((pA K U A B C D E F).length) (aI aB (pA K U A B C D E F)))]:=by
 have u:=Bz hU.1
 unfold pA
 by_cases hk:K%3=2
 ·rw[if_pos hk]
  by_cases hq:0<qD C (uD U)
  ·rw[if_pos hq];exact Mp hK hU hA hB hC hD hE hF rfl rfl rfl rfl rfl rfl (ce hA u) (ce hB u) (ce hC u) (ce hD u) (ce hE u) (ce hF u) hk hq
  ·rw[if_neg hq];exact Mh hK hU hA hB hC hD hE hF rfl rfl rfl rfl rfl rfl (ce hA u) (ce hB u) (ce hC u) (ce hD u) (ce hE u) (ce hF u) hk hq
 ·rw[if_neg hk]
  by_cases hk1:K%3=1
  ·rw[if_pos hk1]
   by_cases hn:lj (qD A (uD U)) (qD B (uD U)) (qD C (uD U)) (qD D (uD U)) (qD E (uD U)) (qD F (uD U))=0
   ·rw[if_pos hn]
    by_cases hs:qD B (uD U)-qD D (uD U)=0∧qD C (uD U)-qD A (uD U)=0
    ·exact Fk hK hU hA hB hC hD hE hF rfl rfl rfl rfl rfl rfl (ce hA u) (ce hB u) (ce hC u) (ce hD u) (ce hE u) (ce hF u) hk1 hk rfl (zZ (ce hA u) (ce hB u) (ce hC u) (ce hD u) hs) hn
    ·exact Fk hK hU hA hB hC hD hE hF rfl rfl rfl rfl rfl rfl (ce hA u) (ce hB u) (ce hC u) (ce hD u) (ce hE u) (ce hF u) hk1 hk rfl (EH (ce hA u) (ce hB u) (ce hC u) (ce hD u) hs) hn
   ·rw[if_neg hn]
    by_cases hs:qD B (uD U)-qD D (uD U)=0∧qD C (uD U)-qD A (uD U)=0
    ·exact EV hK hU hA hB hC hD hE hF rfl rfl rfl rfl rfl rfl (ce hA u) (ce hB u) (ce hC u) (ce hD u) (ce hE u) (ce hF u) hk1 hk rfl (zZ (ce hA u) (ce hB u) (ce hC u) (ce hD u) hs) hn
    ·exact EV hK hU hA hB hC hD hE hF rfl rfl rfl rfl rfl rfl (ce hA u) (ce hB u) (ce hC u) (ce hD u) (ce hE u) (ce hF u) hk1 hk rfl (EH (ce hA u) (ce hB u) (ce hC u) (ce hD u) hs) hn
  ·rw[if_neg hk1]
   by_cases hs:qD B (uD U)-qD D (uD U)=0∧qD C (uD U)-qD A (uD U)=0
   ·rw[if_pos hs];exact NS hK hU hA hB hC hD hE hF rfl rfl rfl rfl rfl rfl (ce hA u) (ce hB u) (ce hC u) (ce hD u) (ce hE u) (ce hF u) hk1 hk hs
   ·rw[if_neg hs];exact MK hK hU hA hB hC hD hE hF rfl rfl rfl rfl rfl rfl (ce hA u) (ce hB u) (ce hC u) (ce hD u) (ce hE u) (ce hF u) hk1 hk hs
end Go.Proofs.YtkmdgigkbhmilaaGreat
