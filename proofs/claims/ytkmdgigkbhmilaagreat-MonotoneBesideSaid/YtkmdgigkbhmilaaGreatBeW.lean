/-An arc divided:the program. -/
import Derived.Test.YtkmdgigkbhmilaaGreatBeV
import Derived.Test.YtkmdgigkbhmilaaGreatRows
import Derived.Deep.Slices
import Derived.ProofKit
import Derived.OpenShut
import Derived.Carry
namespace Go.Proofs.YtkmdgigkbhmilaaGreat
open Go Go.RowKit
variable {c:Cv}{n:Int}{rs:List CellD}{L:List Pt}{c9:Nat}{f t:Pt}
theorem ti:type_of% @DataW.trod_int:=@DataW.trod_int
theorem zL:type_of% @Tryz.underlying22:=@Tryz.underlying22
theorem abE (vc:CvV c) (ha:c.isArc=true) (hG: ∀p∈L,GP p) (lL:L.length≤12) (hpw:L.Pairwise fun a b=>cP a b≠0) (hl:0<L.length):Ok Tryz.prog 184 [.a (ap c),.c (.s ((L).length) (aI aj (L)))] [.c (.s L.length (aI aj (bO dPt (co c) L)))]:=by
 have hS: ∀p∈(bO dPt (co c) L),GP p:=fun p h=>hG p ((mI _).mem_iff.1 h)
 have lS:(bO dPt (co c) L).length≤12:=by rw[dD];exact lL
 refine fD Tryz.func184 12 [.tmp 4] rfl<|aa<|ah<|aa<|bo<|bR 1 ?_
 refine uJ rfl rfl (ab8 hl lL) rfl rfl (fun cg1 rg1 hga1 hgb1 hgc1=>?_)
 refine fN<|aa<|mG (t:=2) (k:=2) rfl rfl<|ah<|ar (nZ (us:=[.p (ap c)]) rfl rfl) ?_
 refine DL.mk<|uz (nG rfl rfl rfl rfl rfl (Y6 vc ha hl lL hG) rfl)<|fE ?_
 refine aa ?_
 refine dj (t:=1) (m:=20) (us:=aI aj (bO dPt (co c) L)) rfl rfl (lE (n:=L.length) ((aG aP _).trans (by rw[dD])) (by assumption) (by omega)) (by omega) (by assumption) (iX ((aG aP _).trans (by rw[dD])))<|ah<|ac rfl ((by have h9:=Zu hS lS (Wn hG hpw);rw[dD] at h9;exact h9)) ?_
 refine bb ?_
 exact ai (al ae)
theorem abP:Ok Tryz.prog 184 [.a (ap c),.c (.s 0 [])] [.c (.s 0 [])]:=by
 refine fD Tryz.func184 12 [.tmp 4] rfl<|aa<|ah<|aa<|ah<|ac rfl (abz) ?_
 refine aa<|mG (t:=2) (k:=2) rfl rfl<|ah<|ar (nZ (us:=[.p (ap c)]) rfl rfl) ?_
 refine ac rfl (Xi) ?_
 refine aa<|ah<|ac rfl ((show Ok _ _ _ [.c (.s 0 [])] from Zu (S:=[]) (fun p h=>by cases h) (iH _) (fun i h=>by cases h)))<|bb ?_
 exact ai (al ae)
theorem ab3 (vc:CvV c) (ha:c.isArc=true) (hG: ∀p∈L,GP p) (lL:L.length≤12) (hpw:L.Pairwise fun a b=>cP a b≠0):Ok Tryz.prog 184 [.a (ap c),.c (.s ((L).length) (aI aj (L)))] [.c (.s L.length (aI aj (bO dPt (co c) L)))]:=by
 rcases jZ L.length with h|h
 ·obtain rfl:=lJ.1 h
  exact abP
 ·exact abE vc ha hG lL hpw h
theorem Up (vc:CvV c) (ha:c.isArc=true) (hG: ∀p∈L,GP p) (lL:L.length≤12) (hpw:L.Pairwise fun a b=>cP a b≠0) (hin: ∀p∈L,c.inner p=true):OkN Tryz.prog 103 [.a (ap c),.c (.s ((L).length) (aI aj (L)))] 48 ((nl c (bO dPt (co c) L)).length) 66 (aI ap (nl c (bO dPt (co c) L))) [.c (.i .i64 0)]:=by
 have hS: ∀p∈(bO dPt (co c) L),GP p∧c.inner p=true:=fun p h=>⟨hG p ((mI _).mem_iff.1 h),hin p ((mI _).mem_iff.1 h)⟩
 have eS:(bO dPt (co c) L).length=L.length:=dD _
 refine OkN.of (by kernel_rfl) Tryz.func103 rfl rfl ?_
 rw[show Tryz.f103.ntmps=47 from rfl]
 refine aa<|bo<|bR 1<|a7 (gV rfl) ?_
 refine fN<|aa<|aa<|mG (t:=2) (k:=2) rfl rfl<|ah<|ar (nZ (us:=[.p (ap c)]) rfl rfl) ?_
 refine ac rfl (ace vc ha hG lL (fun p h=>HL (hin p h)))<|ba rfl<|aJ<|aa<|bo<|a7 (gV rfl) ?_
 refine bj<|aa<|ah<|ar (kV (us:=ap c) aY rfl (iB (rZ (ag _))) (ag _) rfl) ?_
 refine jF (bn aY rfl rfl rfl (ag _) rfl rfl) ?_
 refine aa<|aa<|ah<|ar (kV (us:=ap c) aY rfl (iB (rZ (ag _))) (ag _) rfl) ?_
 refine ac rfl (ab3 vc ha hG lL hpw) ?_
 refine aT ?_
 refine uX (ι:={x9:Nat×Nat×List CellD // 1≤x9.1∧x9.1≤L.length∧x9.1≤x9.2.1∧x9.2.1≤maxLen∧x9.2.2.length=(x9.2.1-x9.1)*66}) (fun i=>⟨47,[(2,.v (.c (.p (ap c)))),(6,.o 41 i.1.1 i.1.2.1),(7,.p 7 0),(17,.v (.c (.s L.length (aI aj (bO dPt (co c) L))))),(18,.v (.c (.i .i64 (L.length:Int)))),(19,.v (.c (.i .i64 (i.1.1:Int))))],[(7,48,ap ((c.ends (nO c (bO dPt (co c) L) i.1.1) c.q))),(41,48,aI ap (rR c (bO dPt (co c) L) i.1.1)++i.1.2.2)]⟩) (fun i=>L.length-i.1.1) (L.length+1) ?_ ?_
 ·refine aa<|ah<|aa ?_
  refine aX rfl (fun hc1=>?_) (fun hc1=>?_)
  ·have g1:0<L.length:=by have:=of_decide_eq_true hc1;omega
   have hx:=hS _ (cz (d:=dPt) (show 0<(bO dPt (co c) L).length by rw[eS];exact g1))
   refine aJ<|aa<|aT<|aa<|ah ?_
   refine ar (bJ (us:=aj ((bO dPt (co c) L).getD 0 dPt)++aI aj ((bO dPt (co c) L).drop (0+1))) fw rfl rfl (by omega) ((aG aP _).trans (by rw[dD])) (gj aP (eJ (by rw[dD];exact g1))) rfl) ?_
   refine ar (oV aP bv rfl) ?_
   refine aa ?_
   refine aa ?_
   refine ah ?_
   refine ar (sZ QU rfl rfl rfl) ?_
   refine ar (db (us:=aj c.p) bv rfl (fl _) rfl rfl) ?_
   refine ac rfl (jQ (c:=false) (ym hx.1 (cn vc.g)) (beq_eq_false_iff_ne.2 (rI vc.g hx.1 hx.2).1)) ?_
   refine ar (bp rfl) ?_
   refine ar (sZ Pg rfl rfl rfl) ?_
   refine ar (db (us:=aj c.q) bv rfl (f5 _) rfl rfl) ?_
   refine ac rfl (jQ (c:=false) (ym hx.1 (dy vc.g)) (beq_eq_false_iff_ne.2 (rI vc.g hx.1 hx.2).2)) ?_
   refine ba rfl ?_
   refine aJ ?_
   refine aa ?_
   refine ah ?_
   refine ar (cD (ag _) aY rfl) ?_
   refine jF (bn aY rfl rfl rfl (ag _) rfl rfl) ?_
   refine aa<|di 6 [10,7,999999] ?_
   refine DQ.mk ?_
   refine i4 (bm (us:=ap (c.ends c.p ((((bO dPt (co c) L).getD 0 dPt))))) bv rfl rfl rfl rfl (by rw[ag];decide) (Dh _ _) rfl) rfl rfl rfl rfl<|dY ?_
   refine DQ.mk ?_
   refine i4 (bm (us:=ap (c.setp ((((bO dPt (co c) L).getD 0 dPt))))) bv rfl rfl rfl rfl (by rw[ag];decide) (wu _ _) rfl) rfl rfl rfl rfl<|dY ?_
   refine ah ?_
   refine ar (cD (ag _) aY rfl) ?_
   refine ar (cV (n:=1) (us:=ap (c.ends c.p ((((bO dPt (co c) L).getD 0 dPt))))) ja rfl (tM rfl (ag _)) (dX (ag _)) (by decide) (by decide) rfl) ?_
   refine DL.mk<|pK (ys:=ap (c.ends c.p ((((bO dPt (co c) L).getD 0 dPt))))) ja rfl rfl (dX (ag _)) (by decide) (by decide) (by decide) rfl rfl (fun cg2 rg2 hga2 hgb2 hgc2=>fE ?_)
   refine ah<|ar (gI (r:=1) rfl rfl rfl rfl) ?_
   exact⟨⟨⟨1,cg2,rg2⟩,cK _,g1,hga2,hgb2,hgc2⟩,aB ⟨rfl,rfl,rfl,rfl,rfl,rfl,trivial⟩ ⟨congrArg (fun q=>some (48,ap q)) (by rw[M8];rfl),congrArg (fun q=>some (48,q++rg2)) (by rw[MY (by rw[eS];exact g1),lU]),trivial⟩ rfl,by show L.length-1<L.length+1;omega⟩
  ·have hz:(bO dPt (co c) L)=[]:=lJ.1 (by have:=of_decide_eq_false hc1;omega)
   have eC:nl c (bO dPt (co c) L)=[c]:=by rw[hz];exact congrArg (fun q=>[q]) (Mg c)
   have eN:(nl c (bO dPt (co c) L)).length=1:=by rw[eC];rfl
   refine bG ?_
   refine aa ?_
   refine ah ?_
   refine ar (cD (ag _) aY rfl) ?_
   refine ar (cV (n:=1) (us:=ap c) ja rfl (tM rfl (ag _)) (dX (ag _)) (by decide) (by decide) rfl) ?_
   refine DL.mk<|pK (ys:=ap c) ja rfl rfl (dX (ag _)) (by decide) (by decide) (by decide) rfl rfl (fun cg3 rg3 hga3 hgb3 hgc3=>fE ?_)
   refine bb ?_
   exact⟨.inr rfl,4,46,cg3,[.tmp 5],rg3,rfl,congrArg (fun q=>some (DV.o 46 q cg3)) (eN.symm),congrArg (fun q=>some (48,q++rg3)) (by rw[eC,lU]),by omega,by assumption,by rw[eN];assumption,(al ae)⟩
 ·rintro⟨⟨n,c9,rs⟩,h1,h2,h3,h4,h5⟩
  dsimp only at h1 h2 h3 h4 h5
  show Dw _ _ ⟨47,[(2,.v (.c (.p (ap c)))),(6,.o 41 n c9),(7,.p 7 0),(17,.v (.c (.s L.length (aI aj (bO dPt (co c) L))))),(18,.v (.c (.i .i64 (L.length:Int)))),(19,.v (.c (.i .i64 (n:Int))))],[(7,48,ap ((c.ends (nO c (bO dPt (co c) L) n) c.q))),(41,48,aI ap (rR c (bO dPt (co c) L) n)++rs)]⟩ _
  refine aa<|ah<|aa ?_
  refine aX rfl (fun hc4=>?_) (fun hc4=>?_)
  ·have g1:n<L.length:=by have:=of_decide_eq_true hc4;omega
   have hx:=hS _ (cz (d:=dPt) (show n<(bO dPt (co c) L).length by rw[eS];exact g1))
   refine aJ<|aa<|aT<|aa<|ah ?_
   refine ar (bJ (us:=aj ((bO dPt (co c) L).getD n dPt)++aI aj ((bO dPt (co c) L).drop (n+1))) fw rfl rfl (by omega) ((aG aP _).trans (by rw[dD])) (gj aP (eJ (by rw[dD];exact g1))) rfl) ?_
   refine ar (oV aP bv rfl) ?_
   refine aa ?_
   refine aa ?_
   refine ah ?_
   refine ar (sZ QU rfl rfl rfl) ?_
   refine ar (db (us:=aj c.p) bv rfl (fl _) rfl rfl) ?_
   refine ac rfl (jQ (c:=false) (ym hx.1 (cn vc.g)) (beq_eq_false_iff_ne.2 (rI vc.g hx.1 hx.2).1)) ?_
   refine ar (bp rfl) ?_
   refine ar (sZ Pg rfl rfl rfl) ?_
   refine ar (db (us:=aj c.q) bv rfl (f5 _) rfl rfl) ?_
   refine ac rfl (jQ (c:=false) (ym hx.1 (dy vc.g)) (beq_eq_false_iff_ne.2 (rI vc.g hx.1 hx.2).2)) ?_
   refine ba rfl ?_
   refine aJ ?_
   refine aa ?_
   refine ah ?_
   refine ar (cD (ag _) aY rfl) ?_
   refine jF (bn aY rfl rfl rfl (ag _) rfl rfl) ?_
   refine aa<|di 6 [10,7,999999] ?_
   refine DQ.mk ?_
   refine i4 (bm (us:=ap (((c.ends (nO c (bO dPt (co c) L) n) c.q)).ends ((c.ends (nO c (bO dPt (co c) L) n) c.q)).p ((((bO dPt (co c) L).getD n dPt))))) bv rfl rfl rfl rfl (by rw[ag];decide) (Dh _ _) rfl) rfl rfl rfl rfl<|dY ?_
   refine DQ.mk ?_
   refine i4 (bm (us:=ap (((c.ends (nO c (bO dPt (co c) L) n) c.q)).setp ((((bO dPt (co c) L).getD n dPt))))) bv rfl rfl rfl rfl (by rw[ag];decide) (wu _ _) rfl) rfl rfl rfl rfl<|dY ?_
   refine ah ?_
   refine ar (cD (ag _) aY rfl) ?_
   refine ar (cV (n:=1) (us:=ap (((c.ends (nO c (bO dPt (co c) L) n) c.q)).ends ((c.ends (nO c (bO dPt (co c) L) n) c.q)).p ((((bO dPt (co c) L).getD n dPt))))) ja rfl (tM rfl (ag _)) (dX (ag _)) (by decide) (by decide) rfl) ?_
   refine DL.mk ?_
   refine vX (us:=aI ap (rR c (bO dPt (co c) L) n)) (rest:=rs) (ys:=ap (((c.ends (nO c (bO dPt (co c) L) n) c.q)).ends ((c.ends (nO c (bO dPt (co c) L) n) c.q)).p ((((bO dPt (co c) L).getD n dPt))))) ja rfl rfl rfl ((aG ag _).trans (by rw[Eh (by rw[dD];omega)])) (by assumption) (dX (ag _)) (by decide) (by omega) (by assumption) (by omega) (jA (by omega)) (.inl rfl) rfl (fun cg5 rg5 hga5 hgb5 hgc5=>fE ?_)
   refine ah<|ar (fB (by omega) rfl) ?_
   exact⟨⟨⟨n+1,cg5,rg5⟩,by omega,g1,hga5,hgb5,hgc5⟩,aB ⟨rfl,rfl,rfl,rfl,rfl,rfl,trivial⟩ ⟨congrArg (fun q=>some (48,ap q)) (by rw[MG,Nu]),congrArg (fun q=>some (48,q++rg5)) (by rw[Eb (by rw[eS];exact g1),io,lU,Mj]),trivial⟩ rfl,by show L.length-(n+1)<L.length-n;omega⟩
  ·have hp:n=(bO dPt (co c) L).length:=by have:=of_decide_eq_false hc4;omega
   have eN:(nl c (bO dPt (co c) L)).length=n+1:=by rw[Cc,hp]
   have eC:aI ap (rR c (bO dPt (co c) L) n)++ap (c.ends (nO c (bO dPt (co c) L) n) c.q)=aI ap (nl c (bO dPt (co c) L)):=by rw[Q3,io,lU,hp]
   refine bG ?_
   refine aa ?_
   refine ah ?_
   refine ar (cD (ag _) aY rfl) ?_
   refine ar (cV (n:=1) (us:=ap ((c.ends (nO c (bO dPt (co c) L) n) c.q))) ja rfl (tM rfl (ag _)) (dX (ag _)) (by decide) (by decide) rfl) ?_
   refine DL.mk ?_
   refine vX (us:=aI ap (rR c (bO dPt (co c) L) n)) (rest:=rs) (ys:=ap ((c.ends (nO c (bO dPt (co c) L) n) c.q))) ja rfl rfl rfl ((aG ag _).trans (by rw[Eh (by rw[dD];omega)])) (by assumption) (dX (ag _)) (by decide) (by omega) (by assumption) (by omega) (jA (by omega)) (.inr rfl) rfl (fun cg6 rg6 hga6 hgb6 hgc6=>fE ?_)
   refine bb ?_
   exact⟨.inr rfl,4,46,cg6,[.tmp 5],rg6,rfl,congrArg (fun q=>some (DV.o 46 q cg6)) (eN.symm),congrArg (fun q=>some (48,q++rg6)) (eC),by omega,by assumption,by rw[eN];assumption,(al ae)⟩
theorem aar {L:List Cv}(hn1:1≤L.length) (hn:L.length≤12) (hG: ∀x∈L,CvV x):OkS Tryz.prog 253 48 L.length c9 (aI ap L++rs) (aI ap (bO bV gB L)++rs) [.c (.i .i64 0),.c (.i .i64 (L.length:Int)),.c (.f 26)]:=by
 refine OkS.of (K:=100000) (by kernel_rfl) Tryz.func253 rfl rfl rfl rfl ?_
 rw[show Tryz.f253.ntmps=53 from rfl]
 refine aa<|ah<|ar (gI (r:=1) rfl rfl rfl rfl) ?_
 refine aT<|bF (ι:={p:Nat // 1≤p∧p≤L.length}) (fun i=>⟨53,[(0,.o 100000 L.length c9),(1,.v (.c (.i .i64 0))),(2,.v (.c (.i .i64 (L.length:Int)))),(3,.v (.c (.f 26))),(8,.v (.c (.i .i64 (i.1:Int))))],[(100000,48,aI ap (Qh bV gB L i.1)++rs)]⟩) (fun i=>L.length-i.1) ⟨1,cK _,hn1⟩ (aB ⟨rfl,rfl,rfl,rfl,rfl,trivial⟩ ⟨congrArg (fun q=>some (48,aI ap q++rs)) ((Kn L).symm),trivial⟩ rfl) ?_
 rintro⟨p,h1,h2⟩
 replace h1:1≤p:=h1
 replace h2:p≤L.length:=h2
 show Dw _ _ ⟨53,[(0,.o 100000 L.length c9),(1,.v (.c (.i .i64 0))),(2,.v (.c (.i .i64 (L.length:Int)))),(3,.v (.c (.f 26))),(8,.v (.c (.i .i64 (p:Int))))],[(100000,48,aI ap (Qh bV gB L p)++rs)]⟩ _
 refine aa<|aa<|ah ?_
 refine aX rfl (fun hc1=>?_) (fun hc1=>?_)
 ·have g1:p<L.length:=by have:=of_decide_eq_true hc1;omega
  have hOl:(bO bV gB (L.take p)).length=p:=by rw[dD,fQ,fT h2]
  refine aJ<|aa<|aT<|aa<|ah<|aT<|bF (ι:={j:Nat // j≤p∧xo bV gB (L.getD p bV) (bO bV gB (L.take p)) p=xo bV gB (L.getD p bV) (bO bV gB (L.take p)) j}) (fun i=>⟨53,[(0,.o 100000 L.length c9),(1,.v (.c (.i .i64 0))),(2,.v (.c (.i .i64 (L.length:Int)))),(3,.v (.c (.f 26))),(8,.v (.c (.i .i64 (p:Int)))),(9,.v (.c (.i .i64 (i.1:Int))))],[(100000,48,aI ap (x8 (bO bV gB (L.take p)) (L.drop (p+1)) (L.getD p bV) i.1)++rs)]⟩) (fun i=>i.1) ⟨p,cK _,rfl⟩ (aB ⟨rfl,rfl,rfl,rfl,rfl,rfl,trivial⟩ ⟨congrArg (fun q=>some (48,aI ap q++rs)) (Lc g1),trivial⟩ rfl) ?_
  rintro⟨j,h3,h4⟩
  replace h3:j≤p:=h3
  replace h4:xo bV gB (L.getD p bV) (bO bV gB (L.take p)) p=xo bV gB (L.getD p bV) (bO bV gB (L.take p)) j:=h4
  show Dw _ _ ⟨53,[(0,.o 100000 L.length c9),(1,.v (.c (.i .i64 0))),(2,.v (.c (.i .i64 (L.length:Int)))),(3,.v (.c (.f 26))),(8,.v (.c (.i .i64 (p:Int)))),(9,.v (.c (.i .i64 (j:Int))))],[(100000,48,aI ap (x8 (bO bV gB (L.take p)) (L.drop (p+1)) (L.getD p bV) j)++rs)]⟩ _
  refine aa<|aa<|lq 17 rfl rfl<|dU 3 ?_
  refine HC (bp rfl) (fun c2 hb2=>?_)
  cases c2
  ·have g2:j=0:=by have:=of_decide_eq_false hb2;omega
   refine yQ<|dz<|bj<|ba rfl<|bG<|ah<|ar (fB (by omega) rfl) ?_
   exact⟨⟨p+1,by omega,g1⟩,aB ⟨rfl,rfl,rfl,rfl,rfl,trivial⟩ ⟨congrArg (fun q=>some (48,aI ap q++rs)) (xO g1 (h4.trans (FZ (.inl g2)))),trivial⟩ rfl,by show L.length-(p+1)<L.length-p;omega⟩
  ·have g2:0<j:=by have:=of_decide_eq_true hb2;omega
   have hjl:j≤(bO bV gB (L.take p)).length:=by rw[hOl];exact h3
   refine dU 3<|bH (bq gz rfl rfl (by omega) rfl) ?_
   refine bH (aV (us:=ap (L.getD p bV)) aY rfl rfl ((nL (e:=bV) (O:=(x8 (bO bV gB (L.take p)) (L.drop (p+1)) (L.getD p bV) j)) ag (by rw[iU hjl,hOl,fP];omega)).trans (congrArg ap (FO hjl))) (ag _) rfl) ?_
   refine dU 2<|bH (cr (((j-1:Nat):Int)) ((bT (by omega) (by omega)).trans (congrArg some (by omega))) rfl)<|bH (bq gz rfl rfl (by omega) rfl) ?_
   refine bH (aV (us:=ap ((bO bV gB (L.take p)).getD (j-1) bV)) aY rfl rfl ((nL (e:=bV) (O:=(x8 (bO bV gB (L.take p)) (L.drop (p+1)) (L.getD p bV) j)) ag (by rw[iU hjl,hOl,fP];omega)).trans (congrArg ap (FE g2 hjl))) (ag _) rfl) ?_
   refine bH (dt rfl (abl (hG _ (cz g1)) (hG _ (u9 ((mI _).mem_iff.1 (cz (show j-1<(bO bV gB (L.take p)).length by rw[hOl];omega)))))))<|yQ<|dz<|bj ?_
   refine aX rfl (fun hc3=>?_) (fun hc3=>?_)
   ·have g3:gB (L.getD p bV) ((bO bV gB (L.take p)).getD (j-1) bV)<0:=of_decide_eq_true hc3
    refine aJ<|aa<|aT<|qV 16 [100000,999999] ew (by kernel_rfl) rfl rfl<|dU 4<|bH (cr (((j-1:Nat):Int)) ((bT (by omega) (by omega)).trans (congrArg some (by omega))) rfl)<|dU 2<|bH (cr (((j-1:Nat):Int)) ((bT (by omega) (by omega)).trans (congrArg some (by omega))) rfl)<|bH (bq gz rfl rfl (by omega) rfl) ?_
    refine Aj (by kernel_rfl) (aV (us:=ap ((bO bV gB (L.take p)).getD (j-1) bV)) aY rfl rfl ((nL (e:=bV) (O:=(x8 (bO bV gB (L.take p)) (L.drop (p+1)) (L.getD p bV) j)) ag (by rw[iU hjl,hOl,fP];omega)).trans (congrArg ap (FE g2 hjl))) (ag _) rfl) ?_
    refine dU 2<|bH (bq gz rfl rfl (by omega) rfl) ?_
    refine Aj (by kernel_rfl) (aV (us:=ap (L.getD p bV)) aY rfl rfl ((nL (e:=bV) (O:=(x8 (bO bV gB (L.take p)) (L.drop (p+1)) (L.getD p bV) j)) ag (by rw[iU hjl,hOl,fP];omega)).trans (congrArg ap (FO hjl))) (ag _) rfl) ?_
    refine bH (bq gz rfl rfl (by omega) rfl) ?_
    refine i4 (bm (us:=aI ap ((x8 (bO bV gB (L.take p)) (L.drop (p+1)) (L.getD p bV) j).set j ((bO bV gB (L.take p)).getD (j-1) bV))++rs) aY rfl rfl rfl (ag _) (by rw[fp,aG ag,iU hjl,hOl,fP];omega) (vU ag (by rw[iU hjl,hOl,fP];omega) _) rfl) rfl rfl rfl rfl ?_
    refine kj<|ry<|a7 (bq gz rfl rfl (by omega) rfl) ?_
    refine gZ (bm (us:=aI ap (((x8 (bO bV gB (L.take p)) (L.drop (p+1)) (L.getD p bV) j).set j ((bO bV gB (L.take p)).getD (j-1) bV)).set (j-1) (L.getD p bV))++rs) aY rfl rfl rfl (ag _) (by rw[fp,aG ag,List.length_set,iU hjl,hOl,fP];omega) (vU ag (by rw[List.length_set,iU hjl,hOl,fP];omega) _) rfl) ?_
    refine bj<|ah<|ar (cr (((j-1:Nat):Int)) ((bT (by omega) (by omega)).trans (congrArg some (by omega))) rfl) ?_
    exact⟨⟨j-1,by omega,h4.trans (Rf g2 g3)⟩,aB ⟨rfl,rfl,rfl,rfl,rfl,rfl,trivial⟩ ⟨congrArg (fun q=>some (48,aI ap q++rs)) (Oi g2 hjl),trivial⟩ rfl,by show j-1<j;omega⟩
   ·have g3: ¬gB (L.getD p bV) ((bO bV gB (L.take p)).getD (j-1) bV)<0:=of_decide_eq_false hc3
    refine bG<|ah<|ar (fB (by omega) rfl) ?_
    exact⟨⟨p+1,by omega,g1⟩,aB ⟨rfl,rfl,rfl,rfl,rfl,trivial⟩ ⟨congrArg (fun q=>some (48,aI ap q++rs)) (xO g1 (h4.trans (FZ (.inr g3)))),trivial⟩ rfl,by show L.length-(p+1)<L.length-p;omega⟩
 ·have hp:p=L.length:=by have:=of_decide_eq_false hc1;omega
  refine bG ?_
  exact⟨.inl rfl,congrArg (fun q=>some (48,aI ap q++rs)) (by rw[hp,LC])⟩
theorem aaf {L:List Cv}(hn1:1≤L.length) (hn:L.length≤12) (hG: ∀x∈L,CvV x):OkS Tryz.prog 185 48 L.length c9 (aI ap L++rs) (aI ap (bO bV gB L)++rs) [.c (.i .i64 (L.length:Int)),.c (.f 26)]:=by
 refine OkS.of (K:=100000) (by kernel_rfl) Tryz.func185 rfl rfl rfl rfl ?_
 rw[show Tryz.f185.ntmps=63 from rfl]
 refine aa<|ah<|aa<|ah<|aa<|aT ?_
 refine bF (ι:=Nat) (fun i=>match i with|_=>⟨63,[(0,.o 100000 L.length c9),(1,.v (.c (.i .i64 (L.length:Int)))),(2,.v (.c (.f 26))),(6,.v (.c (.i .i64 20))),(7,.v (.c (.i .i64 0))),(8,.v (.c (.i .i64 20)))],[(100000,48,aI ap L++rs)]⟩) (fun i=>0-i) 0 (aB ⟨rfl,rfl,rfl,rfl,rfl,rfl,trivial⟩ ⟨rfl,trivial⟩ rfl) ?_
 intro i
 match i with
 |_=>
  show Dw _ _ ⟨63,[(0,.o 100000 L.length c9),(1,.v (.c (.i .i64 (L.length:Int)))),(2,.v (.c (.f 26))),(6,.v (.c (.i .i64 20))),(7,.v (.c (.i .i64 0))),(8,.v (.c (.i .i64 20)))],[(100000,48,aI ap L++rs)]⟩ _
  refine aa<|aa<|bo<|bR 2<|a7 (aZ (c:=false) (fe rfl) (decide_eq_false (by omega))) ?_
  refine bj<|ba rfl<|bG<|aa<|ah ?_
  refine DL.mk<|uz (nG rfl rfl rfl rfl rfl (aar hn1 hn hG) rfl)<|fE ?_
  refine aT ?_
  refine bF (ι:=Nat) (fun i=>match i with|_=>⟨63,[(0,.o 100000 L.length c9),(1,.v (.c (.i .i64 (L.length:Int)))),(2,.v (.c (.f 26))),(6,.v (.c (.i .i64 20))),(7,.v (.c (.i .i64 0))),(8,.v (.c (.i .i64 20)))],[(100000,48,aI ap (bO bV gB L)++rs)]⟩) (fun i=>0-i) 0 (aB ⟨rfl,rfl,rfl,rfl,rfl,rfl,trivial⟩ ⟨rfl,trivial⟩ rfl) ?_
  intro i
  match i with
  |_=>
   show Dw _ _ ⟨63,[(0,.o 100000 L.length c9),(1,.v (.c (.i .i64 (L.length:Int)))),(2,.v (.c (.f 26))),(6,.v (.c (.i .i64 20))),(7,.v (.c (.i .i64 0))),(8,.v (.c (.i .i64 20)))],[(100000,48,aI ap (bO bV gB L)++rs)]⟩ _
   refine aa<|aa<|bo<|bR 2<|a7 (aZ (c:=false) (fe rfl) (decide_eq_false (by omega))) ?_
   refine bj<|ba rfl<|bG ?_
   exact⟨.inl rfl,rfl⟩
theorem Vm {L:List Cv}(hn1:1≤L.length) (hn:L.length≤12) (hG: ∀x∈L,CvV x):OkS Tryz.prog 105 48 L.length c9 (aI ap L++rs) (aI ap (bO bV gB L)++rs) [.c (.f 26)]:=by
 refine OkS.of (K:=100000) (by kernel_rfl) Tryz.func105 rfl rfl rfl rfl ?_
 rw[show Tryz.f105.ntmps=9 from rfl]
 refine ah<|ar (f6 gz rfl rfl) ?_
 refine DL.mk<|uz (nG rfl rfl rfl rfl rfl (aaf hn1 hn hG) rfl)<|fE ?_
 exact⟨.inl rfl,rfl⟩
theorem Qo (vc:CvV c):Ok Tryz.prog 104 [.a (ap c)] [.a (ap c.rev)]:=by
 cases c with
 |seg l f t=>exact Wt vc.g.1 vc.g.2.1 vc.g.2.2
 |arc k w f t=>exact Qx vc.g.1 vc.g.2.1 vc.g.2.2
theorem ZD {l:Ln}(vc:CvV (Cv.seg l f t)):Ok Tryz.prog 37 [.a (([.b false]++fm l++dA++[.b false]++aj f++aj t))] [.c (.s (((te (Cv.seg l f t))).length) (aI ap ((te (Cv.seg l f t)))))]:=by
 have lR:(cJ (Cv.seg l f t)).length≤3:=GM
 have pR:0<(cJ (Cv.seg l f t)).length:=Gk
 have vR: ∀d∈(cJ (Cv.seg l f t)),CvV d:=I9 vc
 have vM: ∀d∈((cJ (Cv.seg l f t)).map Cv.fwd),CvV d:=fun d hd=>by
  obtain⟨x,hx,rfl⟩:=vf.1 hd
  exact Ah (vR x hx)
 have lM:((cJ (Cv.seg l f t)).map Cv.fwd).length=(cJ (Cv.seg l f t)).length:=List.length_map ..
 refine fD Tryz.func37 57 [.tmp 2] rfl ?_
 refine aa ?_
 refine ah ?_
 refine aa ?_
 refine ah ?_
 refine ar (gC aY rfl) ?_
 refine DL.mk<|ol (jC (us:=([.b false]++fm l++dA++[.b false]++aj f++aj t)) ja rfl rfl (by decide) (by decide) rfl) rfl<|fE ?_
 refine jd (ι:={x9:Nat×List CellD //(cJ (Cv.seg l f t)).length≤x9.1∧x9.1≤maxLen∧x9.2.length=(x9.1-(cJ (Cv.seg l f t)).length)*66}) (fun i=>⟨57,[(3,.o 12 ((cJ (Cv.seg l f t)).length) i.1.1)],[(12,48,aI ap (cJ (Cv.seg l f t))++i.1.2)]⟩) ?_ ?_
 ·refine aa ?_
  refine ah ?_
  refine ar (bW jb rfl) ?_
  refine ba rfl ?_
  refine aJ ?_
  exact⟨⟨⟨1,[]⟩,cK _,by decide,rfl⟩,aB ⟨rfl,trivial⟩ ⟨rfl,trivial⟩ rfl⟩
 ·rintro⟨⟨c9,rs⟩,h1,h2,h3⟩
  dsimp only at h1 h2 h3
  show Dw _ _ ⟨57,[(3,.o 12 ((cJ (Cv.seg l f t)).length) c9)],[(12,48,aI ap (cJ (Cv.seg l f t))++rs)]⟩ _
  refine aa<|aa<|ah<|ar (f6 gz rfl rfl) ?_
  refine aT<|bF (ι:={n:Nat // n≤(cJ (Cv.seg l f t)).length}) (fun i=>⟨57,[(3,.o 12 ((cJ (Cv.seg l f t)).length) c9),(35,.o 12 ((cJ (Cv.seg l f t)).length) c9),(36,.v (.c (.i .i64 (((cJ (Cv.seg l f t)).length:Int))))),(37,.v (.c (.i .i64 (i.1:Int))))],[(12,48,aI ap (Dc (cJ (Cv.seg l f t)) i.1)++rs)]⟩) (fun i=>(cJ (Cv.seg l f t)).length-i.1) ⟨0,iH _⟩ (aB ⟨rfl,rfl,rfl,rfl,trivial⟩ ⟨congrArg (fun q=>some (48,aI ap q++rs)) (VW.symm),trivial⟩ rfl) ?_
  rintro⟨n,h4⟩
  replace h4:n≤(cJ (Cv.seg l f t)).length:=h4
  show Dw _ _ ⟨57,[(3,.o 12 ((cJ (Cv.seg l f t)).length) c9),(35,.o 12 ((cJ (Cv.seg l f t)).length) c9),(36,.v (.c (.i .i64 (((cJ (Cv.seg l f t)).length:Int))))),(37,.v (.c (.i .i64 (n:Int))))],[(12,48,aI ap (Dc (cJ (Cv.seg l f t)) n)++rs)]⟩ _
  refine aa<|ah<|aa ?_
  refine aX rfl (fun hc1=>?_) (fun hc1=>?_)
  ·have g1:n<(cJ (Cv.seg l f t)).length:=by have:=of_decide_eq_true hc1;omega
   have hX:CvV ((cJ (Cv.seg l f t)).getD n bV):=vR _ (cz g1)
   refine aJ<|aa<|aT<|aa<|bo<|bR 1<|a7 (bq gz rfl rfl (by omega) rfl) ?_
   refine a7 (aV (us:=ap ((cJ (Cv.seg l f t)).getD n bV)) aY rfl rfl ((nL (e:=bV) (O:=(Dc (cJ (Cv.seg l f t)) n)) ag (by rw[qm h4];exact g1)).trans (congrArg ap (Jp g1))) (ag _) rfl) ?_
   refine pg (kW AE rfl) rfl<|bR 1<|gZ (bn aY rfl rfl rfl (ag _) rfl rfl) ?_
   refine bj ?_
   refine aa ?_
   refine ah ?_
   refine ar (aV (us:=aj (((cJ (Cv.seg l f t)).getD n bV)).p) bv rfl rfl (fl _) rfl rfl) ?_
   refine ar (aV (us:=aj (((cJ (Cv.seg l f t)).getD n bV)).q) bv rfl rfl (f5 _) rfl rfl) ?_
   refine ac rfl (EQ (cn hX.g) (dy hX.g)) ?_
   refine aX rfl (fun hc2=>?_) (fun hc2=>?_)
   ·have m2:=DD hc2
    refine bo<|bR 2<|a7 (cD (ag _) aY rfl)<|a7 (dt rfl ((show Ok _ _ [.a (ap ((cJ (Cv.seg l f t)).getD n bV))] [.a (ap ((cJ (Cv.seg l f t)).getD n bV).rev)] from Qo hX)))<|a7 (bq gz rfl rfl (by omega) rfl) ?_
    refine gZ (bm (us:=aI ap ((Dc (cJ (Cv.seg l f t)) n).set n ((cJ (Cv.seg l f t)).getD n bV).rev)++rs) aY rfl rfl rfl (ag _) (by rw[fp,aG ag,qm h4];omega) (vU ag (by rw[qm h4];exact g1) _) rfl) ?_
    refine bj<|ah<|ar (fB (by omega) rfl) ?_
    exact⟨⟨n+1,g1⟩,aB ⟨rfl,rfl,rfl,rfl,trivial⟩ ⟨congrArg (fun q=>some (48,aI ap q++rs)) (by rw[←Fz g1,m2]),trivial⟩ rfl,by show(cJ (Cv.seg l f t)).length-(n+1)<(cJ (Cv.seg l f t)).length-n;omega⟩
   ·have m2:=DK hc2
    refine aJ<|ah<|ar (fB (by omega) rfl) ?_
    exact⟨⟨n+1,g1⟩,aB ⟨rfl,rfl,rfl,rfl,trivial⟩ ⟨congrArg (fun q=>some (48,aI ap q++rs)) (H8 g1 m2),trivial⟩ rfl,by show(cJ (Cv.seg l f t)).length-(n+1)<(cJ (Cv.seg l f t)).length-n;omega⟩
  ·have hp:n=(cJ (Cv.seg l f t)).length:=by have:=of_decide_eq_false hc1;omega
   have h3m:rs.length=(c9-((cJ (Cv.seg l f t)).map Cv.fwd).length)*66:=by rw[lM];exact h3
   refine qu (σ':=⟨57,[(3,.o 12 (((cJ (Cv.seg l f t)).map Cv.fwd).length) c9)],[(12,48,aI ap ((cJ (Cv.seg l f t)).map Cv.fwd)++rs)]⟩) (aB ⟨congrArg (fun q=>some (DV.o 12 q c9)) lM.symm,trivial⟩ ⟨congrArg (fun q=>some (48,aI ap q++rs)) (by rw[hp,LV]),trivial⟩ rfl) ?_
   refine bG<|aa<|ah ?_
   refine DL.mk<|uz (nG rfl rfl rfl rfl rfl (Vm (L:=((cJ (Cv.seg l f t)).map Cv.fwd)) (by omega) (by omega) vM) rfl)<|fE ?_
   refine aa<|ah ?_
   refine dj (t:=2) (m:=66) (us:=aI ap (te (Cv.seg l f t))) rfl rfl (lE (n:=((cJ (Cv.seg l f t)).map Cv.fwd).length) (by first|exact(aG ag _).trans (congrArg (· *66) (dD _))|rfl) (by assumption) (by omega)) (by omega) (by assumption) (iX (by first|exact(aG ag _).trans (congrArg (· *66) (dD _))|rfl)) ?_
   refine bb ?_
   rw[show(te (Cv.seg l f t)).length=((cJ (Cv.seg l f t)).map Cv.fwd).length from dD _]
   exact ai (al ae)
theorem aaX {k:Ci}{w:Bool}(vc:CvV (Cv.arc k w f t)):Ok Tryz.prog 37 [.a (([.b true]++dA++cg k++[.b w]++aj f++aj t))] [.c (.s (((te (Cv.arc k w f t))).length) (aI ap ((te (Cv.arc k w f t)))))]:=by
 have lR:(cJ (Cv.arc k w f t)).length≤3:=GM
 have pR:0<(cJ (Cv.arc k w f t)).length:=Gk
 have vR: ∀d∈(cJ (Cv.arc k w f t)),CvV d:=I9 vc
 have vM: ∀d∈((cJ (Cv.arc k w f t)).map Cv.fwd),CvV d:=fun d hd=>by
  obtain⟨x,hx,rfl⟩:=vf.1 hd
  exact Ah (vR x hx)
 have lM:((cJ (Cv.arc k w f t)).map Cv.fwd).length=(cJ (Cv.arc k w f t)).length:=List.length_map ..
 have hk:=vc.g.1
 have hf:=vc.g.2.1
 have ht:=vc.g.2.2
 have gL:=xf hk vc.pos
 have gR:=xq hk vc.pos
 have z1:Qt.length=(2-1)*20:=rfl
 have z2:(Qt++Qt).length=(2-0)*20:=rfl
 have hm2:2≤maxLen:=by decide
 refine fD Tryz.func37 57 [.tmp 2] rfl ?_
 refine aa ?_
 refine ah ?_
 refine aa ?_
 refine ah ?_
 refine ar (gC aY rfl) ?_
 refine DL.mk<|ol (jC (us:=([.b true]++dA++cg k++[.b w]++aj f++aj t)) ja rfl rfl (by decide) (by decide) rfl) rfl<|fE ?_
 refine jd (ι:={x9:Nat×List CellD //(cJ (Cv.arc k w f t)).length≤x9.1∧x9.1≤maxLen∧x9.2.length=(x9.1-(cJ (Cv.arc k w f t)).length)*66}) (fun i=>⟨57,[(3,.o 29 ((cJ (Cv.arc k w f t)).length) i.1.1)],[(29,48,aI ap (cJ (Cv.arc k w f t))++i.1.2)]⟩) ?_ ?_
 ·refine aa ?_
  refine ah ?_
  refine ar (bW jb rfl) ?_
  refine cO rfl ?_
  refine aa ?_
  rcases Bool.eq_false_or_eq_true ((Cv.arc k w f t).inner (mh k)) with ea|ea
  ·refine ah ?_
   refine ar (dx (cg k) rg rfl (by kernel_rfl)) ?_
   refine ac rfl (VC hk vc.pos) ?_
   refine aa ?_
   rcases Bool.eq_false_or_eq_true ((Cv.arc k w f t).inner (ln k)) with eb|eb
   ·refine mG (t:=1) (k:=1) rfl rfl<|bo<|bR 2<|ol (jC (us:=aj (mh k)++aj (ln k)) iC rfl rfl (by decide) (by decide) rfl) rfl ?_
    refine a7 (nZ (us:=[.p (([.b true]++dA++cg k++[.b w]++aj f++aj t))]) rfl rfl) ?_
    refine yn rfl rfl rfl rfl rfl (Y2 (c:=(Cv.arc k w f t)) vc rfl gL gR ea eb) rfl<|fN<|aa<|dj (t:=6) (m:=20) (us:=aj (mh k)++aj (ln k)) rfl rfl rfl (by decide) (by decide) rfl<|bo<|a7 (kV (us:=([.b true]++dA++cg k++[.b w]++aj f++aj t)) aY rfl rfl rfl rfl) ?_
    refine bR 1 ?_
    refine uJ rfl rfl (Up (c:=(Cv.arc k w f t)) (L:=[mh k,ln k]) vc rfl (fun p h=>(fg vc p ((qY ea eb).symm▸h)).1) (dV rfl) ((qY ea eb)▸vm vc) (fun p h=>rn p ((qY ea eb).symm▸h))) rfl rfl (fun cg1 rg1 hga1 hgb1 hgc1=>?_)
    refine bR 1<|a7 (xG rfl rfl) ?_
    refine a7 (xN rfl rfl rfl) ?_
    refine fN<|aa<|ah<|cO rfl<|ah ?_
    exact⟨⟨⟨cg1,rg1⟩,by show(cJ (Cv.arc k w f t)).length≤cg1;rw[(fL (c:=(Cv.arc k w f t)) rfl).trans (congrArg (fun q=>nl (Cv.arc k w f t) (bO dPt (co (Cv.arc k w f t)) q)) (qY ea eb))];exact hga1,hgb1,by show rg1.length=(cg1-(cJ (Cv.arc k w f t)).length)*66;rw[(fL (c:=(Cv.arc k w f t)) rfl).trans (congrArg (fun q=>nl (Cv.arc k w f t) (bO dPt (co (Cv.arc k w f t)) q)) (qY ea eb))];exact hgc1⟩,aB ⟨congrArg (fun q=>some (DV.o 29 (List.length q) cg1)) ((fL (c:=(Cv.arc k w f t)) rfl).trans (congrArg (fun q=>nl (Cv.arc k w f t) (bO dPt (co (Cv.arc k w f t)) q)) (qY ea eb))).symm,trivial⟩ ⟨congrArg (fun q=>some (48,aI ap q++rg1)) ((fL (c:=(Cv.arc k w f t)) rfl).trans (congrArg (fun q=>nl (Cv.arc k w f t) (bO dPt (co (Cv.arc k w f t)) q)) (qY ea eb))).symm,trivial⟩ rfl⟩
   ·refine mG (t:=1) (k:=1) rfl rfl<|bo<|bR 2<|ol (jC (us:=aj (mh k)++aj (ln k)) iC rfl rfl (by decide) (by decide) rfl) rfl ?_
    refine a7 (nZ (us:=[.p (([.b true]++dA++cg k++[.b w]++aj f++aj t))]) rfl rfl) ?_
    refine yn rfl rfl rfl rfl rfl (Zh (c:=(Cv.arc k w f t)) vc rfl gL gR ea eb) rfl<|fN<|aa ?_
    refine dj (t:=6) (m:=20) (us:=aj (mh k)) rfl rfl (lE (n:=1) (by first|exact(aG ag _).trans (congrArg (· *66) (dD _))|rfl) (by assumption) (by omega)) (by omega) (by assumption) (iX (by first|exact(aG ag _).trans (congrArg (· *66) (dD _))|rfl)) ?_
    refine bo<|a7 (kV (us:=([.b true]++dA++cg k++[.b w]++aj f++aj t)) aY rfl rfl rfl rfl) ?_
    refine bR 1 ?_
    refine uJ rfl rfl (Up (c:=(Cv.arc k w f t)) (L:=[mh k]) vc rfl (fun p h=>(fg vc p ((qG ea eb).symm▸h)).1) (dV rfl) ((qG ea eb)▸vm vc) (fun p h=>rn p ((qG ea eb).symm▸h))) rfl rfl (fun cg2 rg2 hga2 hgb2 hgc2=>?_)
    refine bR 1<|a7 (xG rfl rfl) ?_
    refine a7 (xN rfl rfl rfl) ?_
    refine fN<|aa<|ah<|cO rfl<|ah ?_
    exact⟨⟨⟨cg2,rg2⟩,by show(cJ (Cv.arc k w f t)).length≤cg2;rw[(fL (c:=(Cv.arc k w f t)) rfl).trans (congrArg (fun q=>nl (Cv.arc k w f t) (bO dPt (co (Cv.arc k w f t)) q)) (qG ea eb))];exact hga2,hgb2,by show rg2.length=(cg2-(cJ (Cv.arc k w f t)).length)*66;rw[(fL (c:=(Cv.arc k w f t)) rfl).trans (congrArg (fun q=>nl (Cv.arc k w f t) (bO dPt (co (Cv.arc k w f t)) q)) (qG ea eb))];exact hgc2⟩,aB ⟨congrArg (fun q=>some (DV.o 29 (List.length q) cg2)) ((fL (c:=(Cv.arc k w f t)) rfl).trans (congrArg (fun q=>nl (Cv.arc k w f t) (bO dPt (co (Cv.arc k w f t)) q)) (qG ea eb))).symm,trivial⟩ ⟨congrArg (fun q=>some (48,aI ap q++rg2)) ((fL (c:=(Cv.arc k w f t)) rfl).trans (congrArg (fun q=>nl (Cv.arc k w f t) (bO dPt (co (Cv.arc k w f t)) q)) (qG ea eb))).symm,trivial⟩ rfl⟩
  ·refine ah ?_
   refine ar (dx (cg k) rg rfl (by kernel_rfl)) ?_
   refine ac rfl (VC hk vc.pos) ?_
   refine aa ?_
   rcases Bool.eq_false_or_eq_true ((Cv.arc k w f t).inner (ln k)) with eb|eb
   ·refine mG (t:=1) (k:=1) rfl rfl<|bo<|bR 2<|ol (jC (us:=aj (mh k)++aj (ln k)) iC rfl rfl (by decide) (by decide) rfl) rfl ?_
    refine a7 (nZ (us:=[.p (([.b true]++dA++cg k++[.b w]++aj f++aj t))]) rfl rfl) ?_
    refine yn rfl rfl rfl rfl rfl (ZN (c:=(Cv.arc k w f t)) vc rfl gL gR ea eb) rfl<|fN<|aa ?_
    refine dj (t:=6) (m:=20) (us:=aj (ln k)) rfl rfl (lE (n:=1) (by first|exact(aG ag _).trans (congrArg (· *66) (dD _))|rfl) (by assumption) (by omega)) (by omega) (by assumption) (iX (by first|exact(aG ag _).trans (congrArg (· *66) (dD _))|rfl)) ?_
    refine bo<|a7 (kV (us:=([.b true]++dA++cg k++[.b w]++aj f++aj t)) aY rfl rfl rfl rfl) ?_
    refine bR 1 ?_
    refine uJ rfl rfl (Up (c:=(Cv.arc k w f t)) (L:=[ln k]) vc rfl (fun p h=>(fg vc p ((qF ea eb).symm▸h)).1) (dV rfl) ((qF ea eb)▸vm vc) (fun p h=>rn p ((qF ea eb).symm▸h))) rfl rfl (fun cg3 rg3 hga3 hgb3 hgc3=>?_)
    refine bR 1<|a7 (xG rfl rfl) ?_
    refine a7 (xN rfl rfl rfl) ?_
    refine fN<|aa<|ah<|cO rfl<|ah ?_
    exact⟨⟨⟨cg3,rg3⟩,by show(cJ (Cv.arc k w f t)).length≤cg3;rw[(fL (c:=(Cv.arc k w f t)) rfl).trans (congrArg (fun q=>nl (Cv.arc k w f t) (bO dPt (co (Cv.arc k w f t)) q)) (qF ea eb))];exact hga3,hgb3,by show rg3.length=(cg3-(cJ (Cv.arc k w f t)).length)*66;rw[(fL (c:=(Cv.arc k w f t)) rfl).trans (congrArg (fun q=>nl (Cv.arc k w f t) (bO dPt (co (Cv.arc k w f t)) q)) (qF ea eb))];exact hgc3⟩,aB ⟨congrArg (fun q=>some (DV.o 29 (List.length q) cg3)) ((fL (c:=(Cv.arc k w f t)) rfl).trans (congrArg (fun q=>nl (Cv.arc k w f t) (bO dPt (co (Cv.arc k w f t)) q)) (qF ea eb))).symm,trivial⟩ ⟨congrArg (fun q=>some (48,aI ap q++rg3)) ((fL (c:=(Cv.arc k w f t)) rfl).trans (congrArg (fun q=>nl (Cv.arc k w f t) (bO dPt (co (Cv.arc k w f t)) q)) (qF ea eb))).symm,trivial⟩ rfl⟩
   ·refine mG (t:=1) (k:=1) rfl rfl<|bo<|bR 2<|ol (jC (us:=aj (mh k)++aj (ln k)) iC rfl rfl (by decide) (by decide) rfl) rfl ?_
    refine a7 (nZ (us:=[.p (([.b true]++dA++cg k++[.b w]++aj f++aj t))]) rfl rfl) ?_
    refine yn rfl rfl rfl rfl rfl (abt (c:=(Cv.arc k w f t)) vc rfl gL gR ea eb) rfl<|fN<|aa ?_
    refine dj (t:=6) (m:=20) (us:=([]:List CellD)) rfl rfl (lE (n:=0) (by first|exact(aG ag _).trans (congrArg (· *66) (dD _))|rfl) (by assumption) (by omega)) (by omega) (by assumption) (iX (by first|exact(aG ag _).trans (congrArg (· *66) (dD _))|rfl)) ?_
    refine bo<|a7 (kV (us:=([.b true]++dA++cg k++[.b w]++aj f++aj t)) aY rfl rfl rfl rfl) ?_
    refine bR 1 ?_
    refine uJ rfl rfl (Up (c:=(Cv.arc k w f t)) (L:=[]) vc rfl (fun p h=>(fg vc p ((qS ea eb).symm▸h)).1) (dV rfl) ((qS ea eb)▸vm vc) (fun p h=>rn p ((qS ea eb).symm▸h))) rfl rfl (fun cg4 rg4 hga4 hgb4 hgc4=>?_)
    refine bR 1<|a7 (xG rfl rfl) ?_
    refine a7 (xN rfl rfl rfl) ?_
    refine fN<|aa<|ah<|cO rfl<|ah ?_
    exact⟨⟨⟨cg4,rg4⟩,by show(cJ (Cv.arc k w f t)).length≤cg4;rw[(fL (c:=(Cv.arc k w f t)) rfl).trans (congrArg (fun q=>nl (Cv.arc k w f t) (bO dPt (co (Cv.arc k w f t)) q)) (qS ea eb))];exact hga4,hgb4,by show rg4.length=(cg4-(cJ (Cv.arc k w f t)).length)*66;rw[(fL (c:=(Cv.arc k w f t)) rfl).trans (congrArg (fun q=>nl (Cv.arc k w f t) (bO dPt (co (Cv.arc k w f t)) q)) (qS ea eb))];exact hgc4⟩,aB ⟨congrArg (fun q=>some (DV.o 29 (List.length q) cg4)) ((fL (c:=(Cv.arc k w f t)) rfl).trans (congrArg (fun q=>nl (Cv.arc k w f t) (bO dPt (co (Cv.arc k w f t)) q)) (qS ea eb))).symm,trivial⟩ ⟨congrArg (fun q=>some (48,aI ap q++rg4)) ((fL (c:=(Cv.arc k w f t)) rfl).trans (congrArg (fun q=>nl (Cv.arc k w f t) (bO dPt (co (Cv.arc k w f t)) q)) (qS ea eb))).symm,trivial⟩ rfl⟩
 ·rintro⟨⟨c9,rs⟩,h1,h2,h3⟩
  dsimp only at h1 h2 h3
  show Dw _ _ ⟨57,[(3,.o 29 ((cJ (Cv.arc k w f t)).length) c9)],[(29,48,aI ap (cJ (Cv.arc k w f t))++rs)]⟩ _
  refine aa<|aa<|ah<|ar (f6 gz rfl rfl) ?_
  refine aT<|bF (ι:={n:Nat // n≤(cJ (Cv.arc k w f t)).length}) (fun i=>⟨57,[(3,.o 29 ((cJ (Cv.arc k w f t)).length) c9),(35,.o 29 ((cJ (Cv.arc k w f t)).length) c9),(36,.v (.c (.i .i64 (((cJ (Cv.arc k w f t)).length:Int))))),(37,.v (.c (.i .i64 (i.1:Int))))],[(29,48,aI ap (Dc (cJ (Cv.arc k w f t)) i.1)++rs)]⟩) (fun i=>(cJ (Cv.arc k w f t)).length-i.1) ⟨0,iH _⟩ (aB ⟨rfl,rfl,rfl,rfl,trivial⟩ ⟨congrArg (fun q=>some (48,aI ap q++rs)) (VW.symm),trivial⟩ rfl) ?_
  rintro⟨n,h4⟩
  replace h4:n≤(cJ (Cv.arc k w f t)).length:=h4
  show Dw _ _ ⟨57,[(3,.o 29 ((cJ (Cv.arc k w f t)).length) c9),(35,.o 29 ((cJ (Cv.arc k w f t)).length) c9),(36,.v (.c (.i .i64 (((cJ (Cv.arc k w f t)).length:Int))))),(37,.v (.c (.i .i64 (n:Int))))],[(29,48,aI ap (Dc (cJ (Cv.arc k w f t)) n)++rs)]⟩ _
  refine aa<|ah<|aa ?_
  refine aX rfl (fun hc5=>?_) (fun hc5=>?_)
  ·have g1:n<(cJ (Cv.arc k w f t)).length:=by have:=of_decide_eq_true hc5;omega
   have hX:CvV ((cJ (Cv.arc k w f t)).getD n bV):=vR _ (cz g1)
   refine aJ<|aa<|aT<|aa<|bo<|bR 1<|a7 (bq gz rfl rfl (by omega) rfl) ?_
   refine a7 (aV (us:=ap ((cJ (Cv.arc k w f t)).getD n bV)) aY rfl rfl ((nL (e:=bV) (O:=(Dc (cJ (Cv.arc k w f t)) n)) ag (by rw[qm h4];exact g1)).trans (congrArg ap (Jp g1))) (ag _) rfl) ?_
   refine pg (kW AE rfl) rfl<|bR 1<|gZ (bn aY rfl rfl rfl (ag _) rfl rfl) ?_
   refine bj ?_
   refine aa ?_
   refine ah ?_
   refine ar (aV (us:=aj (((cJ (Cv.arc k w f t)).getD n bV)).p) bv rfl rfl (fl _) rfl rfl) ?_
   refine ar (aV (us:=aj (((cJ (Cv.arc k w f t)).getD n bV)).q) bv rfl rfl (f5 _) rfl rfl) ?_
   refine ac rfl (EQ (cn hX.g) (dy hX.g)) ?_
   refine aX rfl (fun hc6=>?_) (fun hc6=>?_)
   ·have m2:=DD hc6
    refine bo<|bR 2<|a7 (cD (ag _) aY rfl)<|a7 (dt rfl ((show Ok _ _ [.a (ap ((cJ (Cv.arc k w f t)).getD n bV))] [.a (ap ((cJ (Cv.arc k w f t)).getD n bV).rev)] from Qo hX)))<|a7 (bq gz rfl rfl (by omega) rfl) ?_
    refine gZ (bm (us:=aI ap ((Dc (cJ (Cv.arc k w f t)) n).set n ((cJ (Cv.arc k w f t)).getD n bV).rev)++rs) aY rfl rfl rfl (ag _) (by rw[fp,aG ag,qm h4];omega) (vU ag (by rw[qm h4];exact g1) _) rfl) ?_
    refine bj<|ah<|ar (fB (by omega) rfl) ?_
    exact⟨⟨n+1,g1⟩,aB ⟨rfl,rfl,rfl,rfl,trivial⟩ ⟨congrArg (fun q=>some (48,aI ap q++rs)) (by rw[←Fz g1,m2]),trivial⟩ rfl,by show(cJ (Cv.arc k w f t)).length-(n+1)<(cJ (Cv.arc k w f t)).length-n;omega⟩
   ·have m2:=DK hc6
    refine aJ<|ah<|ar (fB (by omega) rfl) ?_
    exact⟨⟨n+1,g1⟩,aB ⟨rfl,rfl,rfl,rfl,trivial⟩ ⟨congrArg (fun q=>some (48,aI ap q++rs)) (H8 g1 m2),trivial⟩ rfl,by show(cJ (Cv.arc k w f t)).length-(n+1)<(cJ (Cv.arc k w f t)).length-n;omega⟩
  ·have hp:n=(cJ (Cv.arc k w f t)).length:=by have:=of_decide_eq_false hc5;omega
   have h3m:rs.length=(c9-((cJ (Cv.arc k w f t)).map Cv.fwd).length)*66:=by rw[lM];exact h3
   refine qu (σ':=⟨57,[(3,.o 29 (((cJ (Cv.arc k w f t)).map Cv.fwd).length) c9)],[(29,48,aI ap ((cJ (Cv.arc k w f t)).map Cv.fwd)++rs)]⟩) (aB ⟨congrArg (fun q=>some (DV.o 29 q c9)) lM.symm,trivial⟩ ⟨congrArg (fun q=>some (48,aI ap q++rs)) (by rw[hp,LV]),trivial⟩ rfl) ?_
   refine bG<|aa<|ah ?_
   refine DL.mk<|uz (nG rfl rfl rfl rfl rfl (Vm (L:=((cJ (Cv.arc k w f t)).map Cv.fwd)) (by omega) (by omega) vM) rfl)<|fE ?_
   refine aa<|ah ?_
   refine dj (t:=2) (m:=66) (us:=aI ap (te (Cv.arc k w f t))) rfl rfl (lE (n:=((cJ (Cv.arc k w f t)).map Cv.fwd).length) (by first|exact(aG ag _).trans (congrArg (· *66) (dD _))|rfl) (by assumption) (by omega)) (by omega) (by assumption) (iX (by first|exact(aG ag _).trans (congrArg (· *66) (dD _))|rfl)) ?_
   refine bb ?_
   rw[show(te (Cv.arc k w f t)).length=((cJ (Cv.arc k w f t)).map Cv.fwd).length from dD _]
   exact ai (al ae)
theorem acu (vc:CvV c):Ok Tryz.prog 37 [.a (ap c)] [.c (.s (((te c)).length) (aI ap ((te c))))]:=by
 cases c with
 |seg l f t=>exact ZD vc
 |arc k w f t=>exact aaX vc
def C3:Cv:=I7 ((-5:Int):Rat) ((0:Int):Rat) ((0:Int):Rat) ((-5:Int):Rat) ((5:Int):Rat) ((0:Int):Rat)
def CK:Cv:=I7 ((3:Int):Rat) ((4:Int):Rat) ((-5:Int):Rat) ((0:Int):Rat) ((3:Int):Rat) ((-4:Int):Rat)
def GE:Cv:=Ol ((-5:Int):Rat) ((0:Int):Rat) ((0:Int):Rat) ((0:Int):Rat)
def Nr:Cv:=(te CK).getD 0 bV
def My:Cv:=(te CK).getD 1 bV
theorem CD (h: -100≤n) (h':n≤100):Rz 1 ((n:Int):Rat):=gY (oW (by omega) (by omega)) (by decide)
theorem Ke:CvV C3:=by
 have e:vG 1 0 (-5) 0 0 (-5) 5 0=[C3]:=by
  show(if p9 (qD (-5) (uD 0)) (qD 0 (uD 0)) (qD 0 (uD 0)) (qD (-5) (uD 0)) (qD 5 (uD 0)) (qD 0 (uD 0))=0 then[] else[I7 (qD (-5) (uD 0)) (qD 0 (uD 0)) (qD 0 (uD 0)) (qD (-5) (uD 0)) (qD 5 (uD 0)) (qD 0 (uD 0))])=_
  rw[show qD (-5) (uD 0)=((-5:Int):Rat) from by decide+kernel,show qD 0 (uD 0)=((0:Int):Rat) from by decide+kernel,show qD 5 (uD 0)=((5:Int):Rat) from by decide+kernel,if_neg (by decide+kernel)];rfl
 exact Lz (K:=1) (U:=0) (A:= -5) (B:=0) (C:=0) (D:= -5) (E:=5) (F:=0) (by decide) (by decide) (by decide) (by decide) (by decide) (by decide) (by decide) C3 (by rw[e];exact kw.2 rfl)
theorem IK:CvV CK:=by
 have e:vG 1 0 3 4 (-5) 0 3 (-4)=[CK]:=by
  show(if p9 (qD 3 (uD 0)) (qD 4 (uD 0)) (qD (-5) (uD 0)) (qD 0 (uD 0)) (qD 3 (uD 0)) (qD (-4) (uD 0))=0 then[] else[I7 (qD 3 (uD 0)) (qD 4 (uD 0)) (qD (-5) (uD 0)) (qD 0 (uD 0)) (qD 3 (uD 0)) (qD (-4) (uD 0))])=_
  rw[show qD 3 (uD 0)=((3:Int):Rat) from by decide+kernel,show qD 4 (uD 0)=((4:Int):Rat) from by decide+kernel,show qD (-5) (uD 0)=((-5:Int):Rat) from by decide+kernel,show qD 0 (uD 0)=((0:Int):Rat) from by decide+kernel,show qD (-4) (uD 0)=((-4:Int):Rat) from by decide+kernel,if_neg (by decide+kernel)];rfl
 exact Lz (K:=1) (U:=0) (A:=3) (B:=4) (C:= -5) (D:=0) (E:=3) (F:= -4) (by decide) (by decide) (by decide) (by decide) (by decide) (by decide) (by decide) CK (by rw[e];exact kw.2 rfl)
theorem O6:CvV GE:=by
 have e:vG 0 0 (-5) 0 0 0 0 0=[GE]:=by
  show(if qD 0 (uD 0)-qD 0 (uD 0)=0∧qD 0 (uD 0)-qD (-5) (uD 0)=0 then[] else[Ol (qD (-5) (uD 0)) (qD 0 (uD 0)) (qD 0 (uD 0)) (qD 0 (uD 0))])=_
  rw[show qD (-5) (uD 0)=((-5:Int):Rat) from by decide+kernel,show qD 0 (uD 0)=((0:Int):Rat) from by decide+kernel,if_neg (by decide+kernel)];rfl
 exact Lz (K:=0) (U:=0) (A:= -5) (B:=0) (C:=0) (D:=0) (E:=0) (F:=0) (by decide) (by decide) (by decide) (by decide) (by decide) (by decide) (by decide) GE (by rw[e];exact kw.2 rfl)
theorem UH:AB C3 ((3:Int):Rat)=true:=by decide+kernel
theorem Yo:Si C3 ((3:Int):Rat)=cR ((-4:Int):Rat)++cR 0++cR 0:=by
 show Si (.arc _ _ _ _) _=_
 rw[R1 (by decide+kernel)]
 exact congrArg (fun q=>cR q++cR 0++cR 0) (by decide+kernel)
theorem abj:ov C3 (rP ((0:Int):Rat) ((0:Int):Rat))=1∧oE C3 (rP ((0:Int):Rat) ((0:Int):Rat))=0:=by decide+kernel
theorem aaH:ov C3 (rP ((0:Int):Rat) ((-6:Int):Rat))= -1∧oE C3 (rP ((0:Int):Rat) ((-6:Int):Rat))=0:=by decide+kernel
theorem kI:(te CK).length=2:=by decide+kernel
theorem Pi:Nr.cw=false∧My.cw=true:=by decide+kernel
theorem Y1:rc My GE=1∧yA My GE=0:=by decide+kernel
theorem aaA:rc Nr GE= -1∧yA Nr GE=0:=by decide+kernel
theorem Xk:CvV Nr:=P6 IK _ (cz (by rw[kI];decide))
theorem WJ:CvV My:=P6 IK _ (cz (by rw[kI];decide))
theorem nN {x y:Int}(x0: -9223372036854775808≤x) (x1:x≤9223372036854775807) (y0: -9223372036854775808≤y) (y1:y≤9223372036854775807):Ok Tryz.prog 44 [.c (.i .i64 x),.c (.i .i64 y)] [.a ((cR (((x:Int):Rat))++cR (((y:Int):Rat))))]:=by
 refine bU Tryz.func44 rfl<|ac rfl (NF x0 x1 y0 y1) ?_
 exact ai (a8 WP rfl ae)
theorem Xx (n0: -9223372036854775808≤n) (n1:n≤9223372036854775807):Ok Tryz.prog 48 [.c (.i .i64 n)] [.a ((cR (((n:Int):Rat))++cR 0++cR 0))]:=by
 refine bU Tryz.func48 rfl<|ac rfl (nC n0 n1)<|ac rfl (kZ) ?_
 exact ai (a8 ez rfl ae)
theorem IY:Ok Tryz.prog 10 [] [.c (.b true)]:=by
 refine fD Tryz.func10 140 [.tmp 0] rfl<|aa<|ah<|aa<|ah<|ac rfl (nN (by decide) (by decide) (by decide) (by decide))<|ac rfl (nN (by decide) (by decide) (by decide) (by decide))<|ac rfl (nN (by decide) (by decide) (by decide) (by decide))<|ac rfl ((show Ok _ _ _ [.a (ap C3),.c (.i .i64 0)] from Oa (CD (by decide) (by decide)) (CD (by decide) (by decide)) (CD (by decide) (by decide)) (CD (by decide) (by decide)) (CD (by decide) (by decide)) (CD (by decide) (by decide)) (by decide+kernel)))<|jF (bn aY rfl rfl rfl (ag _) rfl rfl) ?_
 refine aa<|ah<|ac rfl (nN (by decide) (by decide) (by decide) (by decide))<|ac rfl (nN (by decide) (by decide) (by decide) (by decide))<|ac rfl (nN (by decide) (by decide) (by decide) (by decide))<|ac rfl ((show Ok _ _ _ [.a (ap CK),.c (.i .i64 0)] from Oa (CD (by decide) (by decide)) (CD (by decide) (by decide)) (CD (by decide) (by decide)) (CD (by decide) (by decide)) (CD (by decide) (by decide)) (CD (by decide) (by decide)) (by decide+kernel)))<|jF (bn aY rfl rfl rfl (ag _) rfl rfl) ?_
 refine aa<|ah<|ac rfl (nN (by decide) (by decide) (by decide) (by decide))<|ac rfl (nN (by decide) (by decide) (by decide) (by decide))<|ac rfl ((show Ok _ _ _ [.a (ap GE),.c (.i .i64 0)] from Kh (CD (by decide) (by decide)) (CD (by decide) (by decide)) (CD (by decide) (by decide)) (CD (by decide) (by decide)) (by decide+kernel)))<|jF (bn aY rfl rfl rfl (ag _) rfl rfl) ?_
 refine aa ?_
 refine aa ?_
 refine ah ?_
 refine ar (bp rfl) ?_
 refine ar (bp rfl) ?_
 refine ba rfl ?_
 refine aJ ?_
 refine aa ?_
 refine di 9 [7,999999] ?_
 refine aq (cD (ag _) aY rfl) ?_
 refine aO rfl (nC (by decide) (by decide)) ?_
 refine aO rfl ((by have h9:=IW Ke ((CD (n:=3) (by decide) (by decide)).m_);rw[if_pos UH,Yo] at h9;exact h9)) ?_
 refine DQ.mk<|jj (dZ ez rfl) rfl rfl rfl rfl<|dY ?_
 refine aa ?_
 refine di 9 [] ?_
 refine aq (cD (ag _) aY rfl) ?_
 refine aO rfl (nN (by decide) (by decide) (by decide) (by decide)) ?_
 refine aO rfl ((show Ok _ _ _ [.a (aj (rP ((0:Int):Rat) ((0:Int):Rat)))] from o4)) ?_
 refine aO rfl ((by have h9:=U3 Ke (D4 (CD (n:=0) (by decide) (by decide)) (CD (n:=0) (by decide) (by decide)));rw[abj.1,abj.2] at h9;exact h9)) ?_
 refine aa ?_
 refine di 9 [] ?_
 refine aq (cD (ag _) aY rfl) ?_
 refine aO rfl (nN (by decide) (by decide) (by decide) (by decide)) ?_
 refine aO rfl ((show Ok _ _ _ [.a (aj (rP ((0:Int):Rat) ((-6:Int):Rat)))] from o4)) ?_
 refine aO rfl ((by have h9:=U3 Ke (D4 (CD (n:=0) (by decide) (by decide)) (CD (n:= -6) (by decide) (by decide)));rw[aaH.1,aaH.2] at h9;exact h9)) ?_
 refine aa ?_
 refine ah ?_
 refine ar (cD (ag _) aY rfl) ?_
 refine ac rfl (acu IK) ?_
 refine aa ?_
 refine aa ?_
 refine lq 42 rfl rfl ?_
 refine dU 12 ?_
 refine bH (dt rfl (Xx (n:= -4) (by decide) (by decide))) ?_
 refine bH (dt rfl (jQ (c:=true) (Nj ((CD (n:= -4) (by decide) (by decide)).m_) (dL (by decide)) (dL (by decide)) ((CD (n:= -4) (by decide) (by decide)).m_) (dL (by decide)) (dL (by decide))) (by decide+kernel))) ?_
 refine dU 13 ?_
 refine bH (aZ (c:=false) (fe rfl) (by rw[kI];rfl)) ?_
 refine dU 3 ?_
 refine bH (bJ (us:=ap Nr++aI ap ((te CK).drop (0+1))) gz rfl rfl (⟨by decide,by rw[kI];decide⟩) (aG ag _) (gj ag (eJ (by rw[kI];decide))) rfl) ?_
 refine bH (BA N7 rfl rfl rfl) ?_
 refine bH (aZ (c:=false) (dd jb rfl (Hj _ _) rfl) Pi.1) ?_
 refine dU 3 ?_
 refine bH (bJ (us:=ap My++aI ap ((te CK).drop (1+1))) gz rfl rfl (⟨by decide,by rw[kI];decide⟩) (aG ag _) (gj ag (eJ (by rw[kI];decide))) rfl) ?_
 refine bH (BA N7 rfl rfl rfl) ?_
 refine bH (aZ (c:=true) (dd jb rfl (Hj _ _) rfl) Pi.2) ?_
 refine yQ<|dz<|bj<|ba rfl<|aJ<|aa<|di 10 [] ?_
 refine aq (bJ (us:=ap My++aI ap ((te CK).drop (1+1))) gz rfl rfl (⟨by decide,by rw[kI];decide⟩) (aG ag _) (gj ag (eJ (by rw[kI];decide))) rfl) ?_
 refine aq (oV ag aY rfl) ?_
 refine aq (cD (ag _) aY rfl) ?_
 refine aO rfl ((by have h9:=Uj WJ O6;rw[Y1.1,Y1.2] at h9;exact h9)) ?_
 refine aa<|di 10 [] ?_
 refine aq (bJ (us:=ap Nr++aI ap ((te CK).drop (0+1))) gz rfl rfl (⟨by decide,by rw[kI];decide⟩) (aG ag _) (gj ag (eJ (by rw[kI];decide))) rfl) ?_
 refine aq (oV ag aY rfl) ?_
 refine aq (cD (ag _) aY rfl) ?_
 refine aO rfl ((by have h9:=Uj Xk O6;rw[aaA.1,aaA.2] at h9;exact h9)) ?_
 refine aa<|ah<|ar (bp rfl)<|ar (bp rfl)<|ar (bp rfl)<|bb ?_
 exact ai (al ae)
end Go.Proofs.YtkmdgigkbhmilaaGreat
namespace Go.Proofs.YtkmdgigkbhmilaaGreat
open Go.ChangeShapes Go.WideShapes Go.ChangeAt Go.RowKit Go.Deep
variable {cs:List Value}{fuel:Nat}
theorem own:ownKnob Tryz.prog.godebug=none:=by kernel_rfl
theorem Kt:laidOutB Tryz.prog=true:=by kernel_rfl
def NoB:Nat→Prop:=fun _=>False
section
variable {H:Type}{enc:TypeId×Value→H}{w:World}{base:Nat}{spare:Nat→Bool}{held:Bool}
theorem W9 {f:FuncId}{ds:List D0}{vs:Array Value}{W:World}(h:Ok Tryz.prog f ds [.c (.b true)]) (hr:RdL NoB W vs.toList ds):Calls Tryz.prog f vs W fun e W'=>e=.returned (.bool true)∧Below W.heap.size W W':=
 (h.run NoB vs W (fun _ h=>h.elim) hr).mono fun e w' ⟨v,e1,h1,h2⟩=>by
  have:=RdC.bool_eq h1
  subst this
  exact⟨e1,h2⟩
end
section
variable {H:Type}{enc:TypeId×Value→H}{w:World}{base:Nat}{spare:Nat→Bool}{held:Bool}
set_option maxRecDepth 100000 in
theorem GF {x:DataW H×List MemPlace}(h:DataW.trod enc Tryz.prog w base spare held fuel 24 cs=some x):
 ∃K U A B C D E F:Int,(0≤K∧K≤255)∧(0≤U∧U≤255)∧(-128≤A∧A≤127)∧(-128≤B∧B≤127)∧(-128≤C∧C≤127)∧(-128≤D∧D≤127)∧(-128≤E∧E≤127)∧(-128≤F∧F≤127)∧RdCs NoB w cs ([.i .u8 K]++[.i .u8 U]++[.i .i8 A]++[.i .i8 B]++[.i .i8 C]++[.i .i8 D]++[.i .i8 E]++[.i .i8 F]):=by
 obtain⟨xs,n,_,_,hcl,hxl,hf⟩:=DataW.trod_struct (P:=Tryz.prog) Tryz.underlying24 h
 have hcl:cs.length=8:=hcl.trans (by kernel_rfl)
 have hxl:xs.length=8:=hxl.trans (by kernel_rfl)
 match cs,hcl with
 |[c0,c1,c2,c3,c4,c5,c6,c7],_=>
  have h0:DataW.trod enc Tryz.prog w base spare held n 5 [c0]=xs[0]? :=hf 0 _ rfl
  have h1:DataW.trod enc Tryz.prog w base spare held n 5 [c1]=xs[1]? :=hf 1 _ rfl
  have h2:DataW.trod enc Tryz.prog w base spare held n 22 [c2]=xs[2]? :=hf 2 _ rfl
  have h3:DataW.trod enc Tryz.prog w base spare held n 22 [c3]=xs[3]? :=hf 3 _ rfl
  have h4:DataW.trod enc Tryz.prog w base spare held n 22 [c4]=xs[4]? :=hf 4 _ rfl
  have h5:DataW.trod enc Tryz.prog w base spare held n 22 [c5]=xs[5]? :=hf 5 _ rfl
  have h6:DataW.trod enc Tryz.prog w base spare held n 22 [c6]=xs[6]? :=hf 6 _ rfl
  have h7:DataW.trod enc Tryz.prog w base spare held n 22 [c7]=xs[7]? :=hf 7 _ rfl
  rw[j7 (by omega)] at h0 h1 h2 h3 h4 h5 h6 h7
  obtain⟨K,e0,_,g0⟩:=ti (P:=Tryz.prog) Tryz.underlying5 h0
  obtain⟨U,e1,_,g1⟩:=ti (P:=Tryz.prog) Tryz.underlying5 h1
  obtain⟨A,e2,_,g2⟩:=ti (P:=Tryz.prog) zL h2
  obtain⟨B,e3,_,g3⟩:=ti (P:=Tryz.prog) zL h3
  obtain⟨C,e4,_,g4⟩:=ti (P:=Tryz.prog) zL h4
  obtain⟨D,e5,_,g5⟩:=ti (P:=Tryz.prog) zL h5
  obtain⟨E,e6,_,g6⟩:=ti (P:=Tryz.prog) zL h6
  obtain⟨F,e7,_,g7⟩:=ti (P:=Tryz.prog) zL h7
  simp at e0 e1 e2 e3 e4 e5 e6 e7
  subst e0 e1 e2 e3 e4 e5 e6 e7
  simp[Lit.wf,IntKind.min,IntKind.max,IntKind.signed,IntKind.bits] at g0 g1 g2 g3 g4 g5 g6 g7
  have k: ∀(t:IntKind) (q:Int),RdCs NoB w [Value.int t q] [.i t q]:=fun t q=>u6 (.i _ _) tJ
  exact⟨K,U,A,B,C,D,E,F,by omega,by omega,by omega,by omega,by omega,by omega,by omega,by omega,lP (lP (lP (lP (lP (lP (lP (k .u8 K) (k .u8 U)) (k .i8 A)) (k .i8 B)) (k .i8 C)) (k .i8 D)) (k .i8 E)) (k .i8 F)⟩
set_option maxRecDepth 100000 in
theorem Iz {x:DataW H×List MemPlace}(h:DataW.trod enc Tryz.prog w base spare held fuel 26 cs=some x):
 ∃K U A B C D E F K' U' A' B' C' D' E' F' N:Int,(0≤K∧K≤255)∧(0≤U∧U≤255)∧(-128≤A∧A≤127)∧(-128≤B∧B≤127)∧(-128≤C∧C≤127)∧(-128≤D∧D≤127)∧(-128≤E∧E≤127)∧(-128≤F∧F≤127)∧(0≤K'∧K'≤255)∧(0≤U'∧U'≤255)∧(-128≤A'∧A'≤127)∧(-128≤B'∧B'≤127)∧(-128≤C'∧C'≤127)∧(-128≤D'∧D'≤127)∧(-128≤E'∧E'≤127)∧(-128≤F'∧F'≤127)∧(0≤N∧N≤255)∧RdCs NoB w cs (([.i .u8 K]++[.i .u8 U]++[.i .i8 A]++[.i .i8 B]++[.i .i8 C]++[.i .i8 D]++[.i .i8 E]++[.i .i8 F])++([.i .u8 K']++[.i .u8 U']++[.i .i8 A']++[.i .i8 B']++[.i .i8 C']++[.i .i8 D']++[.i .i8 E']++[.i .i8 F'])++[.i .u8 N]):=by
 obtain⟨xs,n,_,_,hcl,hxl,hf⟩:=DataW.trod_struct (P:=Tryz.prog) Tryz.underlying26 h
 have hcl:cs.length=17:=hcl.trans (by kernel_rfl)
 have hxl:xs.length=3:=hxl.trans (by kernel_rfl)
 match cs,hcl with
 |[c0,c1,c2,c3,c4,c5,c6,c7,c8,c9,c10,c11,c12,c13,c14,c15,c16],_=>
  have h0:DataW.trod enc Tryz.prog w base spare held n 24 [c0,c1,c2,c3,c4,c5,c6,c7]=xs[0]? :=hf 0 _ rfl
  have h1:DataW.trod enc Tryz.prog w base spare held n 24 [c8,c9,c10,c11,c12,c13,c14,c15]=xs[1]? :=hf 1 _ rfl
  have h2:DataW.trod enc Tryz.prog w base spare held n 5 [c16]=xs[2]? :=hf 2 _ rfl
  rw[j7 (by omega)] at h0 h1 h2
  obtain⟨K,U,A,B,C,D,E,F,b0,b1,b2,b3,b4,b5,b6,b7,r0⟩:=GF h0
  obtain⟨K',U',A',B',C',D',E',F',d0,d1,d2,d3,d4,d5,d6,d7,r1⟩:=GF h1
  obtain⟨N,e2,_,g2⟩:=ti (P:=Tryz.prog) Tryz.underlying5 h2
  simp at e2
  subst e2
  simp[Lit.wf,IntKind.min,IntKind.max,IntKind.signed,IntKind.bits] at g2
  exact⟨K,U,A,B,C,D,E,F,K',U',A',B',C',D',E',F',N,b0,b1,b2,b3,b4,b5,b6,b7,d0,d1,d2,d3,d4,d5,d6,d7,by omega,lP (lP r0 r1) (u6 (.i _ _) tJ)⟩
end
end Go.Proofs.YtkmdgigkbhmilaaGreat
namespace Go.Proofs.YtkmdgigkbhmilaaGreat
open Go.ChangeShapes Go.WideShapes Go.ChangeAt Go.RowKit
theorem Fc {K U A B C D E F K' U' A' B' C' D' E' F' N:Int}(w0:0≤K∧K≤255) (w1:0≤U∧U≤255) (w2: -128≤A∧A≤127) (w3: -128≤B∧B≤127) (w4: -128≤C∧C≤127) (w5: -128≤D∧D≤127) (w6: -128≤E∧E≤127) (w7: -128≤F∧F≤127) (w8:0≤K'∧K'≤255) (w9:0≤U'∧U'≤255) (w10: -128≤A'∧A'≤127) (w11: -128≤B'∧B'≤127) (w12: -128≤C'∧C'≤127) (w13: -128≤D'∧D'≤127) (w14: -128≤E'∧E'≤127) (w15: -128≤F'∧F'≤127) (w16:0≤N∧N≤255) {K2 U2 A2 B2 C2 D2 E2 F2 K'2 U'2 A'2 B'2 C'2 D'2 E'2 F'2 N2:Int}(v0:0≤K2∧K2≤255) (v1:0≤U2∧U2≤255) (v2: -128≤A2∧A2≤127) (v3: -128≤B2∧B2≤127) (v4: -128≤C2∧C2≤127) (v5: -128≤D2∧D2≤127) (v6: -128≤E2∧E2≤127) (v7: -128≤F2∧F2≤127) (v8:0≤K'2∧K'2≤255) (v9:0≤U'2∧U'2≤255) (v10: -128≤A'2∧A'2≤127) (v11: -128≤B'2∧B'2≤127) (v12: -128≤C'2∧C'2≤127) (v13: -128≤D'2∧D'2≤127) (v14: -128≤E'2∧E'2≤127) (v15: -128≤F'2∧F'2≤127) (v16:0≤N2∧N2≤255):Ok Tryz.prog 8 [.a (([.i .u8 K]++[.i .u8 U]++[.i .i8 A]++[.i .i8 B]++[.i .i8 C]++[.i .i8 D]++[.i .i8 E]++[.i .i8 F])++([.i .u8 K']++[.i .u8 U']++[.i .i8 A']++[.i .i8 B']++[.i .i8 C']++[.i .i8 D']++[.i .i8 E']++[.i .i8 F'])++[.i .u8 N]),.a (([.i .u8 K2]++[.i .u8 U2]++[.i .i8 A2]++[.i .i8 B2]++[.i .i8 C2]++[.i .i8 D2]++[.i .i8 E2]++[.i .i8 F2])++([.i .u8 K'2]++[.i .u8 U'2]++[.i .i8 A'2]++[.i .i8 B'2]++[.i .i8 C'2]++[.i .i8 D'2]++[.i .i8 E'2]++[.i .i8 F'2])++[.i .u8 N2])] [.c (.b true)]:=by
 obtain⟨L,vL,lL,hC,hR,hL⟩:=S6 rfl rfl (Kv w0 w1 w2 w3 w4 w5 w6 w7 w8 w9 w10 w11 w12 w13 w14 w15 w16) (Kv v0 v1 v2 v3 v4 v5 v6 v7 v8 v9 v10 v11 v12 v13 v14 v15 v16)
 exact Ms rfl rfl IY lL vL hC hR hL
set_option maxRecDepth 100000 in
theorem AJ (os:Os) (started:os.Started) (H:Type) (enc:TypeId×Value→H):
 ReturnsInHanded {} Tryz.checked os 8 .any (Rows.monotoneBesideSpec.pre6 enc Tryz.prog Tryz.f8 Rows.monotoneBesideRow.domain false) (Rows.monotoneBesideSpec.post enc Tryz.prog Tryz.f8 false true false false):=by
 refine returnsInHanded_of_change (C:=Tryz.checked) own started (by kernel_rfl) Tryz.func8
  (ChangeSpec.witness6 (enc:=enc) (C:=Tryz.checked) false ⟨#[],#[.agg #[.int .u8 0,.int .u8 0,.int .i8 0,.int .i8 0,.int .i8 0,.int .i8 0,.int .i8 0,.int .i8 0,.int .u8 0,.int .u8 0,.int .i8 0,.int .i8 0,.int .i8 0,.int .i8 0,.int .i8 0,.int .i8 0,.int .u8 0],.agg #[.int .u8 0,.int .u8 0,.int .i8 0,.int .i8 0,.int .i8 0,.int .i8 0,.int .i8 0,.int .i8 0,.int .u8 0,.int .u8 0,.int .i8 0,.int .i8 0,.int .i8 0,.int .i8 0,.int .i8 0,.int .i8 0,.int .u8 0]],[]⟩ 8 (by kernel_rfl) (by kernel_rfl) (by kernel_rfl) (by kernel_rfl)) ?_
 intro W base args ds gs before hval0 hW hcnd _
 have hval: ∀(j:Nat) t v,Tryz.f8.params[j]? =some t→args[j]? =some v→Value.okWide Tryz.prog W .any base t v:=hval0
 have hW':=hW
 obtain⟨p,q,hA0,hV,rfl,hfz,hnd⟩:=hW
 have hA:DataW.TrodAll enc Tryz.prog W 0 (fun _=>true) true Tryz.f8.params.toList args.toList ds p:=hA0
 rw[Tryz.params8] at hA hval
 obtain⟨v0,vs0,d0,ds0,p0,q0,hargs,rfl,rfl,h0,r0⟩:=trodAll_cons hA
 obtain⟨v1,vs1,d1,ds1,p1,q1,rfl,rfl,rfl,h1,r1⟩:=trodAll_cons r0
 obtain⟨rfl,rfl,rfl⟩:=trodAll_nil r1
 obtain rfl:args= #[v0,v1]:=by cases args;simp_all
 obtain⟨rfl,rfl⟩:=trodVars_none hV
 obtain⟨a0,rfl,_⟩:=okWide_struct Tryz.underlying26 (hval 0 26 v0 rfl rfl)
 have k0:=h0
 have lt0: ∀x∈p0,x.block<W.heap.size:=by obtain⟨m,hm⟩:=k0;exact DataW.trod_lt m _ _ _ hm
 obtain⟨a1,rfl,_⟩:=okWide_struct Tryz.underlying26 (hval 1 26 v1 rfl rfl)
 have k1:=h1
 have lt1: ∀x∈p1,x.block<W.heap.size:=by obtain⟨m,hm⟩:=k1;exact DataW.trod_lt m _ _ _ hm
 obtain⟨y00,y01,y02,y03,y04,y05,y06,y07,y08,y09,y010,y011,y012,y013,y014,y015,y016,g00,g01,g02,g03,g04,g05,g06,g07,g08,g09,g010,g011,g012,g013,g014,g015,g016,hr0⟩:=Iz (show DataW.trod enc Tryz.prog W 0 _ _ h0.choose 26 a0.toList=some _ from h0.choose_spec)
 obtain⟨y10,y11,y12,y13,y14,y15,y16,y17,y18,y19,y110,y111,y112,y113,y114,y115,y116,g10,g11,g12,g13,g14,g15,g16,g17,g18,g19,g110,g111,g112,g113,g114,g115,g116,hr1⟩:=Iz (show DataW.trod enc Tryz.prog W 0 _ _ h1.choose 26 a1.toList=some _ from h1.choose_spec)
 clear hA0 hval0
 refine(W9 (Fc g00 g01 g02 g03 g04 g05 g06 g07 g08 g09 g010 g011 g012 g013 g014 g015 g016 g10 g11 g12 g13 g14 g15 g16 g17 g18 g19 g110 g111 g112 g113 g114 g115 g116) (tY ⟨a0,rfl,hr0⟩ (tY ⟨a1,rfl,hr1⟩ RdL.nil))).mono fun e W' ⟨he,bel⟩=>?_
 subst he
 exact⟨_,rfl,_,_,_,[],_,[],hW',trodAll_mk1 (shut_bool Tryz.underlying4 _),(trodAll_cons_mk (Below.trod Kt (by kernel_rfl) (of_decide_eq_true (by kernel_rfl)) k0 bel lt0) (trodAll_cons_mk (Below.trod Kt (by kernel_rfl) (of_decide_eq_true (by kernel_rfl)) k1 bel lt1) trodAll_mk0)),rfl,bel.frame _,fun h=>by cases h⟩
theorem beside11_proved:Rows.MonotoneBesideSaid:=
 OpenClaim.holds_of_wide 8 Tryz.f8 rfl rfl rfl rfl rfl rfl rfl ⟨rfl,rfl,rfl,rfl,rfl⟩ rfl rfl rfl rfl rfl (by kernel_rfl) Tryz.func8 (by kernel_rfl)
  (of_decide_eq_true (by kernel_rfl)) (by unfold Func.isWrapper;first|(rw[if_pos (by decide+kernel)];kernel_rfl)|(rw[if_neg (by decide+kernel)];exact⟨rfl,rfl⟩))
  (fun os started H enc _=>AJ os started H enc)
end Go.Proofs.YtkmdgigkbhmilaaGreat
