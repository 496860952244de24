/-Curves sorted,open ends,equal regions:the reference. -/
import Derived.Test.YtkfgimjmgfoneaaGreatDoorVfQ
namespace Go.Proofs.YtkfgimjmgfoneaaGreatDoor
open Go Go.RowKit
variable {k:Ci}{f:Ft}{dp m st th v:Int}{F:List Ft}{D:List Int}{L:List Tl}{l:Ln}{o:Opn}{t:Tl}
theorem wx:type_of% @Int.natCast_nonneg:=@Int.natCast_nonneg
theorem PR {L:List Cv}(h0:0<L.length) (lL:L.length≤6000000) (hG: ∀x∈L,CvV x):Ok Tryz.prog 58 [.c (.s ((L).length) (aj ao (L)))] [.c (.s L.length (aj ao (fr aH dY L)))]:=by
 refine eG Tryz.func58 50 [.tmp 2] rfl<|ab<|ah<|ab<|ah<|ar (gU dS rfl) ?_
 refine DL.mk<|xN (q:=L.length) (ys:=aj ao (L)) (zs':=aj ao L) dS rfl rfl (ai ae _) (h0) (by omega) (mJ (by omega)) rfl (rfl) rfl (fun cg1 rg1 hga1 hgb1 hgc1=>dC ?_)
 refine ab<|ab<|ah<|aA<|aY (ι:={x9:Nat×Nat×List CellD // x9.1≤L.length∧L.length≤x9.2.1∧x9.2.1≤maxLen∧x9.2.2.length=(x9.2.1-L.length)*66}) (fun i=>⟨50,[(3,.o 8 L.length i.1.2.1),(4,.v (.c (.i .i64 (i.1.1:Int))))],[(8,86,aj ao (Fi aH dY L i.1.1)++i.1.2.2)]⟩) (fun i=>L.length-i.1.1) ⟨(0,cg1,rg1),cY _,hga1,hgb1,hgc1⟩ (ak ⟨rfl,rfl,trivial⟩ ⟨congrArg (fun q=>some (86,aj ao q++rg1)) (RP L),trivial⟩ rfl) ?_
 rintro⟨⟨p,c9,rs⟩,h2,h4c,h5c,h6c⟩
 dsimp only at h2 h4c h5c h6c
 dsimp only
 refine ab<|ab<|ah<|ar (m8 bY rfl rfl) ?_
 refine aB rfl (fun hc2=>?_) (fun hc2=>?_)
 ·have g1:p<L.length:=by have:=of_decide_eq_true hc2;omega
  have hOl:(fr aH dY (L.take p)).length=p:=by rw[pf,cX,de h2]
  refine az<|ab<|aA<|ab<|ah<|aA<|aY (ι:={j:Nat // j≤p∧wO aH dY (L.getD p aH) (fr aH dY (L.take p)) p=wO aH dY (L.getD p aH) (fr aH dY (L.take p)) j}) (fun i=>⟨50,[(3,.o 8 L.length c9),(4,.v (.c (.i .i64 (p:Int)))),(5,.v (.c (.i .i64 (i.1:Int))))],[(8,86,aj ao (xQ (fr aH dY (L.take p)) (L.drop (p+1)) (L.getD p aH) i.1)++rs)]⟩) (fun i=>i.1) ⟨p,aX _,rfl⟩ (ak ⟨rfl,rfl,rfl,trivial⟩ ⟨congrArg (fun q=>some (86,aj ao q++rs)) (Mu g1),trivial⟩ rfl) ?_
  rintro⟨j,h3,h4⟩
  replace h3:j≤p:=h3
  replace h4:wO aH dY (L.getD p aH) (fr aH dY (L.take p)) p=wO aH dY (L.getD p aH) (fr aH dY (L.take p)) j:=h4
  dsimp only
  refine ab<|ab<|nj 15 rfl rfl<|dO 2 ?_
  refine EF (au rfl) (fun c3 hb3=>?_)
  cases c3
  ·have g2:j=0:=by have:=of_decide_eq_false hb3;omega
   refine wd<|dh<|bv<|bT rfl<|aW<|ah<|ar (ba (by omega) rfl) ?_
   exact⟨⟨⟨p+1,c9,rs⟩,g1,h4c,h5c,h6c⟩,ak ⟨rfl,rfl,trivial⟩ ⟨congrArg (fun q=>some (86,aj ao q++rs)) (zU g1 (h4.trans (Iz (.inl g2)))),trivial⟩ rfl,by show L.length-(p+1)<L.length-p;omega⟩
  ·have g2:0<j:=by have:=of_decide_eq_true hb3;omega
   have hjl:j≤(fr aH dY (L.take p)).length:=by rw[hOl];exact h3
   refine dO 2<|bA (bn bY rfl rfl (by omega) rfl) ?_
   refine bA (aU (us:=ao (L.getD p aH)) aZ rfl rfl ((rG (e:=aH) (O:=(xQ (fr aH dY (L.take p)) (L.drop (p+1)) (L.getD p aH) j)) ae (by rw[kI hjl,hOl,dz];omega)).trans (congrArg ao (I4 hjl))) (ae _) rfl) ?_
   refine dO 2<|bA (bQ (((j-1:Nat):Int)) ((bC (by omega) (by omega)).trans (congrArg some (by omega))) rfl)<|bA (bn bY rfl rfl (by omega) rfl) ?_
   refine bA (aU (us:=ao ((fr aH dY (L.take p)).getD (j-1) aH)) aZ rfl rfl ((rG (e:=aH) (O:=(xQ (fr aH dY (L.take p)) (L.drop (p+1)) (L.getD p aH) j)) ae (by rw[kI hjl,hOl,dz];omega)).trans (congrArg ao (IC g2 hjl))) (ae _) rfl) ?_
   refine bA (mg rfl (Hi (hG _ (aE g1)) (hG _ (tB ((xI _).mem_iff.1 (aE (show j-1<(fr aH dY (L.take p)).length by rw[hOl];omega)))))))<|wd<|dh<|bv ?_
   refine aB rfl (fun hc4=>?_) (fun hc4=>?_)
   ·have g3:dY (L.getD p aH) ((fr aH dY (L.take p)).getD (j-1) aH)<0:=of_decide_eq_true hc4
    refine az<|ab<|aA<|pC 16 [8,999999] cZ (by kernel_rfl) rfl rfl<|dO 4<|bA (bQ (((j-1:Nat):Int)) ((bC (by omega) (by omega)).trans (congrArg some (by omega))) rfl)<|dO 2<|bA (bQ (((j-1:Nat):Int)) ((bC (by omega) (by omega)).trans (congrArg some (by omega))) rfl)<|bA (bn bY rfl rfl (by omega) rfl) ?_
    refine A8 (by kernel_rfl) (aU (us:=ao ((fr aH dY (L.take p)).getD (j-1) aH)) aZ rfl rfl ((rG (e:=aH) (O:=(xQ (fr aH dY (L.take p)) (L.drop (p+1)) (L.getD p aH) j)) ae (by rw[kI hjl,hOl,dz];omega)).trans (congrArg ao (IC g2 hjl))) (ae _) rfl) ?_
    refine dO 2<|bA (bn bY rfl rfl (by omega) rfl) ?_
    refine A8 (by kernel_rfl) (aU (us:=ao (L.getD p aH)) aZ rfl rfl ((rG (e:=aH) (O:=(xQ (fr aH dY (L.take p)) (L.drop (p+1)) (L.getD p aH) j)) ae (by rw[kI hjl,hOl,dz];omega)).trans (congrArg ao (I4 hjl))) (ae _) rfl) ?_
    refine bA (bn bY rfl rfl (by omega) rfl) ?_
    refine il (aV (us:=aj ao ((xQ (fr aH dY (L.take p)) (L.drop (p+1)) (L.getD p aH) j).set j ((fr aH dY (L.take p)).getD (j-1) aH))++rs) aZ rfl rfl rfl (ae _) (by rw[bN,ai ae,kI hjl,hOl,dz];omega) (EK ae (by rw[kI hjl,hOl,dz];omega) _) rfl) rfl rfl rfl rfl ?_
    refine nW<|te<|b9 (bn bY rfl rfl (by omega) rfl) ?_
    refine fV (aV (us:=aj ao (((xQ (fr aH dY (L.take p)) (L.drop (p+1)) (L.getD p aH) j).set j ((fr aH dY (L.take p)).getD (j-1) aH)).set (j-1) (L.getD p aH))++rs) aZ rfl rfl rfl (ae _) (by rw[bN,ai ae,List.length_set,kI hjl,hOl,dz];omega) (EK ae (by rw[List.length_set,kI hjl,hOl,dz];omega) _) rfl) ?_
    refine bv<|ah<|ar (bQ (((j-1:Nat):Int)) ((bC (by omega) (by omega)).trans (congrArg some (by omega))) rfl) ?_
    exact⟨⟨j-1,by omega,h4.trans (N9 g2 g3)⟩,ak ⟨rfl,rfl,rfl,trivial⟩ ⟨congrArg (fun q=>some (86,aj ao q++rs)) (OZ g2 hjl),trivial⟩ rfl,by show j-1<j;omega⟩
   ·have g3: ¬dY (L.getD p aH) ((fr aH dY (L.take p)).getD (j-1) aH)<0:=of_decide_eq_false hc4
    refine aW<|ah<|ar (ba (by omega) rfl) ?_
    exact⟨⟨⟨p+1,c9,rs⟩,g1,h4c,h5c,h6c⟩,ak ⟨rfl,rfl,trivial⟩ ⟨congrArg (fun q=>some (86,aj ao q++rs)) (zU g1 (h4.trans (Iz (.inr g3)))),trivial⟩ rfl,by show L.length-(p+1)<L.length-p;omega⟩
 ·have hp:p=L.length:=by have:=of_decide_eq_false hc2;omega
  refine aW<|ab<|ah<|bI (t:=2) (m:=66) (us:=aj ao (Fi aH dY L p)) rfl rfl (ia (n:=L.length) (by rw[ai ae,DI h2]) (by assumption) (by omega)) (by omega) (by assumption) (eg (by rw[ai ae,DI h2]))<|bh ?_
  rw[show fr aH dY L=(Fi aH dY L p) from by rw[hp,Mx]]
  exact ag (am aa)
theorem O7:Ok Tryz.prog 58 [.c (.s 0 [])] [.c (.s 0 [])]:=by
 refine eG Tryz.func58 50 [.tmp 2] rfl<|ab<|ah<|ab<|ah<|ar (gU dS rfl) ?_
 refine ar (jP dS rfl rfl rfl) ?_
 refine ab<|ab<|Nq (t:=3) rfl<|ah<|aA ?_
 refine aY (ι:=Nat) (fun i=>match i with|_=>⟨50,[(3,.v (.c (.s 0 []))),(4,.v (.c (.i .i64 0)))],[]⟩) (fun i=>0-i) 0 (ak ⟨rfl,rfl,trivial⟩ trivial rfl) ?_
 intro i
 match i with
 |_=>
  show Dw _ _ ⟨50,[(3,.v (.c (.s 0 []))),(4,.v (.c (.i .i64 0)))],[]⟩ _
  refine ab<|ab<|ah ?_
  refine bT rfl<|aW<|ab<|ah<|bh ?_
  exact ag (am aa)
theorem Q0 {L:List Cv}(lL:L.length≤6000000) (hG: ∀x∈L,CvV x):Ok Tryz.prog 58 [.c (.s ((L).length) (aj ao (L)))] [.c (.s (((fr aH dY L)).length) (aj ao ((fr aH dY L))))]:=by
 rw[pf]
 cases L with
 |nil=>exact O7
 |cons c L=>exact PR (Nat.succ_pos _) lL hG
theorem Qi {L:List Cv}(hL: ∀d∈L,d.good) (lL:L.length≤1000000):Ok Tryz.prog 57 [.c (.s ((L).length) (aj ao (L)))] [.c (.b (u4 L))]:=by
 refine bS Tryz.func57 rfl ?_
 refine DW.mk<|aY (ι:={w:Nat // w≤L.length∧ ∀i2,i2<w→ ∀j,j<2→ ¬ip L (iY L i2 j) L.length%2=1}) (fun i=>⟨62,[(0,.v (.c (.s ((L).length) (aj ao (L))))),(3,.v (.c (.i .i64 (i.1:Int))))],[]⟩) (fun i=>L.length-i.1) ⟨0,cY _,fun i2 h2=>absurd h2 (by omega)⟩ (ak ⟨rfl,rfl,trivial⟩ trivial rfl) ?_
 rintro⟨w,hwl,hno⟩
 replace hwl:w≤L.length:=hwl
 replace hno: ∀i2,i2<w→ ∀j,j<2→ ¬ip L (iY L i2 j) L.length%2=1:=hno
 dsimp only
 refine jt ?_
 refine cd rfl (fun hc1=>?_) (fun hc1=>?_)
 ·have g1:w<L.length:=by have:=of_decide_eq_true hc1;omega
  have gX:=hL _ (aE (d:=aH) g1)
  refine cS 12 []<|aq (cU aH ae g1 bY rfl)<|aq (bc Dl rfl rfl rfl) ?_
  refine aq (aJ (us:=al (L.getD w aH).p) bm rfl (vm _ _) rfl rfl) ?_
  refine aq (cU aH ae g1 bY rfl)<|aq (bc qt rfl rfl rfl) ?_
  refine aq (aJ (us:=al (L.getD w aH).q) bm rfl (li _ _) rfl rfl) ?_
  refine aq (aS (n:=2) (us:=al (((L.getD w aH).p))++al (((L.getD w aH).q))) di rfl rfl rfl (by decide) (by decide) rfl) ?_
  refine DW.mk<|aY (ι:={j:Nat // j≤2∧ ∀i2,i2<j→ ¬ip L (iY L w i2) L.length%2=1}) (fun i=>⟨62,[(0,.v (.c (.s ((L).length) (aj ao (L))))),(3,.v (.c (.i .i64 (w:Int)))),(4,.v (.c (.s (((vw L w)).length) (aj al ((vw L w)))))),(5,.v (.c (.i .i64 (i.1:Int))))],[]⟩) (fun i=>2-i.1) ⟨0,cY _,fun i2 h2=>absurd h2 (by omega)⟩ (ak ⟨rfl,rfl,congrArg (fun q=>some (DV.v (.c (.s 2 q)))) Iv,rfl,trivial⟩ trivial rfl) ?_
  rintro⟨j,hjl,hjn⟩
  replace hjl:j≤2:=hjl
  replace hjn: ∀i2,i2<j→ ¬ip L (iY L w i2) L.length%2=1:=hjn
  dsimp only
  refine jt ?_
  refine cd rfl (fun hc2=>?_) (fun hc2=>?_)
  ·have hj2:j<2:=by have:=of_decide_eq_true hc2;omega
   have gj:=Og gX hj2
   refine DW.mk<|aY (ι:={k:Nat // k≤L.length}) (fun i=>⟨62,[(0,.v (.c (.s ((L).length) (aj ao (L))))),(3,.v (.c (.i .i64 (w:Int)))),(4,.v (.c (.s (((vw L w)).length) (aj al ((vw L w)))))),(5,.v (.c (.i .i64 (j:Int)))),(6,.v (.c (.i .i64 ((ip L (iY L w j) i.1:Int))))),(7,.v (.c (.i .i64 (i.1:Int))))],[]⟩) (fun i=>L.length-i.1) ⟨0,cY _⟩ (ak ⟨rfl,rfl,rfl,rfl,rfl,rfl,trivial⟩ trivial rfl) ?_
   rintro⟨k,hkl⟩
   replace hkl:k≤L.length:=hkl
   dsimp only
   refine jt ?_
   refine cd rfl (fun hc3=>?_) (fun hc3=>?_)
   ·have g2:k<L.length:=by have:=of_decide_eq_true hc3;omega
    have gk:=hL _ (aE (d:=aH) g2)
    have lc:=uO L (iY L w j) k
    refine cS 10 []<|aq (cU aH ae g2 bY rfl)<|aq (bc Dl rfl rfl rfl) ?_
    refine aq (aJ (us:=al (L.getD k aH).p) bm rfl (vm _ _) rfl rfl) ?_
    refine aq (aC (us:=al (iY L w j)++aj al ((vw L w).drop (j+1))) ei rfl rfl (⟨by omega,by show(j:Int)<2;omega⟩) (ai aD _) (aQ aD (aK (show j<(vw L w).length from hj2))) rfl) ?_
    refine aq (i4 aD bm rfl)<|aO rfl (mn (dD gk) gj) ?_
    refine cd rfl (fun hc4=>?_) (fun hc4=>?_)
    ·have m1:=beq_iff_eq.1 hc4
     refine ar (bQ ((((ip L (iY L w j) k)+1:Nat):Int)) ((aP (by omega) (by omega)).trans (congrArg some (by omega))) rfl)<|cS 10 []<|aq (cU aH ae g2 bY rfl)<|aq (bc qt rfl rfl rfl) ?_
     refine aq (aJ (us:=al (L.getD k aH).q) bm rfl (li _ _) rfl rfl) ?_
     refine aq (aC (us:=al (iY L w j)++aj al ((vw L w).drop (j+1))) ei rfl rfl (⟨by omega,by show(j:Int)<2;omega⟩) (ai aD _) (aQ aD (aK (show j<(vw L w).length from hj2))) rfl) ?_
     refine aq (i4 aD bm rfl)<|aO rfl (mn (eA gk) gj) ?_
     refine cd rfl (fun hc5=>?_) (fun hc5=>?_)
     ·have m2:=beq_iff_eq.1 hc5
      refine ar (bQ ((((ip L (iY L w j) k)+1+1:Nat):Int)) ((aP (by omega) (by omega)).trans (congrArg some (by omega))) rfl)<|ar (ba (by omega) rfl) ?_
      exact⟨⟨k+1,g2⟩,ak ⟨rfl,rfl,rfl,rfl,congrArg (fun q:Nat=>some (DV.v (.c (.i .i64 (q:Int))))) (by show _=(ip L (iY L w j) k)+(if cP (L.getD k aH).p (iY L w j)=0 then 1 else 0)+(if cP (L.getD k aH).q (iY L w j)=0 then 1 else 0);rw[if_pos m1,if_pos m2];try rfl),rfl,trivial⟩ trivial rfl,by show L.length-(k+1)<L.length-k;omega⟩
     ·have m2:=beq_eq_false_iff_ne.1 hc5
      refine ar (ba (by omega) rfl) ?_
      exact⟨⟨k+1,g2⟩,ak ⟨rfl,rfl,rfl,rfl,congrArg (fun q:Nat=>some (DV.v (.c (.i .i64 (q:Int))))) (by show _=(ip L (iY L w j) k)+(if cP (L.getD k aH).p (iY L w j)=0 then 1 else 0)+(if cP (L.getD k aH).q (iY L w j)=0 then 1 else 0);rw[if_pos m1,if_neg m2];try rfl),rfl,trivial⟩ trivial rfl,by show L.length-(k+1)<L.length-k;omega⟩
    ·have m1:=beq_eq_false_iff_ne.1 hc4
     refine cS 10 []<|aq (cU aH ae g2 bY rfl)<|aq (bc qt rfl rfl rfl) ?_
     refine aq (aJ (us:=al (L.getD k aH).q) bm rfl (li _ _) rfl rfl) ?_
     refine aq (aC (us:=al (iY L w j)++aj al ((vw L w).drop (j+1))) ei rfl rfl (⟨by omega,by show(j:Int)<2;omega⟩) (ai aD _) (aQ aD (aK (show j<(vw L w).length from hj2))) rfl) ?_
     refine aq (i4 aD bm rfl)<|aO rfl (mn (eA gk) gj) ?_
     refine cd rfl (fun hc6=>?_) (fun hc6=>?_)
     ·have m2:=beq_iff_eq.1 hc6
      refine ar (bQ ((((ip L (iY L w j) k)+1:Nat):Int)) ((aP (by omega) (by omega)).trans (congrArg some (by omega))) rfl)<|ar (ba (by omega) rfl) ?_
      exact⟨⟨k+1,g2⟩,ak ⟨rfl,rfl,rfl,rfl,congrArg (fun q:Nat=>some (DV.v (.c (.i .i64 (q:Int))))) (by show _=(ip L (iY L w j) k)+(if cP (L.getD k aH).p (iY L w j)=0 then 1 else 0)+(if cP (L.getD k aH).q (iY L w j)=0 then 1 else 0);rw[if_neg m1,if_pos m2];try rfl),rfl,trivial⟩ trivial rfl,by show L.length-(k+1)<L.length-k;omega⟩
     ·have m2:=beq_eq_false_iff_ne.1 hc6
      refine ar (ba (by omega) rfl) ?_
      exact⟨⟨k+1,g2⟩,ak ⟨rfl,rfl,rfl,rfl,congrArg (fun q:Nat=>some (DV.v (.c (.i .i64 (q:Int))))) (by show _=(ip L (iY L w j) k)+(if cP (L.getD k aH).p (iY L w j)=0 then 1 else 0)+(if cP (L.getD k aH).q (iY L w j)=0 then 1 else 0);rw[if_neg m1,if_neg m2];try rfl),rfl,trivial⟩ trivial rfl,by show L.length-(k+1)<L.length-k;omega⟩
   ·have hk:k=L.length:=by have:=of_decide_eq_false hc3;omega
    refine ar (cC (r:=(((ip L (iY L w j) k)%2:Nat):Int)) rfl rfl (by decide) ((gA (wx _)).trans (by omega)) rfl) ?_
    refine cd rfl (fun hc7=>?_) (fun hc7=>?_)
    ·have e0:u4 L=true:=NY g1 hj2 (by have:=beq_iff_eq.1 hc7;rw[hk] at this;omega)
     refine ag ?_
     rw[e0]
     exact am aa
    ·have hj3: ¬ip L (iY L w j) L.length%2=1:=by have:=beq_eq_false_iff_ne.1 hc7;rw[hk] at this;omega
     refine ar (ba (by omega) rfl) ?_
     exact⟨⟨j+1,hj2,fun i2 h2=>(fm.1 h2).elim (hjn i2) fun e=>by rw[e];exact hj3⟩,ak ⟨rfl,rfl,rfl,rfl,trivial⟩ trivial rfl,by show 2-(j+1)<2-j;omega⟩
  ·have hj2:j=2:=by have:=of_decide_eq_false hc2;omega
   refine ar (ba (by omega) rfl) ?_
   exact⟨⟨w+1,g1,fun i2 h2=>(fm.1 h2).elim (hno i2) fun e=>by rw[e];exact fun j4 h4=>hjn j4 (by omega)⟩,ak ⟨rfl,rfl,trivial⟩ trivial rfl,by show L.length-(w+1)<L.length-w;omega⟩
 ·have e0:u4 L=false:=O8 fun i2 h2=>hno i2 (by have:=of_decide_eq_false hc1;omega)
  refine ag ?_
  rw[e0]
  exact am aa
theorem M1 {L M:List Cv}(hL: ∀d∈L,d.good) (hM: ∀d∈M,d.good) (lL:L.length≤1000000) (_lM:M.length≤1000000):Ok Tryz.prog 68 [.a (([.s ((L).length) (aj ao (L))])),.a (([.s ((M).length) (aj ao (M))]))] [.c (.b (Eh L M))]:=by
 refine bS Tryz.func68 rfl ?_
 refine cd rfl (fun hc1=>?_) (fun hc1=>?_)
 ·have e0:Eh L M=false:=Rn (by have:=bne_iff_ne.1 hc1;omega)
  refine ag ?_
  rw[e0]
  exact am aa
 ·have hl:L.length=M.length:=by have:=bne_eq_false_iff_eq.1 hc1;omega
  refine DW.mk<|aY (ι:={k:Nat // k≤L.length∧ ∀i2,i2<k→Cd (L.getD i2 aH) (M.getD i2 aH)=true}) (fun i=>⟨32,[(2,.p 2 0),(3,.p 3 0),(5,.v (.c (.i .i64 (i.1:Int))))],[(2,61,([.s ((L).length) (aj ao (L))])),(3,61,([.s ((M).length) (aj ao (M))]))]⟩) (fun i=>L.length-i.1) ⟨0,cY _,fun i2 h2=>absurd h2 (by omega)⟩ (ak ⟨rfl,rfl,rfl,trivial⟩ ⟨rfl,rfl,trivial⟩ rfl) ?_
  rintro⟨k,hkl,hno⟩
  replace hkl:k≤L.length:=hkl
  replace hno: ∀i2,i2<k→Cd (L.getD i2 aH) (M.getD i2 aH)=true:=hno
  dsimp only
  refine jt ?_
  refine cd rfl (fun hc2=>?_) (fun hc2=>?_)
  ·have g1:k<L.length:=by have:=of_decide_eq_true hc2;omega
   have g2:k<M.length:=by omega
   refine cS 12 [] ?_
   refine aq (cU aH ae g1 bY rfl) ?_
   refine aq (i4 ae aZ rfl) ?_
   refine aq (cU aH ae g2 bY rfl) ?_
   refine aq (i4 ae aZ rfl) ?_
   refine aO rfl (NG (hL _ (aE g1)) (hM _ (aE g2))) ?_
   refine cd rfl (fun hc3=>?_) (fun hc3=>?_)
   ·have e0:Eh L M=false:=R4 g1 (by simpa using hc3)
    refine ag ?_
    rw[e0]
    exact am aa
   ·have g3:Cd (L.getD k aH) (M.getD k aH)=true:=by simpa using hc3
    refine ar (ba (by omega) rfl) ?_
    exact⟨⟨k+1,g1,fun i2 h2=>(fm.1 h2).elim (hno i2) fun e=>by rw[e];exact g3⟩,ak ⟨rfl,rfl,rfl,trivial⟩ ⟨rfl,rfl,trivial⟩ rfl,by show L.length-(k+1)<L.length-k;omega⟩
  ·have e0:Eh L M=true:=Qg hl fun i2 h2=>hno i2 (by have:=of_decide_eq_false hc2;omega)
   refine ag ?_
   rw[e0]
   exact am aa
theorem NZ (hl:GL l):Ok Tryz.prog 91 [.a (dZ l)] [.c (.b (P3 l))]:=by
 refine bS Tryz.func91 rfl ?_
 refine ac rfl (gW (hl.a.m_)) ?_
 refine ar (au rfl) ?_
 refine ac rfl (gW (hl.b.m_)) ?_
 refine ar (au rfl) ?_
 refine ac rfl (gW (hl.c.m_)) ?_
 refine ar (au rfl) ?_
 refine ac rfl (bF) ?_
 refine dF (au rfl) (fun c1 hb1=>?_)
 cases c1
 ·refine ac rfl (bF)<|ag ?_
  rw[MH hb1]
  exact am aa
 ·refine ag ?_
  rw[No hb1]
  exact am aa
theorem QR (hl:GL l):Ok Tryz.prog 91 [.a (dZ l)] [.c (.b true)]:=i9 (NZ hl) (Ro hl.n)
theorem NR (hk:GK k):Ok Tryz.prog 34 [.a (cr k)] [.c (.b (decide (aM k.q 0>0)))]:=by
 refine bS Tryz.func34 rfl ?_
 refine ac rfl (gW (hk.x.m_)) ?_
 refine ar (au rfl) ?_
 refine ac rfl (gW (hk.y.m_)) ?_
 refine ar (au rfl) ?_
 refine ac rfl (gW (hk.q.m_)) ?_
 refine ar (au rfl) ?_
 refine ac rfl (bF) ?_
 exact ag (am aa)
theorem NE (hk:GK k) (h0:0<k.q):Ok Tryz.prog 34 [.a (cr k)] [.c (.b true)]:=i9 (NR hk) (decide_eq_true (mZ.2 h0))
theorem OV {f t:Pt}(vc:CvV (Cv.seg l f t)):Ok Tryz.prog 56 [.a (([.b false]++dZ l++kW++[.b false]++al f++al t))] [.c (.b true)]:=by
 have hl:=vc.g.1
 have hf:=vc.g.2.1
 have ht:=vc.g.2.2
 refine bS Tryz.func56 rfl ?_
 refine ar (dy (al f) bm rfl (by kernel_rfl)) ?_
 refine ac rfl (i9 (c:=true) (pS (hf.a1.m_) (hf.b1.m_) (hf.a2.m_) (hf.b2.m_) (hf.c.m_)) hf.v) ?_
 refine ar (au rfl) ?_
 refine ar (dy (al t) bm rfl (by kernel_rfl)) ?_
 refine ac rfl (i9 (c:=true) (pS (ht.a1.m_) (ht.b1.m_) (ht.a2.m_) (ht.b2.m_) (ht.c.m_)) ht.v) ?_
 refine nE rfl ?_
 refine ar (eL iX rfl) ?_
 refine ar (au rfl) ?_
 refine ar (au rfl) ?_
 refine ar (eL iX rfl) ?_
 refine ar (au rfl) ?_
 refine ar (eL iX rfl) ?_
 refine ar (au rfl) ?_
 refine ar (dy (dZ l) ud rfl (by kernel_rfl))<|ac rfl (QR hl)<|nE rfl<|ar (jo aZ rfl) ?_
 refine ar (dy (al f) bm rfl (by kernel_rfl)) ?_
 refine ac rfl (i9 (c:=true) (Dr hl hf ht hf) vc.sp) ?_
 refine ar (au rfl) ?_
 refine ar (jo aZ rfl) ?_
 refine ar (dy (al t) bm rfl (by kernel_rfl)) ?_
 refine ac rfl (i9 (c:=true) (Dr hl hf ht ht) vc.sq) ?_
 refine ar (au rfl) ?_
 refine ar (dy (al f) bm rfl (by kernel_rfl)) ?_
 refine ar (dy (al t) bm rfl (by kernel_rfl)) ?_
 refine ac rfl (i9 (c:=false) (mn hf ht) (beq_eq_false_iff_ne.2 vc.ne)) ?_
 exact ag (am aa)
theorem PT {w:Bool}{f t:Pt}(vc:CvV (Cv.arc k w f t)):Ok Tryz.prog 56 [.a (([.b true]++pZ++cr k++[.b w]++al f++al t))] [.c (.b true)]:=by
 have hk:=vc.g.1
 have hf:=vc.g.2.1
 have ht:=vc.g.2.2
 refine bS Tryz.func56 rfl ?_
 refine ar (dy (al f) bm rfl (by kernel_rfl)) ?_
 refine ac rfl (i9 (c:=true) (pS (hf.a1.m_) (hf.b1.m_) (hf.a2.m_) (hf.b2.m_) (hf.c.m_)) hf.v) ?_
 refine ar (au rfl) ?_
 refine ar (dy (al t) bm rfl (by kernel_rfl)) ?_
 refine ac rfl (i9 (c:=true) (pS (ht.a1.m_) (ht.b1.m_) (ht.a2.m_) (ht.b2.m_) (ht.c.m_)) ht.v) ?_
 refine nE rfl ?_
 refine ar (eL iX rfl) ?_
 refine ar (au rfl) ?_
 refine ar (dy (cr k) sf rfl (by kernel_rfl)) ?_
 refine ac rfl (NE hk vc.pos) ?_
 refine ar (au rfl) ?_
 refine ar (eL iX rfl) ?_
 refine ar (au rfl) ?_
 refine DL.mk<|jN (eB rfl)<|dC ?_
 refine nE rfl<|ar (jo aZ rfl) ?_
 refine ar (dy (al f) bm rfl (by kernel_rfl)) ?_
 refine ac rfl (i9 (c:=true) (CT hk hf ht hf) vc.sp) ?_
 refine ar (au rfl) ?_
 refine ar (jo aZ rfl) ?_
 refine ar (dy (al t) bm rfl (by kernel_rfl)) ?_
 refine ac rfl (i9 (c:=true) (CT hk hf ht ht) vc.sq) ?_
 refine ar (au rfl) ?_
 refine ar (dy (al f) bm rfl (by kernel_rfl)) ?_
 refine ar (dy (al t) bm rfl (by kernel_rfl)) ?_
 refine ac rfl (i9 (c:=false) (mn hf ht) (beq_eq_false_iff_ne.2 vc.ne)) ?_
 exact ag (am aa)
theorem P5 {c:Cv}(vc:CvV c):Ok Tryz.prog 56 [.a (ao c)] [.c (.b true)]:=by
 cases c with
 |seg l f t=>exact OV vc
 |arc k w f t=>exact PT vc
theorem HK {L:List Cv}(hL: ∀d∈L,CvV d) (lL:L.length≤1000000):Ok Tryz.prog 35 [.c (.s ((L).length) (aj ao (L)))] [.a (([.s (((gD L).1).length) (aj ao ((gD L).1))])),.c (.i .i64 ((gD L).2))]:=by
 refine bS Tryz.func35 rfl ?_
 refine cd rfl (fun hc1=>?_) (fun hc1=>?_)
 ·have e0:=Om (by have:=of_decide_eq_true hc1;omega:400<L.length)
  refine ar (aG (us:=([.s 0 []])) Ke FT rfl rfl rfl) ?_
  refine ag ?_
  rw[e0]
  exact bb rA rfl (am aa)
 ·have l4: ¬400<L.length:=by have:=of_decide_eq_false hc1;omega
  have fP:=D1 hL
  have lP:=GN (Nat.le_of_not_lt l4)
  have fO: ∀d∈ug (p6 L),Fw d:=fun d hd=>fP d (qW (aX _) hd)
  have lO:=vV (p6 L) (p6 L).length
  have lO2:(ug (p6 L)).length≤6000000:=by unfold ug;omega
  obtain⟨fM,lM⟩:=zF (f:=(ug (p6 L)).length) fO
  have fE:=DO hL
  refine DW.mk<|aY (ι:={k:Nat // k≤L.length}) (fun i=>⟨37,[(0,.v (.c (.s ((L).length) (aj ao (L))))),(2,.p 2 0),(4,.v (.c (.i .i64 (i.1:Int))))],[(2,61,([.s 0 []]))]⟩) (fun i=>L.length-i.1) ⟨0,cY _⟩ (ak ⟨rfl,rfl,rfl,trivial⟩ ⟨rfl,trivial⟩ rfl) ?_
  rintro⟨k,hkl⟩
  replace hkl:k≤L.length:=hkl
  dsimp only
  refine jt ?_
  refine cd rfl (fun hc2=>?_) (fun hc2=>?_)
  ·have g1:k<L.length:=by have:=of_decide_eq_true hc2;omega
   refine ar (cU aH ae g1 bY rfl)<|ar (i4 ae aZ rfl)<|ac rfl (P5 (hL _ (aE g1)))<|nE rfl<|ar (ba (by omega) rfl) ?_
   exact⟨⟨k+1,g1⟩,ak ⟨rfl,rfl,rfl,trivial⟩ ⟨rfl,trivial⟩ rfl,by show L.length-(k+1)<L.length-k;omega⟩
  ·refine ac rfl (Qi (fun d hd=>(hL d hd).g) (by omega)) ?_
   refine cd rfl (fun hc3=>?_) (fun hc3=>?_)
   ·have e0:=OM l4 hc3
    refine ar (aG (us:=([.s 0 []])) Ke FT rfl rfl rfl) ?_
    refine ag ?_
    rw[e0]
    exact bb rA rfl (am aa)
   ·refine ac rfl (Q4 hL (Nat.le_of_not_lt l4))<|ac rfl (Rk (fun d hd=>(fP d hd).v.g) lP)<|ac rfl (RN fO lO2)<|ac rfl ((show Ok Tryz.prog 58 _ [.c (.s (((vg L)).length) (aj ao ((vg L))))] from Q0 (L:=Ll (ug (p6 L))) (iz lM lO2) (fun d hd=>(fM d hd).v))) ?_
    refine cd rfl (fun hc4=>?_) (fun hc4=>?_)
    ·have e0:=Of l4 hc3 (by have:=of_decide_eq_true hc4;omega)
     refine ar (aG (us:=([.s 0 []])) Ke FT rfl rfl rfl) ?_
     refine ag ?_
     rw[e0]
     exact bb rA rfl (am aa)
    ·have e0:=Pv l4 hc3 (by have:=of_decide_eq_false hc4;omega)
     refine ar (aG (us:=([.s (((vg L)).length) (aj ao ((vg L)))])) Ke FT rfl rfl rfl) ?_
     refine ag ?_
     rw[e0]
     exact bb rA rfl (am aa)
theorem Qk {L:List Cv}(hL: ∀d∈L,CvV d) (lL:L.length≤1000000):Ok Tryz.prog 41 [.a (([.s ((L).length) (aj ao (L))]))] [.c (.b (qI L))]:=by
 obtain⟨f1,f2⟩:=nI hL
 refine bS Tryz.func41 rfl ?_
 refine ac rfl (HK hL lL) ?_
 refine dF (au rfl) (fun c1 hb1=>?_)
 cases c1
 ·refine ag ?_
  rw[show qI L=false from by unfold qI;rw[hb1];rfl]
  exact am aa
 ·refine ac rfl (M1 (fun d hd=>(hL d hd).g) (fun d hd=>(f1 d hd).g) lL (by omega))<|ag ?_
  rw[show qI L=Eh L (gD L).1 from by unfold qI;rw[hb1];rfl]
  exact am aa
theorem Il (hk:GK k) (h0:0<k.q):Ok Tryz.prog 17 [.a (cr k)] [.a (([.s (((gD (ju k)).1).length) (aj ao ((gD (ju k)).1))])),.c (.i .i64 ((gD (ju k)).2))]:=by
 refine bS Tryz.func17 rfl<|ac rfl (NE hk h0)<|nE rfl<|ac rfl (Gu hk)<|ac rfl (HK (A7 hk h0) (dG rfl)) ?_
 exact ag (bb rA rfl (am aa))
theorem QA {L:List Cv}(hL: ∀d∈L,CvV d) (_lL:L.length≤400):Ok Tryz.prog 42 [.a (([.s ((L).length) (aj ao (L))]))] [.c (.b (sU L))]:=by
 refine bS Tryz.func42 rfl<|cS 34 [] ?_
 refine pr (au rfl) (fun c1 hb1=>?_)
 cases c1
 ·have l2:L.length=2:=by have:=bne_eq_false_iff_eq.1 hb1;omega
  have g0:0<L.length:=by omega
  have g1:1<L.length:=by omega
  refine aq (cU aH ae g0 bY rfl)<|aq (bc Ih rfl rfl rfl) ?_
  refine aq (aL iX rfl (EP _ _) rfl) ?_
  refine pr (au rfl) (fun c2 hb2=>?_)
  cases c2
  ·have a0:(L.getD 0 aH).isArc=true:=by simpa using hb2
   obtain⟨k0,q0⟩:=Aq (hL _ (aE g0)) a0
   refine aq (cU aH ae g1 bY rfl)<|aq (bc Ih rfl rfl rfl) ?_
   refine aq (aL iX rfl (EP _ _) rfl) ?_
   refine pr (au rfl) (fun c3 hb3=>?_)
   cases c3
   ·have a1:(L.getD 1 aH).isArc=true:=by simpa using hb3
    obtain⟨k1,q1⟩:=Aq (hL _ (aE g1)) a1
    refine aq (cU aH ae g0 bY rfl)<|aq (bc tz rfl rfl rfl) ?_
    refine aq (aJ (us:=cr (L.getD 0 aH).ci) sf rfl (uX (by assumption) _) rfl rfl) ?_
    refine aq (cU aH ae g1 bY rfl)<|aq (bc tz rfl rfl rfl) ?_
    refine aq (aJ (us:=cr (L.getD 1 aH).ci) sf rfl (uX (by assumption) _) rfl rfl) ?_
    refine aO rfl (MR k0 k1) ?_
    refine cd rfl (fun hc4=>?_) (fun hc4=>?_)
    ·have s0:pc (L.getD 0 aH).ci (L.getD 1 aH).ci=false:=by simpa using hc4
     have e0:sU L=false:=by unfold sU;rw[if_neg (show ¬ ¬L.length=2 from fun q=>q l2),if_neg (show ¬(L.getD 0 aH).isArc=false from by rw[a0];decide),if_neg (show ¬(L.getD 1 aH).isArc=false from by rw[a1];decide),if_pos s0]
     refine ag ?_
     rw[e0]
     exact am aa
    ·have s0:pc (L.getD 0 aH).ci (L.getD 1 aH).ci=true:=by simpa using hc4
     have e0:sU L=Eh L (gD (ju (L.getD 0 aH).ci)).1:=by unfold sU;rw[if_neg (show ¬ ¬L.length=2 from fun q=>q l2),if_neg (show ¬(L.getD 0 aH).isArc=false from by rw[a0];decide),if_neg (show ¬(L.getD 1 aH).isArc=false from by rw[a1];decide),if_neg (show ¬pc (L.getD 0 aH).ci (L.getD 1 aH).ci=false from by rw[s0];decide)]
     obtain⟨f1,f2⟩:=nI (A7 k0 q0)
     refine ar (cU aH ae g0 bY rfl)<|ar (bc tz rfl rfl rfl) ?_
     refine ar (aJ (us:=cr (L.getD 0 aH).ci) sf rfl (uX (by assumption) _) rfl rfl) ?_
     refine ac rfl (Il k0 q0)<|ac rfl (M1 (fun d hd=>(hL d hd).g) (fun d hd=>(f1 d hd).g) (by omega) (by omega))<|ag ?_
     rw[e0]
     exact am aa
   ·have a1:(L.getD 1 aH).isArc=false:=by simpa using hb3
    have e0:sU L=false:=by unfold sU;rw[if_neg (show ¬ ¬L.length=2 from fun q=>q l2),if_neg (show ¬(L.getD 0 aH).isArc=false from by rw[a0];decide),if_pos a1]
    refine kG rfl<|ag ?_
    rw[e0]
    exact am aa
  ·have a0:(L.getD 0 aH).isArc=false:=by simpa using hb2
   have e0:sU L=false:=by unfold sU;rw[if_neg (show ¬ ¬L.length=2 from fun q=>q l2),if_pos a0]
   refine aq (au rfl)<|kG rfl<|ag ?_
   rw[e0]
   exact am aa
 ·have e0:sU L=false:=if_pos (by have:=bne_iff_ne.1 hb1;omega)
  refine aq (au rfl)<|aq (au rfl)<|kG rfl<|ag ?_
  rw[e0]
  exact am aa
theorem Ry (hf:FtV f) :Ok Tryz.prog 20 [.a (([.e (.string f.nm)]++[.i .i64 f.kd]++[.i .i64 f.dp]++[.s ((f.sh).length) (aj ao (f.sh))])),.c (.i .i64 th)] [.c (.b (iH f th))]:=by
 refine bS Tryz.func20 rfl ?_
 refine ac rfl (Rl hf.n) ?_
 refine dF (au rfl) (fun c1 hb1=>?_)
 cases c1
 ·have b1:xx f.nm=true:=by simpa using hb1
  refine ac rfl (Qk hf.v (iz hf.l (by decide))) ?_
  refine dF (au rfl) (fun c2 hb2=>?_)
  cases c2
  ·have b2:qI f.sh=true:=by simpa using hb2
   refine dF (au rfl) (fun c3 hb3=>?_)
   cases c3
   ·have b3: ¬f.sh.length=0:=by have:=beq_eq_false_iff_ne.1 hb3;omega
    refine dF (au rfl) (fun c4 hb4=>?_)
    cases c4
    ·have b4: ¬f.dp<1:=of_decide_eq_false hb4
     refine cd rfl (fun hc5=>?_) (fun hc5=>?_)
     ·have b5:f.dp>th:=of_decide_eq_true hc5
      have e0:iH f th=false:=by unfold iH;rw[if_neg (show ¬xx f.nm=false from by rw[b1];decide),if_neg (show ¬qI f.sh=false from by rw[b2];decide),if_neg b3,if_neg b4,if_pos b5]
      refine ag ?_
      rw[e0]
      exact am aa
     ·have b5: ¬f.dp>th:=of_decide_eq_false hc5
      refine cd rfl (fun hc6=>?_) (fun hc6=>?_)
      ·have e0:iH f th=true:=by unfold iH;rw[if_neg (show ¬xx f.nm=false from by rw[b1];decide),if_neg (show ¬qI f.sh=false from by rw[b2];decide),if_neg b3,if_neg b4,if_neg b5,if_pos (beq_iff_eq.1 hc6)]
       refine ag ?_
       rw[e0]
       exact am aa
      ·have b6: ¬f.kd=1:=beq_eq_false_iff_ne.1 hc6
       refine cd rfl (fun hc7=>?_) (fun hc7=>?_)
       ·have e0:iH f th=sU f.sh:=by unfold iH;rw[if_neg (show ¬xx f.nm=false from by rw[b1];decide),if_neg (show ¬qI f.sh=false from by rw[b2];decide),if_neg b3,if_neg b4,if_neg b5,if_neg b6,if_pos (beq_iff_eq.1 hc7)]
        refine ac rfl (QA hf.v hf.l)<|ag ?_
        rw[e0]
        exact am aa
       ·have b7: ¬f.kd=3:=beq_eq_false_iff_ne.1 hc7
        refine dF (au rfl) (fun c8 hb8=>?_)
        cases c8
        ·have e0:iH f th=false:=by unfold iH;rw[if_neg (show ¬xx f.nm=false from by rw[b1];decide),if_neg (show ¬qI f.sh=false from by rw[b2];decide),if_neg b3,if_neg b4,if_neg b5,if_neg b6,if_neg b7,if_neg (beq_eq_false_iff_ne.1 hb8)]
         refine ag ?_
         rw[e0]
         exact am aa
        ·have e0:iH f th=(f.dp==th):=by unfold iH;rw[if_neg (show ¬xx f.nm=false from by rw[b1];decide),if_neg (show ¬qI f.sh=false from by rw[b2];decide),if_neg b3,if_neg b4,if_neg b5,if_neg b6,if_neg b7,if_pos (beq_iff_eq.1 hb8)]
         refine ag ?_
         rw[e0]
         exact am aa
    ·have b4:f.dp<1:=of_decide_eq_true hb4
     have e0:iH f th=false:=by unfold iH;rw[if_neg (show ¬xx f.nm=false from by rw[b1];decide),if_neg (show ¬qI f.sh=false from by rw[b2];decide),if_neg b3,if_pos b4]
     refine kG rfl<|ag ?_
     rw[e0]
     exact am aa
   ·have b3:f.sh.length=0:=by have:=beq_iff_eq.1 hb3;omega
    have e0:iH f th=false:=by unfold iH;rw[if_neg (show ¬xx f.nm=false from by rw[b1];decide),if_neg (show ¬qI f.sh=false from by rw[b2];decide),if_pos b3]
    refine ar (au rfl)<|kG rfl<|ag ?_
    rw[e0]
    exact am aa
  ·have b2:qI f.sh=false:=by simpa using hb2
   have e0:iH f th=false:=by unfold iH;rw[if_neg (show ¬xx f.nm=false from by rw[b1];decide),if_pos b2]
   refine ar (au rfl)<|ar (au rfl)<|kG rfl<|ag ?_
   rw[e0]
   exact am aa
 ·have b1:xx f.nm=false:=by simpa using hb1
  have e0:iH f th=false:=by unfold iH;rw[if_pos b1]
  refine ar (au rfl)<|ar (au rfl)<|ar (au rfl)<|kG rfl<|ag ?_
  rw[e0]
  exact am aa
theorem QZ (hF: ∀f∈F,FtV f) (lF:F.length≤9223372036854775807) :Ok Tryz.prog 6 [.a (([.i .i64 th]++[.s F.length (aj iG F)]))] [.c (.i .i64 (oB th F))]:=by
 refine bS Tryz.func6 rfl ?_
 refine cd rfl (fun hc1=>?_) (fun hc1=>?_)
 ·have e0:oB th F=3:=by unfold oB;rw[if_pos (show 40<F.length by have:=of_decide_eq_true hc1;omega)]
  refine ag ?_
  rw[e0]
  exact am aa
 ·have l4: ¬40<F.length:=by have:=of_decide_eq_false hc1;omega
  refine dF (au rfl) (fun c2 hb2=>?_)
  cases c2
  ·refine cd rfl (fun hc3=>?_) (fun hc3=>?_)
   ·have e0:oB th F=1:=by unfold oB;rw[if_neg l4,if_pos (show th<1∨th>10000000 from .inr (of_decide_eq_true hc3))]
    refine ag ?_
    rw[e0]
    exact am aa
   ·have t1: ¬(th<1∨th>10000000):=by have:=of_decide_eq_false hb2;have:=of_decide_eq_false hc3;omega
    refine DW.mk<|aY (ι:={k:Nat // k≤F.length∧ ∀i,i<k→iH (F.getD i cV) th=true}) (fun i=>⟨71,[(1,.p 1 0),(3,.v (.c (.i .i64 (wS F i.1:Int)))),(4,.v (.c (.i .i64 (i.1:Int))))],[(1,31,([.i .i64 th]++[.s F.length (aj iG F)]))]⟩) (fun i=>F.length-i.1) ⟨0,cY _,fun i hi=>absurd hi (by omega)⟩ (ak ⟨rfl,rfl,rfl,trivial⟩ ⟨rfl,trivial⟩ rfl) ?_
    rintro⟨k,hkl,hn⟩
    replace hkl:k≤F.length:=hkl
    replace hn: ∀i,i<k→iH (F.getD i cV) th=true:=hn
    dsimp only
    refine jt ?_
    refine cd rfl (fun hc4=>?_) (fun hc4=>?_)
    ·have g1:k<F.length:=by have:=of_decide_eq_true hc4;omega
     have fk:=hF _ (aE (d:=cV) g1)
     have l9:=EC F k
     refine cS 9 [] ?_
     refine aq (aC (us:=iG (F.getD k cV)++aj iG (F.drop (k+1))) Fd rfl rfl (by omega) (ai dg _) (aQ dg (aK g1)) rfl) ?_
     refine aq (aJ (us:=([.e ((.string ((F.getD k cV).nm)))]++[.i .i64 ((F.getD k cV).kd)]++[.i .i64 ((F.getD k cV).dp)]++[.s (((F.getD k cV).sh).length) (aj ao ((F.getD k cV).sh))])) J0 rfl (yV _ _) (dg _) rfl) ?_
     refine aO rfl (Ry fk) ?_
     refine cd rfl (fun hc5=>?_) (fun hc5=>?_)
     ·have e0:oB th F=1:=by unfold oB;rw[if_neg l4,if_neg t1,if_pos (JC g1 (by simpa using hc5))]
      refine ag ?_
      rw[e0]
      exact am aa
     ·have r1:iH (F.getD k cV) th=true:=by simpa using hc5
      refine ar (aC (us:=iG (F.getD k cV)++aj iG (F.drop (k+1))) Fd rfl rfl (by omega) (ai dg _) (aQ dg (aK g1)) rfl) ?_
      refine ar (bc NH rfl rfl rfl) ?_
      refine ar (aL EI rfl rfl rfl) ?_
      refine cd rfl (fun hc6=>?_) (fun hc6=>?_)
      ·have q1:(F.getD k cV).kd=4:=beq_iff_eq.1 hc6
       refine ar (bQ (((wS F k+1:Nat):Int)) ((aP (by omega) (by omega)).trans (congrArg some (by omega))) rfl)<|ar (ba (by omega) rfl) ?_
       exact⟨⟨k+1,g1,fun i hi=>(fm.1 hi).elim (hn i) fun e=>by rw[e];exact r1⟩,ak ⟨rfl,congrArg (fun q:Nat=>some (DV.v (.c (.i .i64 (q:Int))))) (by show _=wS F k+(if (F.getD k cV).kd=4 then 1 else 0);rw[if_pos q1]),rfl,trivial⟩ ⟨rfl,trivial⟩ rfl,by show F.length-(k+1)<F.length-k;omega⟩
      ·have q1: ¬(F.getD k cV).kd=4:=beq_eq_false_iff_ne.1 hc6
       refine ar (ba (by omega) rfl) ?_
       exact⟨⟨k+1,g1,fun i hi=>(fm.1 hi).elim (hn i) fun e=>by rw[e];exact r1⟩,ak ⟨rfl,congrArg (fun q:Nat=>some (DV.v (.c (.i .i64 (q:Int))))) (by show _=wS F k+(if (F.getD k cV).kd=4 then 1 else 0);rw[if_neg q1];rfl),rfl,trivial⟩ ⟨rfl,trivial⟩ rfl,by show F.length-(k+1)<F.length-k;omega⟩
    ·have hk:k=F.length:=by have:=of_decide_eq_false hc4;omega
     have d3: ¬F3 F th=true:=by rw[OR fun i hi=>hn i (by omega)];decide
     refine cd rfl (fun hc7=>?_) (fun hc7=>?_)
     ·have e0:oB th F=1:=by unfold oB;rw[if_neg l4,if_neg t1,if_neg d3,if_pos (show 1<wS F F.length by have:=of_decide_eq_true hc7;rw[hk] at this;omega)]
      refine ag ?_
      rw[e0]
      exact am aa
     ·have d4: ¬1<wS F F.length:=by have:=of_decide_eq_false hc7;rw[hk] at this;omega
      refine DW.mk<|aY (ι:={w:Nat // w≤F.length∧ ∀i,i<w→ ∀k,k<i→((F.getD i cV).nm.toList==(F.getD k cV).nm.toList)=false}) (fun i=>⟨71,[(1,.p 1 0),(5,.v (.c (.i .i64 (i.1:Int))))],[(1,31,([.i .i64 th]++[.s F.length (aj iG F)]))]⟩) (fun i=>F.length-i.1) ⟨0,cY _,fun i hi=>absurd hi (by omega)⟩ (ak ⟨rfl,rfl,trivial⟩ ⟨rfl,trivial⟩ rfl) ?_
      rintro⟨w,hwl,hw⟩
      replace hwl:w≤F.length:=hwl
      replace hw: ∀i,i<w→ ∀k,k<i→((F.getD i cV).nm.toList==(F.getD k cV).nm.toList)=false:=hw
      dsimp only
      refine jt ?_
      refine cd rfl (fun hc8=>?_) (fun hc8=>?_)
      ·have g1:w<F.length:=by have:=of_decide_eq_true hc8;omega
       refine DW.mk<|aY (ι:={k:Nat // k≤w∧ ∀i,i<k→((F.getD w cV).nm.toList==(F.getD i cV).nm.toList)=false}) (fun i=>⟨71,[(1,.p 1 0),(5,.v (.c (.i .i64 (w:Int)))),(6,.v (.c (.i .i64 (i.1:Int))))],[(1,31,([.i .i64 th]++[.s F.length (aj iG F)]))]⟩) (fun i=>w-i.1) ⟨0,cY _,fun i hi=>absurd hi (by omega)⟩ (ak ⟨rfl,rfl,rfl,trivial⟩ ⟨rfl,trivial⟩ rfl) ?_
       rintro⟨k,hkl,hn4⟩
       replace hkl:k≤w:=hkl
       replace hn4: ∀i,i<k→((F.getD w cV).nm.toList==(F.getD i cV).nm.toList)=false:=hn4
       dsimp only
       refine jt ?_
       refine cd rfl (fun hc9=>?_) (fun hc9=>?_)
       ·have gk:k<w:=by have:=of_decide_eq_true hc9;omega
        refine cS 13 [] ?_
        refine aq (aC (us:=iG (F.getD w cV)++aj iG (F.drop (w+1))) Fd rfl rfl (by omega) (ai dg _) (aQ dg (aK g1)) rfl) ?_
        refine aq (bc IZ rfl rfl rfl) ?_
        refine aq (aL Sh rfl rfl rfl) ?_
        refine aq (aC (us:=iG (F.getD k cV)++aj iG (F.drop (k+1))) Fd rfl rfl (by omega) (ai dg _) (aQ dg (aK (Nat.lt_trans gk g1))) rfl) ?_
        refine aq (bc IZ rfl rfl rfl) ?_
        refine aq (aL Sh rfl rfl rfl) ?_
        refine aq (Fy Ks rfl rfl rfl) ?_
        refine cd rfl (fun hc10=>?_) (fun hc10=>?_)
        ·have e0:oB th F=5:=by unfold oB;rw[if_neg l4,if_neg t1,if_neg d3,if_neg d4,if_pos (Pi g1 gk hc10)]
         refine ag ?_
         rw[e0]
         exact am aa
        ·have n1:=hc10
         refine ar (ba (by omega) rfl) ?_
         exact⟨⟨k+1,gk,fun i hi=>(fm.1 hi).elim (hn4 i) fun e=>by rw[e];exact n1⟩,ak ⟨rfl,rfl,rfl,trivial⟩ ⟨rfl,trivial⟩ rfl,by show w-(k+1)<w-k;omega⟩
       ·have hkw:k=w:=by have:=of_decide_eq_false hc9;omega
        refine ar (ba (by omega) rfl) ?_
        exact⟨⟨w+1,g1,fun i hi=>(fm.1 hi).elim (hw i) fun e=>by rw[e];exact fun k4 h4=>hn4 k4 (by omega)⟩,ak ⟨rfl,rfl,trivial⟩ ⟨rfl,trivial⟩ rfl,by show F.length-(w+1)<F.length-w;omega⟩
      ·have e0:oB th F=0:=by unfold oB;rw[if_neg l4,if_neg t1,if_neg d3,if_neg d4,if_neg (show ¬E5 F=true from by rw[PK fun i hi=>hw i (by have:=of_decide_eq_false hc8;omega)];decide)]
       refine ag ?_
       rw[e0]
       exact am aa
  ·have e0:oB th F=1:=by unfold oB;rw[if_neg l4,if_pos (show th<1∨th>10000000 from .inl (of_decide_eq_true hb2))]
   refine kG rfl<|ag ?_
   rw[e0]
   exact am aa
theorem Bj:Ok Tryz.prog 70 [.c (.i .i64 v)] [.c (.b (wP v))]:=by
 refine bS Tryz.func70 rfl ?_
 refine dF (au rfl) (fun c1 hb1=>?_)
 cases c1
 ·refine ag ?_
  rw[show wP v=false from by unfold wP;rw[hb1];rfl]
  exact am aa
 ·refine ag ?_
  rw[show wP v=decide (v≤10000000) from by unfold wP;rw[hb1];rfl]
  exact am aa
theorem Qq:Ok Tryz.prog 43 [.a (([.i .i64 t.no]++[.i .i64 t.kd]++[.i .i64 t.ra]++[.i .i64 t.fl]++[.i .i64 t.ho]++[.i .i64 t.st]++[.i .i64 t.fe]++[.i .i64 t.pl]))] [.c (.b (gy t))]:=by
 refine bS Tryz.func43 rfl ?_
 refine dF (au rfl) (fun c1 hb1=>?_)
 cases c1
 ·refine ar (au rfl)<|ar (au rfl)<|ar (au rfl)<|ar (au rfl)<|ar (au rfl)<|ar (au rfl)<|ar (au rfl)<|ar (au rfl)<|ar (au rfl)<|ar (au rfl)<|ag ?_
  rw[show gy t=false from by unfold gy;rw[hb1];rfl]
  exact am aa
 ·refine dF (au rfl) (fun c2 hb2=>?_)
  cases c2
  ·refine ar (au rfl)<|ar (au rfl)<|ar (au rfl)<|ar (au rfl)<|ar (au rfl)<|ar (au rfl)<|ar (au rfl)<|ar (au rfl)<|ar (au rfl)<|ag ?_
   rw[show gy t=false from by unfold gy;rw[hb1,hb2];rfl]
   exact am aa
  ·refine dF (au rfl) (fun c3 hb3=>?_)
   cases c3
   ·refine ar (au rfl)<|ar (au rfl)<|ar (au rfl)<|ar (au rfl)<|ar (au rfl)<|ar (au rfl)<|ar (au rfl)<|ar (au rfl)<|ag ?_
    rw[show gy t=false from by unfold gy;rw[hb1,hb2,hb3];rfl]
    exact am aa
   ·refine dF (au rfl) (fun c4 hb4=>?_)
    cases c4
    ·refine ar (au rfl)<|ar (au rfl)<|ar (au rfl)<|ar (au rfl)<|ar (au rfl)<|ar (au rfl)<|ar (au rfl)<|ag ?_
     rw[show gy t=false from by unfold gy;rw[hb1,hb2,hb3,hb4];rfl]
     exact am aa
    ·refine ac rfl (Bj) ?_
     refine dF (au rfl) (fun c5 hb5=>?_)
     cases c5
     ·refine ar (au rfl)<|ar (au rfl)<|ar (au rfl)<|ar (au rfl)<|ar (au rfl)<|ar (au rfl)<|ag ?_
      rw[show gy t=false from by unfold gy;rw[hb1,hb2,hb3,hb4,hb5];rfl]
      exact am aa
     ·refine ac rfl (Bj) ?_
      refine dF (au rfl) (fun c6 hb6=>?_)
      cases c6
      ·refine ar (au rfl)<|ar (au rfl)<|ar (au rfl)<|ar (au rfl)<|ar (au rfl)<|ag ?_
       rw[show gy t=false from by unfold gy;rw[hb1,hb2,hb3,hb4,hb5,hb6];rfl]
       exact am aa
      ·refine ac rfl (Bj) ?_
       refine dF (au rfl) (fun c7 hb7=>?_)
       cases c7
       ·refine ar (au rfl)<|ar (au rfl)<|ar (au rfl)<|ar (au rfl)<|ag ?_
        rw[show gy t=false from by unfold gy;rw[hb1,hb2,hb3,hb4,hb5,hb6,hb7];rfl]
        exact am aa
       ·refine ac rfl (Bj) ?_
        refine dF (au rfl) (fun c8 hb8=>?_)
        cases c8
        ·refine ar (au rfl)<|ar (au rfl)<|ar (au rfl)<|ag ?_
         rw[show gy t=false from by unfold gy;rw[hb1,hb2,hb3,hb4,hb5,hb6,hb7,hb8];rfl]
         exact am aa
        ·refine ac rfl (Bj) ?_
         refine dF (au rfl) (fun c9 hb9=>?_)
         cases c9
         ·refine ar (au rfl)<|ar (au rfl)<|ag ?_
          rw[show gy t=false from by unfold gy;rw[hb1,hb2,hb3,hb4,hb5,hb6,hb7,hb8,hb9];rfl]
          exact am aa
         ·refine dF (au rfl) (fun c10 hb10=>?_)
          cases c10
          ·refine ar (au rfl)<|ag ?_
           rw[show gy t=false from by unfold gy;rw[hb1,hb2,hb3,hb4,hb5,hb6,hb7,hb8,hb9,hb10];rfl]
           exact am aa
          ·refine dF (au rfl) (fun c11 hb11=>?_)
           cases c11
           ·refine ag ?_
            rw[show gy t=false from by unfold gy;rw[hb1,hb2,hb3,hb4,hb5,hb6,hb7,hb8,hb9,hb10,hb11];rfl]
            exact am aa
           ·refine ag ?_
            rw[show gy t=decide (t.st≤t.fl) from by unfold gy;rw[hb1,hb2,hb3,hb4,hb5,hb6,hb7,hb8,hb9,hb10,hb11];rfl]
            exact am aa
theorem QF (lL:L.length≤9223372036854775807) :Ok Tryz.prog 44 [.c (.s L.length (aj iA L)),.c (.i .i64 v)] [.c (.i .i64 (vG L v:Int)),.c (.i .i64 (J5 L v))]:=by
 refine bS Tryz.func44 rfl ?_
 refine DW.mk<|aY (ι:={n:Nat // n≤L.length∧ ∀i,i<n→((L.getD i dA).no==v)=false}) (fun i=>⟨21,[(0,.v (.c (.s L.length (aj iA L)))),(1,.v (.c (.i .i64 v))),(6,.v (.c (.i .i64 (i.1:Int))))],[]⟩) (fun i=>L.length-i.1) ⟨0,cY _,fun i hi=>absurd hi (by omega)⟩ (ak ⟨rfl,rfl,rfl,trivial⟩ trivial rfl) ?_
 rintro⟨n,h2,hn⟩
 replace h2:n≤L.length:=h2
 replace hn: ∀i,i<n→((L.getD i dA).no==v)=false:=hn
 dsimp only
 refine jt ?_
 refine cd rfl (fun hc1=>?_) (fun hc1=>?_)
 ·have g1:n<L.length:=by have:=of_decide_eq_true hc1;omega
  refine ar (aC (us:=iA (L.getD n dA)++aj iA (L.drop (n+1))) CF rfl rfl (by omega) (ai dB _) (aQ dB (aK g1)) rfl) ?_
  refine ar (bc Gt rfl rfl rfl) ?_
  refine ar (aL EI rfl rfl rfl) ?_
  refine cd rfl (fun hc2=>?_) (fun hc2=>?_)
  ·have e0:=KK g1 hn hc2
   refine ag ?_
   rw[show vG L v=n from by unfold vG;rw[e0];rfl,show J5 L v=0 from by unfold J5;rw[e0];rfl]
   exact am (am aa)
  ·have n1:=hc2
   refine ar (ba (by omega) rfl) ?_
   exact⟨⟨n+1,g1,fun i hi=>(fm.1 hi).elim (hn i) fun e=>by rw[e];exact n1⟩,ak ⟨rfl,rfl,rfl,trivial⟩ trivial rfl,by show L.length-(n+1)<L.length-n;omega⟩
 ·have e0:=Mi (L:=L) (v:=v) fun i hi=>hn i (by have:=of_decide_eq_false hc1;omega)
  refine ag ?_
  rw[show vG L v=0 from by unfold vG;rw[e0];rfl,show J5 L v=4 from by unfold J5;rw[e0];rfl]
  exact am (am aa)
theorem Rg (lL:L.length≤9223372036854775807):Ok Tryz.prog 21 [.c (.s L.length (aj iA L))] [.c (.i .i64 (sv L))]:=by
 refine bS Tryz.func21 rfl ?_
 refine cd rfl (fun hc1=>?_) (fun hc1=>?_)
 ·have e0:sv L=3:=by unfold sv;rw[if_pos (show 200<L.length by have:=of_decide_eq_true hc1;omega)]
  refine ag ?_
  rw[e0]
  exact am aa
 ·have l4: ¬200<L.length:=by have:=of_decide_eq_false hc1;omega
  refine DW.mk<|aY (ι:={n:Nat // n≤L.length∧ ∀i,i<n→gy (L.getD i dA)=true}) (fun i=>⟨41,[(0,.v (.c (.s L.length (aj iA L)))),(3,.v (.c (.i .i64 (i.1:Int))))],[]⟩) (fun i=>L.length-i.1) ⟨0,cY _,fun i hi=>absurd hi (by omega)⟩ (ak ⟨rfl,rfl,trivial⟩ trivial rfl) ?_
  rintro⟨n,h2,hn⟩
  replace h2:n≤L.length:=h2
  replace hn: ∀i,i<n→gy (L.getD i dA)=true:=hn
  dsimp only
  refine jt ?_
  refine cd rfl (fun hc2=>?_) (fun hc2=>?_)
  ·have g1:n<L.length:=by have:=of_decide_eq_true hc2;omega
   refine ar (aC (us:=iA (L.getD n dA)++aj iA (L.drop (n+1))) CF rfl rfl (by omega) (ai dB _) (aQ dB (aK g1)) rfl) ?_
   refine ar (aJ (us:=([.i .i64 ((L.getD n dA).no)]++[.i .i64 ((L.getD n dA).kd)]++[.i .i64 ((L.getD n dA).ra)]++[.i .i64 ((L.getD n dA).fl)]++[.i .i64 ((L.getD n dA).ho)]++[.i .i64 ((L.getD n dA).st)]++[.i .i64 ((L.getD n dA).fe)]++[.i .i64 ((L.getD n dA).pl)])) Io rfl (yO _ _) (dB _) rfl) ?_
   refine ac rfl (Qq) ?_
   refine cd rfl (fun hc3=>?_) (fun hc3=>?_)
   ·have e0:sv L=1:=by unfold sv;rw[if_neg l4,if_pos (JE g1 (by simpa using hc3))]
    refine ag ?_
    rw[e0]
    exact am aa
   ·have n1:gy (L.getD n dA)=true:=by simpa using hc3
    refine ar (ba (by omega) rfl) ?_
    exact⟨⟨n+1,g1,fun i hi=>(fm.1 hi).elim (hn i) fun e=>by rw[e];exact n1⟩,ak ⟨rfl,rfl,trivial⟩ trivial rfl,by show L.length-(n+1)<L.length-n;omega⟩
  ·have d3: ¬F4 L=true:=by rw[PS fun i hi=>hn i (by have:=of_decide_eq_false hc2;omega)];decide
   refine DW.mk<|aY (ι:={n:Nat // n≤L.length∧ ∀i,i<n→ ¬vG L (L.getD i dA).no<i}) (fun i=>⟨41,[(0,.v (.c (.s L.length (aj iA L)))),(4,.v (.c (.i .i64 (i.1:Int))))],[]⟩) (fun i=>L.length-i.1) ⟨0,cY _,fun i hi=>absurd hi (by omega)⟩ (ak ⟨rfl,rfl,trivial⟩ trivial rfl) ?_
   rintro⟨w,h2,hw⟩
   replace h2:w≤L.length:=h2
   replace hw: ∀i,i<w→ ¬vG L (L.getD i dA).no<i:=hw
   dsimp only
   refine jt ?_
   refine cd rfl (fun hc4=>?_) (fun hc4=>?_)
   ·have g1:w<L.length:=by have:=of_decide_eq_true hc4;omega
    refine ar (aC (us:=iA (L.getD w dA)++aj iA (L.drop (w+1))) CF rfl rfl (by omega) (ai dB _) (aQ dB (aK g1)) rfl) ?_
    refine ar (bc Gt rfl rfl rfl) ?_
    refine ar (aL EI rfl rfl rfl) ?_
    refine ac rfl (QF lL) ?_
    refine cd rfl (fun hc5=>?_) (fun hc5=>?_)
    ·have e0:sv L=5:=by unfold sv;rw[if_neg l4,if_neg d3,if_pos (Ps g1 (by have:=of_decide_eq_true hc5;omega))]
     refine ag ?_
     rw[e0]
     exact am aa
    ·have n1: ¬vG L (L.getD w dA).no<w:=by have:=of_decide_eq_false hc5;omega
     refine ar (ba (by omega) rfl) ?_
     exact⟨⟨w+1,g1,fun i hi=>(fm.1 hi).elim (hw i) fun e=>by rw[e];exact n1⟩,ak ⟨rfl,rfl,trivial⟩ trivial rfl,by show L.length-(w+1)<L.length-w;omega⟩
   ·have e0:sv L=0:=by unfold sv;rw[if_neg l4,if_neg d3,if_neg (show ¬FU L=true from by rw[NL fun i hi=>hw i (by have:=of_decide_eq_false hc4;omega)];decide)]
    refine ag ?_
    rw[e0]
    exact am aa
theorem Ru {k f t:Int}:Ok Tryz.prog 25 [.c (.i .i64 k),.c (.i .i64 f),.c (.i .i64 t)] [.c (.b (b8 k f t))]:=by
 refine bS Tryz.func25 rfl ?_
 refine cd rfl (fun hc1=>?_) (fun hc1=>?_)
 ·refine dF (au rfl) (fun c2 hb2=>?_)
  cases c2
  ·refine dF (au rfl) (fun c3 hb3=>?_)
   cases c3
   ·refine ag ?_
    rw[show b8 k f t=false from by unfold b8;rw[if_pos (beq_iff_eq.1 hc1),show(f==1)=false from hb2,ku,show(f==3)=false from hb3,ib]]
    exact am aa
   ·refine ag ?_
    rw[show b8 k f t=(t==1) from by unfold b8;rw[if_pos (beq_iff_eq.1 hc1),show(f==1)=false from hb2,ku,show(f==3)=true from hb3,du]]
    exact am aa
  ·refine ar (au rfl)<|ag ?_
   rw[show b8 k f t=(t==1) from by unfold b8;rw[if_pos (beq_iff_eq.1 hc1),show(f==1)=true from hb2,Bool.true_or,du]]
   exact am aa
 ·refine cd rfl (fun hc4=>?_) (fun hc4=>?_)
  ·refine dF (au rfl) (fun c5 hb5=>?_)
   cases c5
   ·refine ag ?_
    rw[show b8 k f t=false from by unfold b8;rw[if_neg (beq_eq_false_iff_ne.1 hc1),if_pos (beq_iff_eq.1 hc4),show(f==1)=false from hb5,ib]]
    exact am aa
   ·refine ag ?_
    rw[show b8 k f t=(t==1) from by unfold b8;rw[if_neg (beq_eq_false_iff_ne.1 hc1),if_pos (beq_iff_eq.1 hc4),show(f==1)=true from hb5,du]]
    exact am aa
  ·refine cd rfl (fun hc6=>?_) (fun hc6=>?_)
   ·refine dF (au rfl) (fun c7 hb7=>?_)
    cases c7
    ·refine ag ?_
     rw[show b8 k f t=false from by unfold b8;rw[if_neg (beq_eq_false_iff_ne.1 hc1),if_neg (beq_eq_false_iff_ne.1 hc4),if_pos (beq_iff_eq.1 hc6),show(f==3)=false from hb7,ib]]
     exact am aa
    ·refine ag ?_
     rw[show b8 k f t=(t==2) from by unfold b8;rw[if_neg (beq_eq_false_iff_ne.1 hc1),if_neg (beq_eq_false_iff_ne.1 hc4),if_pos (beq_iff_eq.1 hc6),show(f==3)=true from hb7,du]]
     exact am aa
   ·refine cd rfl (fun hc8=>?_) (fun hc8=>?_)
    ·refine dF (au rfl) (fun c9 hb9=>?_)
     cases c9
     ·refine dF (au rfl) (fun c10 hb10=>?_)
      cases c10
      ·refine ag ?_
       rw[show b8 k f t=false from by unfold b8;rw[if_neg (beq_eq_false_iff_ne.1 hc1),if_neg (beq_eq_false_iff_ne.1 hc4),if_neg (beq_eq_false_iff_ne.1 hc6),if_pos (beq_iff_eq.1 hc8),show(f==1)=false from hb9,ku,show(f==3)=false from hb10,ib]]
       exact am aa
      ·refine ag ?_
       rw[show b8 k f t=(t==3) from by unfold b8;rw[if_neg (beq_eq_false_iff_ne.1 hc1),if_neg (beq_eq_false_iff_ne.1 hc4),if_neg (beq_eq_false_iff_ne.1 hc6),if_pos (beq_iff_eq.1 hc8),show(f==1)=false from hb9,ku,show(f==3)=true from hb10,du]]
       exact am aa
     ·refine ar (au rfl)<|ag ?_
      rw[show b8 k f t=(t==3) from by unfold b8;rw[if_neg (beq_eq_false_iff_ne.1 hc1),if_neg (beq_eq_false_iff_ne.1 hc4),if_neg (beq_eq_false_iff_ne.1 hc6),if_pos (beq_iff_eq.1 hc8),show(f==1)=true from hb9,Bool.true_or,du]]
      exact am aa
    ·refine cd rfl (fun hc11=>?_) (fun hc11=>?_)
     ·refine dF (au rfl) (fun c12 hb12=>?_)
      cases c12
      ·refine ag ?_
       rw[show b8 k f t=false from by unfold b8;rw[if_neg (beq_eq_false_iff_ne.1 hc1),if_neg (beq_eq_false_iff_ne.1 hc4),if_neg (beq_eq_false_iff_ne.1 hc6),if_neg (beq_eq_false_iff_ne.1 hc8),if_pos (beq_iff_eq.1 hc11),show(f==4)=false from hb12,ib]]
       exact am aa
      ·refine ag ?_
       rw[show b8 k f t=(t==1) from by unfold b8;rw[if_neg (beq_eq_false_iff_ne.1 hc1),if_neg (beq_eq_false_iff_ne.1 hc4),if_neg (beq_eq_false_iff_ne.1 hc6),if_neg (beq_eq_false_iff_ne.1 hc8),if_pos (beq_iff_eq.1 hc11),show(f==4)=true from hb12,du]]
       exact am aa
     ·refine ag ?_
      rw[show b8 k f t=false from by unfold b8;rw[if_neg (beq_eq_false_iff_ne.1 hc1),if_neg (beq_eq_false_iff_ne.1 hc4),if_neg (beq_eq_false_iff_ne.1 hc6),if_neg (beq_eq_false_iff_ne.1 hc8),if_neg (beq_eq_false_iff_ne.1 hc11)]]
      exact am aa
theorem Ns {k f t:Int}:Ok Tryz.prog 23 [.c (.i .i64 k),.c (.i .i64 f),.c (.i .i64 t)] [.c (.b (b8 k f t))]:=by
 refine bS Tryz.func23 rfl ?_
 refine cd rfl (fun hc1=>?_) (fun hc1=>?_)
 ·refine dF (au rfl) (fun c2 hb2=>?_)
  cases c2
  ·refine dF (au rfl) (fun c3 hb3=>?_)
   cases c3
   ·refine ag ?_
    rw[show b8 k f t=false from by unfold b8;rw[if_pos (beq_iff_eq.1 hc1),show(f==1)=false from hb2,ku,show(f==3)=false from hb3,ib]]
    exact am aa
   ·refine ag ?_
    rw[show b8 k f t=(t==1) from by unfold b8;rw[if_pos (beq_iff_eq.1 hc1),show(f==1)=false from hb2,ku,show(f==3)=true from hb3,du]]
    exact am aa
  ·refine ar (au rfl)<|ag ?_
   rw[show b8 k f t=(t==1) from by unfold b8;rw[if_pos (beq_iff_eq.1 hc1),show(f==1)=true from hb2,Bool.true_or,du]]
   exact am aa
 ·refine cd rfl (fun hc4=>?_) (fun hc4=>?_)
  ·refine dF (au rfl) (fun c5 hb5=>?_)
   cases c5
   ·refine ag ?_
    rw[show b8 k f t=false from by unfold b8;rw[if_neg (beq_eq_false_iff_ne.1 hc1),if_pos (beq_iff_eq.1 hc4),show(f==1)=false from hb5,ib]]
    exact am aa
   ·refine ag ?_
    rw[show b8 k f t=(t==1) from by unfold b8;rw[if_neg (beq_eq_false_iff_ne.1 hc1),if_pos (beq_iff_eq.1 hc4),show(f==1)=true from hb5,du]]
    exact am aa
  ·refine cd rfl (fun hc6=>?_) (fun hc6=>?_)
   ·refine dF (au rfl) (fun c7 hb7=>?_)
    cases c7
    ·refine ag ?_
     rw[show b8 k f t=false from by unfold b8;rw[if_neg (beq_eq_false_iff_ne.1 hc1),if_neg (beq_eq_false_iff_ne.1 hc4),if_pos (beq_iff_eq.1 hc6),show(f==3)=false from hb7,ib]]
     exact am aa
    ·refine ag ?_
     rw[show b8 k f t=(t==2) from by unfold b8;rw[if_neg (beq_eq_false_iff_ne.1 hc1),if_neg (beq_eq_false_iff_ne.1 hc4),if_pos (beq_iff_eq.1 hc6),show(f==3)=true from hb7,du]]
     exact am aa
   ·refine cd rfl (fun hc8=>?_) (fun hc8=>?_)
    ·refine dF (au rfl) (fun c9 hb9=>?_)
     cases c9
     ·refine dF (au rfl) (fun c10 hb10=>?_)
      cases c10
      ·refine ag ?_
       rw[show b8 k f t=false from by unfold b8;rw[if_neg (beq_eq_false_iff_ne.1 hc1),if_neg (beq_eq_false_iff_ne.1 hc4),if_neg (beq_eq_false_iff_ne.1 hc6),if_pos (beq_iff_eq.1 hc8),show(f==1)=false from hb9,ku,show(f==3)=false from hb10,ib]]
       exact am aa
      ·refine ag ?_
       rw[show b8 k f t=(t==3) from by unfold b8;rw[if_neg (beq_eq_false_iff_ne.1 hc1),if_neg (beq_eq_false_iff_ne.1 hc4),if_neg (beq_eq_false_iff_ne.1 hc6),if_pos (beq_iff_eq.1 hc8),show(f==1)=false from hb9,ku,show(f==3)=true from hb10,du]]
       exact am aa
     ·refine ar (au rfl)<|ag ?_
      rw[show b8 k f t=(t==3) from by unfold b8;rw[if_neg (beq_eq_false_iff_ne.1 hc1),if_neg (beq_eq_false_iff_ne.1 hc4),if_neg (beq_eq_false_iff_ne.1 hc6),if_pos (beq_iff_eq.1 hc8),show(f==1)=true from hb9,Bool.true_or,du]]
      exact am aa
    ·refine cd rfl (fun hc11=>?_) (fun hc11=>?_)
     ·refine dF (au rfl) (fun c12 hb12=>?_)
      cases c12
      ·refine ag ?_
       rw[show b8 k f t=false from by unfold b8;rw[if_neg (beq_eq_false_iff_ne.1 hc1),if_neg (beq_eq_false_iff_ne.1 hc4),if_neg (beq_eq_false_iff_ne.1 hc6),if_neg (beq_eq_false_iff_ne.1 hc8),if_pos (beq_iff_eq.1 hc11),show(f==4)=false from hb12,ib]]
       exact am aa
      ·refine ag ?_
       rw[show b8 k f t=(t==1) from by unfold b8;rw[if_neg (beq_eq_false_iff_ne.1 hc1),if_neg (beq_eq_false_iff_ne.1 hc4),if_neg (beq_eq_false_iff_ne.1 hc6),if_neg (beq_eq_false_iff_ne.1 hc8),if_pos (beq_iff_eq.1 hc11),show(f==4)=true from hb12,du]]
       exact am aa
     ·refine ag ?_
      rw[show b8 k f t=false from by unfold b8;rw[if_neg (beq_eq_false_iff_ne.1 hc1),if_neg (beq_eq_false_iff_ne.1 hc4),if_neg (beq_eq_false_iff_ne.1 hc6),if_neg (beq_eq_false_iff_ne.1 hc8),if_neg (beq_eq_false_iff_ne.1 hc11)]]
      exact am aa
theorem Qf {O:List Opn}(lO:O.length≤9223372036854775807) :Ok Tryz.prog 8 [.c (.s O.length (aj Cw O)),.c (.i .i64 m)] [.c (.b (Co O m))]:=by
 refine bS Tryz.func8 rfl ?_
 refine DW.mk<|aY (ι:={n:Nat // n≤O.length∧ ∀i,i<n→ ¬((O.getD i AX).ds.length:Int)>m}) (fun i=>⟨24,[(0,.v (.c (.s O.length (aj Cw O)))),(1,.v (.c (.i .i64 m))),(5,.v (.c (.i .i64 (i.1:Int))))],[]⟩) (fun i=>O.length-i.1) ⟨0,cY _,fun i hi=>absurd hi (by omega)⟩ (ak ⟨rfl,rfl,rfl,trivial⟩ trivial rfl) ?_
 rintro⟨n,h2,hn⟩
 replace h2:n≤O.length:=h2
 replace hn: ∀i,i<n→ ¬((O.getD i AX).ds.length:Int)>m:=hn
 dsimp only
 refine jt ?_
 refine cd rfl (fun hc1=>?_) (fun hc1=>?_)
 ·have g1:n<O.length:=by have:=of_decide_eq_true hc1;omega
  refine ar (aC (us:=Cw (O.getD n AX)++aj Cw (O.drop (n+1))) Sx rfl rfl (by omega) (ai AH _) (aQ AH (aK g1)) rfl) ?_
  refine ar (bc NO rfl rfl rfl) ?_
  refine ar (aL SH rfl rfl rfl) ?_
  refine cd rfl (fun hc2=>?_) (fun hc2=>?_)
  ·have e0:=Kn g1 (of_decide_eq_true hc2)
   refine ag ?_
   rw[e0]
   exact am aa
  ·have n1: ¬((O.getD n AX).ds.length:Int)>m:=of_decide_eq_false hc2
   refine ar (ba (by omega) rfl) ?_
   exact⟨⟨n+1,g1,fun i hi=>(fm.1 hi).elim (hn i) fun e=>by rw[e];exact n1⟩,ak ⟨rfl,rfl,rfl,trivial⟩ trivial rfl,by show O.length-(n+1)<O.length-n;omega⟩
 ·have e0:=O5 (O:=O) (n:=m) fun i hi=>hn i (by have:=of_decide_eq_false hc1;omega)
  refine ag ?_
  rw[e0]
  exact am aa
theorem Rb (lD:D.length≤9223372036854775807) (vD: ∀v∈D,v≤9223372036854775807) :Ok Tryz.prog 26 [.c (.s D.length (aj jp D)),.c (.i .i64 dp),.c (.i .i64 st)] [.c (.b (sE D dp st))]:=by
 refine bS Tryz.func26 rfl ?_
 refine DW.mk<|aY (ι:={n:Nat // n≤D.length∧ ∀i,i<n→p7 D dp st i=true}) (fun i=>⟨46,[(0,.v (.c (.s D.length (aj jp D)))),(1,.v (.c (.i .i64 dp))),(2,.v (.c (.i .i64 st))),(7,.v (.c (.i .i64 (qT D i.1)))),(8,.v (.c (.i .i64 (i.1:Int))))],[]⟩) (fun i=>D.length-i.1) ⟨0,cY _,fun i hi=>absurd hi (by omega)⟩ (ak ⟨rfl,rfl,rfl,rfl,rfl,trivial⟩ trivial rfl) ?_
 rintro⟨n,h2,hn⟩
 replace h2:n≤D.length:=h2
 replace hn: ∀i,i<n→p7 D dp st i=true:=hn
 dsimp only
 refine jt ?_
 refine cd rfl (fun hc1=>?_) (fun hc1=>?_)
 ·have g1:n<D.length:=by have:=of_decide_eq_true hc1;omega
  have p0:0≤qT D n:=(Cq (D:=D) (st:=st) (n:=n) (fun i hi=>by have:=hn i hi;simp only[p7,pu,dU,decide_eq_true_eq] at this⊢;omega) n (aX _)).1
  have vd:=vD _ (aE (d:=0) g1)
  refine ar (aC (us:=jp (D.getD n 0)++aj jp (D.drop (n+1))) Ix rfl rfl (by omega) (ai fJ _) (aQ fJ (aK g1)) rfl) ?_
  refine ar (aL Ik rfl rfl rfl) ?_
  refine dF (au rfl) (fun c2 hb2=>?_)
  cases c2
  ·have q1:=of_decide_eq_false hb2
   refine ar (aC (us:=jp (D.getD n 0)++aj jp (D.drop (n+1))) Ix rfl rfl (by omega) (ai fJ _) (aQ fJ (aK g1)) rfl) ?_
   refine ar (aL Ik rfl rfl rfl) ?_
   refine dF (au rfl) (fun c3 hb3=>?_)
   cases c3
   ·refine ar (aC (us:=jp (D.getD n 0)++aj jp (D.drop (n+1))) Ix rfl rfl (by omega) (ai fJ _) (aQ fJ (aK g1)) rfl) ?_
    refine ar (aL Ik rfl rfl rfl) ?_
    refine ar (bQ ((D.getD n 0)-qT D n) ((bC (by omega) (by omega)).trans rfl) rfl) ?_
    refine cd rfl (fun hc4=>?_) (fun hc4=>?_)
    ·have n1:p7 D dp st n=false:=by unfold p7;rw[show decide (qT D n<(D.getD n 0))=true from decide_eq_true (by have:=of_decide_eq_false hb2;omega),du,show decide ((D.getD n 0)≤dp)=true from decide_eq_true (by have:=of_decide_eq_false hb3;omega),du,show decide ((D.getD n 0)-qT D n≤st)=false from decide_eq_false (by have:=of_decide_eq_true hc4;omega)]
     have e0:sE D dp st=false:=if_pos (sr g1 n1)
     refine ag ?_
     rw[e0]
     exact am aa
    ·have n1:p7 D dp st n=true:=by unfold p7;rw[show decide (qT D n<(D.getD n 0))=true from decide_eq_true (by have:=of_decide_eq_false hb2;omega),du,show decide ((D.getD n 0)≤dp)=true from decide_eq_true (by have:=of_decide_eq_false hb3;omega),du,show decide ((D.getD n 0)-qT D n≤st)=true from decide_eq_true (by have:=of_decide_eq_false hc4;omega)]
     refine ar (aC (us:=jp (D.getD n 0)++aj jp (D.drop (n+1))) Ix rfl rfl (by omega) (ai fJ _) (aQ fJ (aK g1)) rfl) ?_
     refine ar (aL Ik rfl rfl rfl) ?_
     refine ar (ba (by omega) rfl) ?_
     exact⟨⟨n+1,g1,fun i hi=>(fm.1 hi).elim (hn i) fun e=>by rw[e];exact n1⟩,ak ⟨rfl,rfl,rfl,rfl,rfl,trivial⟩ trivial rfl,by show D.length-(n+1)<D.length-n;omega⟩
   ·have n1:p7 D dp st n=false:=by unfold p7;rw[show decide (qT D n<(D.getD n 0))=true from decide_eq_true (by have:=of_decide_eq_false hb2;omega),du,show decide ((D.getD n 0)≤dp)=false from decide_eq_false (by have:=of_decide_eq_true hb3;omega),ib]
    have e0:sE D dp st=false:=if_pos (sr g1 n1)
    refine kG rfl<|ag ?_
    rw[e0]
    exact am aa
  ·have n1:p7 D dp st n=false:=by unfold p7;rw[show decide (qT D n<(D.getD n 0))=false from decide_eq_false (by have:=of_decide_eq_true hb2;omega),ib]
   have e0:sE D dp st=false:=if_pos (sr g1 n1)
   refine ar (au rfl)<|kG rfl<|ag ?_
   rw[e0]
   exact am aa
 ·have e0:sE D dp st=(qT D D.length==dp):=if_neg (yF fun i hi=>hn i (by have:=of_decide_eq_false hc1;omega))
  have hp:n=D.length:=by have:=of_decide_eq_false hc1;omega
  refine ag ?_
  rw[e0,←hp]
  exact am aa
theorem Sd (lD:D.length≤9223372036854775807) (vD: ∀v∈D,v≤9223372036854775807) :Ok Tryz.prog 22 [.c (.s D.length (aj jp D)),.c (.i .i64 dp),.c (.i .i64 st)] [.c (.b (Ch D dp st))]:=by
 refine bS Tryz.func22 rfl ?_
 refine DW.mk<|aY (ι:={n:Nat // n≤D.length∧ ∀i,i<n→pu D st i=true}) (fun i=>⟨36,[(0,.v (.c (.s D.length (aj jp D)))),(1,.v (.c (.i .i64 dp))),(2,.v (.c (.i .i64 st))),(10,.v (.c (.s D.length (aj jp D)))),(11,.v (.c (.i .i64 (D.length:Int)))),(7,.v (.c (.i .i64 (qT D i.1)))),(12,.v (.c (.i .i64 (i.1:Int))))],[]⟩) (fun i=>D.length-i.1) ⟨0,cY _,fun i hi=>absurd hi (by omega)⟩ (ak ⟨rfl,rfl,rfl,rfl,rfl,rfl,rfl,trivial⟩ trivial rfl) ?_
 rintro⟨n,h2,hn⟩
 replace h2:n≤D.length:=h2
 replace hn: ∀i,i<n→pu D st i=true:=hn
 dsimp only
 refine jt ?_
 refine cd rfl (fun hc1=>?_) (fun hc1=>?_)
 ·have g1:n<D.length:=by have:=of_decide_eq_true hc1;omega
  have p0:0≤qT D n:=(Cq (D:=D) (st:=st) (n:=n) (fun i hi=>by have:=hn i hi;simp only[pu,dU,decide_eq_true_eq] at this⊢;exact this) n (aX _)).1
  have vd:=vD _ (aE (d:=0) g1)
  refine ar (aC (us:=jp (D.getD n 0)++aj jp (D.drop (n+1))) Ix rfl rfl (by omega) (ai fJ _) (aQ fJ (aK g1)) rfl) ?_
  refine ar (aL Ik rfl rfl rfl) ?_
  refine dF (au rfl) (fun c2 hb2=>?_)
  cases c2
  ·have q1:=of_decide_eq_false hb2
   refine ar (bQ ((D.getD n 0)-qT D n) ((bC (by omega) (by omega)).trans rfl) rfl) ?_
   refine cd rfl (fun hc3=>?_) (fun hc3=>?_)
   ·have n1:pu D st n=false:=by unfold pu;rw[show decide (qT D n<(D.getD n 0))=true from decide_eq_true (by have:=of_decide_eq_false hb2;omega),du,show decide ((D.getD n 0)-qT D n≤st)=false from decide_eq_false (by have:=of_decide_eq_true hc3;omega)]
    have e0:Ch D dp st=false:=if_pos (sr g1 n1)
    refine ag ?_
    rw[e0]
    exact am aa
   ·have n1:pu D st n=true:=by unfold pu;rw[show decide (qT D n<(D.getD n 0))=true from decide_eq_true (by have:=of_decide_eq_false hb2;omega),du,show decide ((D.getD n 0)-qT D n≤st)=true from decide_eq_true (by have:=of_decide_eq_false hc3;omega)]
    refine ar (ba (by omega) rfl) ?_
    exact⟨⟨n+1,g1,fun i hi=>(fm.1 hi).elim (hn i) fun e=>by rw[e];exact n1⟩,ak ⟨rfl,rfl,rfl,rfl,rfl,rfl,rfl,trivial⟩ trivial rfl,by show D.length-(n+1)<D.length-n;omega⟩
  ·have n1:pu D st n=false:=by unfold pu;rw[show decide (qT D n<(D.getD n 0))=false from decide_eq_false (by have:=of_decide_eq_true hb2;omega),ib]
   have e0:Ch D dp st=false:=if_pos (sr g1 n1)
   refine kG rfl<|ag ?_
   rw[e0]
   exact am aa
 ·have e0:Ch D dp st=(decide ((D.length:Int)>0)&&qT D D.length==dp):=if_neg (yF fun i hi=>hn i (by have:=of_decide_eq_false hc1;omega))
  have hp:n=D.length:=by have:=of_decide_eq_false hc1;omega
  refine dF (au rfl) (fun c4 hb4=>?_)
  cases c4
  ·refine ag ?_
   rw[hb4,ib] at e0
   rw[e0]
   exact am aa
  ·refine ag ?_
   rw[hb4,du] at e0
   rw[e0,←hp]
   exact am aa
theorem R7 (hf:FtV f) (hs:0<f.sh.length) (ha:(f.sh.getD 0 aH).isArc=true) (t1:1≤t.ra) (t2:t.ra≤10000000):Ok Tryz.prog 27 [.a (([.e (.string f.nm)]++[.i .i64 f.kd]++[.i .i64 f.dp]++[.s ((f.sh).length) (aj ao (f.sh))])),.a (([.i .i64 t.no]++[.i .i64 t.kd]++[.i .i64 t.ra]++[.i .i64 t.fl]++[.i .i64 t.ho]++[.i .i64 t.st]++[.i .i64 t.fe]++[.i .i64 t.pl]))] [.c (.b (qf t ((f.sh.getD 0 aH).ci.q)))]:=by
 have tb:=PP t1 t2
 have k0:=(Aq (hf.v _ (aE (d:=aH) hs)) ha).1
 have zq:=k0.q
 have z1:Sz 3 t.ra:=mA (by decide) (by omega) (by omega)
 refine bS Tryz.func27 rfl ?_
 refine ar (cU aH ae hs bY rfl) ?_
 refine ar (bc tz rfl rfl rfl) ?_
 refine ar (bc Ce rfl rfl rfl) ?_
 refine ar (aJ (us:=cR ((f.sh.getD 0 aH).ci.q)) bZ rfl (wh (by assumption) _) rfl rfl) ?_
 refine ar (bQ (t.ra*t.ra) ((eQ (by omega) (by omega)).trans rfl) rfl)<|ac rfl (eu (by omega) (by omega)) ?_
 refine cd rfl (fun hc1=>?_) (fun hc1=>?_)
 ·refine ac rfl (eF (bd (ji (jv (by assumption) (by assumption)) (by decide))) (MC))<|ag ?_
  rw[show qf t ((f.sh.getD 0 aH).ci.q)=(aM ((t.ra*t.ra:Int):Rat) (f.sh.getD 0 aH).ci.q==0) from by unfold qf;rw[if_pos (beq_iff_eq.1 hc1)]]
  exact am aa
 ·refine cS 13 [] ?_
  refine aO rfl (eF (bd (ji (jv (by assumption) (by assumption)) (by decide))) (MC)) ?_
  refine pr (au rfl) (fun c2 hb2=>?_)
  cases c2
  ·refine ag ?_
   rw[show qf t ((f.sh.getD 0 aH).ci.q)=false from by unfold qf;rw[if_neg (beq_eq_false_iff_ne.1 hc1),show decide (aM ((t.ra*t.ra:Int):Rat) (f.sh.getD 0 aH).ci.q<0)=false from hb2,ib]]
   exact am aa
  ·refine aO rfl (eu (by omega) (by omega)) ?_
   refine aO rfl (bV (bd (ji (mA (k:=3) (by decide) (by decide) (by decide)) (by decide))) (bd (ji (jv (by assumption) (by assumption)) (by decide))))<|aO rfl (eF (MC) (bd (bj (ji (mA (k:=3) (by decide) (by decide) (by decide)) (by decide)) (ji (jv (by assumption) (by assumption)) (by decide)))))<|ag ?_
   rw[show qf t ((f.sh.getD 0 aH).ci.q)=decide (aM (f.sh.getD 0 aH).ci.q (((4:Int):Rat)*((t.ra*t.ra:Int):Rat))≤0) from by unfold qf;rw[if_neg (beq_eq_false_iff_ne.1 hc1),show decide (aM ((t.ra*t.ra:Int):Rat) (f.sh.getD 0 aH).ci.q<0)=true from hb2,du]]
   exact am aa
theorem M8 (t1:1≤t.ra) (t2:t.ra≤10000000) {q:Rat}(hq:Rz 2 q):Ok Tryz.prog 24 [.a (([.i .i64 t.no]++[.i .i64 t.kd]++[.i .i64 t.ra]++[.i .i64 t.fl]++[.i .i64 t.ho]++[.i .i64 t.st]++[.i .i64 t.fe]++[.i .i64 t.pl])),dR q] [.c (.b (lG t q))]:=by
 have z1:Sz 3 t.ra:=mA (by decide) (by omega) (by omega)
 refine bS Tryz.func24 rfl ?_
 refine ac rfl (xw (by omega) (by omega))<|ac rfl (AM (bd (ji (by assumption) (by decide))) (bd (ji (by assumption) (by decide))))<|ac rfl (B3 (bd (bj (ji (by assumption) (by decide)) (ji (by assumption) (by decide)))) (MC)) ?_
 refine cd rfl (fun hc1=>?_) (fun hc1=>?_)
 ·refine ag ?_
  rw[show lG t q=(aM ((t.ra:Rat)*(t.ra:Rat)) q==0) from by unfold lG;rw[if_pos (beq_iff_eq.1 hc1)]]
  exact am aa
 ·refine cS 16 [] ?_
  refine pr (au rfl) (fun c2 hb2=>?_)
  cases c2
  ·refine pr (au rfl) (fun c3 hb3=>?_)
   cases c3
   ·refine ag ?_
    rw[show lG t q=false from by unfold lG;rw[if_neg (beq_eq_false_iff_ne.1 hc1),show(t.kd !=1)=false from hb2,ku,show decide (aM ((t.ra:Rat)*(t.ra:Rat)) q<0)=false from hb3,ib]]
    exact am aa
   ·refine aO rfl (xw (by omega) (by omega)) ?_
    refine aO rfl (AM (bd (ji (mA (k:=3) (by decide) (by decide) (by decide)) (by decide))) (bd (bj (ji (by assumption) (by decide)) (ji (by assumption) (by decide)))))<|aO rfl (B3 (MC) (bd (bj (ji (mA (k:=3) (by decide) (by decide) (by decide)) (by decide)) (bj (ji (by assumption) (by decide)) (ji (by assumption) (by decide))))))<|ag ?_
    rw[show lG t q=decide (aM q (((4:Int):Rat)*((t.ra:Rat)*(t.ra:Rat)))≤0) from by unfold lG;rw[if_neg (beq_eq_false_iff_ne.1 hc1),show(t.kd !=1)=false from hb2,ku,show decide (aM ((t.ra:Rat)*(t.ra:Rat)) q<0)=true from hb3,du]]
    exact am aa
  ·refine DQ.mk<|kN (eB rfl)<|ez ?_
   refine ag ?_
   rw[show lG t q=true from by unfold lG;rw[if_neg (beq_eq_false_iff_ne.1 hc1),show(t.kd !=1)=true from hb2,Bool.true_or]]
   exact am aa
theorem So:Ok Tryz.prog 10 [.c (.s 0 [])] [.c (.s 0 [])]:=by
 refine eG Tryz.func10 8 [.tmp 2] rfl<|ab<|ah<|ab<|ab<|bR<|fK 1 ?_
 refine Bx CF rfl rfl (fun bz1 hbz1=>?_)
 refine bv ?_
 refine aB rfl (fun hc2=>?_) (fun hc2=>?_)
 ·refine ab<|ah<|bh ?_
  exact ag (am aa)
 ·refine az<|ab<|ah<|ar (gU KL rfl) ?_
  refine ar (jP KL rfl rfl rfl) ?_
  refine Nq (t:=2) rfl<|bh ?_
  exact ag (am aa)
theorem Sr (hl:0<L.length) (lL:L.length≤8):Ok Tryz.prog 10 [.c (.s L.length (aj iA L))] [.c (.s L.length (aj iA L))]:=by
 refine eG Tryz.func10 8 [.tmp 2] rfl<|ab<|ah<|ab<|ab<|bR<|fK 1 ?_
 refine Bx CF rfl rfl (fun bz1 hbz1=>?_)
 refine bv ?_
 refine aB rfl (fun hc2=>?_) (fun hc2=>?_)
 ·exact absurd hc2 (by rw[hbz1 hl];decide)
 ·refine az<|ab<|ah<|ar (gU KL rfl) ?_
  refine DL.mk<|xN (q:=L.length) (ys:=aj iA L) (zs':=aj iA L) KL rfl rfl (ai dB _) (hl) (by omega) (go (by omega)) rfl (rfl) rfl (fun cg3 rg3 hga3 hgb3 hgc3=>dC ?_)
  refine bI (t:=2) (m:=8) (us:=aj iA L) rfl rfl (ia (n:=L.length) (ai dB _) (by assumption) (by omega)) (by omega) (by assumption) (eg (ai dB _))<|bh ?_
  exact ag (am aa)
theorem Sv (lL:L.length≤8):Ok Tryz.prog 10 [.c (.s L.length (aj iA L))] [.c (.s L.length (aj iA L))]:=by
 rcases fQ L.length with h|h
 ·obtain rfl:=ic.1 h
  exact So
 ·exact Sr h lL
theorem RY (lL:L.length≤9223372036854775807):Ok Tryz.prog 7 [.c (.s L.length (aj iA L))] [.c (.b (Aa L))]:=by
 refine bS Tryz.func7 rfl ?_
 refine dF (au rfl) (fun c1 hb1=>?_)
 cases c1
 ·refine ag ?_
  rw[show Aa L=false from by unfold Aa;rw[hb1,ib]]
  exact am aa
 ·refine ac rfl (Rg lL)<|ag ?_
  rw[show Aa L=(sv L==0) from by unfold Aa;rw[hb1,du]]
  exact am aa
theorem N0 (hF: ∀f∈F,FtV f) (_lF:F.length≤40) (hr: ∀i,i<F.length→iH (F.getD i cV) th=true) (_lL:L.length≤8) (hL: ∀i,i<L.length→gy (L.getD i dA)=true) (lD:o.ds.length≤20) (vD: ∀v∈o.ds,v≤9223372036854775807):Ok Tryz.prog 11 [.a (([.i .i64 o.kd]++[.i .i64 o.ft]++[.i .i64 o.tl]++[.s o.ds.length (aj jp o.ds)]++[.i .i64 o.lv])),.a (([.i .i64 th]++[.s F.length (aj iG F)])),.c (.s L.length (aj iA L))] [.c (.i .i64 (n5 F L o))]:=by
 refine bS Tryz.func11 rfl ?_
 refine dF (au rfl) (fun c1 hb1=>?_)
 cases c1
 ·refine dF (au rfl) (fun c2 hb2=>?_)
  cases c2
  ·refine dF (au rfl) (fun c3 hb3=>?_)
   cases c3
   ·refine dF (au rfl) (fun c4 hb4=>?_)
    cases c4
    ·refine dF (au rfl) (fun c5 hb5=>?_)
     cases c5
     ·refine cd rfl (fun hc6=>?_) (fun hc6=>?_)
      ·have e0:n5 F L o=1:=if_pos (by unfold oc;rw[hb1,hb2,hb3,hb4,hb5,hc6];rfl)
       refine ag ?_
       rw[e0]
       exact am aa
      ·have e9:n5 F L o=ue o (F.getD o.ft.toNat cV) (L.getD o.tl.toNat dA):=if_neg (by rw[show oc F L o=false from by unfold oc;rw[hb1,hb2,hb3,hb4,hb5,hc6];rfl];decide)
       have q1:=of_decide_eq_false hb1
       have q2:=of_decide_eq_false hb2
       have q3:=of_decide_eq_false hb3
       have q4:=of_decide_eq_false hb4
       have g1:o.ft.toNat<F.length:=by omega
       have g2:o.tl.toNat<L.length:=by omega
       have fv:=hF _ (aE (d:=cV) g1)
       have rx:=yX (hr _ g1)
       have tg:=DN (hL _ g2)
       refine cS 15 [7,8,999999] ?_
       refine aq (aC (us:=iG (F.getD o.ft.toNat cV)++aj iG (F.drop (o.ft.toNat+1))) Fd rfl rfl (⟨by omega,by omega⟩) (ai dg _) (aQ dg (aK g1)) rfl) ?_
       refine aq (aJ (us:=([.e ((.string ((F.getD o.ft.toNat cV).nm)))]++[.i .i64 ((F.getD o.ft.toNat cV).kd)]++[.i .i64 ((F.getD o.ft.toNat cV).dp)]++[.s (((F.getD o.ft.toNat cV).sh).length) (aj ao ((F.getD o.ft.toNat cV).sh))])) J0 rfl (yV _ _) (dg _) rfl) ?_
       refine aq (aC (us:=iA (L.getD o.tl.toNat dA)++aj iA (L.drop (o.tl.toNat+1))) CF rfl rfl (⟨by omega,by omega⟩) (ai dB _) (aQ dB (aK g2)) rfl) ?_
       refine aq (aJ (us:=([.i .i64 ((L.getD o.tl.toNat dA).no)]++[.i .i64 ((L.getD o.tl.toNat dA).kd)]++[.i .i64 ((L.getD o.tl.toNat dA).ra)]++[.i .i64 ((L.getD o.tl.toNat dA).fl)]++[.i .i64 ((L.getD o.tl.toNat dA).ho)]++[.i .i64 ((L.getD o.tl.toNat dA).st)]++[.i .i64 ((L.getD o.tl.toNat dA).fe)]++[.i .i64 ((L.getD o.tl.toNat dA).pl)])) Io rfl (yO _ _) (dB _) rfl) ?_
       refine DQ.mk<|kq (fI J0 rfl) rfl rfl rfl rfl<|ez ?_
       refine DQ.mk<|kq (fI Io rfl) rfl rfl rfl rfl<|ez ?_
       refine ac rfl (Ru) ?_
       refine cd rfl (fun hc7=>?_) (fun hc7=>?_)
       ·have e0:n5 F L o=1:=e9.trans (by unfold ue;rw[if_pos (by simpa using hc7)])
        refine ag ?_
        rw[e0]
        exact am aa
       ·have s0:b8 o.kd (F.getD o.ft.toNat cV).kd (L.getD o.tl.toNat dA).kd=true:=by simpa using hc7
        refine cd rfl (fun hc8=>?_) (fun hc8=>?_)
        ·have k4:o.kd=4:=beq_iff_eq.1 hc8
         refine cd rfl (fun hc9=>?_) (fun hc9=>?_)
         ·have e0:n5 F L o=1:=e9.trans (by unfold ue;rw[if_neg (show ¬b8 o.kd (F.getD o.ft.toNat cV).kd (L.getD o.tl.toNat dA).kd=false from by rw[s0];decide),if_pos k4,if_pos (of_decide_eq_true hc9)])
          refine ag ?_
          rw[e0]
          exact am aa
         ·have e0:n5 F L o=0:=e9.trans (by unfold ue;rw[if_neg (show ¬b8 o.kd (F.getD o.ft.toNat cV).kd (L.getD o.tl.toNat dA).kd=false from by rw[s0];decide),if_pos k4,if_neg (of_decide_eq_false hc9)])
          refine ag ?_
          rw[e0]
          exact am aa
        ·have k4: ¬o.kd=4:=beq_eq_false_iff_ne.1 hc8
         refine ac rfl (Rb (by omega) vD) ?_
         refine cd rfl (fun hc10=>?_) (fun hc10=>?_)
         ·have e0:n5 F L o=1:=e9.trans (by unfold ue;rw[if_neg (show ¬b8 o.kd (F.getD o.ft.toNat cV).kd (L.getD o.tl.toNat dA).kd=false from by rw[s0];decide),if_neg k4,if_pos (by simpa using hc10)])
          refine ag ?_
          rw[e0]
          exact am aa
         ·have p0:sE o.ds (F.getD o.ft.toNat cV).dp (L.getD o.tl.toNat dA).st=true:=by simpa using hc10
          refine dF (au rfl) (fun c11 hb11=>?_)
          cases c11
          ·have f0:=of_decide_eq_false hb11
           refine dF (au rfl) (fun c12 hb12=>?_)
           cases c12
           ·have e0:n5 F L o=0:=e9.trans (by unfold ue;rw[if_neg (show ¬b8 o.kd (F.getD o.ft.toNat cV).kd (L.getD o.tl.toNat dA).kd=false from by rw[s0];decide),if_neg k4,if_neg (show ¬sE o.ds (F.getD o.ft.toNat cV).dp (L.getD o.tl.toNat dA).st=false from by rw[p0];decide),if_neg f0,if_neg (beq_eq_false_iff_ne.1 hb12)])
            refine nE rfl<|ag ?_
            rw[e0]
            exact am aa
           ·have k3:(F.getD o.ft.toNat cV).kd=3:=beq_iff_eq.1 hb12
            have a0:=rx.2.2.2 k3
            refine ac rfl (R7 fv rx.1 a0 tg.2.2.1 tg.2.2.2.1) ?_
            refine cd rfl (fun hc13=>?_) (fun hc13=>?_)
            ·have e0:n5 F L o=16:=e9.trans (by unfold ue;rw[if_neg (show ¬b8 o.kd (F.getD o.ft.toNat cV).kd (L.getD o.tl.toNat dA).kd=false from by rw[s0];decide),if_neg k4,if_neg (show ¬sE o.ds (F.getD o.ft.toNat cV).dp (L.getD o.tl.toNat dA).st=false from by rw[p0];decide),if_neg f0,if_pos k3,if_pos (show qf (L.getD o.tl.toNat dA) (Jw (F.getD o.ft.toNat cV))=false from(show qf (L.getD o.tl.toNat dA) ((F.getD o.ft.toNat cV).sh.getD 0 aH).ci.q=false by simpa using hc13))])
             refine ag ?_
             rw[e0]
             exact am aa
            ·have e0:n5 F L o=0:=e9.trans (by unfold ue;rw[if_neg (show ¬b8 o.kd (F.getD o.ft.toNat cV).kd (L.getD o.tl.toNat dA).kd=false from by rw[s0];decide),if_neg k4,if_neg (show ¬sE o.ds (F.getD o.ft.toNat cV).dp (L.getD o.tl.toNat dA).st=false from by rw[p0];decide),if_neg f0,if_pos k3,if_neg (show ¬qf (L.getD o.tl.toNat dA) (Jw (F.getD o.ft.toNat cV))=false by rw[show qf (L.getD o.tl.toNat dA) (Jw (F.getD o.ft.toNat cV))=true from(show qf (L.getD o.tl.toNat dA) ((F.getD o.ft.toNat cV).sh.getD 0 aH).ci.q=true by simpa using hc13)];decide)])
             refine ag ?_
             rw[e0]
             exact am aa
          ·have e0:n5 F L o=16:=e9.trans (by unfold ue;rw[if_neg (show ¬b8 o.kd (F.getD o.ft.toNat cV).kd (L.getD o.tl.toNat dA).kd=false from by rw[s0];decide),if_neg k4,if_neg (show ¬sE o.ds (F.getD o.ft.toNat cV).dp (L.getD o.tl.toNat dA).st=false from by rw[p0];decide),if_pos (of_decide_eq_true hb11)])
           refine DL.mk<|jN (eB rfl)<|dC ?_
           refine kG rfl<|ag ?_
           rw[e0]
           exact am aa
     ·have e0:n5 F L o=1:=if_pos (by unfold oc;rw[hb1,hb2,hb3,hb4,hb5];rfl)
      refine kG rfl<|ag ?_
      rw[e0]
      exact am aa
    ·have e0:n5 F L o=1:=if_pos (by unfold oc;rw[hb1,hb2,hb3,hb4];rfl)
     refine ar (au rfl)<|kG rfl<|ag ?_
     rw[e0]
     exact am aa
   ·have e0:n5 F L o=1:=if_pos (by unfold oc;rw[hb1,hb2,hb3];rfl)
    refine ar (au rfl)<|ar (au rfl)<|kG rfl<|ag ?_
    rw[e0]
    exact am aa
  ·have e0:n5 F L o=1:=if_pos (by unfold oc;rw[hb1,hb2];rfl)
   refine ar (au rfl)<|ar (au rfl)<|ar (au rfl)<|kG rfl<|ag ?_
   rw[e0]
   exact am aa
 ·have e0:n5 F L o=1:=if_pos (by unfold oc;rw[hb1];rfl)
  refine ar (au rfl)<|ar (au rfl)<|ar (au rfl)<|ar (au rfl)<|kG rfl<|ag ?_
  rw[e0]
  exact am aa
theorem Qy (hF: ∀f∈F,FtV f) (_lF:F.length≤40) (hr: ∀i,i<F.length→iH (F.getD i cV) th=true) (_lL:L.length≤8) (hL: ∀i,i<L.length→gy (L.getD i dA)=true) (lD:o.ds.length≤20) (vD: ∀v∈o.ds,v≤9223372036854775807):Ok Tryz.prog 9 [.a (([.i .i64 o.kd]++[.i .i64 o.ft]++[.i .i64 o.tl]++[.s o.ds.length (aj jp o.ds)]++[.i .i64 o.lv])),.a (([.i .i64 th]++[.s F.length (aj iG F)])),.c (.s L.length (aj iA L))] [.c (.i .i64 (mh F L o))]:=by
 refine bS Tryz.func9 rfl ?_
 refine dF (au rfl) (fun c1 hb1=>?_)
 cases c1
 ·refine dF (au rfl) (fun c2 hb2=>?_)
  cases c2
  ·refine dF (au rfl) (fun c3 hb3=>?_)
   cases c3
   ·refine dF (au rfl) (fun c4 hb4=>?_)
    cases c4
    ·refine dF (au rfl) (fun c5 hb5=>?_)
     cases c5
     ·refine cd rfl (fun hc6=>?_) (fun hc6=>?_)
      ·have e0:mh F L o=1:=if_pos (by unfold oc;rw[hb1,hb2,hb3,hb4,hb5,hc6];rfl)
       refine ag ?_
       rw[e0]
       exact am aa
      ·have e9:mh F L o=qC o (F.getD o.ft.toNat cV) (L.getD o.tl.toNat dA):=if_neg (by rw[show oc F L o=false from by unfold oc;rw[hb1,hb2,hb3,hb4,hb5,hc6];rfl];decide)
       have q1:=of_decide_eq_false hb1
       have q2:=of_decide_eq_false hb2
       have q3:=of_decide_eq_false hb3
       have q4:=of_decide_eq_false hb4
       have g1:o.ft.toNat<F.length:=by omega
       have g2:o.tl.toNat<L.length:=by omega
       have fv:=hF _ (aE (d:=cV) g1)
       have rx:=yX (hr _ g1)
       have tg:=DN (hL _ g2)
       refine cS 15 [7,8,999999] ?_
       refine aq (aC (us:=iG (F.getD o.ft.toNat cV)++aj iG (F.drop (o.ft.toNat+1))) Fd rfl rfl (⟨by omega,by omega⟩) (ai dg _) (aQ dg (aK g1)) rfl) ?_
       refine aq (aJ (us:=([.e ((.string ((F.getD o.ft.toNat cV).nm)))]++[.i .i64 ((F.getD o.ft.toNat cV).kd)]++[.i .i64 ((F.getD o.ft.toNat cV).dp)]++[.s (((F.getD o.ft.toNat cV).sh).length) (aj ao ((F.getD o.ft.toNat cV).sh))])) J0 rfl (yV _ _) (dg _) rfl) ?_
       refine aq (aC (us:=iA (L.getD o.tl.toNat dA)++aj iA (L.drop (o.tl.toNat+1))) CF rfl rfl (⟨by omega,by omega⟩) (ai dB _) (aQ dB (aK g2)) rfl) ?_
       refine aq (aJ (us:=([.i .i64 ((L.getD o.tl.toNat dA).no)]++[.i .i64 ((L.getD o.tl.toNat dA).kd)]++[.i .i64 ((L.getD o.tl.toNat dA).ra)]++[.i .i64 ((L.getD o.tl.toNat dA).fl)]++[.i .i64 ((L.getD o.tl.toNat dA).ho)]++[.i .i64 ((L.getD o.tl.toNat dA).st)]++[.i .i64 ((L.getD o.tl.toNat dA).fe)]++[.i .i64 ((L.getD o.tl.toNat dA).pl)])) Io rfl (yO _ _) (dB _) rfl) ?_
       refine DQ.mk<|kq (fI J0 rfl) rfl rfl rfl rfl<|ez ?_
       refine DQ.mk<|kq (fI Io rfl) rfl rfl rfl rfl<|ez ?_
       refine cd rfl (fun hc7=>?_) (fun hc7=>?_)
       ·have k4: ¬o.kd=4:=bne_iff_ne.1 hc7
        refine ac rfl (Sd (by omega) vD)<|ac rfl (Ns) ?_
        refine dF (au rfl) (fun c8 hb8=>?_)
        cases c8
        ·have s0:b8 o.kd (F.getD o.ft.toNat cV).kd (L.getD o.tl.toNat dA).kd=true:=by simpa using hb8
         refine cd rfl (fun hc9=>?_) (fun hc9=>?_)
         ·have e0:mh F L o=1:=e9.trans (by unfold qC;rw[if_neg (show ¬b8 o.kd (F.getD o.ft.toNat cV).kd (L.getD o.tl.toNat dA).kd=false from by rw[s0];decide),if_pos (show ti o (F.getD o.ft.toNat cV) (L.getD o.tl.toNat dA)=false from(if_neg k4).trans (by simpa using hc9))])
          refine ag ?_
          rw[e0]
          exact am aa
         ·have d0:ti o (F.getD o.ft.toNat cV) (L.getD o.tl.toNat dA)=true:=(if_neg k4).trans (by simpa using hc9)
          refine cS 34 [] ?_
          refine pr (au rfl) (fun c10 hb10=>?_)
          cases c10
          ·exact absurd (bne_eq_false_iff_eq.1 hb10) k4
          ·refine pr (au rfl) (fun c11 hb11=>?_)
           cases c11
           ·have f0:=of_decide_eq_false hb11
            refine pr (au rfl) (fun c12 hb12=>?_)
            cases c12
            ·have e0:mh F L o=0:=e9.trans (by unfold qC;rw[if_neg (show ¬b8 o.kd (F.getD o.ft.toNat cV).kd (L.getD o.tl.toNat dA).kd=false from by rw[s0];decide),if_neg (show ¬ti o (F.getD o.ft.toNat cV) (L.getD o.tl.toNat dA)=false from by rw[d0];decide),if_neg (show ¬(¬o.kd=4∧(L.getD o.tl.toNat dA).fl<(F.getD o.ft.toNat cV).dp) from fun q=>f0 q.2),if_neg (beq_eq_false_iff_ne.1 hb12)])
             refine aq (au rfl)<|nE rfl<|ag ?_
             rw[e0]
             exact am aa
            ·have k3:(F.getD o.ft.toNat cV).kd=3:=beq_iff_eq.1 hb12
             have a0:=rx.2.2.2 k3
             have zq:=(Aq (fv.v _ (aE (d:=aH) rx.1)) a0).1.q
             refine pr (au rfl) (fun c13 hb13=>?_)
             cases c13
             ·exact absurd rx.1 (by have:=of_decide_eq_false hb13;omega)
             ·refine aq (aC (us:=ao ((F.getD o.ft.toNat cV).sh.getD 0 aH)++aj ao ((F.getD o.ft.toNat cV).sh.drop (0+1))) bY rfl rfl (by omega) (ai ae _) (aQ ae (aK rx.1)) rfl) ?_
              refine aq (bc tz rfl rfl rfl) ?_
              refine aq (bc Ce rfl rfl rfl) ?_
              refine aq (aJ (us:=cR ((((F.getD o.ft.toNat cV).sh.getD 0 aH)).ci.q)) bZ rfl (wh (by assumption) _) rfl rfl) ?_
              refine aO rfl (M8 tg.2.2.1 tg.2.2.2.1 zq) ?_
              refine cd rfl (fun hc14=>?_) (fun hc14=>?_)
              ·have e0:mh F L o=16:=e9.trans (by unfold qC;rw[if_neg (show ¬b8 o.kd (F.getD o.ft.toNat cV).kd (L.getD o.tl.toNat dA).kd=false from by rw[s0];decide),if_neg (show ¬ti o (F.getD o.ft.toNat cV) (L.getD o.tl.toNat dA)=false from by rw[d0];decide),if_neg (show ¬(¬o.kd=4∧(L.getD o.tl.toNat dA).fl<(F.getD o.ft.toNat cV).dp) from fun q=>f0 q.2),if_pos k3,if_pos (show lG (L.getD o.tl.toNat dA) (Jw (F.getD o.ft.toNat cV))=false from(show lG (L.getD o.tl.toNat dA) ((F.getD o.ft.toNat cV).sh.getD 0 aH).ci.q=false by simpa using hc14))])
               refine ag ?_
               rw[e0]
               exact am aa
              ·have e0:mh F L o=0:=e9.trans (by unfold qC;rw[if_neg (show ¬b8 o.kd (F.getD o.ft.toNat cV).kd (L.getD o.tl.toNat dA).kd=false from by rw[s0];decide),if_neg (show ¬ti o (F.getD o.ft.toNat cV) (L.getD o.tl.toNat dA)=false from by rw[d0];decide),if_neg (show ¬(¬o.kd=4∧(L.getD o.tl.toNat dA).fl<(F.getD o.ft.toNat cV).dp) from fun q=>f0 q.2),if_pos k3,if_neg (show ¬lG (L.getD o.tl.toNat dA) (Jw (F.getD o.ft.toNat cV))=false by rw[show lG (L.getD o.tl.toNat dA) (Jw (F.getD o.ft.toNat cV))=true from(show lG (L.getD o.tl.toNat dA) ((F.getD o.ft.toNat cV).sh.getD 0 aH).ci.q=true by simpa using hc14)];decide)])
               refine ag ?_
               rw[e0]
               exact am aa
           ·have e0:mh F L o=16:=e9.trans (by unfold qC;rw[if_neg (show ¬b8 o.kd (F.getD o.ft.toNat cV).kd (L.getD o.tl.toNat dA).kd=false from by rw[s0];decide),if_neg (show ¬ti o (F.getD o.ft.toNat cV) (L.getD o.tl.toNat dA)=false from by rw[d0];decide),if_pos ⟨k4,of_decide_eq_true hb11⟩])
            refine DQ.mk<|kN (eB rfl)<|ez ?_
            refine DQ.mk<|kN (eB rfl)<|ez ?_
            refine kG rfl<|ag ?_
            rw[e0]
            exact am aa
        ·have e0:mh F L o=1:=e9.trans (by unfold qC;rw[if_pos (by simpa using hb8)])
         refine kG rfl<|ag ?_
         rw[e0]
         exact am aa
       ·have k4:o.kd=4:=bne_eq_false_iff_eq.1 hc7
        refine ac rfl (Ns) ?_
        refine dF (au rfl) (fun c15 hb15=>?_)
        cases c15
        ·have s0:b8 o.kd (F.getD o.ft.toNat cV).kd (L.getD o.tl.toNat dA).kd=true:=by simpa using hb15
         refine cd rfl (fun hc16=>?_) (fun hc16=>?_)
         ·have e0:mh F L o=1:=e9.trans (by unfold qC;rw[if_neg (show ¬b8 o.kd (F.getD o.ft.toNat cV).kd (L.getD o.tl.toNat dA).kd=false from by rw[s0];decide),if_pos (show ti o (F.getD o.ft.toNat cV) (L.getD o.tl.toNat dA)=false from(if_pos k4).trans (by simpa using hc16))])
          refine ag ?_
          rw[e0]
          exact am aa
         ·have d0:ti o (F.getD o.ft.toNat cV) (L.getD o.tl.toNat dA)=true:=(if_pos k4).trans (by simpa using hc16)
          refine cS 34 [] ?_
          refine pr (au rfl) (fun c17 hb17=>?_)
          cases c17
          ·refine aq (au rfl) ?_
           refine pr (au rfl) (fun c18 hb18=>?_)
           cases c18
           ·have e0:mh F L o=0:=e9.trans (by unfold qC;rw[if_neg (show ¬b8 o.kd (F.getD o.ft.toNat cV).kd (L.getD o.tl.toNat dA).kd=false from by rw[s0];decide),if_neg (show ¬ti o (F.getD o.ft.toNat cV) (L.getD o.tl.toNat dA)=false from by rw[d0];decide),if_neg (show ¬(¬o.kd=4∧(L.getD o.tl.toNat dA).fl<(F.getD o.ft.toNat cV).dp) from fun q=>q.1 k4),if_neg (beq_eq_false_iff_ne.1 hb18)])
            refine aq (au rfl)<|nE rfl<|ag ?_
            rw[e0]
            exact am aa
           ·have k3:(F.getD o.ft.toNat cV).kd=3:=beq_iff_eq.1 hb18
            have a0:=rx.2.2.2 k3
            have zq:=(Aq (fv.v _ (aE (d:=aH) rx.1)) a0).1.q
            refine pr (au rfl) (fun c19 hb19=>?_)
            cases c19
            ·exact absurd rx.1 (by have:=of_decide_eq_false hb19;omega)
            ·refine aq (aC (us:=ao ((F.getD o.ft.toNat cV).sh.getD 0 aH)++aj ao ((F.getD o.ft.toNat cV).sh.drop (0+1))) bY rfl rfl (by omega) (ai ae _) (aQ ae (aK rx.1)) rfl) ?_
             refine aq (bc tz rfl rfl rfl) ?_
             refine aq (bc Ce rfl rfl rfl) ?_
             refine aq (aJ (us:=cR ((((F.getD o.ft.toNat cV).sh.getD 0 aH)).ci.q)) bZ rfl (wh (by assumption) _) rfl rfl) ?_
             refine aO rfl (M8 tg.2.2.1 tg.2.2.2.1 zq) ?_
             refine cd rfl (fun hc20=>?_) (fun hc20=>?_)
             ·have e0:mh F L o=16:=e9.trans (by unfold qC;rw[if_neg (show ¬b8 o.kd (F.getD o.ft.toNat cV).kd (L.getD o.tl.toNat dA).kd=false from by rw[s0];decide),if_neg (show ¬ti o (F.getD o.ft.toNat cV) (L.getD o.tl.toNat dA)=false from by rw[d0];decide),if_neg (show ¬(¬o.kd=4∧(L.getD o.tl.toNat dA).fl<(F.getD o.ft.toNat cV).dp) from fun q=>q.1 k4),if_pos k3,if_pos (show lG (L.getD o.tl.toNat dA) (Jw (F.getD o.ft.toNat cV))=false from(show lG (L.getD o.tl.toNat dA) ((F.getD o.ft.toNat cV).sh.getD 0 aH).ci.q=false by simpa using hc20))])
              refine ag ?_
              rw[e0]
              exact am aa
             ·have e0:mh F L o=0:=e9.trans (by unfold qC;rw[if_neg (show ¬b8 o.kd (F.getD o.ft.toNat cV).kd (L.getD o.tl.toNat dA).kd=false from by rw[s0];decide),if_neg (show ¬ti o (F.getD o.ft.toNat cV) (L.getD o.tl.toNat dA)=false from by rw[d0];decide),if_neg (show ¬(¬o.kd=4∧(L.getD o.tl.toNat dA).fl<(F.getD o.ft.toNat cV).dp) from fun q=>q.1 k4),if_pos k3,if_neg (show ¬lG (L.getD o.tl.toNat dA) (Jw (F.getD o.ft.toNat cV))=false by rw[show lG (L.getD o.tl.toNat dA) (Jw (F.getD o.ft.toNat cV))=true from(show lG (L.getD o.tl.toNat dA) ((F.getD o.ft.toNat cV).sh.getD 0 aH).ci.q=true by simpa using hc20)];decide)])
              refine ag ?_
              rw[e0]
              exact am aa
          ·exact absurd k4 (bne_iff_ne.1 hb17)
        ·have e0:mh F L o=1:=e9.trans (by unfold qC;rw[if_pos (by simpa using hb15)])
         refine kG rfl<|ag ?_
         rw[e0]
         exact am aa
     ·have e0:mh F L o=1:=if_pos (by unfold oc;rw[hb1,hb2,hb3,hb4,hb5];rfl)
      refine kG rfl<|ag ?_
      rw[e0]
      exact am aa
    ·have e0:mh F L o=1:=if_pos (by unfold oc;rw[hb1,hb2,hb3,hb4];rfl)
     refine ar (au rfl)<|kG rfl<|ag ?_
     rw[e0]
     exact am aa
   ·have e0:mh F L o=1:=if_pos (by unfold oc;rw[hb1,hb2,hb3];rfl)
    refine ar (au rfl)<|ar (au rfl)<|kG rfl<|ag ?_
    rw[e0]
    exact am aa
  ·have e0:mh F L o=1:=if_pos (by unfold oc;rw[hb1,hb2];rfl)
   refine ar (au rfl)<|ar (au rfl)<|ar (au rfl)<|kG rfl<|ag ?_
   rw[e0]
   exact am aa
 ·have e0:mh F L o=1:=if_pos (by unfold oc;rw[hb1];rfl)
  refine ar (au rfl)<|ar (au rfl)<|ar (au rfl)<|ar (au rfl)<|kG rfl<|ag ?_
  rw[e0]
  exact am aa
end Go.Proofs.YtkfgimjmgfoneaaGreatDoor
