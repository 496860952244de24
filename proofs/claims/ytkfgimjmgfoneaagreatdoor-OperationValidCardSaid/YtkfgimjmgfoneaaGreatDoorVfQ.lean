/-The pieces of curves at all common points:the reference. -/
import Derived.Test.YtkfgimjmgfoneaaGreatDoorVfP
namespace Go.Proofs.YtkfgimjmgfoneaaGreatDoor
open Go Go.RowKit
variable {tm:List (Nat×DV)}{bx:List (Nat×TypeId×List CellD)}{us:List CellD}{L:List Cv}{N f m n t:Nat}{x y:Operand}{P:Program}{pos:String}{U U2 e ty:TypeId}
variable {af:Array Edge}{g:Option (Nat×Bool)}
theorem Q4 (hL: ∀d∈L,CvV d) (lL:L.length≤400):Ok Tryz.prog 61 [.c (.s ((L).length) (aj ao (L)))] [.c (.s (((p6 L)).length) (aj ao ((p6 L))))]:=by
 have hA:=Ny hL
 have lA:=D6 lL
 refine eG Tryz.func61 69 [.tmp 2] rfl<|ab<|ah<|ab<|bR<|b9 (cg rfl) ?_
 refine bv ?_
 refine dV (ι:=Unit) (fun i=>⟨69,[(3,.v (.c (.s (((aT L)).length) (aj ao ((aT L))))))],[]⟩) ?_ ?_
 ·refine ab<|ah<|aA ?_
  refine j7 (ι:={x9:Nat×Nat×List CellD // 1≤x9.1∧x9.1≤L.length∧(mI L x9.1).length≤x9.2.1∧x9.2.1≤maxLen∧x9.2.2.length=(x9.2.1-(mI L x9.1).length)*66}) (fun i=>⟨69,[(0,.v (.c (.s ((L).length) (aj ao (L))))),(3,.o 25 ((mI L i.1.1).length) i.1.2.1),(4,.v (.c (.i .i64 (i.1.1:Int))))],[(25,86,aj ao (mI L i.1.1)++i.1.2.2)]⟩) (fun i=>L.length-i.1.1) (L.length) ?_ ?_
  ·refine ab<|ab<|ah ?_
   refine aB rfl (fun hc1=>?_) (fun hc1=>?_)
   ·have g0:0<L.length:=by have:=of_decide_eq_true hc1;omega
    have hX:CvV (L.getD 0 aH):=hL _ (aE g0)
    have l7:=ww (c:=L.getD 0 aH)
    refine az<|ab<|aA<|ah<|ar (cU aH ae g0 bY rfl)<|ar (i4 ae aZ rfl)<|ac rfl (QD hX) ?_
    refine DL.mk<|jB (q:=(lT (L.getD 0 aH)).length) (ys:=aj ao ((lT (L.getD 0 aH)))) (zs':=aj ao (lT (L.getD 0 aH))) dS rfl rfl (ai ae _) (Gw hX) (by omega) (go (by omega)) rfl (rfl) rfl (fun cg2 rg2 hga2 hgb2 hgc2=>dC ?_)
    refine ah<|ar (i6 (r:=1) rfl rfl rfl rfl) ?_
    exact⟨⟨⟨1,cg2,rg2⟩,aX _,g0,hga2,hgb2,hgc2⟩,ak ⟨rfl,rfl,rfl,trivial⟩ ⟨rfl,trivial⟩ rfl,by show L.length-1<L.length;omega⟩
   ·have e0:[]=(aT L):=by rw[show L=[] from ic.1 (by have:=of_decide_eq_false hc1;omega)];rfl
    refine mH (t:=3) rfl<|aW ?_
    exact⟨(),ak ⟨congrArg (fun q=>some (DV.v (.c (.s (List.length q) (aj ao q))))) (e0),trivial⟩ trivial rfl⟩
  ·rintro⟨⟨n,c,rs⟩,h1,h2,h3,h4,h5⟩
   dsimp only at h1 h2 h3 h4 h5
   dsimp only
   refine ab<|ab<|ah ?_
   refine aB rfl (fun hc3=>?_) (fun hc3=>?_)
   ·have g1:n<L.length:=by have:=of_decide_eq_true hc3;omega
    have hX:CvV (L.getD n aH):=hL _ (aE g1)
    have l7:=ww (c:=L.getD n aH)
    have l6:=uW (L:=L) n
    refine az<|ab<|aA<|ah<|ar (cU aH ae g1 bY rfl)<|ar (i4 ae aZ rfl)<|ac rfl (QD hX) ?_
    refine DL.mk<|jj (n:=(mI L n).length) (c:=c) (q:=((lT (L.getD n aH))).length) (us:=aj ao (mI L n)) (rest:=rs) (N':=(mI L (n+1)).length) (zs':=aj ao (mI L (n+1))) dS rfl rfl rfl (rfl) (ai ae _) (h5) (ai ae _) (by decide) (by omega) (by assumption) (by omega) (mJ (by omega)) (.inl rfl) (by rw[show(mI L (n+1))=(mI L n)++(lT (L.getD n aH)) from rfl,bN]) (by rw[show(mI L (n+1))=(mI L n)++(lT (L.getD n aH)) from rfl,ck]) rfl (fun cg4 rg4 hga4 hgb4 hgc4=>dC ?_)
    refine ah<|ar (ba (by omega) rfl) ?_
    exact⟨⟨⟨n+1,cg4,rg4⟩,by omega,g1,hga4,hgb4,hgc4⟩,ak ⟨rfl,rfl,rfl,trivial⟩ ⟨rfl,trivial⟩ rfl,by show L.length-(n+1)<L.length-n;omega⟩
   ·have e9:(mI L n)=(aT L):=by rw[show n=L.length from by have:=of_decide_eq_false hc3;omega];rfl
    refine bI (t:=3) (m:=66) (us:=aj ao (mI L n)) rfl rfl (ia (n:=(mI L n).length) (by first|exact ai ae _|exact ai aD _) (by assumption) (by omega)) (by omega) (by assumption) (eg (by first|exact ai ae _|exact ai aD _)) ?_
    refine aW ?_
    exact⟨(),ak ⟨congrArg (fun q=>some (DV.v (.c (.s (List.length q) (aj ao q))))) (e9),trivial⟩ trivial rfl⟩
 ·rintro⟨⟩
  try dsimp only
  refine ab<|bR<|b9 (cg rfl) ?_
  refine bv<|ab<|ab<|ah<|aA ?_
  refine j7 (ι:={x9:Nat×Nat×List CellD // 1≤x9.1∧x9.1≤(aT L).length∧(jE (aT L) x9.1).length≤x9.2.1∧x9.2.1≤maxLen∧x9.2.2.length=(x9.2.1-(jE (aT L) x9.1).length)*66}) (fun i=>⟨69,[(3,.v (.c (.s (((aT L)).length) (aj ao ((aT L)))))),(5,.o 67 ((jE (aT L) i.1.1).length) i.1.2.1),(6,.v (.c (.i .i64 (i.1.1:Int))))],[(67,86,aj ao (jE (aT L) i.1.1)++i.1.2.2)]⟩) (fun i=>(aT L).length-i.1.1) ((aT L).length) ?_ ?_
  ·refine ab<|ab<|ah ?_
   refine aB rfl (fun hc5=>?_) (fun hc5=>?_)
   ·have g0:0<(aT L).length:=by have:=of_decide_eq_true hc5;omega
    obtain⟨vX,mX⟩:=hA _ (aE g0)
    have l9:=mU (A:=(aT L)) (i:=0) (aT L).length
    have lS:=qG (c:=((aT L).getD 0 aH)) (l:=bi (aT L) 0 (aT L).length)
    refine az<|ab<|aA<|ab<|bR<|b9 (cg rfl) ?_
    refine bv ?_
    refine dV (ι:=Unit) (fun i=>⟨69,[(3,.v (.c (.s (((aT L)).length) (aj ao ((aT L)))))),(5,.z),(6,.v (.c (.i .i64 0))),(7,.v (.c (.s (((bi (aT L) 0 ((aT L).length))).length) (aj al ((bi (aT L) 0 ((aT L).length)))))))],[]⟩) ?_ ?_
    ·refine ab<|ah<|aA ?_
     refine aY (ι:=Sum ({k:Nat // k≤(aT L).length∧(bi (aT L) 0 k)=[]}) ({x9:Nat×Nat×List CellD // x9.1≤(aT L).length∧(bi (aT L) 0 x9.1).length≤x9.2.1∧x9.2.1≤maxLen∧x9.2.2.length=(x9.2.1-(bi (aT L) 0 x9.1).length)*20})) (fun i=>match i with| .inl i=>⟨69,[(3,.v (.c (.s (((aT L)).length) (aj ao ((aT L)))))),(5,.z),(6,.v (.c (.i .i64 0))),(7,.z),(8,.v (.c (.i .i64 (i.1:Int))))],[]⟩| .inr i=>⟨69,[(3,.v (.c (.s (((aT L)).length) (aj ao ((aT L)))))),(5,.z),(6,.v (.c (.i .i64 0))),(7,.o 55 ((bi (aT L) 0 i.1.1).length) i.1.2.1),(8,.v (.c (.i .i64 (i.1.1:Int))))],[(55,84,aj al (bi (aT L) 0 i.1.1)++i.1.2.2)]⟩) (fun i=>match i with| .inl i=>(aT L).length-i.1| .inr i=>(aT L).length-i.1.1) (.inl ⟨0,cY _,rfl⟩) (ak ⟨rfl,rfl,rfl,rfl,rfl,trivial⟩ trivial rfl) ?_
     rintro(⟨k,h2,h3⟩|⟨⟨k,c7,rs7⟩,h2,h3,h4,h5⟩)
     ·replace h2:k≤(aT L).length:=h2
      replace h3:(bi (aT L) 0 k)=[]:=h3
      dsimp only
      refine ab<|ab<|ah ?_
      refine aB rfl (fun hc6=>?_) (fun hc6=>?_)
      ·have gk:k<(aT L).length:=by have:=of_decide_eq_true hc6;omega
       have l8:=kU (a:=((aT L).getD 0 aH)) (c:=((aT L).getD k aH))
       refine az<|ab<|aA<|ab<|ah ?_
       refine aB rfl (fun hc7=>?_) (fun hc7=>?_)
       ·have g2: ¬k=0:=by have:=bne_iff_ne.1 hc7;omega
        refine ab<|dx 14 []<|aq (cU aH ae g0 bY rfl)<|aq (i4 ae aZ rfl)<|aq (cU aH ae gk bY rfl)<|aq (i4 ae aZ rfl)<|aO rfl (uP vX.g (hA _ (aE gk)).1.g) ?_
        rcases fQ (br ((aT L).getD 0 aH) ((aT L).getD k aH)).length with hq0|hq0
        ·refine ah<|ar (mF di rfl rfl hq0 rfl) ?_
         refine ah<|ar (ba (by omega) rfl) ?_
         exact⟨.inl ⟨k+1,gk,by rw[(show(bi (aT L) 0 (k+1))=(bi (aT L) 0 k)++(br ((aT L).getD 0 aH) ((aT L).getD k aH)) from if_neg g2),h3,ic.1 hq0];rfl⟩,ak ⟨rfl,rfl,rfl,rfl,rfl,trivial⟩ trivial rfl,by show(aT L).length-(k+1)<(aT L).length-k;omega⟩
        ·refine ah ?_
         refine DL.mk<|jB (q:=(br ((aT L).getD 0 aH) ((aT L).getD k aH)).length) (ys:=aj al ((br ((aT L).getD 0 aH) ((aT L).getD k aH)))) (zs':=aj al (br ((aT L).getD 0 aH) ((aT L).getD k aH))) di rfl rfl (ai aD _) (hq0) (by omega) (go (by omega)) rfl (rfl) rfl (fun cg8 rg8 hga8 hgb8 hgc8=>dC ?_)
         refine ah<|ar (ba (by omega) rfl) ?_
         exact⟨.inr ⟨⟨k+1,cg8,rg8⟩,gk,by show(bi (aT L) 0 (k+1)).length≤cg8;rw[(show(bi (aT L) 0 (k+1))=(bi (aT L) 0 k)++(br ((aT L).getD 0 aH) ((aT L).getD k aH)) from if_neg g2),h3];exact hga8,hgb8,by show rg8.length=(cg8-(bi (aT L) 0 (k+1)).length)*20;rw[(show(bi (aT L) 0 (k+1))=(bi (aT L) 0 k)++(br ((aT L).getD 0 aH) ((aT L).getD k aH)) from if_neg g2),h3];exact hgc8⟩,ak ⟨rfl,rfl,rfl,congrArg (fun q=>some (DV.o 55 (List.length q) cg8)) (by rw[(show(bi (aT L) 0 (k+1))=(bi (aT L) 0 k)++(br ((aT L).getD 0 aH) ((aT L).getD k aH)) from if_neg g2),h3];rfl),rfl,trivial⟩ ⟨congrArg (fun q=>some (84,aj al q++rg8)) (by rw[(show(bi (aT L) 0 (k+1))=(bi (aT L) 0 k)++(br ((aT L).getD 0 aH) ((aT L).getD k aH)) from if_neg g2),h3];rfl),trivial⟩ rfl,by show(aT L).length-(k+1)<(aT L).length-k;omega⟩
       ·have g2:k=0:=by have:=bne_eq_false_iff_eq.1 hc7;omega
        refine az<|ah<|ar (ba (by omega) rfl) ?_
        exact⟨.inl ⟨k+1,gk,by rw[(show(bi (aT L) 0 (k+1))=(bi (aT L) 0 k) from if_pos g2)];exact h3⟩,ak ⟨rfl,rfl,rfl,rfl,rfl,trivial⟩ trivial rfl,by show(aT L).length-(k+1)<(aT L).length-k;omega⟩
      ·have hk:k=(aT L).length:=by have:=of_decide_eq_false hc6;omega
       have m1:[]=(bi (aT L) 0 ((aT L).length)):=by rw[←hk];exact h3.symm
       refine mH (t:=7) rfl<|aW ?_
       exact⟨(),ak ⟨rfl,rfl,rfl,congrArg (fun q=>some (DV.v (.c (.s (List.length q) (aj al q))))) (m1),trivial⟩ trivial rfl⟩
     ·dsimp only at h2 h3 h4 h5
      have h6:=mU (A:=(aT L)) (i:=0) k
      dsimp only
      refine ab<|ab<|ah ?_
      refine aB rfl (fun hc9=>?_) (fun hc9=>?_)
      ·have gk:k<(aT L).length:=by have:=of_decide_eq_true hc9;omega
       have l8:=kU (a:=((aT L).getD 0 aH)) (c:=((aT L).getD k aH))
       refine az<|ab<|aA<|ab<|ah ?_
       refine aB rfl (fun hc10=>?_) (fun hc10=>?_)
       ·have g2: ¬k=0:=by have:=bne_iff_ne.1 hc10;omega
        refine ab<|dx 14 []<|aq (cU aH ae g0 bY rfl)<|aq (i4 ae aZ rfl)<|aq (cU aH ae gk bY rfl)<|aq (i4 ae aZ rfl)<|aO rfl (uP vX.g (hA _ (aE gk)).1.g)<|ah ?_
        refine DL.mk<|jj (n:=(bi (aT L) 0 k).length) (c:=c7) (q:=((br ((aT L).getD 0 aH) ((aT L).getD k aH))).length) (us:=aj al (bi (aT L) 0 k)) (rest:=rs7) (N':=(bi (aT L) 0 k).length+(br ((aT L).getD 0 aH) ((aT L).getD k aH)).length) (zs':=aj al (bi (aT L) 0 k)++aj al (br ((aT L).getD 0 aH) ((aT L).getD k aH))) di rfl rfl rfl (rfl) (ai aD _) (h5) (ai aD _) (by decide) (by omega) (by assumption) (by omega) (mJ (by omega)) (.inl rfl) (rfl) (rfl) rfl (fun cg11 rg11 hga11 hgb11 hgc11=>dC ?_)
        refine ah<|ar (ba (by omega) rfl) ?_
        exact⟨.inr ⟨⟨k+1,cg11,rg11⟩,gk,by show(bi (aT L) 0 (k+1)).length≤cg11;rw[(show(bi (aT L) 0 (k+1))=(bi (aT L) 0 k)++(br ((aT L).getD 0 aH) ((aT L).getD k aH)) from if_neg g2),bN];exact hga11,hgb11,by show rg11.length=(cg11-(bi (aT L) 0 (k+1)).length)*20;rw[(show(bi (aT L) 0 (k+1))=(bi (aT L) 0 k)++(br ((aT L).getD 0 aH) ((aT L).getD k aH)) from if_neg g2),bN];exact hgc11⟩,ak ⟨rfl,rfl,rfl,congrArg (fun q=>some (DV.o 55 q cg11)) (by rw[(show(bi (aT L) 0 (k+1))=(bi (aT L) 0 k)++(br ((aT L).getD 0 aH) ((aT L).getD k aH)) from if_neg g2),bN]),rfl,trivial⟩ ⟨congrArg (fun q=>some (84,q++rg11)) (by rw[(show(bi (aT L) 0 (k+1))=(bi (aT L) 0 k)++(br ((aT L).getD 0 aH) ((aT L).getD k aH)) from if_neg g2),ck]),trivial⟩ rfl,by show(aT L).length-(k+1)<(aT L).length-k;omega⟩
       ·have g2:k=0:=by have:=bne_eq_false_iff_eq.1 hc10;omega
        refine az<|ah<|ar (ba (by omega) rfl) ?_
        exact⟨.inr ⟨⟨k+1,c7,rs7⟩,gk,by show(bi (aT L) 0 (k+1)).length≤c7;rw[(show(bi (aT L) 0 (k+1))=(bi (aT L) 0 k) from if_pos g2)];exact h3,h4,by show rs7.length=(c7-(bi (aT L) 0 (k+1)).length)*20;rw[(show(bi (aT L) 0 (k+1))=(bi (aT L) 0 k) from if_pos g2)];exact h5⟩,ak ⟨rfl,rfl,rfl,congrArg (fun q=>some (DV.o 55 (List.length q) c7)) (by rw[(show(bi (aT L) 0 (k+1))=(bi (aT L) 0 k) from if_pos g2)]),rfl,trivial⟩ ⟨congrArg (fun q=>some (84,aj al q++rs7)) (by rw[(show(bi (aT L) 0 (k+1))=(bi (aT L) 0 k) from if_pos g2)]),trivial⟩ rfl,by show(aT L).length-(k+1)<(aT L).length-k;omega⟩
      ·have hk:k=(aT L).length:=by have:=of_decide_eq_false hc9;omega
       have m1:(bi (aT L) 0 k)=(bi (aT L) 0 ((aT L).length)):=by rw[hk]
       refine bI (t:=7) (m:=20) (us:=aj al (bi (aT L) 0 k)) rfl rfl (ia (n:=(bi (aT L) 0 k).length) (by first|exact ai ae _|exact ai aD _) (by assumption) (by omega)) (by omega) (by assumption) (eg (by first|exact ai ae _|exact ai aD _)) ?_
       refine aW ?_
       exact⟨(),ak ⟨rfl,rfl,rfl,congrArg (fun q=>some (DV.v (.c (.s (List.length q) (aj al q))))) (m1),trivial⟩ trivial rfl⟩
    ·rintro⟨⟩
     try dsimp only
     refine ab<|ah<|ar (cU aH ae g0 bY rfl)<|ar (i4 ae aZ rfl)<|ac rfl (nn (c:=((aT L).getD 0 aH)) (L:=(bi (aT L) 0 ((aT L).length))) vX.g (fun p hp=>(n7 hA g0 _ (aX _) p hp).1) (by omega) (fun p hp=>(n7 hA g0 _ (aX _) p hp).2) (iK vX.ne))<|ah ?_
     refine DL.mk<|jB (q:=(dM ((aT L).getD 0 aH) (bi (aT L) 0 ((aT L).length))).length) (ys:=aj ao ((dM ((aT L).getD 0 aH) (bi (aT L) 0 ((aT L).length))))) (zs':=aj ao (dM ((aT L).getD 0 aH) (bi (aT L) 0 ((aT L).length)))) dS rfl rfl (ai ae _) (CB vX.ne) (by omega) (go (by omega)) rfl (rfl) rfl (fun cg12 rg12 hga12 hgb12 hgc12=>dC ?_)
     refine ah<|ar (i6 (r:=1) rfl rfl rfl rfl) ?_
     exact⟨⟨⟨1,cg12,rg12⟩,aX _,g0,hga12,hgb12,hgc12⟩,ak ⟨rfl,rfl,rfl,trivial⟩ ⟨rfl,trivial⟩ rfl,by show(aT L).length-1<(aT L).length;omega⟩
   ·have e0:p6 L=[]:=by unfold p6;rw[show(aT L).length=0 from by have:=of_decide_eq_false hc5;omega];rfl
    refine aW<|ab<|ah<|mH (t:=2) rfl<|bh ?_
    rw[e0]
    exact ag (am aa)
  ·rintro⟨⟨n,c,rs⟩,h1,h2,h3,h4,h5⟩
   dsimp only at h1 h2 h3 h4 h5
   dsimp only
   refine ab<|ab<|ah ?_
   refine aB rfl (fun hc13=>?_) (fun hc13=>?_)
   ·have g1:n<(aT L).length:=by have:=of_decide_eq_true hc13;omega
    obtain⟨vX,mX⟩:=hA _ (aE g1)
    have l9:=mU (A:=(aT L)) (i:=n) (aT L).length
    have lS:=qG (c:=((aT L).getD n aH)) (l:=bi (aT L) n (aT L).length)
    have l6:=vk lA n (by omega)
    refine az<|ab<|aA<|ab<|bR<|b9 (cg rfl) ?_
    refine bv ?_
    refine dV (ι:=Unit) (fun i=>⟨69,[(3,.v (.c (.s (((aT L)).length) (aj ao ((aT L)))))),(5,.o 67 ((jE (aT L) n).length) c),(6,.v (.c (.i .i64 (n:Int)))),(7,.v (.c (.s (((bi (aT L) n ((aT L).length))).length) (aj al ((bi (aT L) n ((aT L).length)))))))],[(67,86,aj ao (jE (aT L) n)++rs)]⟩) ?_ ?_
    ·refine ab<|ah<|aA ?_
     refine aY (ι:=Sum ({k:Nat // k≤(aT L).length∧(bi (aT L) n k)=[]}) ({x9:Nat×Nat×List CellD // x9.1≤(aT L).length∧(bi (aT L) n x9.1).length≤x9.2.1∧x9.2.1≤maxLen∧x9.2.2.length=(x9.2.1-(bi (aT L) n x9.1).length)*20})) (fun i=>match i with| .inl i=>⟨69,[(3,.v (.c (.s (((aT L)).length) (aj ao ((aT L)))))),(5,.o 67 ((jE (aT L) n).length) c),(6,.v (.c (.i .i64 (n:Int)))),(7,.z),(8,.v (.c (.i .i64 (i.1:Int))))],[(67,86,aj ao (jE (aT L) n)++rs)]⟩| .inr i=>⟨69,[(3,.v (.c (.s (((aT L)).length) (aj ao ((aT L)))))),(5,.o 67 ((jE (aT L) n).length) c),(6,.v (.c (.i .i64 (n:Int)))),(7,.o 55 ((bi (aT L) n i.1.1).length) i.1.2.1),(8,.v (.c (.i .i64 (i.1.1:Int))))],[(67,86,aj ao (jE (aT L) n)++rs),(55,84,aj al (bi (aT L) n i.1.1)++i.1.2.2)]⟩) (fun i=>match i with| .inl i=>(aT L).length-i.1| .inr i=>(aT L).length-i.1.1) (.inl ⟨0,cY _,rfl⟩) (ak ⟨rfl,rfl,rfl,rfl,rfl,trivial⟩ ⟨rfl,trivial⟩ rfl) ?_
     rintro(⟨k,h2,h3⟩|⟨⟨k,c7,rs7⟩,h2,h3,h4,h5⟩)
     ·replace h2:k≤(aT L).length:=h2
      replace h3:(bi (aT L) n k)=[]:=h3
      dsimp only
      refine ab<|ab<|ah ?_
      refine aB rfl (fun hc14=>?_) (fun hc14=>?_)
      ·have gk:k<(aT L).length:=by have:=of_decide_eq_true hc14;omega
       have l8:=kU (a:=((aT L).getD n aH)) (c:=((aT L).getD k aH))
       refine az<|ab<|aA<|ab<|ah ?_
       refine aB rfl (fun hc15=>?_) (fun hc15=>?_)
       ·have g2: ¬k=n:=by have:=bne_iff_ne.1 hc15;omega
        refine ab<|dx 14 []<|aq (cU aH ae g1 bY rfl)<|aq (i4 ae aZ rfl)<|aq (cU aH ae gk bY rfl)<|aq (i4 ae aZ rfl)<|aO rfl (uP vX.g (hA _ (aE gk)).1.g) ?_
        rcases fQ (br ((aT L).getD n aH) ((aT L).getD k aH)).length with hq0|hq0
        ·refine ah<|ar (mF di rfl rfl hq0 rfl) ?_
         refine ah<|ar (ba (by omega) rfl) ?_
         exact⟨.inl ⟨k+1,gk,by rw[(show(bi (aT L) n (k+1))=(bi (aT L) n k)++(br ((aT L).getD n aH) ((aT L).getD k aH)) from if_neg g2),h3,ic.1 hq0];rfl⟩,ak ⟨rfl,rfl,rfl,rfl,rfl,trivial⟩ ⟨rfl,trivial⟩ rfl,by show(aT L).length-(k+1)<(aT L).length-k;omega⟩
        ·refine ah ?_
         refine DL.mk<|jB (q:=(br ((aT L).getD n aH) ((aT L).getD k aH)).length) (ys:=aj al ((br ((aT L).getD n aH) ((aT L).getD k aH)))) (zs':=aj al (br ((aT L).getD n aH) ((aT L).getD k aH))) di rfl rfl (ai aD _) (hq0) (by omega) (go (by omega)) rfl (rfl) rfl (fun cg16 rg16 hga16 hgb16 hgc16=>dC ?_)
         refine ah<|ar (ba (by omega) rfl) ?_
         exact⟨.inr ⟨⟨k+1,cg16,rg16⟩,gk,by show(bi (aT L) n (k+1)).length≤cg16;rw[(show(bi (aT L) n (k+1))=(bi (aT L) n k)++(br ((aT L).getD n aH) ((aT L).getD k aH)) from if_neg g2),h3];exact hga16,hgb16,by show rg16.length=(cg16-(bi (aT L) n (k+1)).length)*20;rw[(show(bi (aT L) n (k+1))=(bi (aT L) n k)++(br ((aT L).getD n aH) ((aT L).getD k aH)) from if_neg g2),h3];exact hgc16⟩,ak ⟨rfl,rfl,rfl,congrArg (fun q=>some (DV.o 55 (List.length q) cg16)) (by rw[(show(bi (aT L) n (k+1))=(bi (aT L) n k)++(br ((aT L).getD n aH) ((aT L).getD k aH)) from if_neg g2),h3];rfl),rfl,trivial⟩ ⟨rfl,congrArg (fun q=>some (84,aj al q++rg16)) (by rw[(show(bi (aT L) n (k+1))=(bi (aT L) n k)++(br ((aT L).getD n aH) ((aT L).getD k aH)) from if_neg g2),h3];rfl),trivial⟩ rfl,by show(aT L).length-(k+1)<(aT L).length-k;omega⟩
       ·have g2:k=n:=by have:=bne_eq_false_iff_eq.1 hc15;omega
        refine az<|ah<|ar (ba (by omega) rfl) ?_
        exact⟨.inl ⟨k+1,gk,by rw[(show(bi (aT L) n (k+1))=(bi (aT L) n k) from if_pos g2)];exact h3⟩,ak ⟨rfl,rfl,rfl,rfl,rfl,trivial⟩ ⟨rfl,trivial⟩ rfl,by show(aT L).length-(k+1)<(aT L).length-k;omega⟩
      ·have hk:k=(aT L).length:=by have:=of_decide_eq_false hc14;omega
       have m1:[]=(bi (aT L) n ((aT L).length)):=by rw[←hk];exact h3.symm
       refine mH (t:=7) rfl<|aW ?_
       exact⟨(),ak ⟨rfl,rfl,rfl,congrArg (fun q=>some (DV.v (.c (.s (List.length q) (aj al q))))) (m1),trivial⟩ ⟨rfl,trivial⟩ rfl⟩
     ·dsimp only at h2 h3 h4 h5
      have h6:=mU (A:=(aT L)) (i:=n) k
      dsimp only
      refine ab<|ab<|ah ?_
      refine aB rfl (fun hc17=>?_) (fun hc17=>?_)
      ·have gk:k<(aT L).length:=by have:=of_decide_eq_true hc17;omega
       have l8:=kU (a:=((aT L).getD n aH)) (c:=((aT L).getD k aH))
       refine az<|ab<|aA<|ab<|ah ?_
       refine aB rfl (fun hc18=>?_) (fun hc18=>?_)
       ·have g2: ¬k=n:=by have:=bne_iff_ne.1 hc18;omega
        refine ab<|dx 14 []<|aq (cU aH ae g1 bY rfl)<|aq (i4 ae aZ rfl)<|aq (cU aH ae gk bY rfl)<|aq (i4 ae aZ rfl)<|aO rfl (uP vX.g (hA _ (aE gk)).1.g)<|ah ?_
        refine DL.mk<|jj (n:=(bi (aT L) n k).length) (c:=c7) (q:=((br ((aT L).getD n aH) ((aT L).getD k aH))).length) (us:=aj al (bi (aT L) n k)) (rest:=rs7) (N':=(bi (aT L) n k).length+(br ((aT L).getD n aH) ((aT L).getD k aH)).length) (zs':=aj al (bi (aT L) n k)++aj al (br ((aT L).getD n aH) ((aT L).getD k aH))) di rfl rfl rfl (rfl) (ai aD _) (h5) (ai aD _) (by decide) (by omega) (by assumption) (by omega) (mJ (by omega)) (.inl rfl) (rfl) (rfl) rfl (fun cg19 rg19 hga19 hgb19 hgc19=>dC ?_)
        refine ah<|ar (ba (by omega) rfl) ?_
        exact⟨.inr ⟨⟨k+1,cg19,rg19⟩,gk,by show(bi (aT L) n (k+1)).length≤cg19;rw[(show(bi (aT L) n (k+1))=(bi (aT L) n k)++(br ((aT L).getD n aH) ((aT L).getD k aH)) from if_neg g2),bN];exact hga19,hgb19,by show rg19.length=(cg19-(bi (aT L) n (k+1)).length)*20;rw[(show(bi (aT L) n (k+1))=(bi (aT L) n k)++(br ((aT L).getD n aH) ((aT L).getD k aH)) from if_neg g2),bN];exact hgc19⟩,ak ⟨rfl,rfl,rfl,congrArg (fun q=>some (DV.o 55 q cg19)) (by rw[(show(bi (aT L) n (k+1))=(bi (aT L) n k)++(br ((aT L).getD n aH) ((aT L).getD k aH)) from if_neg g2),bN]),rfl,trivial⟩ ⟨rfl,congrArg (fun q=>some (84,q++rg19)) (by rw[(show(bi (aT L) n (k+1))=(bi (aT L) n k)++(br ((aT L).getD n aH) ((aT L).getD k aH)) from if_neg g2),ck]),trivial⟩ rfl,by show(aT L).length-(k+1)<(aT L).length-k;omega⟩
       ·have g2:k=n:=by have:=bne_eq_false_iff_eq.1 hc18;omega
        refine az<|ah<|ar (ba (by omega) rfl) ?_
        exact⟨.inr ⟨⟨k+1,c7,rs7⟩,gk,by show(bi (aT L) n (k+1)).length≤c7;rw[(show(bi (aT L) n (k+1))=(bi (aT L) n k) from if_pos g2)];exact h3,h4,by show rs7.length=(c7-(bi (aT L) n (k+1)).length)*20;rw[(show(bi (aT L) n (k+1))=(bi (aT L) n k) from if_pos g2)];exact h5⟩,ak ⟨rfl,rfl,rfl,congrArg (fun q=>some (DV.o 55 (List.length q) c7)) (by rw[(show(bi (aT L) n (k+1))=(bi (aT L) n k) from if_pos g2)]),rfl,trivial⟩ ⟨rfl,congrArg (fun q=>some (84,aj al q++rs7)) (by rw[(show(bi (aT L) n (k+1))=(bi (aT L) n k) from if_pos g2)]),trivial⟩ rfl,by show(aT L).length-(k+1)<(aT L).length-k;omega⟩
      ·have hk:k=(aT L).length:=by have:=of_decide_eq_false hc17;omega
       have m1:(bi (aT L) n k)=(bi (aT L) n ((aT L).length)):=by rw[hk]
       refine bI (t:=7) (m:=20) (us:=aj al (bi (aT L) n k)) rfl rfl (ia (n:=(bi (aT L) n k).length) (by first|exact ai ae _|exact ai aD _) (by assumption) (by omega)) (by omega) (by assumption) (eg (by first|exact ai ae _|exact ai aD _)) ?_
       refine aW ?_
       exact⟨(),ak ⟨rfl,rfl,rfl,congrArg (fun q=>some (DV.v (.c (.s (List.length q) (aj al q))))) (m1),trivial⟩ ⟨rfl,trivial⟩ rfl⟩
    ·rintro⟨⟩
     try dsimp only
     refine ab<|ah<|ar (cU aH ae g1 bY rfl)<|ar (i4 ae aZ rfl)<|ac rfl (nn (c:=((aT L).getD n aH)) (L:=(bi (aT L) n ((aT L).length))) vX.g (fun p hp=>(n7 hA g1 _ (aX _) p hp).1) (by omega) (fun p hp=>(n7 hA g1 _ (aX _) p hp).2) (iK vX.ne))<|ah ?_
     refine DL.mk<|jj (n:=(jE (aT L) n).length) (c:=c) (q:=((dM ((aT L).getD n aH) (bi (aT L) n ((aT L).length)))).length) (us:=aj ao (jE (aT L) n)) (rest:=rs) (N':=(jE (aT L) (n+1)).length) (zs':=aj ao (jE (aT L) (n+1))) dS rfl rfl rfl (rfl) (ai ae _) (h5) (ai ae _) (by decide) (by omega) (by assumption) (by omega) (mJ (by omega)) (.inl rfl) (by rw[show(jE (aT L) (n+1))=(jE (aT L) n)++(dM ((aT L).getD n aH) (bi (aT L) n ((aT L).length))) from rfl,bN]) (by rw[show(jE (aT L) (n+1))=(jE (aT L) n)++(dM ((aT L).getD n aH) (bi (aT L) n ((aT L).length))) from rfl,ck]) rfl (fun cg20 rg20 hga20 hgb20 hgc20=>dC ?_)
     refine ah<|ar (ba (by omega) rfl) ?_
     exact⟨⟨⟨n+1,cg20,rg20⟩,by omega,g1,hga20,hgb20,hgc20⟩,ak ⟨rfl,rfl,rfl,trivial⟩ ⟨rfl,trivial⟩ rfl,by show(aT L).length-(n+1)<(aT L).length-n;omega⟩
   ·have e0:p6 L=(jE (aT L) n):=by unfold p6;rw[show n=(aT L).length from by have:=of_decide_eq_false hc13;omega]
    refine aW<|ab<|ah ?_
    refine bI (t:=2) (m:=66) (us:=aj ao (jE (aT L) n)) rfl rfl (ia (n:=(jE (aT L) n).length) (by first|exact ai ae _|exact ai aD _) (by assumption) (by omega)) (by omega) (by assumption) (eg (by first|exact ai ae _|exact ai aD _)) ?_
    refine bh ?_
    rw[e0]
    exact ag (am aa)
theorem NG {c d:Cv}(hc:c.good) (hd:d.good):Ok Tryz.prog 96 [.a (ao c),.a (ao d)] [.c (.b (Cd c d))]:=by
 refine bS Tryz.func96 rfl ?_
 refine ar (eM (ae _) aZ rfl) ?_
 refine ar (eM (ae _) aZ rfl) ?_
 refine ac rfl (yj hc hd) ?_
 refine dF (au rfl) (fun c1 hb1=>?_)
 cases c1
 ·refine ar (au rfl)<|ar (au rfl)<|ag ?_
  rw[show Cd c d=false from by unfold Cd;rw[hb1];rfl]
  exact am aa
 ·refine ar (bW iX rfl rfl (rW _) rfl) ?_
  refine ar (bW iX rfl rfl (rW _) rfl) ?_
  refine ar (ri rfl rfl fi rfl) ?_
  refine dF (au rfl) (fun c2 hb2=>?_)
  cases c2
  ·refine ar (au rfl)<|ag ?_
   rw[show Cd c d=false from by unfold Cd;rw[hb1,hb2];rfl]
   exact am aa
  ·refine ar (aU (us:=al c.p) bm rfl rfl (gS _) rfl rfl) ?_
   refine ar (aU (us:=al d.p) bm rfl rfl (gS _) rfl rfl) ?_
   refine ac rfl (mn (dD hc) (dD hd)) ?_
   refine dF (au rfl) (fun c3 hb3=>?_)
   cases c3
   ·refine ag ?_
    rw[show Cd c d=false from by unfold Cd;rw[hb1,hb2,hb3];rfl]
    exact am aa
   ·refine ar (aU (us:=al c.q) bm rfl rfl (jD _) rfl rfl) ?_
    refine ar (aU (us:=al d.q) bm rfl rfl (jD _) rfl rfl) ?_
    refine ac rfl (mn (eA hc) (eA hd))<|ag ?_
    rw[show Cd c d=(cP c.q d.q==0) from by unfold Cd;rw[hb1,hb2,hb3];rfl]
    exact am aa
theorem Rk (hL: ∀d∈L,d.good) (lL:L.length≤6000000):Ok Tryz.prog 60 [.c (.s ((L).length) (aj ao (L)))] [.c (.s (((ug L)).length) (aj ao ((ug L))))]:=by
 refine eG Tryz.func60 47 [.tmp 2] rfl<|ab<|ah<|ab<|bR<|b9 (cg rfl) ?_
 refine bv<|ab<|ab<|ah<|aA ?_
 refine j7 (ι:={x9:Nat×Nat×List CellD // 1≤x9.1∧x9.1≤L.length∧(eJ L x9.1).length≤x9.2.1∧x9.2.1≤maxLen∧x9.2.2.length=(x9.2.1-(eJ L x9.1).length)*66}) (fun i=>⟨47,[(0,.v (.c (.s ((L).length) (aj ao (L))))),(3,.o 37 ((eJ L i.1.1).length) i.1.2.1),(4,.v (.c (.i .i64 (i.1.1:Int))))],[(37,86,aj ao (eJ L i.1.1)++i.1.2.2)]⟩) (fun i=>L.length-i.1.1) (L.length) ?_ ?_
 ·refine ab<|ab<|ah ?_
  refine aB rfl (fun hc1=>?_) (fun hc1=>?_)
  ·have g0:0<L.length:=by have:=of_decide_eq_true hc1;omega
   refine az<|ab<|aA<|ab<|ah<|ab<|ab<|ah<|aA ?_
   refine aY (ι:=Nat) (fun i=>match i with|_=>⟨47,[(0,.v (.c (.s ((L).length) (aj ao (L))))),(3,.z),(4,.v (.c (.i .i64 0))),(5,.v (.c (.i .i64 (-1)))),(6,.v (.c (.i .i64 0)))],[]⟩) (fun i=>0-i) 0 (ak ⟨rfl,rfl,rfl,rfl,rfl,trivial⟩ trivial rfl) ?_
   intro i
   match i with
   |_=>
    show Dw _ _ ⟨47,[(0,.v (.c (.s ((L).length) (aj ao (L))))),(3,.z),(4,.v (.c (.i .i64 0))),(5,.v (.c (.i .i64 (-1)))),(6,.v (.c (.i .i64 0)))],[]⟩ _
    refine ab<|ab<|ah<|ar (pJ bY rfl rfl) ?_
    refine bT rfl<|aW<|ab<|ah<|iB rfl<|ah<|ar (cU aH ae g0 bY rfl)<|ar (i4 ae aZ rfl)<|ar (aS (n:=1) (us:=ao (L.getD 0 aH)) dS rfl (kz rfl (ae _)) (bB (ae _)) (by decide) (by decide) rfl) ?_
    refine DL.mk<|gN (ys:=ao (L.getD 0 aH)) dS rfl rfl (bB (ae _)) (by decide) (by decide) (by decide) rfl rfl (fun cg2 rg2 hga2 hgb2 hgc2=>dC ?_)
    refine ah<|ar (i6 (r:=1) rfl rfl rfl rfl) ?_
    exact⟨⟨⟨1,cg2,rg2⟩,aX _,g0,hga2,hgb2,hgc2⟩,ak ⟨rfl,rfl,rfl,trivial⟩ ⟨congrArg (fun q=>some (86,q++rg2)) (show ao (L.getD 0 aH)=aj ao (eJ L 1) from(dt _).symm),trivial⟩ rfl,by show L.length-1<L.length;omega⟩
  ·have e0:ug L=[]:=by unfold ug;rw[show L.length=0 from by have:=of_decide_eq_false hc1;omega];rfl
   refine aW<|ab<|ah<|mH (t:=2) rfl<|bh ?_
   rw[e0]
   exact ag (am aa)
 ·rintro⟨⟨n,c,rs⟩,h1,h2,h3,h4,h5⟩
  dsimp only at h1 h2 h3 h4 h5
  dsimp only
  refine ab<|ab<|ah ?_
  refine aB rfl (fun hc3=>?_) (fun hc3=>?_)
  ·have g1:n<L.length:=by have:=of_decide_eq_true hc3;omega
   have hO: ∀d∈(eJ L n),d.good:=fun d hd=>hL d (qW (by omega) hd)
   have lO:=vV L n
   have gX:=hL _ (aE (d:=aH) g1)
   refine az<|ab<|aA<|ab<|ah<|ab<|ab<|ah<|aA<|aY (ι:={k:Nat // k≤(eJ L n).length}) (fun i=>⟨47,[(0,.v (.c (.s ((L).length) (aj ao (L))))),(3,.o 37 ((eJ L n).length) c),(4,.v (.c (.i .i64 (n:Int)))),(5,.v (.c (.i .i64 ((tQ (eJ L n) (L.getD n aH) i.1))))),(6,.v (.c (.i .i64 (i.1:Int))))],[(37,86,aj ao (eJ L n)++rs)]⟩) (fun i=>(eJ L n).length-i.1) ⟨0,cY _⟩ (ak ⟨rfl,rfl,rfl,rfl,rfl,trivial⟩ ⟨rfl,trivial⟩ rfl) ?_
   rintro⟨k,hkl⟩
   replace hkl:k≤(eJ L n).length:=hkl
   dsimp only
   refine ab<|ab<|ah<|ar (m8 bY rfl rfl) ?_
   refine aB rfl (fun hc4=>?_) (fun hc4=>?_)
   ·have gk:k<(eJ L n).length:=by have:=of_decide_eq_true hc4;omega
    refine az<|ab<|aA<|ab<|nj 9 rfl rfl<|dO 2<|bA (bn bY rfl rfl (by omega) rfl) ?_
    refine bA (aU (us:=ao ((eJ L n).getD k aH)) aZ rfl rfl (rG (e:=aH) (O:=(eJ L n)) ae gk) (ae _) rfl) ?_
    refine dO 2<|bA (cU aH ae g1 bY rfl)<|bA (i4 ae aZ rfl)<|bA (mg rfl (NG (hO _ (aE gk)) gX))<|nW<|dh<|bv ?_
    refine aB rfl (fun hc5=>?_) (fun hc5=>?_)
    ·have g2:=hc5
     refine ah<|ah<|ar (ba (by omega) rfl) ?_
     exact⟨⟨k+1,gk⟩,ak ⟨rfl,rfl,rfl,congrArg (fun q=>some (DV.v (.c (.i .i64 q)))) (if_pos g2).symm,rfl,trivial⟩ ⟨rfl,trivial⟩ rfl,by show(eJ L n).length-(k+1)<(eJ L n).length-k;omega⟩
    ·have g2:=hc5
     refine az<|ah<|ar (ba (by omega) rfl) ?_
     exact⟨⟨k+1,gk⟩,ak ⟨rfl,rfl,rfl,congrArg (fun q=>some (DV.v (.c (.i .i64 q)))) (if_neg (by rw[g2];decide)).symm,rfl,trivial⟩ ⟨rfl,trivial⟩ rfl,by show(eJ L n).length-(k+1)<(eJ L n).length-k;omega⟩
   ·have hk:k=(eJ L n).length:=by have:=of_decide_eq_false hc4;omega
    have hbd:=BV (eJ L n) (L.getD n aH) k
    refine aW<|ab<|ah ?_
    refine aB rfl (fun hc6=>?_) (fun hc6=>?_)
    ·have e1:eJ L (n+1)=(eJ L n)++[(L.getD n aH)]:=by show yu _ _=_;unfold yu;rw[←hk,if_pos (of_decide_eq_true hc6)]
     refine ah<|ar (cU aH ae g1 bY rfl)<|ar (i4 ae aZ rfl)<|ar (aS (n:=1) (us:=ao (L.getD n aH)) dS rfl (kz rfl (ae _)) (bB (ae _)) (by decide) (by decide) rfl) ?_
     refine DL.mk<|kD (us:=aj ao (eJ L n)) (rest:=rs) (ys:=ao (L.getD n aH)) dS rfl rfl rfl (ai ae _) (by assumption) (bB (ae _)) (by decide) (by omega) (by assumption) (by omega) (mJ (by omega)) (.inl rfl) rfl (fun cg7 rg7 hga7 hgb7 hgc7=>dC ?_)
     refine ah<|ar (ba (by omega) rfl) ?_
     exact⟨⟨⟨n+1,cg7,rg7⟩,by omega,g1,by show(eJ L (n+1)).length≤cg7;rw[e1,bN];exact hga7,hgb7,by show rg7.length=(cg7-(eJ L (n+1)).length)*66;rw[e1,bN];exact hgc7⟩,ak ⟨rfl,congrArg (fun q=>some (DV.o 37 q cg7)) (by rw[e1,bN];rfl),rfl,trivial⟩ ⟨congrArg (fun q=>some (86,q++rg7)) (by rw[e1,ck,dt]),trivial⟩ rfl,by show L.length-(n+1)<L.length-n;omega⟩
    ·have hn0:=of_decide_eq_false hc6
     obtain⟨a,ea⟩: ∃a:Nat,(tQ (eJ L n) (L.getD n aH) k)=(a:Int):=⟨_,(Int.toNat_of_nonneg (by omega)).symm⟩
     have ha:a<(eJ L n).length:=by omega
     have e1:eJ L (n+1)=(eJ L n).take a++(eJ L n).drop (a+1):=by show yu _ _=_;unfold yu;rw[←hk,if_neg hn0,ea];rfl
     refine Dw.weak (σ':=⟨47,[(0,.v (.c (.s ((L).length) (aj ao (L))))),(3,.o 37 ((eJ L n).length) c),(4,.v (.c (.i .i64 (n:Int)))),(5,.v (.c (.i .i64 (a:Int))))],[(37,86,aj ao (eJ L n)++rs)]⟩) (ak ⟨rfl,rfl,rfl,congrArg (fun q=>some (DV.v (.c (.i .i64 q)))) ea,trivial⟩ ⟨rfl,trivial⟩ rfl) ?_
     refine dx 7 []<|aq (iU (q:=a) bY rfl rfl (by omega) rfl) ?_
     refine aq (ba (by omega) rfl)<|aq (jX (q:=(a+1)) bY rfl rfl (by omega) (by omega) rfl) ?_
     refine DL.mk<|O4 (n:=a) (c:=c) (q:=(eJ L n).length-((a+1))) (us:=aj ao ((eJ L n).take a)) (rest:=aj ao ((eJ L n).drop a)++rs) (ys:=aj ao ((eJ L n).drop (a+1))) dS rfl rfl rfl (pT a) (by rw[ai ae,cX,de (by omega)]) (by rw[bN,ai ae,dz,h5,←gP];congr 1;omega) (wI rfl (by omega) h3) (vC rfl (by omega) h5 h3) (by decide) (by omega) (by assumption) (by omega) (mJ (by omega)) (.inr rfl) rfl (fun cg8 rg8 hga8 hgb8 hgc8=>dC ?_)
     refine Mv (t:=3) (d:=37) (by kernel_rfl) rfl rfl rfl<|ah<|ar (ba (by omega) rfl) ?_
     exact⟨⟨⟨n+1,cg8,rg8⟩,by omega,g1,by show(eJ L (n+1)).length≤cg8;rw[e1,bN,cX,dz,de (by omega)];exact hga8,hgb8,by show rg8.length=(cg8-(eJ L (n+1)).length)*66;rw[e1,bN,cX,dz,de (by omega)];exact hgc8⟩,ak ⟨rfl,congrArg (fun q=>some (DV.o 37 q cg8)) (by rw[e1,bN,cX,dz,de (by omega)]),rfl,trivial⟩ ⟨congrArg (fun q=>some (86,q++rg8)) (by rw[e1,ck]),trivial⟩ rfl,by show L.length-(n+1)<L.length-n;omega⟩
  ·have e0:ug L=(eJ L n):=by unfold ug;rw[show n=L.length from by have:=of_decide_eq_false hc3;omega]
   refine aW<|ab<|ah<|bI (t:=2) (m:=66) (us:=aj ao (eJ L n)) rfl rfl (ia (n:=(eJ L n).length) (ai ae _) (by assumption) (by omega)) (by omega) (by assumption) (eg (ai ae _))<|bh ?_
   rw[e0]
   exact ag (am aa)
theorem Iu (hL: ∀d∈L,Fw d) (lL:L.length≤6000000) (ih: ∀M:List Cv,(∀d∈M,Fw d)→M.length<L.length→Ok Tryz.prog 59 [.c (.s ((M).length) (aj ao (M)))] [.c (.s (((nQ f M)).length) (aj ao ((nQ f M))))]):Ok Tryz.prog 59 [.c (.s ((L).length) (aj ao (L)))] [.c (.s (((nQ (f+1) L)).length) (aj ao ((nQ (f+1) L))))]:=by
 refine eG Tryz.func59 114 [.tmp 2] rfl<|ab<|ah<|ab<|ab<|ah<|aA<|aY (ι:={w:Nat // w≤L.length∧ ∀i2,i2<w→ja L i2=false}) (fun i=>⟨114,[(0,.v (.c (.s ((L).length) (aj ao (L))))),(3,.v (.c (.i .i64 (i.1:Int))))],[]⟩) (fun i=>L.length-i.1) ⟨0,cY _,fun i2 h2=>absurd h2 (by omega)⟩ (ak ⟨rfl,rfl,trivial⟩ trivial rfl) ?_
 rintro⟨w,hil,hno⟩
 replace hil:w≤L.length:=hil
 replace hno: ∀i2,i2<w→ja L i2=false:=hno
 dsimp only
 refine ab<|ab<|ah ?_
 refine aB rfl (fun hc1=>?_) (fun hc1=>?_)
 ·have g1:w<L.length:=by have:=of_decide_eq_true hc1;omega
  have fX:=hL _ (aE (d:=aH) g1)
  have gq:GP (qN L w):=eA fX.v.g
  refine az<|ab<|aA<|ab<|ah<|ar (cU aH ae g1 bY rfl)<|ar (bc qt rfl rfl rfl) ?_
  refine ar (aJ (us:=al (L.getD w aH).q) bm rfl (li _ _) rfl rfl) ?_
  refine ab<|ah<|ab<|ab<|ah<|aA<|aY (ι:={k:Nat // k≤L.length}) (fun i=>⟨114,[(0,.v (.c (.s ((L).length) (aj ao (L))))),(3,.v (.c (.i .i64 (w:Int)))),(4,.p 4 0),(5,.v (.c (.i .i64 ((ip L (qN L w) i.1:Int))))),(6,.v (.c (.i .i64 ((yE L (qN L w) i.1))))),(7,.v (.c (.i .i64 (i.1:Int))))],[(4,84,al (qN L w))]⟩) (fun i=>L.length-i.1) ⟨0,cY _⟩ (ak ⟨rfl,rfl,rfl,rfl,rfl,rfl,trivial⟩ ⟨rfl,trivial⟩ rfl) ?_
  rintro⟨k,hkl⟩
  replace hkl:k≤L.length:=hkl
  dsimp only
  refine ab<|ab<|ah ?_
  refine aB rfl (fun hc2=>?_) (fun hc2=>?_)
  ·have g2:k<L.length:=by have:=of_decide_eq_true hc2;omega
   have gk:=(hL _ (aE (d:=aH) g2)).v.g
   have lc:=uO L (qN L w) k
   refine az<|ab<|aA<|ab<|ab<|dx 7 []<|aq (cU aH ae g2 bY rfl)<|aq (bc Dl rfl rfl rfl) ?_
   refine aq (aJ (us:=al (L.getD k aH).p) bm rfl (vm _ _) rfl rfl) ?_
   refine aO rfl (mn (dD gk) gq) ?_
   refine aB rfl (fun hc3=>?_) (fun hc3=>?_)
   ·have m1:=beq_iff_eq.1 hc3
    refine ah<|ar (bQ ((((ip L (qN L w) k)+1:Nat):Int)) ((aP (by omega) (by omega)).trans (congrArg some (by omega))) rfl)<|ab<|dx 7 []<|aq (cU aH ae g2 bY rfl)<|aq (bc qt rfl rfl rfl) ?_
    refine aq (aJ (us:=al (L.getD k aH).q) bm rfl (li _ _) rfl rfl) ?_
    refine aO rfl (mn (eA gk) gq) ?_
    refine aB rfl (fun hc4=>?_) (fun hc4=>?_)
    ·have m2:=beq_iff_eq.1 hc4
     refine ah<|ar (bQ ((((ip L (qN L w) k)+1+1:Nat):Int)) ((aP (by omega) (by omega)).trans (congrArg some (by omega))) rfl)<|ah<|ar (ba (by omega) rfl) ?_
     exact⟨⟨k+1,g2⟩,ak ⟨rfl,rfl,rfl,congrArg (fun q:Nat=>some (DV.v (.c (.i .i64 (q:Int))))) (by show _=(ip L (qN L w) k)+(if cP (L.getD k aH).p (qN L w)=0 then 1 else 0)+(if cP (L.getD k aH).q (qN L w)=0 then 1 else 0);rw[if_pos m1,if_pos m2];try rfl),congrArg (fun q=>some (DV.v (.c (.i .i64 q)))) (if_pos m1).symm,rfl,trivial⟩ ⟨rfl,trivial⟩ rfl,by show L.length-(k+1)<L.length-k;omega⟩
    ·have m2:=beq_eq_false_iff_ne.1 hc4
     refine az<|ah<|ar (ba (by omega) rfl) ?_
     exact⟨⟨k+1,g2⟩,ak ⟨rfl,rfl,rfl,congrArg (fun q:Nat=>some (DV.v (.c (.i .i64 (q:Int))))) (by show _=(ip L (qN L w) k)+(if cP (L.getD k aH).p (qN L w)=0 then 1 else 0)+(if cP (L.getD k aH).q (qN L w)=0 then 1 else 0);rw[if_pos m1,if_neg m2];try rfl),congrArg (fun q=>some (DV.v (.c (.i .i64 q)))) (if_pos m1).symm,rfl,trivial⟩ ⟨rfl,trivial⟩ rfl,by show L.length-(k+1)<L.length-k;omega⟩
   ·have m1:=beq_eq_false_iff_ne.1 hc3
    refine az<|ab<|dx 7 []<|aq (cU aH ae g2 bY rfl)<|aq (bc qt rfl rfl rfl) ?_
    refine aq (aJ (us:=al (L.getD k aH).q) bm rfl (li _ _) rfl rfl) ?_
    refine aO rfl (mn (eA gk) gq) ?_
    refine aB rfl (fun hc5=>?_) (fun hc5=>?_)
    ·have m2:=beq_iff_eq.1 hc5
     refine ah<|ar (bQ ((((ip L (qN L w) k)+1:Nat):Int)) ((aP (by omega) (by omega)).trans (congrArg some (by omega))) rfl)<|ah<|ar (ba (by omega) rfl) ?_
     exact⟨⟨k+1,g2⟩,ak ⟨rfl,rfl,rfl,congrArg (fun q:Nat=>some (DV.v (.c (.i .i64 (q:Int))))) (by show _=(ip L (qN L w) k)+(if cP (L.getD k aH).p (qN L w)=0 then 1 else 0)+(if cP (L.getD k aH).q (qN L w)=0 then 1 else 0);rw[if_neg m1,if_pos m2];try rfl),congrArg (fun q=>some (DV.v (.c (.i .i64 q)))) (if_neg m1).symm,rfl,trivial⟩ ⟨rfl,trivial⟩ rfl,by show L.length-(k+1)<L.length-k;omega⟩
    ·have m2:=beq_eq_false_iff_ne.1 hc5
     refine az<|ah<|ar (ba (by omega) rfl) ?_
     exact⟨⟨k+1,g2⟩,ak ⟨rfl,rfl,rfl,congrArg (fun q:Nat=>some (DV.v (.c (.i .i64 (q:Int))))) (by show _=(ip L (qN L w) k)+(if cP (L.getD k aH).p (qN L w)=0 then 1 else 0)+(if cP (L.getD k aH).q (qN L w)=0 then 1 else 0);rw[if_neg m1,if_neg m2];try rfl),congrArg (fun q=>some (DV.v (.c (.i .i64 q)))) (if_neg m1).symm,rfl,trivial⟩ ⟨rfl,trivial⟩ rfl,by show L.length-(k+1)<L.length-k;omega⟩
  ·have hk:k=L.length:=by have:=of_decide_eq_false hc2;omega
   have lc:=uO L (qN L w) k
   obtain⟨b1,b2⟩:=Im L w
   refine Dw.weak (σ':=⟨114,[(0,.v (.c (.s ((L).length) (aj ao (L))))),(3,.v (.c (.i .i64 (w:Int)))),(4,.p 4 0),(5,.v (.c (.i .i64 ((ip L (qN L w) L.length:Int))))),(6,.v (.c (.i .i64 (uM L w))))],[(4,84,al (qN L w))]⟩) (ak ⟨rfl,rfl,rfl,congrArg (fun q:Nat=>some (DV.v (.c (.i .i64 (ip L (qN L w) q:Int))))) hk,congrArg (fun q:Nat=>some (DV.v (.c (.i .i64 (yE L (qN L w) q))))) hk,trivial⟩ ⟨rfl,trivial⟩ rfl) ?_
   refine aW<|ab<|dx 30 [] ?_
   refine pr (au rfl) (fun c6 hb6=>?_)
   cases c6
   ·have hj:ja L w=false:=tv.2 fun e=>by have q:=iN.1 e;have:=beq_eq_false_iff_ne.1 hb6;omega
    refine aq (au rfl)<|aq (au rfl)<|bT rfl<|az<|ah<|ar (ba (by omega) rfl) ?_
    exact⟨⟨w+1,g1,fun i2 h2=>(fm.1 h2).elim (hno i2) fun e=>by rw[e];exact hj⟩,ak ⟨rfl,rfl,trivial⟩ trivial rfl,by show L.length-(w+1)<L.length-w;omega⟩
   ·refine pr (au rfl) (fun c7 hb7=>?_)
    cases c7
    ·have hj:ja L w=false:=tv.2 fun e=>by have q:=iN.1 e;have:=of_decide_eq_false hb7;omega
     refine aq (au rfl)<|bT rfl<|az<|ah<|ar (ba (by omega) rfl) ?_
     exact⟨⟨w+1,g1,fun i2 h2=>(fm.1 h2).elim (hno i2) fun e=>by rw[e];exact hj⟩,ak ⟨rfl,rfl,trivial⟩ trivial rfl,by show L.length-(w+1)<L.length-w;omega⟩
    ·have hj2:=Dq (L:=L) (i:=w) (of_decide_eq_true hb7)
     have hj3:0≤uM L w:=of_decide_eq_true hb7
     have fY:=hL _ (aE (d:=aH) hj2)
     refine aq (cU aH ae g1 bY rfl)<|aq (i4 ae aZ rfl)<|aq (aC (us:=ao (L.getD ((uM L w).toNat) aH)++aj ao (L.drop ((uM L w).toNat+1))) bY rfl rfl (⟨by omega,by omega⟩) (ai ae _) (aQ ae (aK hj2)) rfl) ?_
     refine aq (i4 ae aZ rfl)<|aO rfl (yj fX.v.g fY.v.g) ?_
     refine pr (au rfl) (fun c8 hb8=>?_)
     cases c8
     ·have hj:ja L w=false:=tv.2 fun e=>by have q:=iN.1 e;rw[hb8] at q;exact nomatch q.2.2.1
      refine bT rfl<|az<|ah<|ar (ba (by omega) rfl) ?_
      exact⟨⟨w+1,g1,fun i2 h2=>(fm.1 h2).elim (hno i2) fun e=>by rw[e];exact hj⟩,ak ⟨rfl,rfl,trivial⟩ trivial rfl,by show L.length-(w+1)<L.length-w;omega⟩
     ·refine aq (cU aH ae g1 bY rfl)<|aq (bc Ja rfl rfl rfl) ?_
      refine aq (aL iX rfl (AA _ _) rfl) ?_
      refine aq (aC (us:=ao (L.getD ((uM L w).toNat) aH)++aj ao (L.drop ((uM L w).toNat+1))) bY rfl rfl (⟨by omega,by omega⟩) (ai ae _) (aQ ae (aK hj2)) rfl) ?_
      refine aq (bc Ja rfl rfl rfl) ?_
      refine aq (aL iX rfl (AA _ _) rfl) ?_
      refine aq (ri rfl rfl fi rfl) ?_
      refine aB rfl (fun hc9=>?_) (fun hc9=>?_)
      ·have hj:ja L w=true:=iN.2 ⟨by have:=beq_iff_eq.1 hb6;omega,of_decide_eq_true hb7,hb8,beq_iff_eq.1 hc9⟩
       obtain⟨j,ej⟩: ∃j,(uM L w).toNat=j:=⟨_,rfl⟩
       have hnj:j<L.length:=ej▸hj2
       have ejz:uM L w=(j:Int):=by omega
       have hL2:=Ax hL g1 hj
       have lL2:=x4 hL g1 hj
       have ih2:=ih (qe L w) hL2 (by omega)
       refine Dw.weak (σ':=⟨114,[(0,.v (.c (.s ((L).length) (aj ao (L))))),(3,.v (.c (.i .i64 (w:Int)))),(6,.v (.c (.i .i64 (j:Int))))],[]⟩) (ak ⟨rfl,rfl,congrArg (fun q=>some (DV.v (.c (.i .i64 q)))) ejz,trivial⟩ trivial rfl) ?_
       refine ab<|ah<|ar (cU aH ae g1 bY rfl)<|ar (i4 ae aZ rfl)<|om (bG aZ rfl rfl rfl (ae _) rfl rfl) ?_
       refine ab<|ah<|ar (aC (us:=ao (L.getD j aH)++aj ao (L.drop (j+1))) bY rfl rfl (⟨by omega,by omega⟩) (ai ae _) (aQ ae (aK hnj)) rfl) ?_
       refine ar (bc qt rfl rfl rfl) ?_
       refine ar (aJ (us:=al (L.getD j aH).q) bm rfl (li _ _) rfl rfl) ?_
       refine om (aV (us:=ao ((L.getD w aH).ends (L.getD w aH).p (((L.getD j aH).q)))) bm rfl rfl rfl rfl (by rw[ae];decide) (FL _ _) rfl) ?_
       refine ab<|bR<|b9 (cg rfl) ?_
       refine bv<|ab<|ab<|ah<|aA ?_
       refine aY (ι:=Sum ({k:Nat // k≤L.length∧(cH L w j k)=[]}) ({x9:Nat×Nat×List CellD // x9.1≤L.length∧(cH L w j x9.1).length≤x9.2.1∧x9.2.1≤maxLen∧x9.2.2.length=(x9.2.1-(cH L w j x9.1).length)*66})) (fun i=>match i with| .inl i=>⟨114,[(0,.v (.c (.s ((L).length) (aj ao (L))))),(3,.v (.c (.i .i64 (w:Int)))),(6,.v (.c (.i .i64 (j:Int)))),(8,.p 8 0),(9,.z),(10,.v (.c (.i .i64 (i.1:Int))))],[(8,86,ao (ow L w))]⟩| .inr i=>⟨114,[(0,.v (.c (.s ((L).length) (aj ao (L))))),(3,.v (.c (.i .i64 (w:Int)))),(6,.v (.c (.i .i64 (j:Int)))),(8,.p 8 0),(9,.o 107 ((cH L w j i.1.1).length) i.1.2.1),(10,.v (.c (.i .i64 (i.1.1:Int))))],[(8,86,ao (ow L w)),(107,86,aj ao (cH L w j i.1.1)++i.1.2.2)]⟩) (fun i=>match i with| .inl i=>L.length-i.1| .inr i=>L.length-i.1.1) (.inl ⟨0,cY _,rfl⟩) (ak ⟨rfl,rfl,rfl,rfl,rfl,rfl,trivial⟩ ⟨congrArg (fun q=>some (86,ao q)) (show(L.getD w aH).ends (L.getD w aH).p (L.getD j aH).q=ow L w from by unfold ow;rw[ej]),trivial⟩ rfl) ?_
       rintro(⟨k,h2,h3⟩|⟨⟨k,c,rs⟩,h2,h3,h4,h5⟩)
       ·replace h2:k≤L.length:=h2
        replace h3:(cH L w j k)=[]:=h3
        dsimp only
        refine ab<|ab<|ah ?_
        refine aB rfl (fun hc10=>?_) (fun hc10=>?_)
        ·have g3:k<L.length:=by have:=of_decide_eq_true hc10;omega
         have l8:=oH L w j k
         refine az<|ab<|aA<|ab<|ah ?_
         refine dF (au rfl) (fun c11 hb11=>?_)
         cases c11
         ·have e3:(cH L w j (k+1))=(cH L w j k):=if_neg fun q=>q.1 (by have:=bne_eq_false_iff_eq.1 hb11;omega)
          refine bT rfl<|az<|ah<|ar (ba (by omega) rfl) ?_
          exact⟨.inl ⟨k+1,g3,by rw[e3];exact h3⟩,ak ⟨rfl,rfl,rfl,rfl,rfl,rfl,trivial⟩ ⟨rfl,trivial⟩ rfl,by show L.length-(k+1)<L.length-k;omega⟩
         ·have q1:k≠w:=by have:=bne_iff_ne.1 hb11;omega
          refine aB rfl (fun hc12=>?_) (fun hc12=>?_)
          ·have e3:(cH L w j (k+1))=(cH L w j k)++[(L.getD k aH)]:=if_pos ⟨q1,by have:=bne_iff_ne.1 hc12;omega⟩
           refine ah<|ar (cU aH ae g3 bY rfl)<|ar (i4 ae aZ rfl)<|ar (aS (n:=1) (us:=ao (L.getD k aH)) dS rfl (kz rfl (ae _)) (bB (ae _)) (by decide) (by decide) rfl) ?_
           refine DL.mk<|gN (ys:=ao (L.getD k aH)) dS rfl rfl (bB (ae _)) (by decide) (by decide) (by decide) rfl rfl (fun cg13 rg13 hga13 hgb13 hgc13=>dC ?_)
           refine ah<|ar (ba (by omega) rfl) ?_
           exact⟨.inr ⟨⟨k+1,cg13,rg13⟩,g3,by show(cH L w j (k+1)).length≤cg13;rw[e3,h3];exact hga13,hgb13,by show rg13.length=(cg13-(cH L w j (k+1)).length)*66;rw[e3,h3];exact hgc13⟩,ak ⟨rfl,rfl,rfl,rfl,congrArg (fun q=>some (DV.o 107 q cg13)) (by rw[e3,h3];rfl),rfl,trivial⟩ ⟨rfl,congrArg (fun q=>some (86,q++rg13)) (by rw[e3,h3];exact(dt _).symm),trivial⟩ rfl,by show L.length-(k+1)<L.length-k;omega⟩
          ·have e3:(cH L w j (k+1))=(cH L w j k):=if_neg fun q=>q.2 (by have:=bne_eq_false_iff_eq.1 hc12;omega)
           refine az<|ah<|ar (ba (by omega) rfl) ?_
           exact⟨.inl ⟨k+1,g3,by rw[e3];exact h3⟩,ak ⟨rfl,rfl,rfl,rfl,rfl,rfl,trivial⟩ ⟨rfl,trivial⟩ rfl,by show L.length-(k+1)<L.length-k;omega⟩
        ·have hk2:k=L.length:=by have:=of_decide_eq_false hc10;omega
         have l8:=oH L w j k
         have e4:qe L w=[]++[(ow L w)]:=by unfold qe;rw[ej,←hk2];rw[h3]
         rw[e4] at ih2
         refine aW<|ab<|bR<|fK 1<|b9 (eM (ae _) aZ rfl)<|b9 (aS (n:=1) (us:=ao (ow L w)) dS rfl (kz rfl (ae _)) (bB (ae _)) (by decide) (by decide) rfl) ?_
         refine gN (ys:=ao (ow L w)) dS rfl rfl (bB (ae _)) (by decide) (by decide) (by decide) rfl rfl (fun cg14 rg14 hga14 hgb14 hgc14=>?_)
         refine L6 (xR (m:=66) (us:=aj ao ([]++[(ow L w)])) rfl rfl rfl rfl rfl ((by rw[ck,dt];exact eg (n:=1) (ae _))) (by rw[bN,ae];omega) (by assumption) (by assumption) (ih2) rfl) ?_
         refine jq<|bh ?_
         rw[EV g1 hj hno,e4]
         exact ag (am aa)
       ·dsimp only at h2 h3 h4 h5
        dsimp only
        refine ab<|ab<|ah ?_
        refine aB rfl (fun hc15=>?_) (fun hc15=>?_)
        ·have g3:k<L.length:=by have:=of_decide_eq_true hc15;omega
         have l8:=oH L w j k
         refine az<|ab<|aA<|ab<|ah ?_
         refine dF (au rfl) (fun c16 hb16=>?_)
         cases c16
         ·have e3:(cH L w j (k+1))=(cH L w j k):=if_neg fun q=>q.1 (by have:=bne_eq_false_iff_eq.1 hb16;omega)
          refine bT rfl<|az<|ah<|ar (ba (by omega) rfl) ?_
          exact⟨.inr ⟨⟨k+1,c,rs⟩,g3,by show(cH L w j (k+1)).length≤c;rw[e3];exact h3,h4,by show rs.length=(c-(cH L w j (k+1)).length)*66;rw[e3];exact h5⟩,ak ⟨rfl,rfl,rfl,rfl,congrArg (fun q=>some (DV.o 107 (List.length q) c)) (by rw[e3]),rfl,trivial⟩ ⟨rfl,congrArg (fun q=>some (86,aj ao q++rs)) (by rw[e3]),trivial⟩ rfl,by show L.length-(k+1)<L.length-k;omega⟩
         ·have q1:k≠w:=by have:=bne_iff_ne.1 hb16;omega
          refine aB rfl (fun hc17=>?_) (fun hc17=>?_)
          ·have e3:(cH L w j (k+1))=(cH L w j k)++[(L.getD k aH)]:=if_pos ⟨q1,by have:=bne_iff_ne.1 hc17;omega⟩
           refine ah<|ar (cU aH ae g3 bY rfl)<|ar (i4 ae aZ rfl)<|ar (aS (n:=1) (us:=ao (L.getD k aH)) dS rfl (kz rfl (ae _)) (bB (ae _)) (by decide) (by decide) rfl) ?_
           refine DL.mk<|kD (us:=aj ao (cH L w j k)) (rest:=rs) (ys:=ao (L.getD k aH)) dS rfl rfl rfl (ai ae _) (by assumption) (bB (ae _)) (by decide) (by omega) (by assumption) (by omega) (mJ (by omega)) (.inl rfl) rfl (fun cg18 rg18 hga18 hgb18 hgc18=>dC ?_)
           refine ah<|ar (ba (by omega) rfl) ?_
           exact⟨.inr ⟨⟨k+1,cg18,rg18⟩,g3,by show(cH L w j (k+1)).length≤cg18;rw[e3,bN];exact hga18,hgb18,by show rg18.length=(cg18-(cH L w j (k+1)).length)*66;rw[e3,bN];exact hgc18⟩,ak ⟨rfl,rfl,rfl,rfl,congrArg (fun q=>some (DV.o 107 q cg18)) (by rw[e3,bN];rfl),rfl,trivial⟩ ⟨rfl,congrArg (fun q=>some (86,q++rg18)) (by rw[e3,ck,dt]),trivial⟩ rfl,by show L.length-(k+1)<L.length-k;omega⟩
          ·have e3:(cH L w j (k+1))=(cH L w j k):=if_neg fun q=>q.2 (by have:=bne_eq_false_iff_eq.1 hc17;omega)
           refine az<|ah<|ar (ba (by omega) rfl) ?_
           exact⟨.inr ⟨⟨k+1,c,rs⟩,g3,by show(cH L w j (k+1)).length≤c;rw[e3];exact h3,h4,by show rs.length=(c-(cH L w j (k+1)).length)*66;rw[e3];exact h5⟩,ak ⟨rfl,rfl,rfl,rfl,congrArg (fun q=>some (DV.o 107 (List.length q) c)) (by rw[e3]),rfl,trivial⟩ ⟨rfl,congrArg (fun q=>some (86,aj ao q++rs)) (by rw[e3]),trivial⟩ rfl,by show L.length-(k+1)<L.length-k;omega⟩
        ·have hk2:k=L.length:=by have:=of_decide_eq_false hc15;omega
         have l8:=oH L w j k
         have e4:qe L w=(cH L w j k)++[(ow L w)]:=by unfold qe;rw[ej,←hk2]
         rw[e4] at ih2
         refine aW<|ab<|bR<|fK 1<|b9 (eM (ae _) aZ rfl)<|b9 (aS (n:=1) (us:=ao (ow L w)) dS rfl (kz rfl (ae _)) (bB (ae _)) (by decide) (by decide) rfl) ?_
         refine kD (us:=aj ao (cH L w j k)) (rest:=rs) (ys:=ao (ow L w)) dS rfl rfl rfl (ai ae _) (by assumption) (bB (ae _)) (by decide) (by omega) (by assumption) (by omega) (mJ (by omega)) (.inr rfl) rfl (fun cg19 rg19 hga19 hgb19 hgc19=>?_)
         refine L6 (xR (m:=66) (us:=aj ao ((cH L w j k)++[(ow L w)])) rfl rfl rfl rfl rfl ((by rw[ck,dt];exact eg (by rw[bN,ai ae,ae];omega))) (by rw[bN,bN,ai ae,ae];omega) (by assumption) (by assumption) ((by rw[bN] at ih2;exact ih2)) rfl) ?_
         refine jq<|bh ?_
         rw[EV g1 hj hno,e4]
         exact ag (am aa)
      ·have hj:ja L w=false:=tv.2 fun e=>by have q:=iN.1 e;exact beq_eq_false_iff_ne.1 hc9 q.2.2.2
       refine az<|ah<|ar (ba (by omega) rfl) ?_
       exact⟨⟨w+1,g1,fun i2 h2=>(fm.1 h2).elim (hno i2) fun e=>by rw[e];exact hj⟩,ak ⟨rfl,rfl,trivial⟩ trivial rfl,by show L.length-(w+1)<L.length-w;omega⟩
 ·have e0:nQ (f+1) L=L:=EE fun i2 h2=>hno i2 (by have:=of_decide_eq_false hc1;omega)
  refine aW<|ab<|ah<|bh ?_
  rw[e0]
  exact ag (am aa)
theorem RN (hL: ∀d∈L,Fw d) (lL:L.length≤6000000):Ok Tryz.prog 59 [.c (.s ((L).length) (aj ao (L)))] [.c (.s (((Ll L)).length) (aj ao ((Ll L))))]:=by
 have key: ∀(f:Nat) (L:List Cv),(∀d∈L,Fw d)→L.length≤6000000→L.length≤f→Ok Tryz.prog 59 [.c (.s ((L).length) (aj ao (L)))] [.c (.s (((nQ f L)).length) (aj ao ((nQ f L))))]:=by
  intro f
  induction f with
  |zero=>
   intro L hL lL h
   have h2:=Iu (f:=0) hL lL (fun M _ h3=>absurd h3 (by omega))
   rw[show nQ (0+1) L=nQ 0 L from EE fun w hi=>absurd hi (by omega)] at h2
   exact h2
  |succ f ih=>exact fun L hL lL h=>Iu hL lL fun M hM h3=>ih M hM (by omega) (by omega)
 exact key L.length L hL lL (aX _)
theorem xN {ops:Array Oper}{os:List Oper}{K:St→Prop}{q by_:Nat}{ys zs zs':List CellD}
 (hU:mx P U=some (e,m,by_,zs)) (hx:bH (fun s=>an s tm) x=some (.f 0 us)) (hy:bH (fun s=>an s tm) y=some (.v (.c (.s q ys)))) (hys:ys.length=q*m) (hq:0<q)
 (hbytes:q*by_≤140737488355328) (h63:q≤maxLen) (hd:an t bx=none) (hz:ys=zs')
 (hg:gd ops ⟨some t,.call ⟨.builtin .append,#[x,y],#[U,U]⟩,ty,pos,af,g⟩ (fun s=>an s tm)=some true)
 (hk: ∀c' rest',q≤c'→c'≤maxLen→rest'.length=(c'-q)*m→dl P ops os ⟨N,(t,.o t q c')::tm,(t,e,zs'++rest')::bx⟩ K):
 dl P ops (⟨some t,.call ⟨.builtin .append,#[x,y],#[U,U]⟩,ty,pos,af,g⟩::os) ⟨N,tm,bx⟩ K:=by
 subst hz
 exact .inr ⟨_,vM hU hx hy hys hq hbytes h63 hd hg,fun σ' ⟨c',rest',h1,h2,h3,e⟩=>by subst e;exact hk c' rest' h1 h2 h3⟩
section
variable {P:Program}
variable {ops os:Array Oper}{N:Nat}{tm:List (Nat×DV)}{bx:List (Nat×TypeId×List CellD)}
variable {os:List Oper}{K:St→Prop}
variable {T:TF}{B:BF}
theorem Bx 
 (hU:nu P U=some m) (hx:bH (fun s=>an s tm) x=some (.v (.c (.s n us)))) (hg:gd ops ⟨some t,.binOp .eql U x (.const (.slice none 0 0)) U2,ty,pos,af,g⟩ (fun s=>an s tm)=some true)
 (hk: ∀b:Bool,(0<n→b=false)→dl P ops os ⟨N,(t,.v (.c (.b b)))::tm,bx⟩ K):dl P ops (⟨some t,.binOp .eql U x (.const (.slice none 0 0)) U2,ty,pos,af,g⟩::os) ⟨N,tm,bx⟩ K:=by
 refine .inr ⟨fun σ'=> ∃b:Bool,(0<n→b=false)∧σ'=⟨N,(t,.v (.c (.b b)))::tm,bx⟩,?_,fun σ' ⟨b,h,e⟩=>by subst e;exact hk b h⟩
 intro av w0 β a w hrel htn
 have hs:=Sees.of hrel.sees (L:=fU ops ⟨some t,.binOp .eql U x (.const (.slice none 0 0)) U2,ty,pos,af,g⟩) (fun _ _=>trivial) (fun _ _ _ h=>h) (fun _ _ h=>h)
 refine⟨dK hs hg,?_⟩
 have h1:=aw hs (x:=x) (by simp[Op.operands]) hx
 have h2: ∃A c,a.eval x=.slice A n c∧(0<n→A.isNone=false):=by
  generalize a.eval x=v at h1
  cases h1 with
  |s0 A c _=>exact⟨A,c,rfl,fun h=>absurd h (Nat.lt_irrefl 0)⟩
  |s b off c _ _ _ _=>exact⟨_,c,rfl,fun _=>rfl⟩
 obtain⟨A,c,e,hA⟩:=h2
 have hu: ∃el,P.underlying U=some (.slice el):=by
  unfold nu at hU
  grind
 obtain⟨el,hu⟩:=hu
 have heq:(Op.equal U (.slice A n c) (.slice none 0 0)).run P w=.ok A.isNone w:=by
  unfold Op.equal Op.maxDepth
  rw[show(10000:Nat)=9999+1 from rfl,Op.equalIn]
  simp only[ed,run_underlying hu,eb]
  cases A<;>rfl
 have hrun:(execOp a.eval ⟨some t,.binOp .eql U x (.const (.slice none 0 0)) U2,ty,pos,af,g⟩).run P w=.ok (.value (.bool A.isNone)) w:=by
  have e2:a.eval (.const (.slice none 0 0))=.slice none 0 0:=rfl
  have h3:(eqGuard .eql U x (.const (.slice none 0 0)) (.slice A n c) (.slice none 0 0)).run P w=.ok () w:=rfl
  have h4:binOp .eql U (.slice A n c) (.slice none 0 0)=(do pure (.bool (←Op.equal U (.slice A n c) (.slice none 0 0)))):=rfl
  simp only[execOp,e,e2,ed,h3,eb,h4,heq,fq]
 unfold Gives
 rw[hrun]
 refine⟨⟨N,(t,.v (.c (.b A.isNone)))::tm,bx⟩,β,⟨_,hA,rfl⟩,rfl,?_⟩
 have hval:=hrel.value (d:=some t) (x:=.v (.c (.b A.isNone))) (v:=.bool A.isNone) htn (bP _ _) (.b _) (by intro l hl;cases hl)
 refine hval.congr (fun s=>?_) (fun _=>rfl)
 show an s ((t,DV.v (.c (.b A.isNone)))::tm)=(if some t=some s then _ else an s tm)
 rw[aF]
 grind
end
theorem Nq {c:Code}{Q:Exit→St→Prop}(ht:an t tm=some (.f n us)) (h:Dw P c ⟨N,(t,.v (.c (.s n us)))::tm,bx⟩ Q):Dw P c ⟨N,tm,bx⟩ Q:=fun av w0 β a w hr=>by
 obtain⟨v,hv,hx⟩:=hr.sees.tmp t _ trivial ht
 have h2:=hr.upd (t:=t) (x:=.v (.c (.s n us))) hv hx.2 rfl
 refine h av w0 β a w (h2.congr (fun s=>?_) (fun _=>rfl))
 show an s ((t,.v (.c (.s n us)))::tm)=_
 rw[aF];rfl
end Go.Proofs.YtkfgimjmgfoneaaGreatDoor
