/-The open parts:the reference. -/
import Derived.Test.YtegpmhlfjkhjmaaGreatYqW
import Derived.Laws.StructEq
namespace Go.Proofs.YtegpmhlfjkhjmaaGreat
open Go Go.RowKit
variable {k:Ci}{L:List Ci}{W:List Rn}
theorem VQ (hk:RK k) (h0:0<k.q) (hL: ∀d∈L,RK d) (lL:L.length≤4) {e:Nat→Bool}{m:Nat→Pt}(hm: ∀i,i<(b4 k L).length→GB (m i)∧Ok Tryz.prog 56 [.a (aD ((b4 k L).getD i aY))] [.a (aj (m i))]) (he: ∀i,i<(b4 k L).length→e i=qd L (m i)) {u:Bool}{Z:List Cv}(hZ:(u=true∧Z=[]∧ ∀i,i<(b4 k L).length→e i=true)∨u=false∧Z=jl (b4 k L) e (b4 k L).length∧Rnd e (b4 k L).length∧(∃s,s<(b4 k L).length∧e s=false)∧ ∀i,i<(b4 k L).length→e i=true→e (i+(b4 k L).length-1)=false→CvV (jU (b4 k L) e i)):Ok Tryz.prog 12 [.a (aX k),.c (.s L.length (aw aX L))] [.c (.s ((Z).length) (aw aD (Z))),.c (.b u)]:=by
 have hF:=Ob hk.k h0
 have ex1:Bx k L ((ap k).getD 0 aY)=uH k L 1:=(jc _).symm
 refine eH Tryz.func12 188 [.tmp 4,.tmp 5] rfl<|aa<|ag<|aa<|bg<|aR (ed rfl) ?_
 refine ba<|aa<|ag ?_
 refine ac rfl (YA hk.k)<|aa<|aa<|ag<|aB ?_
 refine BL (ι:={x9:Nat×Nat×List CellD // 1≤x9.1∧x9.1≤2∧(uH k L x9.1).length≤x9.2.1∧x9.2.1≤maxLen∧x9.2.2.length=(x9.2.1-(uH k L x9.1).length)*66}) (fun i=>⟨188,[(1,.v (.c (.s L.length (aw aX L)))),(2,.p 2 0),(7,.v (.c (.s (((ap k)).length) (aw aD ((ap k)))))),(6,.o 81 ((uH k L i.1.1).length) i.1.2.1),(8,.v (.c (.i .i64 (i.1.1:Int))))],[(2,40,aX k),(81,49,aw aD (uH k L i.1.1)++i.1.2.2)]⟩) (fun i=>2-i.1.1) (3) ?_ ?_
 ·refine aa<|aa<|ag ?_
  refine aI rfl (fun hc1=>?_) (fun hc1=>?_)
  ·have g0:0<(ap k).length:=by show 0<2;omega
   have g9:0<2:=g0
   have vc:CvV ((ap k).getD 0 aY):=hF _ (bj g0)
   have hE:=A5 (k:=k) (c:=((ap k).getD 0 aY)) lL
   have hE0:0<(Bx k L ((ap k).getD 0 aY)).length:=BW vc.ne
   refine aA<|aa<|aB<|aa<|bg<|aR (ed rfl) ?_
   refine ba ?_
   refine n8 (ι:=Unit) (fun i=>⟨188,[(1,.v (.c (.s L.length (aw aX L)))),(2,.p 2 0),(7,.v (.c (.s (((ap k)).length) (aw aD ((ap k)))))),(6,.z),(8,.v (.c (.i .i64 0))),(9,.v (.c (.s (((fm k L ((ap k).getD 0 aY))).length) (aw aj ((fm k L ((ap k).getD 0 aY)))))))],[(2,40,aX k)]⟩) ?_ ?_
   ·refine aa<|ag<|aB ?_
    refine bh (ι:=Sum ({j:Nat // j≤L.length∧(fm k (L.take j) ((ap k).getD 0 aY))=[]}) ({x9:Nat×Nat×List CellD // x9.1≤L.length∧(fm k (L.take x9.1) ((ap k).getD 0 aY)).length≤x9.2.1∧x9.2.1≤maxLen∧x9.2.2.length=(x9.2.1-(fm k (L.take x9.1) ((ap k).getD 0 aY)).length)*20})) (fun i=>match i with| .inl i=>⟨188,[(1,.v (.c (.s L.length (aw aX L)))),(2,.p 2 0),(7,.v (.c (.s (((ap k)).length) (aw aD ((ap k)))))),(6,.z),(8,.v (.c (.i .i64 0))),(10,.v (.c (.i .i64 (i.1:Int)))),(9,.z)],[(2,40,aX k)]⟩| .inr i=>⟨188,[(1,.v (.c (.s L.length (aw aX L)))),(2,.p 2 0),(7,.v (.c (.s (((ap k)).length) (aw aD ((ap k)))))),(6,.z),(8,.v (.c (.i .i64 0))),(10,.v (.c (.i .i64 (i.1.1:Int)))),(9,.o 69 ((fm k (L.take i.1.1) ((ap k).getD 0 aY)).length) i.1.2.1)],[(2,40,aX k),(69,47,aw aj (fm k (L.take i.1.1) ((ap k).getD 0 aY))++i.1.2.2)]⟩) (fun i=>match i with| .inl i=>L.length-i.1| .inr i=>L.length-i.1.1) (.inl ⟨0,eK _,rfl⟩) (ao ⟨rfl,rfl,rfl,rfl,rfl,rfl,rfl,trivial⟩ ⟨rfl,trivial⟩ rfl) ?_
    rintro(⟨j,j2,j3⟩|⟨⟨j,c8,rt⟩,j2,j3,j4,j5⟩)
    ·replace j2:j≤L.length:=j2
     replace j3:(fm k (L.take j) ((ap k).getD 0 aY))=[]:=j3
     dsimp only
     refine aa<|aa<|ag ?_
     refine aI rfl (fun hc2=>?_) (fun hc2=>?_)
     ·have g1:j<L.length:=by have:=of_decide_eq_true hc2;omega
      have hd:=hL _ (bj (d:=dK) g1)
      have hc2:=pV (k:=k) (d:=L.getD j dK)
      have vc0:((ap k).getD 0 aY).good:=(hF _ (bj (show 0<2 from by decide))).g
      refine aA<|aa<|aB<|aa<|dJ 11 [] ?_
      refine aq (eM dK dW g1 Dv rfl) ?_
      refine aq (cg (us:=aX (L.getD j dK)) qV rfl (rn _ _) (dW _) rfl) ?_
      refine aK rfl (J7 hk.k hd.k)<|aa<|ag<|aB ?_
      refine bh (ι:=Sum ({i:Nat // i≤(bG k (L.getD j dK)).length∧(cU k L ((ap k).getD 0 aY) j i)=[]}) ({x9:Nat×Nat×List CellD // x9.1≤(bG k (L.getD j dK)).length∧(cU k L ((ap k).getD 0 aY) j x9.1).length≤x9.2.1∧x9.2.1≤maxLen∧x9.2.2.length=(x9.2.1-(cU k L ((ap k).getD 0 aY) j x9.1).length)*20})) (fun i=>match i with| .inl i=>⟨188,[(1,.v (.c (.s L.length (aw aX L)))),(2,.p 2 0),(7,.v (.c (.s (((ap k)).length) (aw aD ((ap k)))))),(6,.z),(8,.v (.c (.i .i64 0))),(10,.v (.c (.i .i64 (j:Int)))),(11,.v (.c (.s (((bG k (L.getD j dK))).length) (aw aj ((bG k (L.getD j dK))))))),(13,.v (.c (.i .i64 (i.1:Int)))),(9,.z)],[(2,40,aX k)]⟩| .inr i=>⟨188,[(1,.v (.c (.s L.length (aw aX L)))),(2,.p 2 0),(7,.v (.c (.s (((ap k)).length) (aw aD ((ap k)))))),(6,.z),(8,.v (.c (.i .i64 0))),(10,.v (.c (.i .i64 (j:Int)))),(11,.v (.c (.s (((bG k (L.getD j dK))).length) (aw aj ((bG k (L.getD j dK))))))),(13,.v (.c (.i .i64 (i.1.1:Int)))),(9,.o 69 ((cU k L ((ap k).getD 0 aY) j i.1.1).length) i.1.2.1)],[(2,40,aX k),(69,47,aw aj (cU k L ((ap k).getD 0 aY) j i.1.1)++i.1.2.2)]⟩) (fun i=>match i with| .inl i=>(bG k (L.getD j dK)).length-i.1| .inr i=>(bG k (L.getD j dK)).length-i.1.1) (.inl ⟨0,eK _,rZ.trans j3⟩) (ao ⟨rfl,rfl,rfl,rfl,rfl,rfl,rfl,rfl,rfl,trivial⟩ ⟨rfl,trivial⟩ rfl) ?_
      rintro(⟨i,k2,k3⟩|⟨⟨i,c7,ru⟩,k2,k3,k4,k5⟩)
      ·replace k2:i≤(bG k (L.getD j dK)).length:=k2
       replace k3:(cU k L ((ap k).getD 0 aY) j i)=[]:=k3
       dsimp only
       refine aa<|aa<|ag ?_
       refine aI rfl (fun hc3=>?_) (fun hc3=>?_)
       ·have g3:i<(bG k (L.getD j dK)).length:=by have:=of_decide_eq_true hc3;omega
        have hx:=lG hk.k hd.k _ (bj (d:=dPt) g3)
        refine aA<|aa<|aB<|aa<|dJ 9 []<|aq (eM aY ai g0 gF rfl)<|aq (ip ai bW rfl)<|aq (eM dPt ak g3 cA rfl)<|aq (ip ak bv rfl)<|aK rfl (CI vc0 hx) ?_
        refine aI rfl (fun hc4=>?_) (fun hc4=>?_)
        ·have g4:((ap k).getD 0 aY).on ((bG k (L.getD j dK)).getD i dPt)=true:=hc4
         refine ag<|ar (eM dPt ak g3 cA rfl)<|ar (ip ak bv rfl)<|ar (bX (n:=1) (us:=aj ((((bG k (L.getD j dK)).getD i dPt)))) dr rfl rfl rfl (by decide) (by decide) rfl) ?_
         refine DL.mk<|lW (ys:=aj ((((bG k (L.getD j dK)).getD i dPt)))) dr rfl rfl rfl (by decide) (by decide) (by decide) rfl rfl (fun cg5 rg5 hga5 hgb5 hgc5=>dX ?_)
         refine ag<|ar (cb (by omega) rfl) ?_
         exact⟨.inr ⟨⟨i+1,cg5,rg5⟩,g3,by show(cU k L ((ap k).getD 0 aY) j (i+1)).length≤cg5;rw[gP g3 g4,k3];exact hga5,hgb5,by show rg5.length=(cg5-(cU k L ((ap k).getD 0 aY) j (i+1)).length)*20;rw[gP g3 g4,k3];exact hgc5⟩,ao ⟨rfl,rfl,rfl,rfl,rfl,rfl,rfl,rfl,congrArg (fun q=>some (DV.o 69 q cg5)) (show _=(cU k L ((ap k).getD 0 aY) j (i+1)).length from by rw[gP g3 g4,k3];rfl),trivial⟩ ⟨rfl,congrArg (fun q=>some (47,q++rg5)) (show _=aw aj (cU k L ((ap k).getD 0 aY) j (i+1)) from by rw[gP g3 g4,k3,nI,dV]),trivial⟩ rfl,by show(bG k (L.getD j dK)).length-(i+1)<(bG k (L.getD j dK)).length-i;omega⟩
        ·have g4:((ap k).getD 0 aY).on ((bG k (L.getD j dK)).getD i dPt)=false:=hc4
         refine aA<|ag<|ar (cb (by omega) rfl) ?_
         exact⟨.inl ⟨i+1,g3,(jK g3 g4).trans k3⟩,ao ⟨rfl,rfl,rfl,rfl,rfl,rfl,rfl,rfl,rfl,trivial⟩ ⟨rfl,trivial⟩ rfl,by show(bG k (L.getD j dK)).length-(i+1)<(bG k (L.getD j dK)).length-i;omega⟩
       ·have hi:i=(bG k (L.getD j dK)).length:=by have:=of_decide_eq_false hc3;omega
        refine a7<|ag<|ar (cb (by omega) rfl) ?_
        exact⟨.inl ⟨j+1,g1,(show(cU k L ((ap k).getD 0 aY) j i)=(fm k (L.take (j+1)) ((ap k).getD 0 aY)) from by rw[←fK g1,←hi]).symm.trans k3⟩,ao ⟨rfl,rfl,rfl,rfl,rfl,rfl,rfl,trivial⟩ ⟨rfl,trivial⟩ rfl,by show L.length-(j+1)<L.length-j;omega⟩
      ·dsimp only at k2 k3 k4 k5
       have k6:(cU k L ((ap k).getD 0 aY) j i).length≤2*j+2:=yF
       dsimp only
       refine aa<|aa<|ag ?_
       refine aI rfl (fun hc6=>?_) (fun hc6=>?_)
       ·have g3:i<(bG k (L.getD j dK)).length:=by have:=of_decide_eq_true hc6;omega
        have hx:=lG hk.k hd.k _ (bj (d:=dPt) g3)
        refine aA<|aa<|aB<|aa<|dJ 9 []<|aq (eM aY ai g0 gF rfl)<|aq (ip ai bW rfl)<|aq (eM dPt ak g3 cA rfl)<|aq (ip ak bv rfl)<|aK rfl (CI vc0 hx) ?_
        refine aI rfl (fun hc7=>?_) (fun hc7=>?_)
        ·have g4:((ap k).getD 0 aY).on ((bG k (L.getD j dK)).getD i dPt)=true:=hc7
         refine ag<|ar (eM dPt ak g3 cA rfl)<|ar (ip ak bv rfl)<|ar (bX (n:=1) (us:=aj ((((bG k (L.getD j dK)).getD i dPt)))) dr rfl rfl rfl (by decide) (by decide) rfl) ?_
         refine DL.mk<|l6 (us:=aw aj (cU k L ((ap k).getD 0 aY) j i)) (rest:=ru) (ys:=aj ((((bG k (L.getD j dK)).getD i dPt)))) dr rfl rfl rfl (by first|exact am ak _|exact am ai _|exact dL) (by assumption) rfl (by decide) (by omega) (by assumption) (by omega) (iM (by omega)) (.inl rfl) rfl (fun cg8 rg8 hga8 hgb8 hgc8=>dX ?_)
         refine ag<|ar (cb (by omega) rfl) ?_
         exact⟨.inr ⟨⟨i+1,cg8,rg8⟩,g3,by show(cU k L ((ap k).getD 0 aY) j (i+1)).length≤cg8;rw[gP g3 g4,dm];exact hga8,hgb8,by show rg8.length=(cg8-(cU k L ((ap k).getD 0 aY) j (i+1)).length)*20;rw[gP g3 g4,dm];exact hgc8⟩,ao ⟨rfl,rfl,rfl,rfl,rfl,rfl,rfl,rfl,congrArg (fun q=>some (DV.o 69 q cg8)) (show _=(cU k L ((ap k).getD 0 aY) j (i+1)).length from by rw[gP g3 g4,dm];rfl),trivial⟩ ⟨rfl,congrArg (fun q=>some (47,q++rg8)) (show _=aw aj (cU k L ((ap k).getD 0 aY) j (i+1)) from by rw[gP g3 g4,dB,dV]),trivial⟩ rfl,by show(bG k (L.getD j dK)).length-(i+1)<(bG k (L.getD j dK)).length-i;omega⟩
        ·have g4:((ap k).getD 0 aY).on ((bG k (L.getD j dK)).getD i dPt)=false:=hc7
         refine aA<|ag<|ar (cb (by omega) rfl) ?_
         exact⟨.inr ⟨⟨i+1,c7,ru⟩,g3,by show(cU k L ((ap k).getD 0 aY) j (i+1)).length≤c7;rw[jK g3 g4];exact k3,k4,by show ru.length=(c7-(cU k L ((ap k).getD 0 aY) j (i+1)).length)*20;rw[jK g3 g4];exact k5⟩,ao ⟨rfl,rfl,rfl,rfl,rfl,rfl,rfl,rfl,congrArg (fun q=>some (DV.o 69 (List.length q) c7)) ((jK g3 g4).symm),trivial⟩ ⟨rfl,congrArg (fun q=>some (47,aw aj q++ru)) ((jK g3 g4).symm),trivial⟩ rfl,by show(bG k (L.getD j dK)).length-(i+1)<(bG k (L.getD j dK)).length-i;omega⟩
       ·have hi:i=(bG k (L.getD j dK)).length:=by have:=of_decide_eq_false hc6;omega
        refine a7<|ag<|ar (cb (by omega) rfl) ?_
        exact⟨.inr ⟨⟨j+1,c7,ru⟩,g1,by show(fm k (L.take (j+1)) ((ap k).getD 0 aY)).length≤c7;rw[←(show(cU k L ((ap k).getD 0 aY) j i)=(fm k (L.take (j+1)) ((ap k).getD 0 aY)) from by rw[←fK g1,←hi])];exact k3,k4,by show ru.length=(c7-(fm k (L.take (j+1)) ((ap k).getD 0 aY)).length)*20;rw[←(show(cU k L ((ap k).getD 0 aY) j i)=(fm k (L.take (j+1)) ((ap k).getD 0 aY)) from by rw[←fK g1,←hi])];exact k5⟩,ao ⟨rfl,rfl,rfl,rfl,rfl,rfl,congrArg (fun q=>some (DV.o 69 (List.length q) c7)) ((show(cU k L ((ap k).getD 0 aY) j i)=(fm k (L.take (j+1)) ((ap k).getD 0 aY)) from by rw[←fK g1,←hi])),trivial⟩ ⟨rfl,congrArg (fun q=>some (47,aw aj q++ru)) ((show(cU k L ((ap k).getD 0 aY) j i)=(fm k (L.take (j+1)) ((ap k).getD 0 aY)) from by rw[←fK g1,←hi])),trivial⟩ rfl,by show L.length-(j+1)<L.length-j;omega⟩
     ·have hj:j=L.length:=by have:=of_decide_eq_false hc2;omega
      refine vw (t:=9) rfl<|a7 ?_
      exact⟨(),ao ⟨rfl,rfl,rfl,rfl,rfl,congrArg (fun q:List Pt=>some (DV.v (.c (.s q.length (aw aj q))))) (j3.symm.trans (by rw[hj,lJ])),trivial⟩ ⟨rfl,trivial⟩ rfl⟩
    ·dsimp only at j2 j3 j4 j5
     dsimp only
     refine aa<|aa<|ag ?_
     refine aI rfl (fun hc9=>?_) (fun hc9=>?_)
     ·have g1:j<L.length:=by have:=of_decide_eq_true hc9;omega
      have hd:=hL _ (bj (d:=dK) g1)
      have hc2:=pV (k:=k) (d:=L.getD j dK)
      have vc0:((ap k).getD 0 aY).good:=(hF _ (bj (show 0<2 from by decide))).g
      refine aA<|aa<|aB<|aa<|dJ 11 [] ?_
      refine aq (eM dK dW g1 Dv rfl) ?_
      refine aq (cg (us:=aX (L.getD j dK)) qV rfl (rn _ _) (dW _) rfl) ?_
      refine aK rfl (J7 hk.k hd.k)<|aa<|ag<|aB<|bh (ι:={x9:Nat×Nat×List CellD // x9.1≤(bG k (L.getD j dK)).length∧(cU k L ((ap k).getD 0 aY) j x9.1).length≤x9.2.1∧x9.2.1≤maxLen∧x9.2.2.length=(x9.2.1-(cU k L ((ap k).getD 0 aY) j x9.1).length)*20}) (fun i=>⟨188,[(1,.v (.c (.s L.length (aw aX L)))),(2,.p 2 0),(7,.v (.c (.s (((ap k)).length) (aw aD ((ap k)))))),(6,.z),(8,.v (.c (.i .i64 0))),(10,.v (.c (.i .i64 (j:Int)))),(11,.v (.c (.s (((bG k (L.getD j dK))).length) (aw aj ((bG k (L.getD j dK))))))),(13,.v (.c (.i .i64 (i.1.1:Int)))),(9,.o 69 ((cU k L ((ap k).getD 0 aY) j i.1.1).length) i.1.2.1)],[(2,40,aX k),(69,47,aw aj (cU k L ((ap k).getD 0 aY) j i.1.1)++i.1.2.2)]⟩) (fun i=>(bG k (L.getD j dK)).length-i.1.1) ⟨⟨0,c8,rt⟩,eK _,by show(cU k L ((ap k).getD 0 aY) j 0).length≤c8;rw[rZ];exact j3,j4,by show rt.length=(c8-(cU k L ((ap k).getD 0 aY) j 0).length)*20;rw[rZ];exact j5⟩ (ao ⟨rfl,rfl,rfl,rfl,rfl,rfl,rfl,rfl,congrArg (fun q=>some (DV.o 69 (List.length q) c8)) (rZ.symm),trivial⟩ ⟨rfl,congrArg (fun q=>some (47,aw aj q++rt)) (rZ.symm),trivial⟩ rfl) ?_
      rintro⟨⟨i,c7,ru⟩,k2,k3,k4,k5⟩
      dsimp only at k2 k3 k4 k5
      have k6:(cU k L ((ap k).getD 0 aY) j i).length≤2*j+2:=yF
      dsimp only
      refine aa<|aa<|ag ?_
      refine aI rfl (fun hc10=>?_) (fun hc10=>?_)
      ·have g3:i<(bG k (L.getD j dK)).length:=by have:=of_decide_eq_true hc10;omega
       have hx:=lG hk.k hd.k _ (bj (d:=dPt) g3)
       refine aA<|aa<|aB<|aa<|dJ 9 []<|aq (eM aY ai g0 gF rfl)<|aq (ip ai bW rfl)<|aq (eM dPt ak g3 cA rfl)<|aq (ip ak bv rfl)<|aK rfl (CI vc0 hx) ?_
       refine aI rfl (fun hc11=>?_) (fun hc11=>?_)
       ·have g4:((ap k).getD 0 aY).on ((bG k (L.getD j dK)).getD i dPt)=true:=hc11
        refine ag<|ar (eM dPt ak g3 cA rfl)<|ar (ip ak bv rfl)<|ar (bX (n:=1) (us:=aj ((((bG k (L.getD j dK)).getD i dPt)))) dr rfl rfl rfl (by decide) (by decide) rfl) ?_
        refine DL.mk<|l6 (us:=aw aj (cU k L ((ap k).getD 0 aY) j i)) (rest:=ru) (ys:=aj ((((bG k (L.getD j dK)).getD i dPt)))) dr rfl rfl rfl (by first|exact am ak _|exact am ai _|exact dL) (by assumption) rfl (by decide) (by omega) (by assumption) (by omega) (iM (by omega)) (.inl rfl) rfl (fun cg12 rg12 hga12 hgb12 hgc12=>dX ?_)
        refine ag<|ar (cb (by omega) rfl) ?_
        exact⟨⟨⟨i+1,cg12,rg12⟩,g3,by show(cU k L ((ap k).getD 0 aY) j (i+1)).length≤cg12;rw[gP g3 g4,dm];exact hga12,hgb12,by show rg12.length=(cg12-(cU k L ((ap k).getD 0 aY) j (i+1)).length)*20;rw[gP g3 g4,dm];exact hgc12⟩,ao ⟨rfl,rfl,rfl,rfl,rfl,rfl,rfl,rfl,congrArg (fun q=>some (DV.o 69 q cg12)) (show _=(cU k L ((ap k).getD 0 aY) j (i+1)).length from by rw[gP g3 g4,dm];rfl),trivial⟩ ⟨rfl,congrArg (fun q=>some (47,q++rg12)) (show _=aw aj (cU k L ((ap k).getD 0 aY) j (i+1)) from by rw[gP g3 g4,dB,dV]),trivial⟩ rfl,by show(bG k (L.getD j dK)).length-(i+1)<(bG k (L.getD j dK)).length-i;omega⟩
       ·have g4:((ap k).getD 0 aY).on ((bG k (L.getD j dK)).getD i dPt)=false:=hc11
        refine aA<|ag<|ar (cb (by omega) rfl) ?_
        exact⟨⟨⟨i+1,c7,ru⟩,g3,by show(cU k L ((ap k).getD 0 aY) j (i+1)).length≤c7;rw[jK g3 g4];exact k3,k4,by show ru.length=(c7-(cU k L ((ap k).getD 0 aY) j (i+1)).length)*20;rw[jK g3 g4];exact k5⟩,ao ⟨rfl,rfl,rfl,rfl,rfl,rfl,rfl,rfl,congrArg (fun q=>some (DV.o 69 (List.length q) c7)) ((jK g3 g4).symm),trivial⟩ ⟨rfl,congrArg (fun q=>some (47,aw aj q++ru)) ((jK g3 g4).symm),trivial⟩ rfl,by show(bG k (L.getD j dK)).length-(i+1)<(bG k (L.getD j dK)).length-i;omega⟩
      ·have hi:i=(bG k (L.getD j dK)).length:=by have:=of_decide_eq_false hc10;omega
       refine a7<|ag<|ar (cb (by omega) rfl) ?_
       exact⟨.inr ⟨⟨j+1,c7,ru⟩,g1,by show(fm k (L.take (j+1)) ((ap k).getD 0 aY)).length≤c7;rw[←(show(cU k L ((ap k).getD 0 aY) j i)=(fm k (L.take (j+1)) ((ap k).getD 0 aY)) from by rw[←fK g1,←hi])];exact k3,k4,by show ru.length=(c7-(fm k (L.take (j+1)) ((ap k).getD 0 aY)).length)*20;rw[←(show(cU k L ((ap k).getD 0 aY) j i)=(fm k (L.take (j+1)) ((ap k).getD 0 aY)) from by rw[←fK g1,←hi])];exact k5⟩,ao ⟨rfl,rfl,rfl,rfl,rfl,rfl,congrArg (fun q=>some (DV.o 69 (List.length q) c7)) ((show(cU k L ((ap k).getD 0 aY) j i)=(fm k (L.take (j+1)) ((ap k).getD 0 aY)) from by rw[←fK g1,←hi])),trivial⟩ ⟨rfl,congrArg (fun q=>some (47,aw aj q++ru)) ((show(cU k L ((ap k).getD 0 aY) j i)=(fm k (L.take (j+1)) ((ap k).getD 0 aY)) from by rw[←fK g1,←hi])),trivial⟩ rfl,by show L.length-(j+1)<L.length-j;omega⟩
     ·have hj:j=L.length:=by have:=of_decide_eq_false hc9;omega
      refine cB (t:=9) (m:=20) (us:=aw aj (fm k (L.take j) ((ap k).getD 0 aY))) rfl rfl (jC (n:=(fm k (L.take j) ((ap k).getD 0 aY)).length) (by first|exact am ak _|exact am ai _|exact dL) (by first|assumption|simp) (by omega)) (by omega) (by assumption) (gh (by first|exact am ak _|exact am ai _|exact dL)) ?_
      refine a7 ?_
      exact⟨(),ao ⟨rfl,rfl,rfl,rfl,rfl,congrArg (fun q:List Pt=>some (DV.v (.c (.s q.length (aw aj q))))) (by rw[hj,lJ]),trivial⟩ ⟨rfl,trivial⟩ rfl⟩
   ·rintro⟨⟩
    try dsimp only
    refine aa<|ag<|ar (eM aY ai g0 gF rfl)<|ar (ip ai bW rfl)<|ac rfl ((show Ok _ _ _ [.c (.s (Bx k L ((ap k).getD 0 aY)).length (aw aD (Bx k L ((ap k).getD 0 aY)))),_] from Gl vc.g (fun q hq=>(wO hk hL q hq).1) (iK uL (by omega)) (fun q hq=>(wO hk hL q hq).2) (zO vc.ne)))<|ag ?_
    refine DL.mk<|wE (q:=(Bx k L ((ap k).getD 0 aY)).length) (ys:=aw aD ((Bx k L ((ap k).getD 0 aY)))) (zs':=aw aD (Bx k L ((ap k).getD 0 aY))) lT rfl rfl (am ai _) (hE0) (by omega) (iM (by omega)) rfl (rfl) rfl (fun cg13 rg13 hga13 hgb13 hgc13=>dX ?_)
    refine ag<|ar (iU (r:=1) rfl rfl rfl rfl) ?_
    exact⟨⟨⟨1,cg13,rg13⟩,ce _,by show 1≤2;omega,by show(uH k L 1).length≤cg13;rw[←ex1];exact hga13,hgb13,by show rg13.length=(cg13-(uH k L 1).length)*66;rw[←ex1];exact hgc13⟩,ao ⟨rfl,rfl,rfl,congrArg (fun q=>some (DV.o 81 (List.length q) cg13)) ex1,rfl,trivial⟩ ⟨rfl,congrArg (fun q=>some (49,aw aD q++rg13)) ex1,trivial⟩ rfl,by show 2-1<3;omega⟩
  ·exact absurd hc1 (by show ¬decide ((0:Int)<((2:Nat):Int))=false;decide)
 ·rintro⟨⟨n,c9,rs⟩,h1,h2,h3,h4,h5⟩
  dsimp only at h1 h2 h3 h4 h5
  have h6:(uH k L n).length≤9*n:=KJ lL h2
  dsimp only
  refine aa<|aa<|ag ?_
  refine aI rfl (fun hc14=>?_) (fun hc14=>?_)
  ·have g0:n<(ap k).length:=by have h8:(n:Int)<((2:Nat):Int):=of_decide_eq_true hc14;show n<2;omega
   have g9:n<2:=g0
   have vc:CvV ((ap k).getD n aY):=hF _ (bj g0)
   have hE:=A5 (k:=k) (c:=((ap k).getD n aY)) lL
   have hE0:0<(Bx k L ((ap k).getD n aY)).length:=BW vc.ne
   refine aA<|aa<|aB<|aa<|bg<|aR (ed rfl) ?_
   refine ba ?_
   refine n8 (ι:=Unit) (fun i=>⟨188,[(1,.v (.c (.s L.length (aw aX L)))),(2,.p 2 0),(7,.v (.c (.s (((ap k)).length) (aw aD ((ap k)))))),(6,.o 81 ((uH k L n).length) c9),(8,.v (.c (.i .i64 (n:Int)))),(9,.v (.c (.s (((fm k L ((ap k).getD n aY))).length) (aw aj ((fm k L ((ap k).getD n aY)))))))],[(2,40,aX k),(81,49,aw aD (uH k L n)++rs)]⟩) ?_ ?_
   ·refine aa<|ag<|aB ?_
    refine bh (ι:=Sum ({j:Nat // j≤L.length∧(fm k (L.take j) ((ap k).getD n aY))=[]}) ({x9:Nat×Nat×List CellD // x9.1≤L.length∧(fm k (L.take x9.1) ((ap k).getD n aY)).length≤x9.2.1∧x9.2.1≤maxLen∧x9.2.2.length=(x9.2.1-(fm k (L.take x9.1) ((ap k).getD n aY)).length)*20})) (fun i=>match i with| .inl i=>⟨188,[(1,.v (.c (.s L.length (aw aX L)))),(2,.p 2 0),(7,.v (.c (.s (((ap k)).length) (aw aD ((ap k)))))),(6,.o 81 ((uH k L n).length) c9),(8,.v (.c (.i .i64 (n:Int)))),(10,.v (.c (.i .i64 (i.1:Int)))),(9,.z)],[(2,40,aX k),(81,49,aw aD (uH k L n)++rs)]⟩| .inr i=>⟨188,[(1,.v (.c (.s L.length (aw aX L)))),(2,.p 2 0),(7,.v (.c (.s (((ap k)).length) (aw aD ((ap k)))))),(6,.o 81 ((uH k L n).length) c9),(8,.v (.c (.i .i64 (n:Int)))),(10,.v (.c (.i .i64 (i.1.1:Int)))),(9,.o 69 ((fm k (L.take i.1.1) ((ap k).getD n aY)).length) i.1.2.1)],[(2,40,aX k),(81,49,aw aD (uH k L n)++rs),(69,47,aw aj (fm k (L.take i.1.1) ((ap k).getD n aY))++i.1.2.2)]⟩) (fun i=>match i with| .inl i=>L.length-i.1| .inr i=>L.length-i.1.1) (.inl ⟨0,eK _,rfl⟩) (ao ⟨rfl,rfl,rfl,rfl,rfl,rfl,rfl,trivial⟩ ⟨rfl,rfl,trivial⟩ rfl) ?_
    rintro(⟨j,j2,j3⟩|⟨⟨j,c8,rt⟩,j2,j3,j4,j5⟩)
    ·replace j2:j≤L.length:=j2
     replace j3:(fm k (L.take j) ((ap k).getD n aY))=[]:=j3
     dsimp only
     refine aa<|aa<|ag ?_
     refine aI rfl (fun hc15=>?_) (fun hc15=>?_)
     ·have g1:j<L.length:=by have:=of_decide_eq_true hc15;omega
      have hd:=hL _ (bj (d:=dK) g1)
      have hc2:=pV (k:=k) (d:=L.getD j dK)
      have vc0:((ap k).getD n aY).good:=(hF _ (bj (show n<2 from g9))).g
      refine aA<|aa<|aB<|aa<|dJ 11 [] ?_
      refine aq (eM dK dW g1 Dv rfl) ?_
      refine aq (cg (us:=aX (L.getD j dK)) qV rfl (rn _ _) (dW _) rfl) ?_
      refine aK rfl (J7 hk.k hd.k)<|aa<|ag<|aB ?_
      refine bh (ι:=Sum ({i:Nat // i≤(bG k (L.getD j dK)).length∧(cU k L ((ap k).getD n aY) j i)=[]}) ({x9:Nat×Nat×List CellD // x9.1≤(bG k (L.getD j dK)).length∧(cU k L ((ap k).getD n aY) j x9.1).length≤x9.2.1∧x9.2.1≤maxLen∧x9.2.2.length=(x9.2.1-(cU k L ((ap k).getD n aY) j x9.1).length)*20})) (fun i=>match i with| .inl i=>⟨188,[(1,.v (.c (.s L.length (aw aX L)))),(2,.p 2 0),(7,.v (.c (.s (((ap k)).length) (aw aD ((ap k)))))),(6,.o 81 ((uH k L n).length) c9),(8,.v (.c (.i .i64 (n:Int)))),(10,.v (.c (.i .i64 (j:Int)))),(11,.v (.c (.s (((bG k (L.getD j dK))).length) (aw aj ((bG k (L.getD j dK))))))),(13,.v (.c (.i .i64 (i.1:Int)))),(9,.z)],[(2,40,aX k),(81,49,aw aD (uH k L n)++rs)]⟩| .inr i=>⟨188,[(1,.v (.c (.s L.length (aw aX L)))),(2,.p 2 0),(7,.v (.c (.s (((ap k)).length) (aw aD ((ap k)))))),(6,.o 81 ((uH k L n).length) c9),(8,.v (.c (.i .i64 (n:Int)))),(10,.v (.c (.i .i64 (j:Int)))),(11,.v (.c (.s (((bG k (L.getD j dK))).length) (aw aj ((bG k (L.getD j dK))))))),(13,.v (.c (.i .i64 (i.1.1:Int)))),(9,.o 69 ((cU k L ((ap k).getD n aY) j i.1.1).length) i.1.2.1)],[(2,40,aX k),(81,49,aw aD (uH k L n)++rs),(69,47,aw aj (cU k L ((ap k).getD n aY) j i.1.1)++i.1.2.2)]⟩) (fun i=>match i with| .inl i=>(bG k (L.getD j dK)).length-i.1| .inr i=>(bG k (L.getD j dK)).length-i.1.1) (.inl ⟨0,eK _,rZ.trans j3⟩) (ao ⟨rfl,rfl,rfl,rfl,rfl,rfl,rfl,rfl,rfl,trivial⟩ ⟨rfl,rfl,trivial⟩ rfl) ?_
      rintro(⟨i,k2,k3⟩|⟨⟨i,c7,ru⟩,k2,k3,k4,k5⟩)
      ·replace k2:i≤(bG k (L.getD j dK)).length:=k2
       replace k3:(cU k L ((ap k).getD n aY) j i)=[]:=k3
       dsimp only
       refine aa<|aa<|ag ?_
       refine aI rfl (fun hc16=>?_) (fun hc16=>?_)
       ·have g3:i<(bG k (L.getD j dK)).length:=by have:=of_decide_eq_true hc16;omega
        have hx:=lG hk.k hd.k _ (bj (d:=dPt) g3)
        refine aA<|aa<|aB<|aa<|dJ 9 []<|aq (eM aY ai g0 gF rfl)<|aq (ip ai bW rfl)<|aq (eM dPt ak g3 cA rfl)<|aq (ip ak bv rfl)<|aK rfl (CI vc0 hx) ?_
        refine aI rfl (fun hc17=>?_) (fun hc17=>?_)
        ·have g4:((ap k).getD n aY).on ((bG k (L.getD j dK)).getD i dPt)=true:=hc17
         refine ag<|ar (eM dPt ak g3 cA rfl)<|ar (ip ak bv rfl)<|ar (bX (n:=1) (us:=aj ((((bG k (L.getD j dK)).getD i dPt)))) dr rfl rfl rfl (by decide) (by decide) rfl) ?_
         refine DL.mk<|lW (ys:=aj ((((bG k (L.getD j dK)).getD i dPt)))) dr rfl rfl rfl (by decide) (by decide) (by decide) rfl rfl (fun cg18 rg18 hga18 hgb18 hgc18=>dX ?_)
         refine ag<|ar (cb (by omega) rfl) ?_
         exact⟨.inr ⟨⟨i+1,cg18,rg18⟩,g3,by show(cU k L ((ap k).getD n aY) j (i+1)).length≤cg18;rw[gP g3 g4,k3];exact hga18,hgb18,by show rg18.length=(cg18-(cU k L ((ap k).getD n aY) j (i+1)).length)*20;rw[gP g3 g4,k3];exact hgc18⟩,ao ⟨rfl,rfl,rfl,rfl,rfl,rfl,rfl,rfl,congrArg (fun q=>some (DV.o 69 q cg18)) (show _=(cU k L ((ap k).getD n aY) j (i+1)).length from by rw[gP g3 g4,k3];rfl),trivial⟩ ⟨rfl,rfl,congrArg (fun q=>some (47,q++rg18)) (show _=aw aj (cU k L ((ap k).getD n aY) j (i+1)) from by rw[gP g3 g4,k3,nI,dV]),trivial⟩ rfl,by show(bG k (L.getD j dK)).length-(i+1)<(bG k (L.getD j dK)).length-i;omega⟩
        ·have g4:((ap k).getD n aY).on ((bG k (L.getD j dK)).getD i dPt)=false:=hc17
         refine aA<|ag<|ar (cb (by omega) rfl) ?_
         exact⟨.inl ⟨i+1,g3,(jK g3 g4).trans k3⟩,ao ⟨rfl,rfl,rfl,rfl,rfl,rfl,rfl,rfl,rfl,trivial⟩ ⟨rfl,rfl,trivial⟩ rfl,by show(bG k (L.getD j dK)).length-(i+1)<(bG k (L.getD j dK)).length-i;omega⟩
       ·have hi:i=(bG k (L.getD j dK)).length:=by have:=of_decide_eq_false hc16;omega
        refine a7<|ag<|ar (cb (by omega) rfl) ?_
        exact⟨.inl ⟨j+1,g1,(show(cU k L ((ap k).getD n aY) j i)=(fm k (L.take (j+1)) ((ap k).getD n aY)) from by rw[←fK g1,←hi]).symm.trans k3⟩,ao ⟨rfl,rfl,rfl,rfl,rfl,rfl,rfl,trivial⟩ ⟨rfl,rfl,trivial⟩ rfl,by show L.length-(j+1)<L.length-j;omega⟩
      ·dsimp only at k2 k3 k4 k5
       have k6:(cU k L ((ap k).getD n aY) j i).length≤2*j+2:=yF
       dsimp only
       refine aa<|aa<|ag ?_
       refine aI rfl (fun hc19=>?_) (fun hc19=>?_)
       ·have g3:i<(bG k (L.getD j dK)).length:=by have:=of_decide_eq_true hc19;omega
        have hx:=lG hk.k hd.k _ (bj (d:=dPt) g3)
        refine aA<|aa<|aB<|aa<|dJ 9 []<|aq (eM aY ai g0 gF rfl)<|aq (ip ai bW rfl)<|aq (eM dPt ak g3 cA rfl)<|aq (ip ak bv rfl)<|aK rfl (CI vc0 hx) ?_
        refine aI rfl (fun hc20=>?_) (fun hc20=>?_)
        ·have g4:((ap k).getD n aY).on ((bG k (L.getD j dK)).getD i dPt)=true:=hc20
         refine ag<|ar (eM dPt ak g3 cA rfl)<|ar (ip ak bv rfl)<|ar (bX (n:=1) (us:=aj ((((bG k (L.getD j dK)).getD i dPt)))) dr rfl rfl rfl (by decide) (by decide) rfl) ?_
         refine DL.mk<|l6 (us:=aw aj (cU k L ((ap k).getD n aY) j i)) (rest:=ru) (ys:=aj ((((bG k (L.getD j dK)).getD i dPt)))) dr rfl rfl rfl (by first|exact am ak _|exact am ai _|exact dL) (by assumption) rfl (by decide) (by omega) (by assumption) (by omega) (iM (by omega)) (.inl rfl) rfl (fun cg21 rg21 hga21 hgb21 hgc21=>dX ?_)
         refine ag<|ar (cb (by omega) rfl) ?_
         exact⟨.inr ⟨⟨i+1,cg21,rg21⟩,g3,by show(cU k L ((ap k).getD n aY) j (i+1)).length≤cg21;rw[gP g3 g4,dm];exact hga21,hgb21,by show rg21.length=(cg21-(cU k L ((ap k).getD n aY) j (i+1)).length)*20;rw[gP g3 g4,dm];exact hgc21⟩,ao ⟨rfl,rfl,rfl,rfl,rfl,rfl,rfl,rfl,congrArg (fun q=>some (DV.o 69 q cg21)) (show _=(cU k L ((ap k).getD n aY) j (i+1)).length from by rw[gP g3 g4,dm];rfl),trivial⟩ ⟨rfl,rfl,congrArg (fun q=>some (47,q++rg21)) (show _=aw aj (cU k L ((ap k).getD n aY) j (i+1)) from by rw[gP g3 g4,dB,dV]),trivial⟩ rfl,by show(bG k (L.getD j dK)).length-(i+1)<(bG k (L.getD j dK)).length-i;omega⟩
        ·have g4:((ap k).getD n aY).on ((bG k (L.getD j dK)).getD i dPt)=false:=hc20
         refine aA<|ag<|ar (cb (by omega) rfl) ?_
         exact⟨.inr ⟨⟨i+1,c7,ru⟩,g3,by show(cU k L ((ap k).getD n aY) j (i+1)).length≤c7;rw[jK g3 g4];exact k3,k4,by show ru.length=(c7-(cU k L ((ap k).getD n aY) j (i+1)).length)*20;rw[jK g3 g4];exact k5⟩,ao ⟨rfl,rfl,rfl,rfl,rfl,rfl,rfl,rfl,congrArg (fun q=>some (DV.o 69 (List.length q) c7)) ((jK g3 g4).symm),trivial⟩ ⟨rfl,rfl,congrArg (fun q=>some (47,aw aj q++ru)) ((jK g3 g4).symm),trivial⟩ rfl,by show(bG k (L.getD j dK)).length-(i+1)<(bG k (L.getD j dK)).length-i;omega⟩
       ·have hi:i=(bG k (L.getD j dK)).length:=by have:=of_decide_eq_false hc19;omega
        refine a7<|ag<|ar (cb (by omega) rfl) ?_
        exact⟨.inr ⟨⟨j+1,c7,ru⟩,g1,by show(fm k (L.take (j+1)) ((ap k).getD n aY)).length≤c7;rw[←(show(cU k L ((ap k).getD n aY) j i)=(fm k (L.take (j+1)) ((ap k).getD n aY)) from by rw[←fK g1,←hi])];exact k3,k4,by show ru.length=(c7-(fm k (L.take (j+1)) ((ap k).getD n aY)).length)*20;rw[←(show(cU k L ((ap k).getD n aY) j i)=(fm k (L.take (j+1)) ((ap k).getD n aY)) from by rw[←fK g1,←hi])];exact k5⟩,ao ⟨rfl,rfl,rfl,rfl,rfl,rfl,congrArg (fun q=>some (DV.o 69 (List.length q) c7)) ((show(cU k L ((ap k).getD n aY) j i)=(fm k (L.take (j+1)) ((ap k).getD n aY)) from by rw[←fK g1,←hi])),trivial⟩ ⟨rfl,rfl,congrArg (fun q=>some (47,aw aj q++ru)) ((show(cU k L ((ap k).getD n aY) j i)=(fm k (L.take (j+1)) ((ap k).getD n aY)) from by rw[←fK g1,←hi])),trivial⟩ rfl,by show L.length-(j+1)<L.length-j;omega⟩
     ·have hj:j=L.length:=by have:=of_decide_eq_false hc15;omega
      refine vw (t:=9) rfl<|a7 ?_
      exact⟨(),ao ⟨rfl,rfl,rfl,rfl,rfl,congrArg (fun q:List Pt=>some (DV.v (.c (.s q.length (aw aj q))))) (j3.symm.trans (by rw[hj,lJ])),trivial⟩ ⟨rfl,rfl,trivial⟩ rfl⟩
    ·dsimp only at j2 j3 j4 j5
     dsimp only
     refine aa<|aa<|ag ?_
     refine aI rfl (fun hc22=>?_) (fun hc22=>?_)
     ·have g1:j<L.length:=by have:=of_decide_eq_true hc22;omega
      have hd:=hL _ (bj (d:=dK) g1)
      have hc2:=pV (k:=k) (d:=L.getD j dK)
      have vc0:((ap k).getD n aY).good:=(hF _ (bj (show n<2 from g9))).g
      refine aA<|aa<|aB<|aa<|dJ 11 [] ?_
      refine aq (eM dK dW g1 Dv rfl) ?_
      refine aq (cg (us:=aX (L.getD j dK)) qV rfl (rn _ _) (dW _) rfl) ?_
      refine aK rfl (J7 hk.k hd.k)<|aa<|ag<|aB<|bh (ι:={x9:Nat×Nat×List CellD // x9.1≤(bG k (L.getD j dK)).length∧(cU k L ((ap k).getD n aY) j x9.1).length≤x9.2.1∧x9.2.1≤maxLen∧x9.2.2.length=(x9.2.1-(cU k L ((ap k).getD n aY) j x9.1).length)*20}) (fun i=>⟨188,[(1,.v (.c (.s L.length (aw aX L)))),(2,.p 2 0),(7,.v (.c (.s (((ap k)).length) (aw aD ((ap k)))))),(6,.o 81 ((uH k L n).length) c9),(8,.v (.c (.i .i64 (n:Int)))),(10,.v (.c (.i .i64 (j:Int)))),(11,.v (.c (.s (((bG k (L.getD j dK))).length) (aw aj ((bG k (L.getD j dK))))))),(13,.v (.c (.i .i64 (i.1.1:Int)))),(9,.o 69 ((cU k L ((ap k).getD n aY) j i.1.1).length) i.1.2.1)],[(2,40,aX k),(81,49,aw aD (uH k L n)++rs),(69,47,aw aj (cU k L ((ap k).getD n aY) j i.1.1)++i.1.2.2)]⟩) (fun i=>(bG k (L.getD j dK)).length-i.1.1) ⟨⟨0,c8,rt⟩,eK _,by show(cU k L ((ap k).getD n aY) j 0).length≤c8;rw[rZ];exact j3,j4,by show rt.length=(c8-(cU k L ((ap k).getD n aY) j 0).length)*20;rw[rZ];exact j5⟩ (ao ⟨rfl,rfl,rfl,rfl,rfl,rfl,rfl,rfl,congrArg (fun q=>some (DV.o 69 (List.length q) c8)) (rZ.symm),trivial⟩ ⟨rfl,rfl,congrArg (fun q=>some (47,aw aj q++rt)) (rZ.symm),trivial⟩ rfl) ?_
      rintro⟨⟨i,c7,ru⟩,k2,k3,k4,k5⟩
      dsimp only at k2 k3 k4 k5
      have k6:(cU k L ((ap k).getD n aY) j i).length≤2*j+2:=yF
      dsimp only
      refine aa<|aa<|ag ?_
      refine aI rfl (fun hc23=>?_) (fun hc23=>?_)
      ·have g3:i<(bG k (L.getD j dK)).length:=by have:=of_decide_eq_true hc23;omega
       have hx:=lG hk.k hd.k _ (bj (d:=dPt) g3)
       refine aA<|aa<|aB<|aa<|dJ 9 []<|aq (eM aY ai g0 gF rfl)<|aq (ip ai bW rfl)<|aq (eM dPt ak g3 cA rfl)<|aq (ip ak bv rfl)<|aK rfl (CI vc0 hx) ?_
       refine aI rfl (fun hc24=>?_) (fun hc24=>?_)
       ·have g4:((ap k).getD n aY).on ((bG k (L.getD j dK)).getD i dPt)=true:=hc24
        refine ag<|ar (eM dPt ak g3 cA rfl)<|ar (ip ak bv rfl)<|ar (bX (n:=1) (us:=aj ((((bG k (L.getD j dK)).getD i dPt)))) dr rfl rfl rfl (by decide) (by decide) rfl) ?_
        refine DL.mk<|l6 (us:=aw aj (cU k L ((ap k).getD n aY) j i)) (rest:=ru) (ys:=aj ((((bG k (L.getD j dK)).getD i dPt)))) dr rfl rfl rfl (by first|exact am ak _|exact am ai _|exact dL) (by assumption) rfl (by decide) (by omega) (by assumption) (by omega) (iM (by omega)) (.inl rfl) rfl (fun cg25 rg25 hga25 hgb25 hgc25=>dX ?_)
        refine ag<|ar (cb (by omega) rfl) ?_
        exact⟨⟨⟨i+1,cg25,rg25⟩,g3,by show(cU k L ((ap k).getD n aY) j (i+1)).length≤cg25;rw[gP g3 g4,dm];exact hga25,hgb25,by show rg25.length=(cg25-(cU k L ((ap k).getD n aY) j (i+1)).length)*20;rw[gP g3 g4,dm];exact hgc25⟩,ao ⟨rfl,rfl,rfl,rfl,rfl,rfl,rfl,rfl,congrArg (fun q=>some (DV.o 69 q cg25)) (show _=(cU k L ((ap k).getD n aY) j (i+1)).length from by rw[gP g3 g4,dm];rfl),trivial⟩ ⟨rfl,rfl,congrArg (fun q=>some (47,q++rg25)) (show _=aw aj (cU k L ((ap k).getD n aY) j (i+1)) from by rw[gP g3 g4,dB,dV]),trivial⟩ rfl,by show(bG k (L.getD j dK)).length-(i+1)<(bG k (L.getD j dK)).length-i;omega⟩
       ·have g4:((ap k).getD n aY).on ((bG k (L.getD j dK)).getD i dPt)=false:=hc24
        refine aA<|ag<|ar (cb (by omega) rfl) ?_
        exact⟨⟨⟨i+1,c7,ru⟩,g3,by show(cU k L ((ap k).getD n aY) j (i+1)).length≤c7;rw[jK g3 g4];exact k3,k4,by show ru.length=(c7-(cU k L ((ap k).getD n aY) j (i+1)).length)*20;rw[jK g3 g4];exact k5⟩,ao ⟨rfl,rfl,rfl,rfl,rfl,rfl,rfl,rfl,congrArg (fun q=>some (DV.o 69 (List.length q) c7)) ((jK g3 g4).symm),trivial⟩ ⟨rfl,rfl,congrArg (fun q=>some (47,aw aj q++ru)) ((jK g3 g4).symm),trivial⟩ rfl,by show(bG k (L.getD j dK)).length-(i+1)<(bG k (L.getD j dK)).length-i;omega⟩
      ·have hi:i=(bG k (L.getD j dK)).length:=by have:=of_decide_eq_false hc23;omega
       refine a7<|ag<|ar (cb (by omega) rfl) ?_
       exact⟨.inr ⟨⟨j+1,c7,ru⟩,g1,by show(fm k (L.take (j+1)) ((ap k).getD n aY)).length≤c7;rw[←(show(cU k L ((ap k).getD n aY) j i)=(fm k (L.take (j+1)) ((ap k).getD n aY)) from by rw[←fK g1,←hi])];exact k3,k4,by show ru.length=(c7-(fm k (L.take (j+1)) ((ap k).getD n aY)).length)*20;rw[←(show(cU k L ((ap k).getD n aY) j i)=(fm k (L.take (j+1)) ((ap k).getD n aY)) from by rw[←fK g1,←hi])];exact k5⟩,ao ⟨rfl,rfl,rfl,rfl,rfl,rfl,congrArg (fun q=>some (DV.o 69 (List.length q) c7)) ((show(cU k L ((ap k).getD n aY) j i)=(fm k (L.take (j+1)) ((ap k).getD n aY)) from by rw[←fK g1,←hi])),trivial⟩ ⟨rfl,rfl,congrArg (fun q=>some (47,aw aj q++ru)) ((show(cU k L ((ap k).getD n aY) j i)=(fm k (L.take (j+1)) ((ap k).getD n aY)) from by rw[←fK g1,←hi])),trivial⟩ rfl,by show L.length-(j+1)<L.length-j;omega⟩
     ·have hj:j=L.length:=by have:=of_decide_eq_false hc22;omega
      refine cB (t:=9) (m:=20) (us:=aw aj (fm k (L.take j) ((ap k).getD n aY))) rfl rfl (jC (n:=(fm k (L.take j) ((ap k).getD n aY)).length) (by first|exact am ak _|exact am ai _|exact dL) (by first|assumption|simp) (by omega)) (by omega) (by assumption) (gh (by first|exact am ak _|exact am ai _|exact dL)) ?_
      refine a7 ?_
      exact⟨(),ao ⟨rfl,rfl,rfl,rfl,rfl,congrArg (fun q:List Pt=>some (DV.v (.c (.s q.length (aw aj q))))) (by rw[hj,lJ]),trivial⟩ ⟨rfl,rfl,trivial⟩ rfl⟩
   ·rintro⟨⟩
    try dsimp only
    refine aa<|ag<|ar (eM aY ai g0 gF rfl)<|ar (ip ai bW rfl)<|ac rfl ((show Ok _ _ _ [.c (.s (Bx k L ((ap k).getD n aY)).length (aw aD (Bx k L ((ap k).getD n aY)))),_] from Gl vc.g (fun q hq=>(wO hk hL q hq).1) (iK uL (by omega)) (fun q hq=>(wO hk hL q hq).2) (zO vc.ne)))<|ag ?_
    refine DL.mk<|vT (n:=(uH k L n).length) (c:=c9) (q:=((Bx k L ((ap k).getD n aY))).length) (us:=aw aD (uH k L n)) (rest:=rs) (N':=(uH k L n).length+(Bx k L ((ap k).getD n aY)).length) (zs':=aw aD (uH k L n)++aw aD (Bx k L ((ap k).getD n aY))) lT rfl rfl rfl (rfl) (am ai _) (h5) (am ai _) (by decide) (by omega) (by assumption) (by omega) (iM (by omega)) (.inl rfl) (rfl) (rfl) rfl (fun cg26 rg26 hga26 hgb26 hgc26=>dX ?_)
    refine ag<|ar (cb (by omega) rfl) ?_
    exact⟨⟨⟨n+1,cg26,rg26⟩,by omega,by omega,by show(uH k L (n+1)).length≤cg26;rw[(show uH k L (n+1)=uH k L n++Bx k L ((ap k).getD n aY) from jJ g0),dm];exact hga26,hgb26,by show rg26.length=(cg26-(uH k L (n+1)).length)*66;rw[(show uH k L (n+1)=uH k L n++Bx k L ((ap k).getD n aY) from jJ g0),dm];exact hgc26⟩,ao ⟨rfl,rfl,rfl,congrArg (fun q=>some (DV.o 81 q cg26)) (by rw[(show uH k L (n+1)=uH k L n++Bx k L ((ap k).getD n aY) from jJ g0),dm]),rfl,trivial⟩ ⟨rfl,congrArg (fun q=>some (49,q++rg26)) (by rw[(show uH k L (n+1)=uH k L n++Bx k L ((ap k).getD n aY) from jJ g0),dB]),trivial⟩ rfl,by show 2-(n+1)<2-n;omega⟩
  ·have hp:n=2:=by
    have h8:=of_decide_eq_false hc14
    have h9: ¬(n:Int)<((2:Nat):Int):=h8
    omega
   have eR:uH k L n=b4 k L:=by rw[hp];rfl
   have h3r:(b4 k L).length≤c9:=eR▸h3
   have h5r:rs.length=(c9-(b4 k L).length)*66:=eR▸h5
   have lN:(b4 k L).length≤9*2:=KJ lL (ce _)
   have hN:(b4 k L).length≤100:=by omega
   have hMx:(b4 k L).length≤9223372036854775807:=by omega
   refine lj (σ':=⟨188,[(1,.v (.c (.s L.length (aw aX L)))),(2,.p 2 0),(7,.v (.c (.s (((ap k)).length) (aw aD ((ap k)))))),(6,.o 81 ((b4 k L).length) c9)],[(2,40,aX k),(81,49,aw aD (b4 k L)++rs)]⟩) (ao ⟨rfl,rfl,rfl,congrArg (fun q=>some (DV.o 81 (List.length q) c9)) eR,trivial⟩ ⟨rfl,congrArg (fun q=>some (49,aw aD q++rs)) eR,trivial⟩ rfl) ?_
   refine cB (t:=6) (m:=66) (us:=aw aD (b4 k L)) rfl rfl (jC (n:=(b4 k L).length) (by first|exact am ak _|exact am ai _|exact dL) (by first|assumption|simp) (by omega)) (by omega) (by assumption) (gh (by first|exact am ak _|exact am ai _|exact dL)) ?_
   refine a7<|aa<|ag ?_
   refine DL.mk<|pi (ko (n:=((b4 k L).length)) WD rfl rfl (by omega) (by omega) rfl) rfl<|dX ?_
   refine aa<|ag<|aa<|aa<|ag<|aB<|bh (ι:={n:Nat // n≤(b4 k L).length}) (fun i=>⟨188,[(1,.v (.c (.s L.length (aw aX L)))),(2,.p 2 0),(6,.v (.c (.s (((b4 k L)).length) (aw aD ((b4 k L)))))),(16,.o 84 ((b4 k L).length) ((b4 k L).length)),(17,.v (.c (.i .i64 (((MI e i.1:Nat):Int))))),(18,.v (.c (.i .i64 (i.1:Int))))],[(2,40,aX k),(84,4,nL e (b4 k L).length i.1++[])]⟩) (fun i=>(b4 k L).length-i.1) ⟨0,eK _⟩ (ao ⟨rfl,rfl,rfl,rfl,rfl,rfl,trivial⟩ ⟨rfl,congrArg (fun q=>some (4,q)) JB,trivial⟩ rfl) ?_
   rintro⟨n,h2⟩
   replace h2:n≤(b4 k L).length:=h2
   dsimp only
   refine aa<|aa<|ag ?_
   refine aI rfl (fun hc27=>?_) (fun hc27=>?_)
   ·have g1:n<(b4 k L).length:=by have:=of_decide_eq_true hc27;omega
    obtain⟨gm,om⟩:=hm n g1
    have cl:=JC (e:=e) (n:=n)
    refine aA<|aa<|aB<|aa<|bg<|bK 4<|aR (eM aY ai g1 gF rfl)<|aR (ip ai bW rfl)<|aR (cj rfl (om))<|bK 1<|aR (cj rfl (ez (c:=e n) (acF hL lL gm) (he n g1).symm))<|aR (bq zG rfl rfl (by omega) rfl) ?_
    refine f8 (bd (us:=nL e (b4 k L).length (n+1)++[]) kP rfl rfl rfl rfl (by rw[jc,yB];omega) (F5 g1) rfl) ?_
    refine ba<|aa<|bg<|bK 2<|aR (bq zG rfl rfl (by omega) rfl) ?_
    refine aR (kW kP rfl rfl (TJ g1) rfl) ?_
    refine ba ?_
    refine aI rfl (fun hc28=>?_) (fun hc28=>?_)
    ·have g2:e n=true:=hc28
     refine ag<|ar (ci (((MI e n+1:Nat):Int)) ((bk (by omega) (by omega)).trans (congrArg some (by omega))) rfl)<|ag<|ar (cb (by omega) rfl) ?_
     exact⟨⟨n+1,g1⟩,ao ⟨rfl,rfl,rfl,rfl,congrArg (fun q:Nat=>some (DV.v (.c (.i .i64 (q:Int))))) ((Kg g2).symm),rfl,trivial⟩ ⟨rfl,rfl,trivial⟩ rfl,by show(b4 k L).length-(n+1)<(b4 k L).length-n;omega⟩
    ·have g2:e n=false:=hc28
     refine aA<|ag<|ar (cb (by omega) rfl) ?_
     exact⟨⟨n+1,g1⟩,ao ⟨rfl,rfl,rfl,rfl,congrArg (fun q:Nat=>some (DV.v (.c (.i .i64 (q:Int))))) ((Ra g2).symm),rfl,trivial⟩ ⟨rfl,rfl,trivial⟩ rfl,by show(b4 k L).length-(n+1)<(b4 k L).length-n;omega⟩
   ·have hp:n=(b4 k L).length:=by have:=of_decide_eq_false hc27;omega
    refine lj (σ':=⟨188,[(1,.v (.c (.s L.length (aw aX L)))),(2,.p 2 0),(6,.v (.c (.s (((b4 k L)).length) (aw aD ((b4 k L)))))),(16,.o 84 ((b4 k L).length) ((b4 k L).length)),(17,.v (.c (.i .i64 (((MI e ((b4 k L).length):Nat):Int)))))],[(2,40,aX k),(84,4,te e (b4 k L).length++[])]⟩) (ao ⟨rfl,rfl,rfl,rfl,congrArg (fun q:Nat=>some (DV.v (.c (.i .i64 (q:Int))))) (congrArg (MI e) hp),trivial⟩ ⟨rfl,congrArg (fun q=>some (4,q++[])) (by rw[hp];exact CY),trivial⟩ rfl) ?_
    refine cB (t:=16) (m:=1) (us:=te e (b4 k L).length) rfl rfl (jC (n:=(b4 k L).length) (by first|exact am ak _|exact am ai _|exact dL) (by first|assumption|simp) (by omega)) (by omega) (by assumption) (gh (by first|exact am ak _|exact am ai _|exact dL)) ?_
    refine a7<|aa<|aa<|ag ?_
    refine aI rfl (fun hc29=>?_) (fun hc29=>?_)
    ·obtain⟨ru,rz,_⟩:=hZ.elim id fun h=>absurd (Ka (e:=e) (n:=(b4 k L).length) (by have:=of_decide_eq_true hc29;omega)) fun q=>h.2.2.2.1.elim fun s hs=>absurd (q s hs.1) (by rw[hs.2];decide)
     subst ru rz
     refine aa<|ag<|aZ ?_
     exact ah (az (az ae))
    ·obtain⟨ru,rz,hr,⟨s,hs,es⟩,hG⟩:=hZ.elim (fun h=>absurd hc29 (by rw[NP h.2.2];simp)) id
     subst ru rz
     refine aA<|aa<|bg<|aR (ed rfl) ?_
     refine ba<|aa<|aa<|ag<|aB ?_
     refine bh (ι:=Sum ({n:Nat // n≤(b4 k L).length∧(jl (b4 k L) e n)=[]}) ({x9:Nat×Nat×List CellD // x9.1≤(b4 k L).length∧(jl (b4 k L) e x9.1).length≤x9.2.1∧x9.2.1≤maxLen∧x9.2.2.length=(x9.2.1-(jl (b4 k L) e x9.1).length)*66})) (fun i=>match i with| .inl i=>⟨188,[(6,.v (.c (.s (((b4 k L)).length) (aw aD ((b4 k L)))))),(16,.v (.c (.s ((b4 k L).length) (te e (b4 k L).length)))),(20,.v (.c (.i .i64 (i.1:Int)))),(19,.z)],[]⟩| .inr i=>⟨188,[(6,.v (.c (.s (((b4 k L)).length) (aw aD ((b4 k L)))))),(16,.v (.c (.s ((b4 k L).length) (te e (b4 k L).length)))),(20,.v (.c (.i .i64 (i.1.1:Int)))),(19,.o 186 ((jl (b4 k L) e i.1.1).length) i.1.2.1)],[(186,49,aw aD (jl (b4 k L) e i.1.1)++i.1.2.2)]⟩) (fun i=>match i with| .inl i=>(b4 k L).length-i.1| .inr i=>(b4 k L).length-i.1.1) (.inl ⟨0,eK _,rfl⟩) (ao ⟨rfl,rfl,rfl,rfl,trivial⟩ trivial rfl) ?_
     rintro(⟨n,i2,i3⟩|⟨⟨n,c9,rs⟩,i2,i3,i4,i5⟩)
     ·replace i2:n≤(b4 k L).length:=i2
      replace i3:(jl (b4 k L) e n)=[]:=i3
      dsimp only
      refine aa<|aa<|ag ?_
      refine aI rfl (fun hc30=>?_) (fun hc30=>?_)
      ·have g1:n<(b4 k L).length:=by have:=of_decide_eq_true hc30;omega
       obtain⟨kb,hkb⟩: ∃x,x=(n+(b4 k L).length-1)%(b4 k L).length:=⟨_,rfl⟩
       have gb:kb<(b4 k L).length:=hkb▸rV _ hr.pos
       have eb:e kb=e (n+(b4 k L).length-1):=by rw[hkb,hr.mod]
       obtain⟨kc,hkc⟩: ∃x,x=(n+1)%(b4 k L).length:=⟨_,rfl⟩
       refine aA<|aa<|aB<|aa<|ag ?_
       refine ar (ci (((n+(b4 k L).length:Nat):Int)) ((bk (by omega) (by omega)).trans (congrArg some (by omega))) rfl)<|ar (ci (((n+(b4 k L).length-1:Nat):Int)) ((bO (by omega) (by omega)).trans (congrArg some (by omega))) rfl) ?_
       refine ar (gn (r:=(kb:Int)) rfl rfl (by omega) (by rw[hkb];exact(vv _ _).symm) rfl) ?_
       refine aa<|aa<|ag<|ar (bH (us:=[CellD.b (e n)]++(te e (b4 k L).length).drop (n+1)) zG rfl rfl (by omega) (dL) (pG g1) rfl) ?_
       refine ar (b5 kP rfl rfl rfl) ?_
       refine jT (bz rfl) (fun c31 hb31=>?_)
       cases c31
       ·refine ar (bH (us:=[CellD.b (e kb)]++(te e (b4 k L).length).drop (kb+1)) zG rfl rfl (by omega) (dL) (pG gb) rfl) ?_
        refine ar (b5 kP rfl rfl rfl) ?_
        refine aI rfl (fun hc32=>?_) (fun hc32=>?_)
        ·have o3:(e n&& !e (n+(b4 k L).length-1))=false:=by have h8:e kb=true:=hc32;rw[eb] at h8;rw[h8];simp
         refine a7<|ag<|ar (cb (by omega) rfl) ?_
         exact⟨.inl ⟨n+1,g1,(xg o3).trans i3⟩,ao ⟨rfl,rfl,rfl,rfl,trivial⟩ trivial rfl,by show(b4 k L).length-(n+1)<(b4 k L).length-n;omega⟩
        ·have o1:e n=true:=by have h8:(!e n)=false:=hb31;simpa using h8
         have o2:e (n+(b4 k L).length-1)=false:=by have h8:e kb=false:=hc32;rw[←eb];exact h8
         have vX:CvV (jU (b4 k L) e n):=hG n g1 o1 o2
         have eI:(jl (b4 k L) e (n+1))=tH (jl (b4 k L) e n) (jU (b4 k L) e n):=US o1 o2
         refine aA<|aa<|ag<|ar (eM aY ai g1 gF rfl)<|ar (ip ai bW rfl)<|re (de bW rfl rfl rfl (ai _) rfl rfl) ?_
         refine aa<|aa<|ag<|ar (cb (by omega) rfl) ?_
         refine ar (gn (r:=(kc:Int)) rfl rfl (by omega) (by rw[hkc];exact(vv _ _).symm) rfl) ?_
         refine aB<|bh (ι:={x9:Nat×Nat // x9.1≤(b4 k L).length∧(∀j,j<x9.1→e (n+1+j)=true)∧x9.2=(n+1+x9.1)%(b4 k L).length}) (fun i=>⟨188,[(6,.v (.c (.s (((b4 k L)).length) (aw aD ((b4 k L)))))),(16,.v (.c (.s ((b4 k L).length) (te e (b4 k L).length)))),(20,.v (.c (.i .i64 (n:Int)))),(19,.z),(22,.p 22 0),(23,.v (.c (.i .i64 (i.1.2:Int))))],[(22,49,aD ((uu (b4 k L) n (n+i.1.1))))]⟩) (fun i=>(b4 k L).length-i.1.1) ⟨(0,kc),eK _,fun j hj=>absurd hj (by omega),hkc⟩ (ao ⟨rfl,rfl,rfl,rfl,rfl,rfl,trivial⟩ ⟨congrArg (fun q=>some (49,aD q)) (UT g1).symm,trivial⟩ rfl) ?_
         rintro⟨⟨j,kx⟩,j2,j3,j4⟩
         dsimp only at j2 j3 j4
         have gkx:kx<(b4 k L).length:=j4▸rV _ hr.pos
         have ekx:e kx=e (n+1+j):=by rw[j4,hr.mod]
         dsimp only
         refine aa<|aa<|ag<|ar (bH (us:=[CellD.b (e kx)]++(te e (b4 k L).length).drop (kx+1)) zG rfl rfl (by omega) (dL) (pG gkx) rfl) ?_
         refine ar (b5 kP rfl rfl rfl) ?_
         refine aI rfl (fun hc33=>?_) (fun hc33=>?_)
         ·have g4:e (n+1+j)=true:=by rw[←ekx];exact hc33
          have g5:j+1≤(b4 k L).length:=Nat.succ_le_of_lt ((io j (b4 k L).length).elim id fun q=>absurd (VM hr g1 hs fun i hi=>j3 i (by omega)) (by rw[es];decide))
          refine aA<|aa<|aB<|bg<|bK 2<|aR (eM aY ai gkx gF rfl)<|aR (nO Al rfl rfl rfl) ?_
          refine aR (cg (us:=aj ((b4 k L).getD kx aY).q) bv rfl (yg _ _) (ak _) rfl) ?_
          refine bK 1<|f8 (bd (us:=aD (((uu (b4 k L) n (n+j))).ends ((uu (b4 k L) n (n+j))).p ((((b4 k L).getD kx aY).q)))) bv rfl rfl rfl rfl (by rw[ai];decide) (wu _ _) rfl) ?_
          refine ba<|ag<|ar (cb (by omega) rfl) ?_
          refine ar (gn (r:=(((kx+1)%(b4 k L).length:Nat):Int)) rfl rfl (by omega) ((vv _ _).symm) rfl) ?_
          exact⟨⟨(j+1,(kx+1)%(b4 k L).length),g5,fun i hi=>(io i j).elim (j3 i) fun q=>(show i=j by omega)▸g4,by show(kx+1)%(b4 k L).length=(n+1+(j+1))%(b4 k L).length;rw[j4,Nat.mod_add_mod];rfl⟩,ao ⟨rfl,rfl,rfl,rfl,rfl,rfl,trivial⟩ ⟨congrArg (fun q=>some (49,aD q)) (by rw[←Ho,j4,show n+1+j=n+(j+1) from by omega]),trivial⟩ rfl,by show(b4 k L).length-(j+1)<(b4 k L).length-j;omega⟩
         ·have g4:e (n+1+j)=false:=by rw[←ekx];exact hc33
          have eX:(uu (b4 k L) n (n+j))=(jU (b4 k L) e n):=by
           show uu _ n (n+j)=uu _ n (n+r7 e n (b4 k L).length)
           rw[B4 j2 j3 (.inr g4)]
          have eA:(jl (b4 k L) e (n+1))=[(jU (b4 k L) e n)]:=by rw[eI,i3];rfl
          refine lj (σ':=⟨188,[(6,.v (.c (.s (((b4 k L)).length) (aw aD ((b4 k L)))))),(16,.v (.c (.s ((b4 k L).length) (te e (b4 k L).length)))),(20,.v (.c (.i .i64 (n:Int)))),(19,.z),(22,.p 22 0)],[(22,49,aD ((jU (b4 k L) e n)))]⟩) (ao ⟨rfl,rfl,rfl,rfl,rfl,trivial⟩ ⟨congrArg (fun q=>some (49,aD q)) eX,trivial⟩ rfl) ?_
          refine a7<|aa<|ag<|aa<|aB ?_
          refine bh (ι:=Nat) (fun i=>match i with|_=>⟨188,[(6,.v (.c (.s (((b4 k L)).length) (aw aD ((b4 k L)))))),(16,.v (.c (.s ((b4 k L).length) (te e (b4 k L).length)))),(20,.v (.c (.i .i64 (n:Int)))),(19,.z),(22,.p 22 0),(24,.v (.c (.i .i64 0)))],[(22,49,aD ((jU (b4 k L) e n)))]⟩) (fun i=>0-i) 0 (ao ⟨rfl,rfl,rfl,rfl,rfl,rfl,trivial⟩ ⟨rfl,trivial⟩ rfl) ?_
          intro i
          match i with
          |_=>
           show Dw _ _ ⟨188,[(6,.v (.c (.s (((b4 k L)).length) (aw aD ((b4 k L)))))),(16,.v (.c (.s ((b4 k L).length) (te e (b4 k L).length)))),(20,.v (.c (.i .i64 (n:Int)))),(19,.z),(22,.p 22 0),(24,.v (.c (.i .i64 0)))],[(22,49,aD ((jU (b4 k L) e n)))]⟩ _
           refine aa<|aa<|dJ 15 []<|aq (L5 gF rfl rfl) ?_
           refine aq (bz rfl)<|a8 rfl<|a7<|dJ 9 []<|aq (Gm gF rfl rfl rfl) ?_
           refine aq (j9 (ai _) bW rfl)<|aq (tZ (us:=aD (jU (b4 k L) e n)) lT rfl (uV rfl (ai _)) (d8 (ai _)) (by decide) (by decide) rfl) ?_
           refine aq (Fx gF rfl rfl rfl) ?_
           refine aq (Ey lT rfl rfl (d8 (ai _)) (by decide) (by decide) (by decide) (by decide) rfl) ?_
           refine DL.mk<|wE (q:=1) (ys:=aD (jU (b4 k L) e n)) (zs':=aD (jU (b4 k L) e n)) lT rfl rfl (d8 (ai _)) (by decide) (by decide) (by decide) rfl (rfl) rfl (fun cg34 rg34 hga34 hgb34 hgc34=>dX ?_)
           refine ag<|ar (cb (by omega) rfl) ?_
           exact⟨.inr ⟨⟨n+1,cg34,rg34⟩,g1,by show(jl (b4 k L) e (n+1)).length≤cg34;rw[eA];exact hga34,hgb34,by show rg34.length=(cg34-(jl (b4 k L) e (n+1)).length)*66;rw[eA];exact hgc34⟩,ao ⟨rfl,rfl,rfl,congrArg (fun q=>some (DV.o 186 (List.length q) cg34)) eA.symm,trivial⟩ ⟨congrArg (fun q=>some (49,q++rg34)) (show _=aw aD (jl (b4 k L) e (n+1)) from by rw[eA,dV]),trivial⟩ rfl,by show(b4 k L).length-(n+1)<(b4 k L).length-n;omega⟩
       ·have o3:(e n&& !e (n+(b4 k L).length-1))=false:=by have h8:(!e n)=true:=hb31;simp at h8;rw[h8];rfl
        refine df rfl<|a7<|ag<|ar (cb (by omega) rfl) ?_
        exact⟨.inl ⟨n+1,g1,(xg o3).trans i3⟩,ao ⟨rfl,rfl,rfl,rfl,trivial⟩ trivial rfl,by show(b4 k L).length-(n+1)<(b4 k L).length-n;omega⟩
      ·have hp:n=(b4 k L).length:=by have:=of_decide_eq_false hc30;omega
       refine vw (t:=19) rfl<|a7<|aa<|ag<|aZ ?_
       rw[show(jl (b4 k L) e ((b4 k L).length))=[] from hp▸i3]
       exact ah (az (az ae))
     ·dsimp only at i2 i3 i4 i5
      have i6:(jl (b4 k L) e n).length≤n:=SX
      dsimp only
      refine aa<|aa<|ag ?_
      refine aI rfl (fun hc35=>?_) (fun hc35=>?_)
      ·have g1:n<(b4 k L).length:=by have:=of_decide_eq_true hc35;omega
       obtain⟨kb,hkb⟩: ∃x,x=(n+(b4 k L).length-1)%(b4 k L).length:=⟨_,rfl⟩
       have gb:kb<(b4 k L).length:=hkb▸rV _ hr.pos
       have eb:e kb=e (n+(b4 k L).length-1):=by rw[hkb,hr.mod]
       obtain⟨kc,hkc⟩: ∃x,x=(n+1)%(b4 k L).length:=⟨_,rfl⟩
       refine aA<|aa<|aB<|aa<|ag ?_
       refine ar (ci (((n+(b4 k L).length:Nat):Int)) ((bk (by omega) (by omega)).trans (congrArg some (by omega))) rfl)<|ar (ci (((n+(b4 k L).length-1:Nat):Int)) ((bO (by omega) (by omega)).trans (congrArg some (by omega))) rfl) ?_
       refine ar (gn (r:=(kb:Int)) rfl rfl (by omega) (by rw[hkb];exact(vv _ _).symm) rfl) ?_
       refine aa<|aa<|ag<|ar (bH (us:=[CellD.b (e n)]++(te e (b4 k L).length).drop (n+1)) zG rfl rfl (by omega) (dL) (pG g1) rfl) ?_
       refine ar (b5 kP rfl rfl rfl) ?_
       refine jT (bz rfl) (fun c36 hb36=>?_)
       cases c36
       ·refine ar (bH (us:=[CellD.b (e kb)]++(te e (b4 k L).length).drop (kb+1)) zG rfl rfl (by omega) (dL) (pG gb) rfl) ?_
        refine ar (b5 kP rfl rfl rfl) ?_
        refine aI rfl (fun hc37=>?_) (fun hc37=>?_)
        ·have o3:(e n&& !e (n+(b4 k L).length-1))=false:=by have h8:e kb=true:=hc37;rw[eb] at h8;rw[h8];simp
         refine a7<|ag<|ar (cb (by omega) rfl) ?_
         exact⟨.inr ⟨⟨n+1,c9,rs⟩,g1,by show(jl (b4 k L) e (n+1)).length≤c9;rw[xg o3];exact i3,i4,by show rs.length=(c9-(jl (b4 k L) e (n+1)).length)*66;rw[xg o3];exact i5⟩,ao ⟨rfl,rfl,rfl,congrArg (fun q=>some (DV.o 186 (List.length q) c9)) (xg o3).symm,trivial⟩ ⟨congrArg (fun q=>some (49,aw aD q++rs)) (xg o3).symm,trivial⟩ rfl,by show(b4 k L).length-(n+1)<(b4 k L).length-n;omega⟩
        ·have o1:e n=true:=by have h8:(!e n)=false:=hb36;simpa using h8
         have o2:e (n+(b4 k L).length-1)=false:=by have h8:e kb=false:=hc37;rw[←eb];exact h8
         have vX:CvV (jU (b4 k L) e n):=hG n g1 o1 o2
         have eI:(jl (b4 k L) e (n+1))=tH (jl (b4 k L) e n) (jU (b4 k L) e n):=US o1 o2
         refine aA<|aa<|ag<|ar (eM aY ai g1 gF rfl)<|ar (ip ai bW rfl)<|re (de bW rfl rfl rfl (ai _) rfl rfl) ?_
         refine aa<|aa<|ag<|ar (cb (by omega) rfl) ?_
         refine ar (gn (r:=(kc:Int)) rfl rfl (by omega) (by rw[hkc];exact(vv _ _).symm) rfl) ?_
         refine aB<|bh (ι:={x9:Nat×Nat // x9.1≤(b4 k L).length∧(∀j,j<x9.1→e (n+1+j)=true)∧x9.2=(n+1+x9.1)%(b4 k L).length}) (fun i=>⟨188,[(6,.v (.c (.s (((b4 k L)).length) (aw aD ((b4 k L)))))),(16,.v (.c (.s ((b4 k L).length) (te e (b4 k L).length)))),(20,.v (.c (.i .i64 (n:Int)))),(19,.o 186 ((jl (b4 k L) e n).length) c9),(22,.p 22 0),(23,.v (.c (.i .i64 (i.1.2:Int))))],[(186,49,aw aD (jl (b4 k L) e n)++rs),(22,49,aD ((uu (b4 k L) n (n+i.1.1))))]⟩) (fun i=>(b4 k L).length-i.1.1) ⟨(0,kc),eK _,fun j hj=>absurd hj (by omega),hkc⟩ (ao ⟨rfl,rfl,rfl,rfl,rfl,rfl,trivial⟩ ⟨rfl,congrArg (fun q=>some (49,aD q)) (UT g1).symm,trivial⟩ rfl) ?_
         rintro⟨⟨j,kx⟩,j2,j3,j4⟩
         dsimp only at j2 j3 j4
         have gkx:kx<(b4 k L).length:=j4▸rV _ hr.pos
         have ekx:e kx=e (n+1+j):=by rw[j4,hr.mod]
         dsimp only
         refine aa<|aa<|ag<|ar (bH (us:=[CellD.b (e kx)]++(te e (b4 k L).length).drop (kx+1)) zG rfl rfl (by omega) (dL) (pG gkx) rfl) ?_
         refine ar (b5 kP rfl rfl rfl) ?_
         refine aI rfl (fun hc38=>?_) (fun hc38=>?_)
         ·have g4:e (n+1+j)=true:=by rw[←ekx];exact hc38
          have g5:j+1≤(b4 k L).length:=Nat.succ_le_of_lt ((io j (b4 k L).length).elim id fun q=>absurd (VM hr g1 hs fun i hi=>j3 i (by omega)) (by rw[es];decide))
          refine aA<|aa<|aB<|bg<|bK 2<|aR (eM aY ai gkx gF rfl)<|aR (nO Al rfl rfl rfl) ?_
          refine aR (cg (us:=aj ((b4 k L).getD kx aY).q) bv rfl (yg _ _) (ak _) rfl) ?_
          refine bK 1<|f8 (bd (us:=aD (((uu (b4 k L) n (n+j))).ends ((uu (b4 k L) n (n+j))).p ((((b4 k L).getD kx aY).q)))) bv rfl rfl rfl rfl (by rw[ai];decide) (wu _ _) rfl) ?_
          refine ba<|ag<|ar (cb (by omega) rfl) ?_
          refine ar (gn (r:=(((kx+1)%(b4 k L).length:Nat):Int)) rfl rfl (by omega) ((vv _ _).symm) rfl) ?_
          exact⟨⟨(j+1,(kx+1)%(b4 k L).length),g5,fun i hi=>(io i j).elim (j3 i) fun q=>(show i=j by omega)▸g4,by show(kx+1)%(b4 k L).length=(n+1+(j+1))%(b4 k L).length;rw[j4,Nat.mod_add_mod];rfl⟩,ao ⟨rfl,rfl,rfl,rfl,rfl,rfl,trivial⟩ ⟨rfl,congrArg (fun q=>some (49,aD q)) (by rw[←Ho,j4,show n+1+j=n+(j+1) from by omega]),trivial⟩ rfl,by show(b4 k L).length-(j+1)<(b4 k L).length-j;omega⟩
         ·have g4:e (n+1+j)=false:=by rw[←ekx];exact hc38
          have eX:(uu (b4 k L) n (n+j))=(jU (b4 k L) e n):=by
           show uu _ n (n+j)=uu _ n (n+r7 e n (b4 k L).length)
           rw[B4 j2 j3 (.inr g4)]
          refine lj (σ':=⟨188,[(6,.v (.c (.s (((b4 k L)).length) (aw aD ((b4 k L)))))),(16,.v (.c (.s ((b4 k L).length) (te e (b4 k L).length)))),(20,.v (.c (.i .i64 (n:Int)))),(19,.o 186 ((jl (b4 k L) e n).length) c9),(22,.p 22 0)],[(186,49,aw aD (jl (b4 k L) e n)++rs),(22,49,aD ((jU (b4 k L) e n)))]⟩) (ao ⟨rfl,rfl,rfl,rfl,rfl,trivial⟩ ⟨rfl,congrArg (fun q=>some (49,aD q)) eX,trivial⟩ rfl) ?_
          refine a7<|aa<|ag<|aa<|aB<|bh (ι:={q:Nat // q≤(jl (b4 k L) e n).length∧ ∀r,r<q→cY ((jl (b4 k L) e n).getD r aY) (jU (b4 k L) e n)<0}) (fun i=>⟨188,[(6,.v (.c (.s (((b4 k L)).length) (aw aD ((b4 k L)))))),(16,.v (.c (.s ((b4 k L).length) (te e (b4 k L).length)))),(20,.v (.c (.i .i64 (n:Int)))),(19,.o 186 ((jl (b4 k L) e n).length) c9),(22,.p 22 0),(24,.v (.c (.i .i64 (i.1:Int))))],[(22,49,aD ((jU (b4 k L) e n))),(186,49,aw aD (jl (b4 k L) e n)++rs)]⟩) (fun i=>(jl (b4 k L) e n).length-i.1) ⟨0,eK _,fun r h=>absurd h (Nat.not_lt_zero r)⟩ (ao ⟨rfl,rfl,rfl,rfl,rfl,rfl,trivial⟩ ⟨rfl,rfl,trivial⟩ rfl) ?_
          rintro⟨q,q2,q3⟩
          replace q2:q≤(jl (b4 k L) e n).length:=q2
          replace q3: ∀r,r<q→cY ((jl (b4 k L) e n).getD r aY) (jU (b4 k L) e n)<0:=q3
          dsimp only
          refine aa<|aa<|dJ 15 []<|aq (iv gF rfl rfl) ?_
          refine AF (bz rfl) (fun c39 hb39=>?_)
          cases c39
          ·have eS:uW (jU (b4 k L) e n) (jl (b4 k L) e n)=q:=Cg _ q2 q3 (.inl (by have:=of_decide_eq_false hb39;omega))
           have eA:(jl (b4 k L) e (n+1))=tH (jl (b4 k L) e n) (jU (b4 k L) e n):=eI
           refine a8 rfl<|a7<|dJ 9 []<|aq (oc (q:=q) gF rfl rfl (by omega) rfl) ?_
           refine aq (j9 (ai _) bW rfl)<|aq (tZ (us:=aD (jU (b4 k L) e n)) lT rfl (uV rfl (ai _)) (d8 (ai _)) (by decide) (by decide) rfl) ?_
           refine aq (rm (q:=q) gF rfl rfl (by omega) (by omega) rfl) ?_
           refine aq (AE (q:=(jl (b4 k L) e n).length-q) (ys:=aw aD ((jl (b4 k L) e n).drop q)) lT rfl rfl rfl (Qh rfl q2 i3) (Qx rfl q2 i5 i3) (by omega) (by omega) (d8 (ai _)) (by rw[am ai,fO]) (by decide) (by decide) (by omega) (iM (by omega)) rfl) ?_
           refine DL.mk<|vT (n:=q) (c:=c9) (q:=1+((jl (b4 k L) e n).length-q)) (us:=aw aD ((jl (b4 k L) e n).take q)) (rest:=aw aD ((jl (b4 k L) e n).drop q)++rs) (N':=(jl (b4 k L) e n).length+1) (zs':=aw aD (tH (jl (b4 k L) e n) (jU (b4 k L) e n))) lT rfl rfl rfl (Ex q) (by rw[am ai,dE,ij q2]) (by rw[dm,am ai,fO,i5];omega) (by rw[dm,ai,am ai,fO];omega) (by decide) (by omega) (by assumption) (by omega) (iM (by omega)) (.inl rfl) (by omega) (Ee eS) rfl (fun cg40 rg40 hga40 hgb40 hgc40=>dX ?_)
           refine ag<|ar (cb (by omega) rfl) ?_
           exact⟨.inr ⟨⟨n+1,cg40,rg40⟩,g1,by show(jl (b4 k L) e (n+1)).length≤cg40;rw[eA,s8];exact hga40,hgb40,by show rg40.length=(cg40-(jl (b4 k L) e (n+1)).length)*66;rw[eA,s8];exact hgc40⟩,ao ⟨rfl,rfl,rfl,congrArg (fun q=>some (DV.o 186 q cg40)) (show _=(jl (b4 k L) e (n+1)).length from by rw[eA,s8]),trivial⟩ ⟨congrArg (fun q=>some (49,aw aD q++rg40)) eA.symm,trivial⟩ rfl,by show(b4 k L).length-(n+1)<(b4 k L).length-n;omega⟩
          ·have g6:q<(jl (b4 k L) e n).length:=by have:=of_decide_eq_true hb39;omega
           obtain⟨i9,l9,a9,b9,x9⟩:=Sg (bj (d:=aY) g6)
           have vO:CvV ((jl (b4 k L) e n).getD q aY):=x9▸hG i9 (by omega) a9 b9
           refine aq (bq gF rfl rfl (by omega) rfl) ?_
           refine aq (bZ (us:=aj ((jl (b4 k L) e n).getD q aY).p) bv rfl rfl (YL g6) (ak _) rfl) ?_
           refine aq (bZ (us:=aj ((jU (b4 k L) e n)).p) bv rfl rfl (lr _) rfl rfl) ?_
           refine aK rfl (Ax (iq vO.g) (iq vX.g)) ?_
           refine aI rfl (fun hc41=>?_) (fun hc41=>?_)
           ·have g7:cY ((jl (b4 k L) e n).getD q aY) (jU (b4 k L) e n)<0:=of_decide_eq_true hc41
            refine aA<|aB<|ag<|ar (cb (by omega) rfl) ?_
            exact⟨⟨q+1,g6,fun r hr2=>(Nat.lt_succ_iff_lt_or_eq.1 hr2).elim (q3 r) (fun e9=>by rw[e9];exact g7)⟩,ao ⟨rfl,rfl,rfl,rfl,rfl,rfl,trivial⟩ ⟨rfl,rfl,trivial⟩ rfl,by show(jl (b4 k L) e n).length-(q+1)<(jl (b4 k L) e n).length-q;omega⟩
           ·have eS:uW (jU (b4 k L) e n) (jl (b4 k L) e n)=q:=Cg _ q2 q3 (.inr (of_decide_eq_false hc41))
            have eA:(jl (b4 k L) e (n+1))=tH (jl (b4 k L) e n) (jU (b4 k L) e n):=eI
            refine a7<|dJ 9 []<|aq (oc (q:=q) gF rfl rfl (by omega) rfl) ?_
            refine aq (j9 (ai _) bW rfl)<|aq (tZ (us:=aD (jU (b4 k L) e n)) lT rfl (uV rfl (ai _)) (d8 (ai _)) (by decide) (by decide) rfl) ?_
            refine aq (rm (q:=q) gF rfl rfl (by omega) (by omega) rfl) ?_
            refine aq (AE (q:=(jl (b4 k L) e n).length-q) (ys:=aw aD ((jl (b4 k L) e n).drop q)) lT rfl rfl rfl (Qh rfl q2 i3) (Qx rfl q2 i5 i3) (by omega) (by omega) (d8 (ai _)) (by rw[am ai,fO]) (by decide) (by decide) (by omega) (iM (by omega)) rfl) ?_
            refine DL.mk<|vT (n:=q) (c:=c9) (q:=1+((jl (b4 k L) e n).length-q)) (us:=aw aD ((jl (b4 k L) e n).take q)) (rest:=aw aD ((jl (b4 k L) e n).drop q)++rs) (N':=(jl (b4 k L) e n).length+1) (zs':=aw aD (tH (jl (b4 k L) e n) (jU (b4 k L) e n))) lT rfl rfl rfl (Ex q) (by rw[am ai,dE,ij q2]) (by rw[dm,am ai,fO,i5];omega) (by rw[dm,ai,am ai,fO];omega) (by decide) (by omega) (by assumption) (by omega) (iM (by omega)) (.inl rfl) (by omega) (Ee eS) rfl (fun cg42 rg42 hga42 hgb42 hgc42=>dX ?_)
            refine ag<|ar (cb (by omega) rfl) ?_
            exact⟨.inr ⟨⟨n+1,cg42,rg42⟩,g1,by show(jl (b4 k L) e (n+1)).length≤cg42;rw[eA,s8];exact hga42,hgb42,by show rg42.length=(cg42-(jl (b4 k L) e (n+1)).length)*66;rw[eA,s8];exact hgc42⟩,ao ⟨rfl,rfl,rfl,congrArg (fun q=>some (DV.o 186 q cg42)) (show _=(jl (b4 k L) e (n+1)).length from by rw[eA,s8]),trivial⟩ ⟨congrArg (fun q=>some (49,aw aD q++rg42)) eA.symm,trivial⟩ rfl,by show(b4 k L).length-(n+1)<(b4 k L).length-n;omega⟩
       ·have o3:(e n&& !e (n+(b4 k L).length-1))=false:=by have h8:(!e n)=true:=hb36;simp at h8;rw[h8];rfl
        refine df rfl<|a7<|ag<|ar (cb (by omega) rfl) ?_
        exact⟨.inr ⟨⟨n+1,c9,rs⟩,g1,by show(jl (b4 k L) e (n+1)).length≤c9;rw[xg o3];exact i3,i4,by show rs.length=(c9-(jl (b4 k L) e (n+1)).length)*66;rw[xg o3];exact i5⟩,ao ⟨rfl,rfl,rfl,congrArg (fun q=>some (DV.o 186 (List.length q) c9)) (xg o3).symm,trivial⟩ ⟨congrArg (fun q=>some (49,aw aD q++rs)) (xg o3).symm,trivial⟩ rfl,by show(b4 k L).length-(n+1)<(b4 k L).length-n;omega⟩
      ·have hp:n=(b4 k L).length:=by have:=of_decide_eq_false hc35;omega
       refine cB (t:=19) (m:=66) (us:=aw aD (jl (b4 k L) e n)) rfl rfl (jC (n:=(jl (b4 k L) e n).length) (by first|exact am ak _|exact am ai _|exact dL) (by first|assumption|simp) (by omega)) (by omega) (by assumption) (gh (by first|exact am ak _|exact am ai _|exact dL)) ?_
       refine a7<|aa<|ag<|aZ ?_
       rw[←hp]
       exact ah (az (az ae))
theorem R1 (hk:RK k) (hL: ∀d∈L,RK d) (lL:L.length≤4): ∃(G R:List Cv) (al:Bool),Ok Tryz.prog 9 [.a (aX k),.c (.s L.length (aw aX L))] [.c (.s G.length (aw aD G)),.c (.b al)]∧
 Ok Tryz.prog 12 [.a (aX k),.c (.s L.length (aw aX L))] [.c (.s R.length (aw aD R)),.c (.b al)]∧G.length=R.length∧G.length≤12∧(∀x∈G,CvV x∧x.cw=false)∧(∀x∈R,CvV x)∧ ∀i,i<G.length→Mu (G.getD i aY) (R.getD i aY)=true:=by
 have S:=EA hk hL
 obtain⟨m,hm⟩:=Qb hk hL
 have hmr: ∀i,i<(b4 k L).length→GB (m i)∧Ok Tryz.prog 56 [.a (aD ((b4 k L).getD i aY))] [.a (aj (m i))]:=fun i hi=>⟨(hm i (by rw[S.len];exact hi)).1,(hm i (by rw[S.len];exact hi)).2.2.1⟩
 have her: ∀i,i<(b4 k L).length→KY k L m i=qd L (m i):=fun i hi=>I9 (by rw[S.len];exact hi)
 rcases Km hk hL lL (fun i hi=>⟨(hm i hi).1,(hm i hi).2.1⟩) with⟨h1,hP⟩|⟨s,h1,_,h3,hP⟩
 ·exact⟨[],[],true,hP,VQ hk hk.pos hL lL hmr her (.inl ⟨rfl,rfl,fun i hi=>h1 i (by rw[S.len];exact hi)⟩),rfl,eK _,(fun x hx=>nomatch hx),(fun x hx=>nomatch hx),fun i hi=>absurd hi (Nat.not_lt_zero i)⟩
 ·have hrn:=KL (k:=k) (L:=L) (m:=m) (by omega)
  have hR:=VQ hk hk.pos hL lL hmr her (.inr ⟨rfl,rfl,S.len▸hrn,⟨s,by rw[←S.len];exact h1,h3⟩,fun i hi g1 g2=>by
   obtain⟨a,b,a',b',q1,q2,_,_,_,v2,_⟩:=Lt hk.k hk.pos S hrn (i:=i) (by rw[S.len];exact hi) g1 (by rw[S.len];exact g2)
   rw[q2];exact v2⟩)
  obtain⟨a1,a2,a3,a4⟩:=Ge hk.k hk.pos S hrn h1 h3
  have hN:(bm k L).length≤9*2:=A3 lL (ce _)
  refine⟨_,_,_,hP,hR,a1,?_,fun x hx=>⟨(a2 x hx).1,(a2 x hx).2.1⟩,a3,a4⟩
  have hh:=HN (P:=bm k L) (e:=KY k L m) (s:=s) (n:=(bm k L).length)
  rw[fE]
  omega
theorem LJ (hW: ∀r∈W,RnB r):(∀d∈(W.take 4).map Bw,RK d)∧((W.take 4).map Bw).length≤4:=by
 refine⟨fun d hd=>?_,by rw[oJ,dE];omega⟩
 obtain⟨x,hx,rfl⟩:=ny.1 hd
 exact Qf (hW x (BZ hx))
theorem W9 {r:Rn}(hr:RnB r) (hW: ∀r∈W,RnB r) (hA:Ok Tryz.prog 7 [] [.c (.b true)]):Ok Tryz.prog 3 [.a (([.i .i16 r.x]++[.i .i16 r.y]++[.i .u16 r.q]++[.i .u8 r.d])),.c (.s W.length (aw uy W))] [.c (.b true)]:=by
 cases h4:decide (W.length≤4) with
 |false=>exact NK hr hW hA h4
 |true=>
  obtain⟨G,R,al,hP,hR,a1,a2,a3,a4,a5⟩:=R1 (Qf hr) (LJ hW).1 (LJ hW).2
  exact WK hr hW hA h4 hP hR a1 a2 a3 a4 a5
end Go.Proofs.YtegpmhlfjkhjmaaGreat
