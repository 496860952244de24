/-Plain:the points at which the circle is divided,its pieces. -/
import Derived.Test.YtegpmhlfjkhjmaaGreatYqU
namespace Go.Proofs.YtegpmhlfjkhjmaaGreat
open Go Go.RowKit
variable {k:Ci}{c:Cv}{L:List Ci}{O P:List Cv}{l:Ln}{j n s:Nat}{e:Nat→Bool}{m:Nat→Pt}{f q t:Pt}
theorem vv:type_of% @Int.ofNat_tmod:=@Int.ofNat_tmod
theorem oM {α:Type}{d:α}{f:α→Bool}{l:List α}(h:j<l.length) (g:f (l.getD j d)=true):(l.take (j+1)).filter f=(l.take j).filter f++[l.getD j d]:=by
 rw[Ag,uZ,ew (d:=d) h]
 show _++List.filter f [l.getD j d]=_
 rw[List.filter_cons_of_pos g];rfl
theorem vp {α:Type}{d:α}{f:α→Bool}{l:List α}(h:j<l.length) (g:f (l.getD j d)=false):(l.take (j+1)).filter f=(l.take j).filter f:=by
 rw[Ag,uZ,ew (d:=d) h]
 show _++List.filter f [l.getD j d]=_
 rw[List.filter_cons_of_neg (by rw[g];decide)]
 exact jc _
theorem jJ {α β:Type}{d:α}{f:α→List β}{l:List α}(h:n<l.length):(l.take (n+1)).flatMap f=(l.take n).flatMap f++f (l.getD n d):=by
 rw[Ag,List.flatMap_append,ew (d:=d) h]
 show _++List.flatMap f [l.getD n d]=_
 rw[List.flatMap_cons,List.flatMap_nil,jc]
def aW (k:Ci) (L:List Ci):List Pt:=L.flatMap (lI k)
def ns (k:Ci) (L:List Ci) (c:Cv):List Pt:=(aW k L).filter c.on
def nm (k:Ci) (L:List Ci) (c:Cv):List Cv:=t6 c (mi c (ns k L c))
def bm (k:Ci) (L:List Ci):List Cv:=(ap k).flatMap (nm k L)
def wW (k:Ci) (L:List Ci) (n:Nat):List Cv:=((ap k).take n).flatMap (nm k L)
theorem wH {k:Ci}: ∀ {L:List Ci},(aW k L).length≤2*L.length
 |[]=>ce _
 |d::L=>by
  have h:=wH (k:=k) (L:=L)
  have h2:=Cl (k:=k) (d:=d)
  unfold aW at h⊢
  rw[List.flatMap_cons,dm,tC]
  omega
section
variable {k:Ci}{L:List Ci}(hk:RK k) (hL: ∀d∈L,RK d) (lL:L.length≤4)
include hk hL
theorem Iq: ∀p∈aW k L,GP p:=fun p hp=>by
 obtain⟨d,hd,h⟩:=List.mem_flatMap.1 hp
 exact Bj hk (hL d hd) p h
end
theorem Nh:(aW k (L.take n)).length≤2*n:=
 iK wH (by rw[dE];omega)
theorem yM (lL:L.length≤4):(nm k L c).length≤9:=by
 have h1:(nm k L c).length=(mi c (ns k L c)).length+1:=Gh _ _
 have h2:(mi c (ns k L c)).length≤(bU (bp dPt (bT c) (ns k L c)) (ns k L c).length).length:=sB _ _
 have h3:=ze (S:=bp dPt (bT c) (ns k L c)) (n:=(ns k L c).length)
 have h4:(ns k L c).length≤(aW k L).length:=sB _ _
 have h5:=wH (k:=k) (L:=L)
 omega
theorem Gz:0<(nm k L c).length:=by
 have h1:(nm k L c).length=(mi c (ns k L c)).length+1:=Gh _ _
 omega
theorem H2: ∀c∈ap k,c.isArc=true:=fun c hc=>by
 rcases dA.1 hc with rfl|hc
 ·rfl
 ·rw[nE.1 hc];rfl
theorem Ob (hk:GK k) (h0:0<k.q): ∀c∈ap k,CvV c:=fun c hc=>by
 rcases dA.1 hc with rfl|hc
 ·exact Ve hk h0
 ·rw[nE.1 hc];exact Vm hk h0
theorem A3 (lL:L.length≤4) (hn:n≤2):(wW k L n).length≤9*n:=by
 have hA:=yM (k:=k) (c:=.arc k false (jS k) (jI k)) lL
 have hB:=yM (k:=k) (c:=.arc k false (jI k) (jS k)) lL
 match n,hn with
 |0,_=>exact ce _
 |1,_=>
  show(nm k L (.arc k false (jS k) (jI k))++[]).length≤9
  rw[jc];exact hA
 |2,_=>
  show(nm k L (.arc k false (jS k) (jI k))++(nm k L (.arc k false (jI k) (jS k))++[])).length≤18
  rw[jc,dm];omega
theorem V3 (hk:RK k) (h0:0<k.q) (hL: ∀d∈L,RK d) (lL:L.length≤4):Ok Tryz.prog 42 [.a (aX k),.c (.s L.length (aw aX L))] [.c (.s (((bm k L)).length) (aw aD ((bm k L))))]:=by
 have hF:=Ob hk.k h0
 have hC:=Iq hk hL
 have lC:(aW k L).length≤2*L.length:=wH
 have ex1:nm k L ((ap k).getD 0 aY)=wW k L 1:=(jc _).symm
 refine eH Tryz.func42 68 [.tmp 4] rfl<|aa<|ag<|aa<|bg<|aR (ed rfl) ?_
 refine ba ?_
 refine n8 (ι:=Unit) (fun i=>⟨68,[(2,.p 2 0),(5,.v (.c (.s ((aW k L).length) (aw aj (aW k L)))))],[(2,40,aX k)]⟩) ?_ ?_
 ·refine aa<|ag ?_
  refine aB ?_
  refine bh (ι:=Sum ({n:Nat // n≤L.length∧(aW k (L.take n))=[]}) ({x9:Nat×Nat×List CellD // x9.1≤L.length∧(aW k (L.take x9.1)).length≤x9.2.1∧x9.2.1≤maxLen∧x9.2.2.length=(x9.2.1-(aW k (L.take x9.1)).length)*20})) (fun i=>match i with| .inl i=>⟨68,[(2,.p 2 0),(18,.v (.c (.s L.length (aw aX L)))),(19,.v (.c (.i .i64 (L.length:Int)))),(20,.v (.c (.i .i64 (i.1:Int)))),(5,.z)],[(2,40,aX k)]⟩| .inr i=>⟨68,[(2,.p 2 0),(18,.v (.c (.s L.length (aw aX L)))),(19,.v (.c (.i .i64 (L.length:Int)))),(20,.v (.c (.i .i64 (i.1.1:Int)))),(5,.o 32 ((aW k (L.take i.1.1)).length) i.1.2.1)],[(2,40,aX k),(32,47,aw aj (aW k (L.take i.1.1))++i.1.2.2)]⟩) (fun i=>match i with| .inl i=>L.length-i.1| .inr i=>L.length-i.1.1) (.inl ⟨0,eK _,rfl⟩) (ao ⟨rfl,rfl,rfl,rfl,rfl,trivial⟩ ⟨rfl,trivial⟩ rfl) ?_
  rintro(⟨n,h2,h3⟩|⟨⟨n,c9,rs⟩,h2,h3,h4,h5⟩)
  ·replace h2:n≤L.length:=h2
   replace h3:(aW k (L.take n))=[]:=h3
   dsimp only
   refine aa<|ag<|aa ?_
   refine aI rfl (fun hc1=>?_) (fun hc1=>?_)
   ·have g1:n<L.length:=by have:=of_decide_eq_true hc1;omega
    have hd:=hL _ (bj (d:=dK) g1)
    have hm2:=Cl (k:=k) (d:=L.getD n dK)
    refine aA<|aa<|aB<|aa<|ag<|ar (eM dK dW g1 Dv rfl)<|ar (cg (us:=aX (L.getD n dK)) qV rfl (rn _ _) (dW _) rfl) ?_
    refine aa<|ag ?_
    refine ac rfl (U6 hk.k hd.k) ?_
    rcases jo (lI k (L.getD n dK)).length with e0|e0
    ·refine ag<|ar (Dm dr rfl rfl e0 rfl) ?_
     refine ag<|ar (cb (by omega) rfl) ?_
     exact⟨.inl ⟨n+1,g1,by show aW k (L.take (n+1))=[];rw[(show aW k (L.take (n+1))=aW k (L.take n)++lI k (L.getD n dK) from jJ g1),h3,jP.1 e0];rfl⟩,ao ⟨rfl,rfl,rfl,rfl,rfl,trivial⟩ ⟨rfl,trivial⟩ rfl,by show L.length-(n+1)<L.length-n;omega⟩
    ·refine ag ?_
     refine DL.mk<|wE (q:=(lI k (L.getD n dK)).length) (ys:=aw aj (lI k (L.getD n dK))) (zs':=aw aj (lI k (L.getD n dK))) dr rfl rfl (am ak _) (e0) (by omega) (iM (by omega)) rfl (rfl) rfl (fun cg2 rg2 hga2 hgb2 hgc2=>dX ?_)
     refine ag<|ar (cb (by omega) rfl) ?_
     exact⟨.inr ⟨⟨n+1,cg2,rg2⟩,g1,by show(aW k (L.take (n+1))).length≤cg2;rw[(show aW k (L.take (n+1))=aW k (L.take n)++lI k (L.getD n dK) from jJ g1),h3,nI];exact hga2,hgb2,by show rg2.length=(cg2-(aW k (L.take (n+1))).length)*20;rw[(show aW k (L.take (n+1))=aW k (L.take n)++lI k (L.getD n dK) from jJ g1),h3,nI];exact hgc2⟩,ao ⟨rfl,rfl,rfl,rfl,congrArg (fun q=>some (DV.o 32 (List.length q) cg2)) (by rw[(show aW k (L.take (n+1))=aW k (L.take n)++lI k (L.getD n dK) from jJ g1),h3];rfl),trivial⟩ ⟨rfl,congrArg (fun q=>some (47,aw aj q++rg2)) (by rw[(show aW k (L.take (n+1))=aW k (L.take n)++lI k (L.getD n dK) from jJ g1),h3];rfl),trivial⟩ rfl,by show L.length-(n+1)<L.length-n;omega⟩
   ·have hp:n=L.length:=by have:=of_decide_eq_false hc1;omega
    refine vw (t:=5) rfl<|a7 ?_
    exact⟨(),ao ⟨rfl,congrArg (fun q:List Pt=>some (DV.v (.c (.s q.length (aw aj q))))) (h3.symm.trans (by rw[hp,lJ])),trivial⟩ ⟨rfl,trivial⟩ rfl⟩
  ·dsimp only at h2 h3 h4 h5
   have h6:(aW k (L.take n)).length≤2*n:=Nh
   dsimp only
   refine aa<|ag<|aa ?_
   refine aI rfl (fun hc3=>?_) (fun hc3=>?_)
   ·have g1:n<L.length:=by have:=of_decide_eq_true hc3;omega
    have hd:=hL _ (bj (d:=dK) g1)
    have hm2:=Cl (k:=k) (d:=L.getD n dK)
    refine aA<|aa<|aB<|aa<|ag<|ar (eM dK dW g1 Dv rfl)<|ar (cg (us:=aX (L.getD n dK)) qV rfl (rn _ _) (dW _) rfl) ?_
    refine aa<|ag ?_
    refine ac rfl (U6 hk.k hd.k)<|ag ?_
    refine DL.mk<|vT (n:=(aW k (L.take n)).length) (c:=c9) (q:=(lI k (L.getD n dK)).length) (us:=aw aj (aW k (L.take n))) (rest:=rs) (N':=(aW k (L.take n)).length+(lI k (L.getD n dK)).length) (zs':=aw aj (aW k (L.take n))++aw aj (lI k (L.getD n dK))) dr rfl rfl rfl (rfl) (am ak _) (h5) (am ak _) (by decide) (by omega) (by assumption) (by omega) (iM (by omega)) (.inl rfl) (rfl) (rfl) rfl (fun cg4 rg4 hga4 hgb4 hgc4=>dX ?_)
    refine ag<|ar (cb (by omega) rfl) ?_
    exact⟨.inr ⟨⟨n+1,cg4,rg4⟩,g1,by show(aW k (L.take (n+1))).length≤cg4;rw[(show aW k (L.take (n+1))=aW k (L.take n)++lI k (L.getD n dK) from jJ g1),dm];exact hga4,hgb4,by show rg4.length=(cg4-(aW k (L.take (n+1))).length)*20;rw[(show aW k (L.take (n+1))=aW k (L.take n)++lI k (L.getD n dK) from jJ g1),dm];exact hgc4⟩,ao ⟨rfl,rfl,rfl,rfl,congrArg (fun q=>some (DV.o 32 q cg4)) (by rw[(show aW k (L.take (n+1))=aW k (L.take n)++lI k (L.getD n dK) from jJ g1),dm]),trivial⟩ ⟨rfl,congrArg (fun q=>some (47,q++rg4)) (by rw[(show aW k (L.take (n+1))=aW k (L.take n)++lI k (L.getD n dK) from jJ g1),dB]),trivial⟩ rfl,by show L.length-(n+1)<L.length-n;omega⟩
   ·have hp:n=L.length:=by have:=of_decide_eq_false hc3;omega
    refine cB (t:=5) (m:=20) (us:=aw aj (aW k (L.take n))) rfl rfl (jC (n:=(aW k (L.take n)).length) (by first|exact am ak _|exact am ai _) (by assumption) (by omega)) (by omega) (by assumption) (gh (by first|exact am ak _|exact am ai _)) ?_
    refine a7 ?_
    exact⟨(),ao ⟨rfl,congrArg (fun q:List Pt=>some (DV.v (.c (.s q.length (aw aj q))))) (by rw[hp,lJ]),trivial⟩ ⟨rfl,trivial⟩ rfl⟩
 ·rintro⟨⟩
  try dsimp only
  refine aa<|bg<|aR (ed rfl) ?_
  refine ba<|aa<|aa<|ag ?_
  refine ac rfl (X5 hk.k h0) ?_
  refine aB ?_
  refine BL (ι:={x9:Nat×Nat×List CellD // 1≤x9.1∧x9.1≤2∧(wW k L x9.1).length≤x9.2.1∧x9.2.1≤maxLen∧x9.2.2.length=(x9.2.1-(wW k L x9.1).length)*66}) (fun i=>⟨68,[(2,.p 2 0),(5,.v (.c (.s ((aW k L).length) (aw aj (aW k L))))),(35,.v (.c (.s (((ap k)).length) (aw aD ((ap k)))))),(36,.v (.c (.i .i64 2))),(37,.v (.c (.i .i64 (i.1.1:Int)))),(10,.o 65 ((wW k L i.1.1).length) i.1.2.1)],[(2,40,aX k),(65,49,aw aD (wW k L i.1.1)++i.1.2.2)]⟩) (fun i=>2-i.1.1) (3) ?_ ?_
  ·refine aa<|ag<|aa ?_
   refine aI rfl (fun hc5=>?_) (fun hc5=>?_)
   ·have g1:0<(ap k).length:=by show 0<2;omega
    have g9:0<2:=g1
    have vc:CvV ((ap k).getD 0 aY):=hF _ (bj g1)
    have ha:Cv.isArc ((ap k).getD 0 aY)=true:=H2 _ (bj g1)
    have hE:=yM (k:=k) (c:=((ap k).getD 0 aY)) lL
    have hE0:=Gz (k:=k) (L:=L) (c:=((ap k).getD 0 aY))
    refine aA<|aa<|aB<|aa<|ag<|ar (eM aY ai g1 gF rfl)<|ar (ip ai bW rfl)<|re (de bW rfl rfl rfl (ai _) rfl rfl) ?_
    refine aa<|bg<|aR (ed rfl) ?_
    refine ba ?_
    refine n8 (ι:=Unit) (fun i=>⟨68,[(2,.p 2 0),(5,.v (.c (.s ((aW k L).length) (aw aj (aW k L))))),(35,.v (.c (.s (((ap k)).length) (aw aD ((ap k)))))),(36,.v (.c (.i .i64 2))),(37,.v (.c (.i .i64 0))),(12,.p 12 0),(10,.z),(13,.v (.c (.s (((ns k L ((ap k).getD 0 aY))).length) (aw aj ((ns k L ((ap k).getD 0 aY)))))))],[(2,40,aX k),(12,49,aD (((ap k).getD 0 aY)))]⟩) ?_ ?_
    ·refine aa<|ag ?_
     refine aB ?_
     refine bh (ι:=Sum ({j:Nat // j≤(aW k L).length∧(((aW k L).take j).filter ((ap k).getD 0 aY).on)=[]}) ({x9:Nat×Nat×List CellD // x9.1≤(aW k L).length∧(((aW k L).take x9.1).filter ((ap k).getD 0 aY).on).length≤x9.2.1∧x9.2.1≤maxLen∧x9.2.2.length=(x9.2.1-(((aW k L).take x9.1).filter ((ap k).getD 0 aY).on).length)*20})) (fun i=>match i with| .inl i=>⟨68,[(2,.p 2 0),(5,.v (.c (.s ((aW k L).length) (aw aj (aW k L))))),(35,.v (.c (.s (((ap k)).length) (aw aD ((ap k)))))),(36,.v (.c (.i .i64 2))),(37,.v (.c (.i .i64 0))),(12,.p 12 0),(10,.z),(41,.v (.c (.s ((aW k L).length) (aw aj (aW k L))))),(42,.v (.c (.i .i64 (((aW k L).length:Int))))),(43,.v (.c (.i .i64 (i.1:Int)))),(13,.z)],[(2,40,aX k),(12,49,aD (((ap k).getD 0 aY)))]⟩| .inr i=>⟨68,[(2,.p 2 0),(5,.v (.c (.s ((aW k L).length) (aw aj (aW k L))))),(35,.v (.c (.s (((ap k)).length) (aw aD ((ap k)))))),(36,.v (.c (.i .i64 2))),(37,.v (.c (.i .i64 0))),(12,.p 12 0),(10,.z),(41,.v (.c (.s ((aW k L).length) (aw aj (aW k L))))),(42,.v (.c (.i .i64 (((aW k L).length:Int))))),(43,.v (.c (.i .i64 (i.1.1:Int)))),(13,.o 53 ((((aW k L).take i.1.1).filter ((ap k).getD 0 aY).on).length) i.1.2.1)],[(2,40,aX k),(12,49,aD (((ap k).getD 0 aY))),(53,47,aw aj (((aW k L).take i.1.1).filter ((ap k).getD 0 aY).on)++i.1.2.2)]⟩) (fun i=>match i with| .inl i=>(aW k L).length-i.1| .inr i=>(aW k L).length-i.1.1) (.inl ⟨0,eK _,rfl⟩) (ao ⟨rfl,rfl,rfl,rfl,rfl,rfl,rfl,rfl,rfl,rfl,rfl,trivial⟩ ⟨rfl,rfl,trivial⟩ rfl) ?_
     rintro(⟨j,i2,i3⟩|⟨⟨j,c8,rt⟩,i2,i3,i4,i5⟩)
     ·replace i2:j≤(aW k L).length:=i2
      replace i3:(((aW k L).take j).filter ((ap k).getD 0 aY).on)=[]:=i3
      dsimp only
      refine aa<|ag<|aa ?_
      refine aI rfl (fun hc6=>?_) (fun hc6=>?_)
      ·have g2:j<(aW k L).length:=by have:=of_decide_eq_true hc6;omega
       have hx:=hC _ (bj (d:=dPt) g2)
       refine aA<|aa<|aB<|aa<|ag<|ar (eM dPt ak g2 cA rfl)<|ar (ip ak bv rfl)<|aa<|ag ?_
       refine ar (j9 (ai _) bW rfl) ?_
       refine ac rfl (HA vc ha hx) ?_
       refine aI rfl (fun hc7=>?_) (fun hc7=>?_)
       ·have g3:((ap k).getD 0 aY).on ((aW k L).getD j dPt)=true:=hc7
        refine ag ?_
        refine ar (bX (n:=1) (us:=aj ((((aW k L).getD j dPt)))) dr rfl rfl rfl (by decide) (by decide) rfl) ?_
        refine DL.mk<|lW (ys:=aj ((((aW k L).getD j dPt)))) dr rfl rfl rfl (by decide) (by decide) (by decide) rfl rfl (fun cg8 rg8 hga8 hgb8 hgc8=>dX ?_)
        refine ag<|ar (cb (by omega) rfl) ?_
        exact⟨.inr ⟨⟨j+1,cg8,rg8⟩,g2,by show(((aW k L).take (j+1)).filter ((ap k).getD 0 aY).on).length≤cg8;rw[oM g2 g3,i3];exact hga8,hgb8,by show rg8.length=(cg8-(((aW k L).take (j+1)).filter ((ap k).getD 0 aY).on).length)*20;rw[oM g2 g3,i3];exact hgc8⟩,ao ⟨rfl,rfl,rfl,rfl,rfl,rfl,rfl,rfl,rfl,rfl,congrArg (fun q=>some (DV.o 53 q cg8)) (by rw[oM g2 g3,i3];rfl),trivial⟩ ⟨rfl,rfl,congrArg (fun q=>some (47,q++rg8)) (by rw[oM g2 g3,i3,nI,dV]),trivial⟩ rfl,by show(aW k L).length-(j+1)<(aW k L).length-j;omega⟩
       ·have g3:((ap k).getD 0 aY).on ((aW k L).getD j dPt)=false:=hc7
        refine aA<|ag<|ar (cb (by omega) rfl) ?_
        exact⟨.inl ⟨j+1,g2,by rw[vp g2 g3];exact i3⟩,ao ⟨rfl,rfl,rfl,rfl,rfl,rfl,rfl,rfl,rfl,rfl,rfl,trivial⟩ ⟨rfl,rfl,trivial⟩ rfl,by show(aW k L).length-(j+1)<(aW k L).length-j;omega⟩
      ·have hj:j=(aW k L).length:=by have:=of_decide_eq_false hc6;omega
       refine vw (t:=13) rfl<|a7 ?_
       exact⟨(),ao ⟨rfl,rfl,rfl,rfl,rfl,rfl,rfl,congrArg (fun q:List Pt=>some (DV.v (.c (.s q.length (aw aj q))))) (i3.symm.trans (show(ns k L ((ap k).getD 0 aY))=((aW k L).take j).filter ((ap k).getD 0 aY).on by rw[hj,lJ];rfl).symm),trivial⟩ ⟨rfl,rfl,trivial⟩ rfl⟩
     ·dsimp only at i2 i3 i4 i5
      have i6:(((aW k L).take j).filter ((ap k).getD 0 aY).on).length≤8:=iK (sB _ _) (by rw[dE];omega)
      dsimp only
      refine aa<|ag<|aa ?_
      refine aI rfl (fun hc9=>?_) (fun hc9=>?_)
      ·have g2:j<(aW k L).length:=by have:=of_decide_eq_true hc9;omega
       have hx:=hC _ (bj (d:=dPt) g2)
       refine aA<|aa<|aB<|aa<|ag<|ar (eM dPt ak g2 cA rfl)<|ar (ip ak bv rfl)<|aa<|ag ?_
       refine ar (j9 (ai _) bW rfl) ?_
       refine ac rfl (HA vc ha hx) ?_
       refine aI rfl (fun hc10=>?_) (fun hc10=>?_)
       ·have g3:((ap k).getD 0 aY).on ((aW k L).getD j dPt)=true:=hc10
        refine ag ?_
        refine ar (bX (n:=1) (us:=aj ((((aW k L).getD j dPt)))) dr rfl rfl rfl (by decide) (by decide) rfl) ?_
        refine DL.mk<|l6 (us:=aw aj (((aW k L).take j).filter ((ap k).getD 0 aY).on)) (rest:=rt) (ys:=aj ((((aW k L).getD j dPt)))) dr rfl rfl rfl (by first|exact am ak _|exact am ai _) (by assumption) rfl (by decide) (by omega) (by assumption) (by omega) (iM (by omega)) (.inl rfl) rfl (fun cg11 rg11 hga11 hgb11 hgc11=>dX ?_)
        refine ag<|ar (cb (by omega) rfl) ?_
        exact⟨.inr ⟨⟨j+1,cg11,rg11⟩,g2,by show(((aW k L).take (j+1)).filter ((ap k).getD 0 aY).on).length≤cg11;rw[oM g2 g3,dm];exact hga11,hgb11,by show rg11.length=(cg11-(((aW k L).take (j+1)).filter ((ap k).getD 0 aY).on).length)*20;rw[oM g2 g3,dm];exact hgc11⟩,ao ⟨rfl,rfl,rfl,rfl,rfl,rfl,rfl,rfl,rfl,rfl,congrArg (fun q=>some (DV.o 53 q cg11)) (by rw[oM g2 g3,dm];rfl),trivial⟩ ⟨rfl,rfl,congrArg (fun q=>some (47,q++rg11)) (by rw[oM g2 g3,dB,dV]),trivial⟩ rfl,by show(aW k L).length-(j+1)<(aW k L).length-j;omega⟩
       ·have g3:((ap k).getD 0 aY).on ((aW k L).getD j dPt)=false:=hc10
        refine aA<|ag<|ar (cb (by omega) rfl) ?_
        exact⟨.inr ⟨⟨j+1,c8,rt⟩,g2,by show(((aW k L).take (j+1)).filter ((ap k).getD 0 aY).on).length≤c8;rw[vp g2 g3];exact i3,i4,by show rt.length=(c8-(((aW k L).take (j+1)).filter ((ap k).getD 0 aY).on).length)*20;rw[vp g2 g3];exact i5⟩,ao ⟨rfl,rfl,rfl,rfl,rfl,rfl,rfl,rfl,rfl,rfl,congrArg (fun q=>some (DV.o 53 (List.length q) c8)) (vp g2 g3).symm,trivial⟩ ⟨rfl,rfl,congrArg (fun q=>some (47,aw aj q++rt)) (vp g2 g3).symm,trivial⟩ rfl,by show(aW k L).length-(j+1)<(aW k L).length-j;omega⟩
      ·have hj:j=(aW k L).length:=by have:=of_decide_eq_false hc9;omega
       refine cB (t:=13) (m:=20) (us:=aw aj (((aW k L).take j).filter ((ap k).getD 0 aY).on)) rfl rfl (jC (n:=(((aW k L).take j).filter ((ap k).getD 0 aY).on).length) (by first|exact am ak _|exact am ai _) (by assumption) (by omega)) (by omega) (by assumption) (gh (by first|exact am ak _|exact am ai _)) ?_
       refine a7 ?_
       exact⟨(),ao ⟨rfl,rfl,rfl,rfl,rfl,rfl,rfl,congrArg (fun q:List Pt=>some (DV.v (.c (.s q.length (aw aj q))))) ((show(ns k L ((ap k).getD 0 aY))=((aW k L).take j).filter ((ap k).getD 0 aY).on by rw[hj,lJ];rfl).symm),trivial⟩ ⟨rfl,rfl,trivial⟩ rfl⟩
    ·rintro⟨⟩
     try dsimp only
     refine aa<|bg<|aR (j9 (ai _) bW rfl)<|bK 1 ?_
     refine yK rfl rfl ((show OkN _ _ [.a (aD ((ap k).getD 0 aY)),.c (.s ((ns k L ((ap k).getD 0 aY))).length (aw aj (ns k L ((ap k).getD 0 aY))))] _ (nm k L ((ap k).getD 0 aY)).length _ (aw aD (nm k L ((ap k).getD 0 aY))) _ from We (L:=(ns k L ((ap k).getD 0 aY))) vc ha (fun p h=>hC p (my.1 h).1) (iK (sB _ _) (by omega)) (fun p h=>(my.1 h).2))) rfl rfl (fun cg12 rg12 hga12 hgb12 hgc12=>?_)
     refine bK 1<|aR (Cd rfl rfl) ?_
     refine aR (C5 rfl rfl rfl) ?_
     refine ex<|aa<|ag<|df rfl ?_
     refine cB (t:=16) (m:=66) (us:=aw aD (nm k L ((ap k).getD 0 aY))) rfl rfl (jC (n:=(nm k L ((ap k).getD 0 aY)).length) (by first|exact am ak _|exact am ai _) (by assumption) (by omega)) (by omega) (by assumption) (gh (by first|exact am ak _|exact am ai _)) ?_
     refine ag ?_
     refine DL.mk<|wE (q:=(nm k L ((ap k).getD 0 aY)).length) (ys:=aw aD (nm k L ((ap k).getD 0 aY))) (zs':=aw aD (nm k L ((ap k).getD 0 aY))) lT rfl rfl (am ai _) (hE0) (by omega) (iM (by omega)) rfl (rfl) rfl (fun cg13 rg13 hga13 hgb13 hgc13=>dX ?_)
     refine ag<|ar (iU (r:=1) rfl rfl rfl rfl) ?_
     exact⟨⟨⟨1,cg13,rg13⟩,ce _,by show 1≤2;omega,by show(wW k L 1).length≤cg13;rw[←ex1];exact hga13,hgb13,by show rg13.length=(cg13-(wW k L 1).length)*66;rw[←ex1];exact hgc13⟩,ao ⟨rfl,rfl,rfl,rfl,rfl,congrArg (fun q=>some (DV.o 65 (List.length q) cg13)) ex1,trivial⟩ ⟨rfl,congrArg (fun q=>some (49,aw aD q++rg13)) ex1,trivial⟩ rfl,by show 2-1<3;omega⟩
   ·exact absurd hc5 (by show ¬decide ((0:Int)<((2:Nat):Int))=false;decide)
  ·rintro⟨⟨n,c9,rs⟩,h1,h2,h3,h4,h5⟩
   dsimp only at h1 h2 h3 h4 h5
   have h6:(wW k L n).length≤9*n:=A3 lL h2
   dsimp only
   refine aa<|ag<|aa ?_
   refine aI rfl (fun hc14=>?_) (fun hc14=>?_)
   ·have g1:n<(ap k).length:=by have:=of_decide_eq_true hc14;show n<2;omega
    have g9:n<2:=g1
    have vc:CvV ((ap k).getD n aY):=hF _ (bj g1)
    have ha:Cv.isArc ((ap k).getD n aY)=true:=H2 _ (bj g1)
    have hE:=yM (k:=k) (c:=((ap k).getD n aY)) lL
    have hE0:=Gz (k:=k) (L:=L) (c:=((ap k).getD n aY))
    refine aA<|aa<|aB<|aa<|ag<|ar (eM aY ai g1 gF rfl)<|ar (ip ai bW rfl)<|re (de bW rfl rfl rfl (ai _) rfl rfl) ?_
    refine aa<|bg<|aR (ed rfl) ?_
    refine ba ?_
    refine n8 (ι:=Unit) (fun i=>⟨68,[(2,.p 2 0),(5,.v (.c (.s ((aW k L).length) (aw aj (aW k L))))),(35,.v (.c (.s (((ap k)).length) (aw aD ((ap k)))))),(36,.v (.c (.i .i64 2))),(37,.v (.c (.i .i64 (n:Int)))),(12,.p 12 0),(10,.o 65 ((wW k L n).length) c9),(13,.v (.c (.s (((ns k L ((ap k).getD n aY))).length) (aw aj ((ns k L ((ap k).getD n aY)))))))],[(2,40,aX k),(12,49,aD (((ap k).getD n aY))),(65,49,aw aD (wW k L n)++rs)]⟩) ?_ ?_
    ·refine aa<|ag ?_
     refine aB ?_
     refine bh (ι:=Sum ({j:Nat // j≤(aW k L).length∧(((aW k L).take j).filter ((ap k).getD n aY).on)=[]}) ({x9:Nat×Nat×List CellD // x9.1≤(aW k L).length∧(((aW k L).take x9.1).filter ((ap k).getD n aY).on).length≤x9.2.1∧x9.2.1≤maxLen∧x9.2.2.length=(x9.2.1-(((aW k L).take x9.1).filter ((ap k).getD n aY).on).length)*20})) (fun i=>match i with| .inl i=>⟨68,[(2,.p 2 0),(5,.v (.c (.s ((aW k L).length) (aw aj (aW k L))))),(35,.v (.c (.s (((ap k)).length) (aw aD ((ap k)))))),(36,.v (.c (.i .i64 2))),(37,.v (.c (.i .i64 (n:Int)))),(12,.p 12 0),(10,.o 65 ((wW k L n).length) c9),(41,.v (.c (.s ((aW k L).length) (aw aj (aW k L))))),(42,.v (.c (.i .i64 (((aW k L).length:Int))))),(43,.v (.c (.i .i64 (i.1:Int)))),(13,.z)],[(2,40,aX k),(12,49,aD (((ap k).getD n aY))),(65,49,aw aD (wW k L n)++rs)]⟩| .inr i=>⟨68,[(2,.p 2 0),(5,.v (.c (.s ((aW k L).length) (aw aj (aW k L))))),(35,.v (.c (.s (((ap k)).length) (aw aD ((ap k)))))),(36,.v (.c (.i .i64 2))),(37,.v (.c (.i .i64 (n:Int)))),(12,.p 12 0),(10,.o 65 ((wW k L n).length) c9),(41,.v (.c (.s ((aW k L).length) (aw aj (aW k L))))),(42,.v (.c (.i .i64 (((aW k L).length:Int))))),(43,.v (.c (.i .i64 (i.1.1:Int)))),(13,.o 53 ((((aW k L).take i.1.1).filter ((ap k).getD n aY).on).length) i.1.2.1)],[(2,40,aX k),(12,49,aD (((ap k).getD n aY))),(65,49,aw aD (wW k L n)++rs),(53,47,aw aj (((aW k L).take i.1.1).filter ((ap k).getD n aY).on)++i.1.2.2)]⟩) (fun i=>match i with| .inl i=>(aW k L).length-i.1| .inr i=>(aW k L).length-i.1.1) (.inl ⟨0,eK _,rfl⟩) (ao ⟨rfl,rfl,rfl,rfl,rfl,rfl,rfl,rfl,rfl,rfl,rfl,trivial⟩ ⟨rfl,rfl,rfl,trivial⟩ rfl) ?_
     rintro(⟨j,i2,i3⟩|⟨⟨j,c8,rt⟩,i2,i3,i4,i5⟩)
     ·replace i2:j≤(aW k L).length:=i2
      replace i3:(((aW k L).take j).filter ((ap k).getD n aY).on)=[]:=i3
      dsimp only
      refine aa<|ag<|aa ?_
      refine aI rfl (fun hc15=>?_) (fun hc15=>?_)
      ·have g2:j<(aW k L).length:=by have:=of_decide_eq_true hc15;omega
       have hx:=hC _ (bj (d:=dPt) g2)
       refine aA<|aa<|aB<|aa<|ag<|ar (eM dPt ak g2 cA rfl)<|ar (ip ak bv rfl)<|aa<|ag ?_
       refine ar (j9 (ai _) bW rfl) ?_
       refine ac rfl (HA vc ha hx) ?_
       refine aI rfl (fun hc16=>?_) (fun hc16=>?_)
       ·have g3:((ap k).getD n aY).on ((aW k L).getD j dPt)=true:=hc16
        refine ag ?_
        refine ar (bX (n:=1) (us:=aj ((((aW k L).getD j dPt)))) dr rfl rfl rfl (by decide) (by decide) rfl) ?_
        refine DL.mk<|lW (ys:=aj ((((aW k L).getD j dPt)))) dr rfl rfl rfl (by decide) (by decide) (by decide) rfl rfl (fun cg17 rg17 hga17 hgb17 hgc17=>dX ?_)
        refine ag<|ar (cb (by omega) rfl) ?_
        exact⟨.inr ⟨⟨j+1,cg17,rg17⟩,g2,by show(((aW k L).take (j+1)).filter ((ap k).getD n aY).on).length≤cg17;rw[oM g2 g3,i3];exact hga17,hgb17,by show rg17.length=(cg17-(((aW k L).take (j+1)).filter ((ap k).getD n aY).on).length)*20;rw[oM g2 g3,i3];exact hgc17⟩,ao ⟨rfl,rfl,rfl,rfl,rfl,rfl,rfl,rfl,rfl,rfl,congrArg (fun q=>some (DV.o 53 q cg17)) (by rw[oM g2 g3,i3];rfl),trivial⟩ ⟨rfl,rfl,rfl,congrArg (fun q=>some (47,q++rg17)) (by rw[oM g2 g3,i3,nI,dV]),trivial⟩ rfl,by show(aW k L).length-(j+1)<(aW k L).length-j;omega⟩
       ·have g3:((ap k).getD n aY).on ((aW k L).getD j dPt)=false:=hc16
        refine aA<|ag<|ar (cb (by omega) rfl) ?_
        exact⟨.inl ⟨j+1,g2,by rw[vp g2 g3];exact i3⟩,ao ⟨rfl,rfl,rfl,rfl,rfl,rfl,rfl,rfl,rfl,rfl,rfl,trivial⟩ ⟨rfl,rfl,rfl,trivial⟩ rfl,by show(aW k L).length-(j+1)<(aW k L).length-j;omega⟩
      ·have hj:j=(aW k L).length:=by have:=of_decide_eq_false hc15;omega
       refine vw (t:=13) rfl<|a7 ?_
       exact⟨(),ao ⟨rfl,rfl,rfl,rfl,rfl,rfl,rfl,congrArg (fun q:List Pt=>some (DV.v (.c (.s q.length (aw aj q))))) (i3.symm.trans (show(ns k L ((ap k).getD n aY))=((aW k L).take j).filter ((ap k).getD n aY).on by rw[hj,lJ];rfl).symm),trivial⟩ ⟨rfl,rfl,rfl,trivial⟩ rfl⟩
     ·dsimp only at i2 i3 i4 i5
      have i6:(((aW k L).take j).filter ((ap k).getD n aY).on).length≤8:=iK (sB _ _) (by rw[dE];omega)
      dsimp only
      refine aa<|ag<|aa ?_
      refine aI rfl (fun hc18=>?_) (fun hc18=>?_)
      ·have g2:j<(aW k L).length:=by have:=of_decide_eq_true hc18;omega
       have hx:=hC _ (bj (d:=dPt) g2)
       refine aA<|aa<|aB<|aa<|ag<|ar (eM dPt ak g2 cA rfl)<|ar (ip ak bv rfl)<|aa<|ag ?_
       refine ar (j9 (ai _) bW rfl) ?_
       refine ac rfl (HA vc ha hx) ?_
       refine aI rfl (fun hc19=>?_) (fun hc19=>?_)
       ·have g3:((ap k).getD n aY).on ((aW k L).getD j dPt)=true:=hc19
        refine ag ?_
        refine ar (bX (n:=1) (us:=aj ((((aW k L).getD j dPt)))) dr rfl rfl rfl (by decide) (by decide) rfl) ?_
        refine DL.mk<|l6 (us:=aw aj (((aW k L).take j).filter ((ap k).getD n aY).on)) (rest:=rt) (ys:=aj ((((aW k L).getD j dPt)))) dr rfl rfl rfl (by first|exact am ak _|exact am ai _) (by assumption) rfl (by decide) (by omega) (by assumption) (by omega) (iM (by omega)) (.inl rfl) rfl (fun cg20 rg20 hga20 hgb20 hgc20=>dX ?_)
        refine ag<|ar (cb (by omega) rfl) ?_
        exact⟨.inr ⟨⟨j+1,cg20,rg20⟩,g2,by show(((aW k L).take (j+1)).filter ((ap k).getD n aY).on).length≤cg20;rw[oM g2 g3,dm];exact hga20,hgb20,by show rg20.length=(cg20-(((aW k L).take (j+1)).filter ((ap k).getD n aY).on).length)*20;rw[oM g2 g3,dm];exact hgc20⟩,ao ⟨rfl,rfl,rfl,rfl,rfl,rfl,rfl,rfl,rfl,rfl,congrArg (fun q=>some (DV.o 53 q cg20)) (by rw[oM g2 g3,dm];rfl),trivial⟩ ⟨rfl,rfl,rfl,congrArg (fun q=>some (47,q++rg20)) (by rw[oM g2 g3,dB,dV]),trivial⟩ rfl,by show(aW k L).length-(j+1)<(aW k L).length-j;omega⟩
       ·have g3:((ap k).getD n aY).on ((aW k L).getD j dPt)=false:=hc19
        refine aA<|ag<|ar (cb (by omega) rfl) ?_
        exact⟨.inr ⟨⟨j+1,c8,rt⟩,g2,by show(((aW k L).take (j+1)).filter ((ap k).getD n aY).on).length≤c8;rw[vp g2 g3];exact i3,i4,by show rt.length=(c8-(((aW k L).take (j+1)).filter ((ap k).getD n aY).on).length)*20;rw[vp g2 g3];exact i5⟩,ao ⟨rfl,rfl,rfl,rfl,rfl,rfl,rfl,rfl,rfl,rfl,congrArg (fun q=>some (DV.o 53 (List.length q) c8)) (vp g2 g3).symm,trivial⟩ ⟨rfl,rfl,rfl,congrArg (fun q=>some (47,aw aj q++rt)) (vp g2 g3).symm,trivial⟩ rfl,by show(aW k L).length-(j+1)<(aW k L).length-j;omega⟩
      ·have hj:j=(aW k L).length:=by have:=of_decide_eq_false hc18;omega
       refine cB (t:=13) (m:=20) (us:=aw aj (((aW k L).take j).filter ((ap k).getD n aY).on)) rfl rfl (jC (n:=(((aW k L).take j).filter ((ap k).getD n aY).on).length) (by first|exact am ak _|exact am ai _) (by assumption) (by omega)) (by omega) (by assumption) (gh (by first|exact am ak _|exact am ai _)) ?_
       refine a7 ?_
       exact⟨(),ao ⟨rfl,rfl,rfl,rfl,rfl,rfl,rfl,congrArg (fun q:List Pt=>some (DV.v (.c (.s q.length (aw aj q))))) ((show(ns k L ((ap k).getD n aY))=((aW k L).take j).filter ((ap k).getD n aY).on by rw[hj,lJ];rfl).symm),trivial⟩ ⟨rfl,rfl,rfl,trivial⟩ rfl⟩
    ·rintro⟨⟩
     try dsimp only
     refine aa<|bg<|aR (j9 (ai _) bW rfl)<|bK 1 ?_
     refine yK rfl rfl ((show OkN _ _ [.a (aD ((ap k).getD n aY)),.c (.s ((ns k L ((ap k).getD n aY))).length (aw aj (ns k L ((ap k).getD n aY))))] _ (nm k L ((ap k).getD n aY)).length _ (aw aD (nm k L ((ap k).getD n aY))) _ from We (L:=(ns k L ((ap k).getD n aY))) vc ha (fun p h=>hC p (my.1 h).1) (iK (sB _ _) (by omega)) (fun p h=>(my.1 h).2))) rfl rfl (fun cg21 rg21 hga21 hgb21 hgc21=>?_)
     refine bK 1<|aR (Cd rfl rfl) ?_
     refine aR (C5 rfl rfl rfl) ?_
     refine ex<|aa<|ag<|df rfl ?_
     refine cB (t:=16) (m:=66) (us:=aw aD (nm k L ((ap k).getD n aY))) rfl rfl (jC (n:=(nm k L ((ap k).getD n aY)).length) (by first|exact am ak _|exact am ai _) (by assumption) (by omega)) (by omega) (by assumption) (gh (by first|exact am ak _|exact am ai _)) ?_
     refine ag ?_
     refine DL.mk<|vT (n:=(wW k L n).length) (c:=c9) (q:=(nm k L ((ap k).getD n aY)).length) (us:=aw aD (wW k L n)) (rest:=rs) (N':=(wW k L n).length+(nm k L ((ap k).getD n aY)).length) (zs':=aw aD (wW k L n)++aw aD (nm k L ((ap k).getD n aY))) lT rfl rfl rfl (rfl) (am ai _) (h5) (am ai _) (by decide) (by omega) (by assumption) (by omega) (iM (by omega)) (.inl rfl) (rfl) (rfl) rfl (fun cg22 rg22 hga22 hgb22 hgc22=>dX ?_)
     refine ag<|ar (cb (by omega) rfl) ?_
     exact⟨⟨⟨n+1,cg22,rg22⟩,by omega,by omega,by show(wW k L (n+1)).length≤cg22;rw[(show wW k L (n+1)=wW k L n++nm k L ((ap k).getD n aY) from jJ g1),dm];exact hga22,hgb22,by show rg22.length=(cg22-(wW k L (n+1)).length)*66;rw[(show wW k L (n+1)=wW k L n++nm k L ((ap k).getD n aY) from jJ g1),dm];exact hgc22⟩,ao ⟨rfl,rfl,rfl,rfl,rfl,congrArg (fun q=>some (DV.o 65 q cg22)) (by rw[(show wW k L (n+1)=wW k L n++nm k L ((ap k).getD n aY) from jJ g1),dm]),trivial⟩ ⟨rfl,congrArg (fun q=>some (49,q++rg22)) (by rw[(show wW k L (n+1)=wW k L n++nm k L ((ap k).getD n aY) from jJ g1),dB]),trivial⟩ rfl,by show 2-(n+1)<2-n;omega⟩
   ·have hp:n=2:=by
     have h8:=of_decide_eq_false hc14
     have h9: ¬(n:Int)<((2:Nat):Int):=h8
     omega
    refine a7<|aa<|ag ?_
    refine cB (t:=4) (m:=66) (us:=aw aD (wW k L n)) rfl rfl (jC (n:=(wW k L n).length) (by first|exact am ak _|exact am ai _) (by assumption) (by omega)) (by omega) (by assumption) (gh (by first|exact am ak _|exact am ai _)) ?_
    refine aZ ?_
    rw[show bm k L=wW k L n from by rw[hp];rfl]
    exact ah (az ae)
theorem R4 (h0:e s=false) (h:ni P e s n=[]):e (s+n)=false:=by
 cases g:e (s+n) with
 |false=>rfl
 |true=>
  obtain⟨L,a,h1,_⟩:=zp h0 n g
  unfold ni at h
  rw[h1] at h
  simp at h
theorem yg (c:Cv) (r:List CellD):((aD c++r).drop 46).take 20=aj c.q:=by
 have hl:=ai c
 rw[xh (by omega),xz (by rw[fO];omega)]
 cases c<;>rfl
theorem Jm (c:Cv) (q:Pt) (r:List CellD):(aD c++r).take 46++aj q++(aD c++r).drop 66=aD (c.ends c.p q)++r:=by
 have h:=Ai c c.p q
 rw[show c.setp c.p=c from by cases c<;>rfl] at h
 have hl:=ai c
 rw[xz (by omega),List.drop_append,show(aD c).drop 66=[] from pn (by omega),hl]
 rw[show(aD c).drop 66=[] from pn (by omega),jc] at h
 rw[h];rfl
theorem MS {rs:List CellD}:(aw aD (O++[c])++rs).take (O.length*66+46)++aj q++(aw aD (O++[c])++rs).drop (O.length*66+46+20)=aw aD (O++[c.ends c.p q])++rs:=by
 have hl:=am ai O
 rw[dB,dB,dV,dV,mV (aw aD O),←hl,List.take_length_add_append,show(aw aD O).length+46+20=(aw aD O).length+66 from rfl,List.drop_length_add_append,mV (aw aD O) _ (aj q),mV (aw aD O),Jm,mV (aw aD O)]
theorem Sn (hk:RK k) (h0:0<k.q) (hL: ∀d∈L,RK d) (lL:L.length≤4) (hm: ∀i,i<(bm k L).length→GB (m i)∧Ok Tryz.prog 43 [.a (aD ((bm k L).getD i aY))] [.a (aj (m i))]) (he: ∀i,i<(bm k L).length→e i=qd L (m i)) (ha: ∀i,i<(bm k L).length→e i=true):Ok Tryz.prog 9 [.a (aX k),.c (.s L.length (aw aX L))] [.c (.s 0 []),.c (.b true)]:=by
 have lN:(bm k L).length≤9*2:=A3 lL (ce _)
 have hN:(bm k L).length≤100:=by omega
 have hMx:(bm k L).length≤9223372036854775807:=by omega
 refine eH Tryz.func9 86 [.tmp 4,.tmp 5] rfl<|aa<|ag<|aa<|ag ?_
 refine ac rfl (V3 hk h0 hL lL)<|aa<|ag ?_
 refine DL.mk<|pi (ko (n:=(((((bm k L)).length:Nat):Int)).toNat) WD rfl rfl (by omega) (by omega) rfl) rfl<|dX ?_
 refine aa<|aa<|ag ?_
 refine aB ?_
 refine bh (ι:={n:Nat // n≤(bm k L).length}) (fun i=>⟨86,[(2,.p 2 0),(6,.v (.c (.s (((bm k L)).length) (aw aD ((bm k L)))))),(1,.v (.c (.s L.length (aw aX L)))),(7,.o 21 ((bm k L).length) ((bm k L).length)),(22,.v (.c (.s (((bm k L)).length) (aw aD ((bm k L)))))),(23,.v (.c (.i .i64 (((bm k L).length:Int))))),(24,.v (.c (.i .i64 (i.1:Int))))],[(2,40,aX k),(21,4,nL e ((bm k L).length) i.1++[])]⟩) (fun i=>(bm k L).length-i.1) ⟨0,eK _⟩ (ao ⟨rfl,rfl,rfl,rfl,rfl,rfl,rfl,trivial⟩ ⟨rfl,congrArg (fun q=>some (4,q)) JB,trivial⟩ rfl) ?_
 rintro⟨n,h2⟩
 replace h2:n≤(bm k L).length:=h2
 dsimp only
 refine aa<|ag<|aa ?_
 refine aI rfl (fun hc1=>?_) (fun hc1=>?_)
 ·have g1:n<(bm k L).length:=by have:=of_decide_eq_true hc1;omega
  obtain⟨gm,om⟩:=hm n g1
  refine aA<|aa<|aB<|aa<|ag<|ar (eM aY ai g1 gF rfl)<|ar (ip ai bW rfl)<|re (de bW rfl rfl rfl (ai _) rfl rfl) ?_
  refine aa<|ag ?_
  refine ar (j9 (ai _) bW rfl) ?_
  refine ac rfl (om) ?_
  refine kU (t:=10) (k:=10) rfl rfl<|bg<|bK 3 ?_
  refine aR (qp (us:=[.p (aj (m n))]) rfl rfl) ?_
  refine aR (cj rfl (ez (c:= !e n) (Z2 hL lL gm) (by rw[he n g1])))<|bK 1<|aR (bq zG rfl rfl (by omega) rfl) ?_
  refine f8 (bd (us:=nL e ((bm k L).length) (n+1)++[]) kP rfl rfl rfl rfl (by rw[jc,yB];omega) (by rw[Bool.not_not];exact F5 g1) rfl) ?_
  refine ba<|ag<|ar (cb (by omega) rfl) ?_
  exact⟨⟨n+1,g1⟩,ao ⟨rfl,rfl,rfl,rfl,rfl,rfl,rfl,trivial⟩ ⟨rfl,rfl,trivial⟩ rfl,by show(bm k L).length-(n+1)<(bm k L).length-n;omega⟩
 ·have hp:n=(bm k L).length:=by have:=of_decide_eq_false hc1;omega
  refine lj (σ':=⟨86,[(2,.p 2 0),(6,.v (.c (.s (((bm k L)).length) (aw aD ((bm k L)))))),(7,.o 21 ((bm k L).length) ((bm k L).length))],[(2,40,aX k),(21,4,te e ((bm k L).length)++[])]⟩) (ao ⟨rfl,rfl,rfl,trivial⟩ ⟨rfl,congrArg (fun q=>some (4,q++[])) (by rw[hp];exact CY),trivial⟩ rfl) ?_
  refine cB (t:=7) (m:=1) (us:=te e ((bm k L).length)) rfl rfl (jC (n:=(bm k L).length) (by first|exact dL|exact am ai _|exact(am ai _).trans (by rw[fE])) (by first|assumption|simp) (by omega)) (by omega) (by assumption) (gh (by first|exact dL|exact am ai _|exact(am ai _).trans (by rw[fE]))) ?_
  refine a7<|aa<|aa<|ag<|ac rfl (abz hN) ?_
  refine aI rfl (fun hc2=>?_) (fun hc2=>?_)
  ·refine aa<|ag<|aZ ?_
   exact ah (az (az ae))
  ·exact absurd hc2 (by rw[L4 ha];decide)
theorem TH (hk:RK k) (h0:0<k.q) (hL: ∀d∈L,RK d) (lL:L.length≤4) (hm: ∀i,i<(bm k L).length→GB (m i)∧Ok Tryz.prog 43 [.a (aD ((bm k L).getD i aY))] [.a (aj (m i))]) (he: ∀i,i<(bm k L).length→e i=qd L (m i)) (hr:Rnd e (bm k L).length) (hs:s<(bm k L).length) (hlt: ∀i,i<s→e i=true) (es:e s=false) (hG: ∀x∈ni (bm k L) e s (bm k L).length,CvV x):Ok Tryz.prog 9 [.a (aX k),.c (.s L.length (aw aX L))] [.c (.s (((bp aY cY (ni (bm k L) e s ((bm k L).length)))).length) (aw aD ((bp aY cY (ni (bm k L) e s ((bm k L).length)))))),.c (.b false)]:=by
 have lN:(bm k L).length≤9*2:=A3 lL (ce _)
 have hN:(bm k L).length≤100:=by omega
 have hMx:(bm k L).length≤9223372036854775807:=by omega
 have hfs:fz e (bm k L).length=s:=G6 hlt es hs
 refine eH Tryz.func9 86 [.tmp 4,.tmp 5] rfl<|aa<|ag<|aa<|ag ?_
 refine ac rfl (V3 hk h0 hL lL)<|aa<|ag ?_
 refine DL.mk<|pi (ko (n:=(((((bm k L)).length:Nat):Int)).toNat) WD rfl rfl (by omega) (by omega) rfl) rfl<|dX ?_
 refine aa<|aa<|ag ?_
 refine aB ?_
 refine bh (ι:={n:Nat // n≤(bm k L).length}) (fun i=>⟨86,[(2,.p 2 0),(6,.v (.c (.s (((bm k L)).length) (aw aD ((bm k L)))))),(1,.v (.c (.s L.length (aw aX L)))),(7,.o 21 ((bm k L).length) ((bm k L).length)),(22,.v (.c (.s (((bm k L)).length) (aw aD ((bm k L)))))),(23,.v (.c (.i .i64 (((bm k L).length:Int))))),(24,.v (.c (.i .i64 (i.1:Int))))],[(2,40,aX k),(21,4,nL e ((bm k L).length) i.1++[])]⟩) (fun i=>(bm k L).length-i.1) ⟨0,eK _⟩ (ao ⟨rfl,rfl,rfl,rfl,rfl,rfl,rfl,trivial⟩ ⟨rfl,congrArg (fun q=>some (4,q)) JB,trivial⟩ rfl) ?_
 rintro⟨n,h2⟩
 replace h2:n≤(bm k L).length:=h2
 dsimp only
 refine aa<|ag<|aa ?_
 refine aI rfl (fun hc1=>?_) (fun hc1=>?_)
 ·have g1:n<(bm k L).length:=by have:=of_decide_eq_true hc1;omega
  obtain⟨gm,om⟩:=hm n g1
  refine aA<|aa<|aB<|aa<|ag<|ar (eM aY ai g1 gF rfl)<|ar (ip ai bW rfl)<|re (de bW rfl rfl rfl (ai _) rfl rfl) ?_
  refine aa<|ag ?_
  refine ar (j9 (ai _) bW rfl) ?_
  refine ac rfl (om) ?_
  refine kU (t:=10) (k:=10) rfl rfl<|bg<|bK 3 ?_
  refine aR (qp (us:=[.p (aj (m n))]) rfl rfl) ?_
  refine aR (cj rfl (ez (c:= !e n) (Z2 hL lL gm) (by rw[he n g1])))<|bK 1<|aR (bq zG rfl rfl (by omega) rfl) ?_
  refine f8 (bd (us:=nL e ((bm k L).length) (n+1)++[]) kP rfl rfl rfl rfl (by rw[jc,yB];omega) (by rw[Bool.not_not];exact F5 g1) rfl) ?_
  refine ba<|ag<|ar (cb (by omega) rfl) ?_
  exact⟨⟨n+1,g1⟩,ao ⟨rfl,rfl,rfl,rfl,rfl,rfl,rfl,trivial⟩ ⟨rfl,rfl,trivial⟩ rfl,by show(bm k L).length-(n+1)<(bm k L).length-n;omega⟩
 ·have hp:n=(bm k L).length:=by have:=of_decide_eq_false hc1;omega
  refine lj (σ':=⟨86,[(2,.p 2 0),(6,.v (.c (.s (((bm k L)).length) (aw aD ((bm k L)))))),(7,.o 21 ((bm k L).length) ((bm k L).length))],[(2,40,aX k),(21,4,te e ((bm k L).length)++[])]⟩) (ao ⟨rfl,rfl,rfl,trivial⟩ ⟨rfl,congrArg (fun q=>some (4,q++[])) (by rw[hp];exact CY),trivial⟩ rfl) ?_
  refine cB (t:=7) (m:=1) (us:=te e ((bm k L).length)) rfl rfl (jC (n:=(bm k L).length) (by first|exact dL|exact am ai _|exact(am ai _).trans (by rw[fE])) (by first|assumption|simp) (by omega)) (by omega) (by assumption) (gh (by first|exact dL|exact am ai _|exact(am ai _).trans (by rw[fE]))) ?_
  refine a7<|aa<|aa<|ag<|ac rfl (abz hN) ?_
  refine aI rfl (fun hc2=>?_) (fun hc2=>?_)
  ·exact absurd hc2 (by rw[hfs];simp)
  ·refine aA<|aa<|ag<|ac rfl ((by have h9:=abm (e:=e) hN;rw[hfs] at h9;exact h9)) ?_
   refine aa<|bg<|aR (ed rfl) ?_
   refine ba<|aa<|ag<|aa<|aa<|ag ?_
   refine aB ?_
   refine bh (ι:=Sum ({n:Nat // n≤(bm k L).length∧(ni (bm k L) e s n)=[]}) ({x9:Nat×Nat×List CellD // x9.1≤(bm k L).length∧(ni (bm k L) e s x9.1).length≤x9.2.1∧x9.2.1≤maxLen∧x9.2.2.length=(x9.2.1-(ni (bm k L) e s x9.1).length)*66∧1≤(ni (bm k L) e s x9.1).length})) (fun i=>match i with| .inl i=>⟨86,[(2,.p 2 0),(6,.v (.c (.s (((bm k L)).length) (aw aD ((bm k L)))))),(7,.v (.c (.s ((bm k L).length) (te e ((bm k L).length))))),(11,.v (.c (.i .i64 (s:Int)))),(13,.v (.c (.b (e (s+i.1))))),(44,.v (.c (.s (((bm k L)).length) (aw aD ((bm k L)))))),(45,.v (.c (.i .i64 (((bm k L).length:Int))))),(46,.v (.c (.i .i64 (i.1:Int)))),(12,.z)],[(2,40,aX k)]⟩| .inr i=>⟨86,[(2,.p 2 0),(6,.v (.c (.s (((bm k L)).length) (aw aD ((bm k L)))))),(7,.v (.c (.s ((bm k L).length) (te e ((bm k L).length))))),(11,.v (.c (.i .i64 (s:Int)))),(13,.v (.c (.b (e (s+i.1.1))))),(44,.v (.c (.s (((bm k L)).length) (aw aD ((bm k L)))))),(45,.v (.c (.i .i64 (((bm k L).length:Int))))),(46,.v (.c (.i .i64 (i.1.1:Int)))),(12,.o 62 ((ni (bm k L) e s i.1.1).length) i.1.2.1)],[(2,40,aX k),(62,49,aw aD (ni (bm k L) e s i.1.1)++i.1.2.2)]⟩) (fun i=>match i with| .inl i=>(bm k L).length-i.1| .inr i=>(bm k L).length-i.1.1) (.inl ⟨0,eK _,rfl⟩) (ao ⟨rfl,rfl,rfl,rfl,congrArg (fun q=>some (DV.v (.c (.b q)))) es.symm,rfl,rfl,rfl,rfl,trivial⟩ ⟨rfl,trivial⟩ rfl) ?_
   rintro(⟨n,i2,i3⟩|⟨⟨n,c9,rs⟩,i2,i3,i4,i5,i7⟩)
   ·replace i2:n≤(bm k L).length:=i2
    replace i3:(ni (bm k L) e s n)=[]:=i3
    dsimp only
    refine aa<|ag<|aa ?_
    refine aI rfl (fun hc3=>?_) (fun hc3=>?_)
    ·have g1:n<(bm k L).length:=by have:=of_decide_eq_true hc3;omega
     obtain⟨kx,hkx⟩: ∃x,x=(s+1+n)%(bm k L).length:=⟨_,rfl⟩
     have gk:kx<(bm k L).length:=hkx▸rV _ hr.pos
     have ek:kx=(s+n+1)%(bm k L).length:=by rw[hkx,show s+1+n=s+n+1 from by omega]
     have em:e kx=e (s+n+1):=by rw[ek,hr.mod]
     refine aA<|aa<|aB<|aa<|ag<|aa<|ag<|ar (cb (by omega) rfl)<|ar (ci (((s+1+n:Nat):Int)) ((bk (by omega) (by omega)).trans (congrArg some (by omega))) rfl) ?_
     refine ar (gn (r:=(kx:Int)) rfl rfl (by omega) (by rw[hkx];exact(vv _ _).symm) rfl) ?_
     refine aB<|aa<|ag<|ar (bH (us:=[CellD.b (e kx)]++(te e ((bm k L).length)).drop (kx+1)) zG rfl rfl (by omega) (dL) (pG gk) rfl) ?_
     refine ar (b5 kP rfl rfl rfl) ?_
     refine aI rfl (fun hc4=>?_) (fun hc4=>?_)
     ·have o1:e (s+n+1)=false:=by rw[←em];simpa using hc4
      refine ag<|ag<|ar (cb (by omega) rfl) ?_
      exact⟨.inl ⟨n+1,g1,(zW o1).trans i3⟩,ao ⟨rfl,rfl,rfl,rfl,congrArg (fun q=>some (DV.v (.c (.b q)))) (show e (s+n+1)=false from o1).symm,rfl,rfl,rfl,rfl,trivial⟩ ⟨rfl,trivial⟩ rfl,by show(bm k L).length-(n+1)<(bm k L).length-n;omega⟩
     ·have o1:e (s+n+1)=true:=by rw[←em];simpa using hc4
      refine aa<|ag ?_
      refine aI rfl (fun hc5=>?_) (fun hc5=>?_)
      ·exact absurd hc5 (by rw[R4 es i3];decide)
      ·have o2:e (s+n)=false:=hc5
       refine ag<|ar (eM aY ai gk gF rfl)<|ar (ip ai bW rfl)<|ar (bX (n:=1) (us:=aD (((bm k L).getD kx aY))) lT rfl (uV rfl (ai _)) (d8 (ai _)) (by decide) (by decide) rfl) ?_
       refine DL.mk<|lW (ys:=aD (((bm k L).getD kx aY))) lT rfl rfl (d8 (ai _)) (by decide) (by decide) (by decide) rfl rfl (fun cg6 rg6 hga6 hgb6 hgc6=>dX ?_)
       refine ag<|ar (cb (by omega) rfl) ?_
       exact⟨.inr ⟨⟨n+1,cg6,rg6⟩,g1,by show(ni (bm k L) e s (n+1)).length≤cg6;rw[n7 o1 o2,i3,nI];exact hga6,hgb6,by show rg6.length=(cg6-(ni (bm k L) e s (n+1)).length)*66;rw[n7 o1 o2,i3,nI];exact hgc6,by show 1≤(ni (bm k L) e s (n+1)).length;rw[n7 o1 o2,i3,nI];exact ce _⟩,ao ⟨rfl,rfl,rfl,rfl,congrArg (fun q=>some (DV.v (.c (.b q)))) (show e (s+n+1)=true from o1).symm,rfl,rfl,rfl,congrArg (fun q=>some (DV.o 62 (List.length q) cg6)) (show[(bm k L).getD ((s+n+1)%(bm k L).length) aY]=(ni (bm k L) e s (n+1)) from by rw[n7 o1 o2,i3,nI]),trivial⟩ ⟨rfl,congrArg (fun q=>some (49,q++rg6)) (show _=aw aD (ni (bm k L) e s (n+1)) from by rw[n7 o1 o2,i3,nI,dV,ek]),trivial⟩ rfl,by show(bm k L).length-(n+1)<(bm k L).length-n;omega⟩
    ·have hp:n=(bm k L).length:=by have:=of_decide_eq_false hc3;omega
     refine a7<|aa<|vw (t:=12) rfl<|ag<|ac rfl (Zu)<|aa<|ag<|aZ ?_
     rw[show(ni (bm k L) e s ((bm k L).length))=[] from hp▸i3]
     exact ah (az (az ae))
   ·dsimp only at i2 i3 i4 i5 i7
    have i6:(ni (bm k L) e s n).length≤n:=Tv
    dsimp only
    refine aa<|ag<|aa ?_
    refine aI rfl (fun hc7=>?_) (fun hc7=>?_)
    ·have g1:n<(bm k L).length:=by have:=of_decide_eq_true hc7;omega
     obtain⟨kx,hkx⟩: ∃x,x=(s+1+n)%(bm k L).length:=⟨_,rfl⟩
     have gk:kx<(bm k L).length:=hkx▸rV _ hr.pos
     have ek:kx=(s+n+1)%(bm k L).length:=by rw[hkx,show s+1+n=s+n+1 from by omega]
     have em:e kx=e (s+n+1):=by rw[ek,hr.mod]
     refine aA<|aa<|aB<|aa<|ag<|aa<|ag<|ar (cb (by omega) rfl)<|ar (ci (((s+1+n:Nat):Int)) ((bk (by omega) (by omega)).trans (congrArg some (by omega))) rfl) ?_
     refine ar (gn (r:=(kx:Int)) rfl rfl (by omega) (by rw[hkx];exact(vv _ _).symm) rfl) ?_
     refine aB<|aa<|ag<|ar (bH (us:=[CellD.b (e kx)]++(te e ((bm k L).length)).drop (kx+1)) zG rfl rfl (by omega) (dL) (pG gk) rfl) ?_
     refine ar (b5 kP rfl rfl rfl) ?_
     refine aI rfl (fun hc8=>?_) (fun hc8=>?_)
     ·have o1:e (s+n+1)=false:=by rw[←em];simpa using hc8
      refine ag<|ag<|ar (cb (by omega) rfl) ?_
      exact⟨.inr ⟨⟨n+1,c9,rs⟩,g1,by show(ni (bm k L) e s (n+1)).length≤c9;rw[zW o1];exact i3,i4,by show rs.length=(c9-(ni (bm k L) e s (n+1)).length)*66;rw[zW o1];exact i5,by show 1≤(ni (bm k L) e s (n+1)).length;rw[zW o1];exact i7⟩,ao ⟨rfl,rfl,rfl,rfl,congrArg (fun q=>some (DV.v (.c (.b q)))) (show e (s+n+1)=false from o1).symm,rfl,rfl,rfl,congrArg (fun q=>some (DV.o 62 (List.length q) c9)) (zW o1).symm,trivial⟩ ⟨rfl,congrArg (fun q=>some (49,aw aD q++rs)) (zW o1).symm,trivial⟩ rfl,by show(bm k L).length-(n+1)<(bm k L).length-n;omega⟩
     ·have o1:e (s+n+1)=true:=by rw[←em];simpa using hc8
      refine aa<|ag ?_
      refine aI rfl (fun hc9=>?_) (fun hc9=>?_)
      ·have o2:e (s+n)=true:=hc9
       obtain⟨O,c,oe,oe2⟩:=PO (P:=bm k L) es o1 o2
       have lO:O.length+1≤n:=by have h8:=i6;rw[oe] at h8;simpa using h8
       have lO2:(O++[c]).length=O.length+1:=by simp
       refine lj (σ':=⟨86,[(2,.p 2 0),(6,.v (.c (.s (((bm k L)).length) (aw aD ((bm k L)))))),(7,.v (.c (.s ((bm k L).length) (te e ((bm k L).length))))),(11,.v (.c (.i .i64 (s:Int)))),(13,.v (.c (.b (e (s+n))))),(44,.v (.c (.s (((bm k L)).length) (aw aD ((bm k L)))))),(45,.v (.c (.i .i64 (((bm k L).length:Int))))),(46,.v (.c (.i .i64 (n:Int)))),(15,.v (.c (.i .i64 (kx:Int)))),(12,.o 62 ((O++[c]).length) c9)],[(2,40,aX k),(62,49,aw aD (O++[c])++rs)]⟩) (ao ⟨rfl,rfl,rfl,rfl,rfl,rfl,rfl,rfl,rfl,congrArg (fun q=>some (DV.o 62 (List.length q) c9)) oe,trivial⟩ ⟨rfl,congrArg (fun q=>some (49,aw aD q++rs)) oe,trivial⟩ rfl) ?_
       refine ag<|ar (iv gF rfl rfl) ?_
       refine ar (ci ((O.length:Int)) ((bO (by simp only[dm,List.length_singleton];omega) (by simp only[dm,List.length_singleton];omega)).trans (congrArg some (by simp only[dm,List.length_singleton];omega))) rfl)<|ar (eM aY ai gk gF rfl)<|ar (nO Al rfl rfl rfl) ?_
       refine ar (cg bv rfl (yg _ _) (ak _) rfl) ?_
       refine ar (bq gF rfl rfl (by omega) rfl) ?_
       refine re (bd (us:=aw aD (O++[c.ends c.p ((bm k L).getD kx aY).q])++rs) bv rfl rfl rfl (ak _) (by rw[dm,am ai];simp;omega) (MS) rfl) ?_
       refine ag<|ar (cb (by omega) rfl) ?_
       exact⟨.inr ⟨⟨n+1,c9,rs⟩,g1,by show(ni (bm k L) e s (n+1)).length≤c9;rw[oe2];rw[oe] at i3;simpa using i3,i4,by show rs.length=(c9-(ni (bm k L) e s (n+1)).length)*66;rw[oe2];rw[oe] at i5;simpa using i5,by show 1≤(ni (bm k L) e s (n+1)).length;rw[oe2];simp⟩,ao ⟨rfl,rfl,rfl,rfl,congrArg (fun q=>some (DV.v (.c (.b q)))) (o2.trans o1.symm),rfl,rfl,rfl,congrArg (fun q=>some (DV.o 62 q c9)) (by rw[oe2];simp),trivial⟩ ⟨rfl,congrArg (fun q=>some (49,aw aD q++rs)) (by rw[oe2,ek]),trivial⟩ rfl,by show(bm k L).length-(n+1)<(bm k L).length-n;omega⟩
      ·have o2:e (s+n)=false:=hc9
       refine ag<|ar (eM aY ai gk gF rfl)<|ar (ip ai bW rfl)<|ar (bX (n:=1) (us:=aD (((bm k L).getD kx aY))) lT rfl (uV rfl (ai _)) (d8 (ai _)) (by decide) (by decide) rfl) ?_
       refine DL.mk<|l6 (us:=aw aD (ni (bm k L) e s n)) (rest:=rs) (ys:=aD (((bm k L).getD kx aY))) lT rfl rfl rfl (by first|exact dL|exact am ai _|exact(am ai _).trans (by rw[fE])) (by assumption) (d8 (ai _)) (by decide) (by omega) (by assumption) (by omega) (iM (by omega)) (.inl rfl) rfl (fun cg10 rg10 hga10 hgb10 hgc10=>dX ?_)
       refine ag<|ar (cb (by omega) rfl) ?_
       exact⟨.inr ⟨⟨n+1,cg10,rg10⟩,g1,by show(ni (bm k L) e s (n+1)).length≤cg10;rw[n7 o1 o2,dm];exact hga10,hgb10,by show rg10.length=(cg10-(ni (bm k L) e s (n+1)).length)*66;rw[n7 o1 o2,dm];exact hgc10,by show 1≤(ni (bm k L) e s (n+1)).length;rw[n7 o1 o2,dm];exact Nat.le_add_left 1 _⟩,ao ⟨rfl,rfl,rfl,rfl,congrArg (fun q=>some (DV.v (.c (.b q)))) (show e (s+n+1)=true from o1).symm,rfl,rfl,rfl,congrArg (fun q=>some (DV.o 62 q cg10)) (show _=(ni (bm k L) e s (n+1)).length from by rw[n7 o1 o2,dm];rfl),trivial⟩ ⟨rfl,congrArg (fun q=>some (49,q++rg10)) (show _=aw aD (ni (bm k L) e s (n+1)) from by rw[n7 o1 o2,dB,dV,ek]),trivial⟩ rfl,by show(bm k L).length-(n+1)<(bm k L).length-n;omega⟩
    ·have hp:n=(bm k L).length:=by have:=of_decide_eq_false hc7;omega
     have hl0:(ni (bm k L) e s n).length≤12:=by have:=HN (P:=bm k L) (e:=e) (s:=s) (n:=(bm k L).length);rw[hp];omega
     have hGn: ∀x∈(ni (bm k L) e s n),CvV x:=hp▸hG
     refine a7<|aa<|ag ?_
     refine DL.mk<|sN (kY rfl rfl rfl rfl rfl (abJ i7 hl0 hGn) rfl)<|dX ?_
     refine aa<|ag ?_
     refine cB (t:=4) (m:=66) (us:=aw aD (bp aY cY (ni (bm k L) e s n))) rfl rfl (jC (n:=(ni (bm k L) e s n).length) (by first|exact dL|exact am ai _|exact(am ai _).trans (by rw[fE])) (by first|assumption|simp) (by omega)) (by omega) (by assumption) (gh (by first|exact dL|exact am ai _|exact(am ai _).trans (by rw[fE]))) ?_
     refine aZ ?_
     rw[←hp,fE]
     exact ah (az (az ae))
structure Rn where
 x:Int
 y:Int
 q:Int
 d:Int
structure RnB (r:Rn):Prop where
 x0: -32768≤r.x
 x1:r.x≤32767
 y0: -32768≤r.y
 y1:r.y≤32767
 q0:0≤r.q
 q1:r.q≤65535
 d0:0≤r.d
 d1:r.d≤255
def Ih:Rn:=⟨0,0,0,0⟩
def uy (r:Rn):List CellD:=[.i .i16 r.x]++[.i .i16 r.y]++[.i .u16 r.q]++[.i .u8 r.d]
theorem y9 (r:Rn):(uy r).length=4:=rfl
theorem Lf (r:Rn) (s:List CellD):(uy r++s).take 4=uy r:=List.take_left' rfl
def Bw (r:Rn):Ci:=⟨Rat.divInt r.x (r.d%8+1),Rat.divInt r.y (r.d%8+1),Rat.divInt (r.q+1) (r.d%8+1)⟩
theorem Ta {r:Rn}(h:RnB r):0<(Bw r).q:=by
 have:=h.q0;have:=h.d0
 show 0<Rat.divInt (r.q+1) (r.d%8+1)
 have hd:((0:Int):Rat)<((r.d%8+1:Int):Rat):=iN.2 (by omega)
 have hn:((0:Int):Rat)<((r.q+1:Int):Rat):=iN.2 (by omega)
 rw[zo]
 generalize ((r.d%8+1:Int):Rat)=x at*
 generalize ((r.q+1:Int):Rat)=y at*
 have h1:=Q3 (x:=x) (by grind)
 rw[show y/x=y*(1/x) from by grind]
 exact kG (by grind) h1
theorem Qf {r:Rn}(h:RnB r):RK (Bw r):=by
 have:=h.x0;have:=h.x1;have:=h.y0;have:=h.y1;have:=h.q0;have:=h.q1;have:=h.d0
 have hd:(r.d%8+1).natAbs<2^16:=by omega
 exact⟨Eo (by omega) hd (by omega),Eo (by omega) hd (by omega),Eo (by omega) (by omega) (by omega),Ta h⟩
theorem acr {m:Pt}(h:n<L.length) (g:eO L m n=false):qd L m=false:=by
 cases ho:qd L m with
 |false=>rfl
 |true=>
  unfold qd at ho
  rw[lE] at ho
  have:=ho _ (bj (d:=dK) h)
  unfold eO at g
  rw[this] at g;cases g
theorem abO {m:Pt}(h: ∀i,i<L.length→eO L m i=true):qd L m=true:=by
 unfold qd
 rw[lE]
 intro d hd
 obtain⟨i,hi,rfl⟩:=List.getElem_of_mem hd
 have:=h i hi
 unfold eO at this
 simpa [List.getD,hi] using this
theorem LT {α β:Type}{d:α}{f:α→β}{l:List α}(h:n<l.length):(l.take (n+1)).map f=(l.take n).map f++[f (l.getD n d)]:=by
 rw[Ag,o5,ew (d:=d) h]
 rfl
theorem acF (hL: ∀d∈L,RK d) (lL:L.length≤4) {m:Pt}(hm:GB m):Ok Tryz.prog 55 [.a (aj m),.c (.s L.length (aw aX L))] [.c (.b (qd L m))]:=by
 refine ca Tryz.func55 rfl ?_
 refine DW.mk<|bh (ι:={n:Nat // n≤L.length∧ ∀i,i<n→eO L m i=true}) (fun i=>⟨19,[(1,.v (.c (.s L.length (aw aX L)))),(2,.p 2 0),(5,.v (.c (.i .i64 (i.1:Int))))],[(2,47,aj m)]⟩) (fun i=>L.length-i.1) ⟨0,eK _,fun i hi=>absurd hi (by omega)⟩ (ao ⟨rfl,rfl,rfl,trivial⟩ ⟨rfl,trivial⟩ rfl) ?_
 rintro⟨n,h2,h3⟩
 replace h2:n≤L.length:=h2
 replace h3: ∀i,i<n→eO L m i=true:=h3
 dsimp only
 refine no ?_
 refine dD rfl (fun hc1=>?_) (fun hc1=>?_)
 ·have g1:n<L.length:=by have:=of_decide_eq_true hc1;omega
  refine cT 7 []<|aq (eM dK dW g1 Dv rfl)<|aq (cg (us:=aX (L.getD n dK)) qV rfl (rn _ _) (dW _) rfl) ?_
  refine aK rfl (Po (hL _ (bj g1)).k hm) ?_
  refine dD rfl (fun hc2=>?_) (fun hc2=>?_)
  ·have g2:eO L m n=false:=by have:=of_decide_eq_true hc2;unfold eO;rw[decide_eq_false (by omega)]
   refine ah ?_
   rw[acr g1 g2]
   exact az ae
  ·have g2:eO L m n=true:=by have:=of_decide_eq_false hc2;unfold eO;rw[decide_eq_true (by omega)]
   refine ar (cb (by omega) rfl) ?_
   exact⟨⟨n+1,g1,fun i hi=>(io i n).elim (h3 i) fun q=>(show i=n by omega)▸g2⟩,ao ⟨rfl,rfl,rfl,trivial⟩ ⟨rfl,trivial⟩ rfl,by show L.length-(n+1)<L.length-n;omega⟩
 ·have hp:n=L.length:=by have:=of_decide_eq_false hc1;omega
  refine ah ?_
  rw[abO (hp▸h3)]
  exact az ae
theorem Tf {r:Rn}(hr:RnB r):Ok Tryz.prog 10 [.a (([.i .i16 r.x]++[.i .i16 r.y]++[.i .u16 r.q]++[.i .u8 r.d]))] [.a (aX (Bw r))]:=by
 have q1:=hr.x0;have q2:=hr.x1;have q3:=hr.y0;have q4:=hr.y1;have q5:=hr.q0;have q6:=hr.q1;have q7:=hr.d0;have q8:=hr.d1
 refine ca Tryz.func10 rfl<|ar (gn (r:=r.d%8) rfl rfl (by omega) (by rw[qv q7]) rfl) ?_
 refine ar (b6 (r:=r.d%8) Ym AT rfl (qN (by omega) (by omega)) rfl) ?_
 refine ar (ci ((r.d%8+1)) ((bk (by omega) (by omega)).trans (congrArg some (by omega))) rfl)<|cT 17 [] ?_
 refine aq (b6 (r:=r.x) VB AT rfl (qN (by omega) (by omega)) rfl) ?_
 refine aK rfl (As (by omega) (by omega) (by omega) (by omega) (by omega)) ?_
 refine aq (b6 (r:=r.y) VB AT rfl (qN (by omega) (by omega)) rfl) ?_
 refine aK rfl (As (by omega) (by omega) (by omega) (by omega) (by omega)) ?_
 refine aq (b6 (r:=r.q) ZI AT rfl (qN (by omega) (by omega)) rfl) ?_
 refine aq (ci (r.q+1) ((bk (by omega) (by omega)).trans (congrArg some (by omega))) rfl)<|aK rfl (As (by omega) (by omega) (by omega) (by omega) (by omega))<|aq (aM (us:=(cR (Rat.divInt r.x (r.d%8+1))++cR (Rat.divInt r.y (r.d%8+1))++cR (Rat.divInt (r.q+1) (r.d%8+1)))) XP Ud rfl rfl rfl) ?_
 exact ah (aV qV rfl ae)
theorem acp:Ok Tryz.prog 11 [.c (.s 0 [])] [.c (.s 0 [])]:=by
 refine eH Tryz.func11 8 [.tmp 2] rfl<|aa<|ag<|aa<|aa<|bg<|bK 1 ?_
 refine yU Dv rfl rfl (fun bz1 hbz1=>?_)
 refine ba ?_
 refine aI rfl (fun hc2=>?_) (fun hc2=>?_)
 ·refine aa<|ag<|aZ ?_
  exact ah (az ae)
 ·refine aA<|aa<|ag<|ar (j7 F2 rfl) ?_
  refine ar (n6 F2 rfl rfl rfl) ?_
  refine VZ (t:=2) rfl<|aZ ?_
  exact ah (az ae)
theorem acM (hl:0<L.length) (lL:L.length≤4):Ok Tryz.prog 11 [.c (.s L.length (aw aX L))] [.c (.s L.length (aw aX L))]:=by
 refine eH Tryz.func11 8 [.tmp 2] rfl<|aa<|ag<|aa<|aa<|bg<|bK 1 ?_
 refine yU Dv rfl rfl (fun bz1 hbz1=>?_)
 refine ba ?_
 refine aI rfl (fun hc2=>?_) (fun hc2=>?_)
 ·exact absurd hc2 (by rw[hbz1 hl];decide)
 ·refine aA<|aa<|ag<|ar (j7 F2 rfl) ?_
  refine DL.mk<|Et (q:=L.length) (ys:=aw aX L) (zs':=aw aX L) F2 rfl rfl (am dW _) (hl) (by omega) (iM (by omega)) rfl (rfl) rfl (fun cg3 rg3 hga3 hgb3 hgc3=>dX ?_)
  refine cB (t:=2) (m:=12) (us:=aw aX L) rfl rfl (jC (n:=L.length) (am dW _) (by assumption) (by omega)) (by omega) (by assumption) (gh (am dW _))<|aZ ?_
  exact ah (az ae)
theorem acx (lL:L.length≤4):Ok Tryz.prog 11 [.c (.s L.length (aw aX L))] [.c (.s L.length (aw aX L))]:=by
 rcases jo L.length with h|h
 ·obtain rfl:=jP.1 h
  exact acp
 ·exact acM h lL
theorem Zi {W:List Rn}(hW: ∀r∈W,RnB r):Ok Tryz.prog 8 [.c (.s W.length (aw uy W)),.c (.i .i64 4)] [.c (.s ((((W.take 4).map Bw)).length) (aw aX (((W.take 4).map Bw)))),.c (.b (decide (W.length≤4)))]:=by
 refine eH Tryz.func8 32 [.tmp 4,.tmp 5] rfl<|aa<|ag<|aa<|bg<|aR (ed rfl) ?_
 refine ba<|aa<|aa<|ag<|aB ?_
 refine bh (ι:=Sum (Unit) ({x9:Nat×Nat×List CellD // 1≤x9.1∧x9.1≤W.length∧x9.1≤4∧x9.1≤x9.2.1∧x9.2.1≤maxLen∧x9.2.2.length=(x9.2.1-x9.1)*12})) (fun i=>match i with| .inl i=>⟨32,[(0,.v (.c (.s W.length (aw uy W)))),(1,.v (.c (.i .i64 4))),(6,.z),(7,.v (.c (.i .i64 0)))],[]⟩| .inr i=>⟨32,[(0,.v (.c (.s W.length (aw uy W)))),(1,.v (.c (.i .i64 4))),(7,.v (.c (.i .i64 (i.1.1:Int)))),(6,.o 26 i.1.1 i.1.2.1)],[(26,40,aw aX ((W.take i.1.1).map Bw)++i.1.2.2)]⟩) (fun i=>match i with| .inl i=>W.length-0| .inr i=>W.length-i.1.1) (.inl ()) (ao ⟨rfl,rfl,rfl,rfl,trivial⟩ trivial rfl) ?_
 rintro(⟨⟩|⟨⟨n,c9,rs⟩,h1,h2,h3,h4,h5,h6⟩)
 ·dsimp only
  refine aa<|aa<|ag ?_
  refine jT (bz rfl) (fun c1 hb1=>?_)
  cases c1
  ·have hW0:W=[]:=jP.1 (by have:=of_decide_eq_false hb1;omega)
   refine a8 rfl<|vw (t:=6) rfl<|a7<|aa<|bg<|bK 4<|aR (aP (c:=decide (W.length≤4)) (dF rfl) (by rw[xK];simp;omega)) ?_
   refine ex<|aZ ?_
   subst hW0
   exact ah (az (az ae))
  ·have g1:0<W.length:=by have:=of_decide_eq_true hb1;omega
   have g2:0<4:=by first|decide|(have:=of_decide_eq_true {h2};omega)
   have hx:=hW _ (bj (d:=Ih) g1)
   refine df rfl<|aA<|aa<|aB<|ag<|ar (eM Ih y9 g1 ZM rfl)<|ar (cg (us:=([.i .i16 ((W.getD 0 Ih).x)]++[.i .i16 ((W.getD 0 Ih).y)]++[.i .u16 ((W.getD 0 Ih).q)]++[.i .u8 ((W.getD 0 Ih).d)])) aaO rfl (Lf _ _) (y9 _) rfl) ?_
   refine ac rfl (Tf hx)<|ar (bX (n:=1) (us:=aX ((Bw (W.getD 0 Ih)))) F2 rfl rfl rfl (by decide) (by decide) rfl) ?_
   refine DL.mk<|lW (ys:=aX ((Bw (W.getD 0 Ih)))) F2 rfl rfl rfl (by decide) (by decide) (by decide) rfl rfl (fun cg2 rg2 hga2 hgb2 hgc2=>dX ?_)
   refine ag<|ar (iU (r:=1) rfl rfl rfl rfl) ?_
   exact⟨.inr ⟨⟨0+1,cg2,rg2⟩,by omega,g1,by omega,hga2,hgb2,hgc2⟩,ao ⟨rfl,rfl,rfl,rfl,trivial⟩ ⟨congrArg (fun q=>some (40,q++rg2)) (show _=aw aX ((W.take (0+1)).map Bw) from by rw[LT g1];exact(dV _).symm),trivial⟩ rfl,by show W.length-(0+1)<W.length-0;omega⟩
 ·dsimp only at h1 h2 h3 h4 h5 h6
  dsimp only
  refine aa<|aa<|ag ?_
  refine jT (bz rfl) (fun c3 hb3=>?_)
  cases c3
  ·have hp:W.length≤n:=by have:=of_decide_eq_false hb3;omega
   refine a8 rfl<|cB (t:=6) (m:=12) (us:=aw aX ((W.take n).map Bw)) rfl rfl (jC (n:=n) ((am dW _).trans (by rw[oJ,dE,ij h2])) (by assumption) (by omega)) (by omega) (by assumption) (gh ((am dW _).trans (by rw[oJ,dE,ij h2])))<|a7<|aa<|bg<|bK 4<|aR (aP (c:=decide (W.length≤4)) (dF rfl) (by rw[xK];simp;omega)) ?_
   refine ex<|aZ ?_
   rw[show W.take 4=W.take n from(ja (by omega)).trans (ja hp).symm,oJ,dE,ij h2]
   exact ah (az (az ae))
  ·refine aI rfl (fun hc4=>?_) (fun hc4=>?_)
   ·have g1:n<W.length:=by have:=of_decide_eq_true hb3;omega
    have g2:n<4:=by first|decide|(have:=of_decide_eq_true hc4;omega)
    have hx:=hW _ (bj (d:=Ih) g1)
    refine aA<|aa<|aB<|ag<|ar (eM Ih y9 g1 ZM rfl)<|ar (cg (us:=([.i .i16 ((W.getD n Ih).x)]++[.i .i16 ((W.getD n Ih).y)]++[.i .u16 ((W.getD n Ih).q)]++[.i .u8 ((W.getD n Ih).d)])) aaO rfl (Lf _ _) (y9 _) rfl) ?_
    refine ac rfl (Tf hx)<|ar (bX (n:=1) (us:=aX ((Bw (W.getD n Ih)))) F2 rfl rfl rfl (by decide) (by decide) rfl) ?_
    refine DL.mk<|l6 (us:=aw aX ((W.take n).map Bw)) (rest:=rs) (ys:=aX ((Bw (W.getD n Ih)))) F2 rfl rfl rfl ((am dW _).trans (by rw[oJ,dE,ij h2])) (by assumption) rfl (by decide) (by omega) (by assumption) (by omega) (iM (by omega)) (.inl rfl) rfl (fun cg5 rg5 hga5 hgb5 hgc5=>dX ?_)
    refine ag<|ar (cb (by omega) rfl) ?_
    exact⟨.inr ⟨⟨n+1,cg5,rg5⟩,by omega,g1,by omega,by show n+1≤cg5;exact hga5,hgb5,hgc5⟩,ao ⟨rfl,rfl,rfl,rfl,trivial⟩ ⟨congrArg (fun q=>some (40,q++rg5)) (show _=aw aX ((W.take (n+1)).map Bw) from by rw[LT g1,dB,dV]),trivial⟩ rfl,by show W.length-(n+1)<W.length-n;omega⟩
   ·have hp:n=4:=by have:=of_decide_eq_false hc4;omega
    refine cB (t:=6) (m:=12) (us:=aw aX ((W.take n).map Bw)) rfl rfl (jC (n:=n) ((am dW _).trans (by rw[oJ,dE,ij h2])) (by assumption) (by omega)) (by omega) (by assumption) (gh ((am dW _).trans (by rw[oJ,dE,ij h2])))<|a7<|aa<|bg<|bK 4<|aR (aP (c:=decide (W.length≤4)) (dF rfl) (by rw[xK];simp;omega)) ?_
    refine ex<|aZ ?_
    subst hp;rw[oJ,dE,ij h2]
    exact ah (az (az ae))
theorem YR (hl:GL l):Ok Tryz.prog 60 [.a (gK l)] [.c (.b (Y1 l))]:=by
 refine ca Tryz.func60 rfl ?_
 refine ac rfl (kH (hl.a.m_)) ?_
 refine ar (bz rfl) ?_
 refine ac rfl (kH (hl.b.m_)) ?_
 refine ar (bz rfl) ?_
 refine ac rfl (kH (hl.c.m_)) ?_
 refine ar (bz rfl) ?_
 refine ac rfl (dj) ?_
 refine jT (bz rfl) (fun c1 hb1=>?_)
 cases c1
 ·refine ac rfl (dj)<|ah ?_
  rw[UD hb1]
  exact az ae
 ·refine ah ?_
  rw[Vs hb1]
  exact az ae
theorem ZO (hl:GL l):Ok Tryz.prog 60 [.a (gK l)] [.c (.b true)]:=ez (YR hl) (aaq hl.n)
theorem YG (hk:GK k):Ok Tryz.prog 59 [.a (aX k)] [.c (.b (decide (aJ k.q 0>0)))]:=by
 refine ca Tryz.func59 rfl ?_
 refine ac rfl (kH (hk.x.m_)) ?_
 refine ar (bz rfl) ?_
 refine ac rfl (kH (hk.y.m_)) ?_
 refine ar (bz rfl) ?_
 refine ac rfl (kH (hk.q.m_)) ?_
 refine ar (bz rfl) ?_
 refine ac rfl (dj) ?_
 exact ah (az ae)
theorem Zq (hk:GK k) (h0:0<k.q):Ok Tryz.prog 59 [.a (aX k)] [.c (.b true)]:=ez (YG hk) (decide_eq_true (y7.2 h0))
theorem W6 (vc:CvV (Cv.seg l f t)):Ok Tryz.prog 13 [.a (([.b false]++gK l++qR++[.b false]++aj f++aj t))] [.c (.b true)]:=by
 have hl:=vc.g.1
 have hf:=vc.g.2.1
 have ht:=vc.g.2.2
 refine ca Tryz.func13 rfl ?_
 refine ar (dg (aj f) bv rfl (by kernel_rfl)) ?_
 refine ac rfl (ez (c:=true) (v7 (hf.a1.m_) (hf.b1.m_) (hf.a2.m_) (hf.b2.m_) (hf.c.m_)) hf.v) ?_
 refine ar (bz rfl) ?_
 refine ar (dg (aj t) bv rfl (by kernel_rfl)) ?_
 refine ac rfl (ez (c:=true) (v7 (ht.a1.m_) (ht.b1.m_) (ht.a2.m_) (ht.b2.m_) (ht.c.m_)) ht.v) ?_
 refine qQ rfl ?_
 refine ar (gI kP rfl) ?_
 refine ar (bz rfl) ?_
 refine ar (bz rfl) ?_
 refine ar (gI kP rfl) ?_
 refine ar (bz rfl) ?_
 refine ar (gI kP rfl) ?_
 refine ar (bz rfl) ?_
 refine ar (dg (gK l) Nd rfl (by kernel_rfl))<|ac rfl (ZO hl)<|qQ rfl<|ar (gT bW rfl) ?_
 refine ar (dg (aj f) bv rfl (by kernel_rfl)) ?_
 refine ac rfl (ez (c:=true) (Jo hl hf ht hf) vc.sp) ?_
 refine ar (bz rfl) ?_
 refine ar (gT bW rfl) ?_
 refine ar (dg (aj t) bv rfl (by kernel_rfl)) ?_
 refine ac rfl (ez (c:=true) (Jo hl hf ht ht) vc.sq) ?_
 refine ar (bz rfl) ?_
 refine ar (dg (aj f) bv rfl (by kernel_rfl)) ?_
 refine ar (dg (aj t) bv rfl (by kernel_rfl)) ?_
 refine ac rfl (ez (c:=false) (BO hf ht) (beq_eq_false_iff_ne.2 vc.ne)) ?_
 exact ah (az ae)
theorem YJ {w:Bool}(vc:CvV (Cv.arc k w f t)):Ok Tryz.prog 13 [.a (([.b true]++np++aX k++[.b w]++aj f++aj t))] [.c (.b true)]:=by
 have hk:=vc.g.1
 have hf:=vc.g.2.1
 have ht:=vc.g.2.2
 refine ca Tryz.func13 rfl ?_
 refine ar (dg (aj f) bv rfl (by kernel_rfl)) ?_
 refine ac rfl (ez (c:=true) (v7 (hf.a1.m_) (hf.b1.m_) (hf.a2.m_) (hf.b2.m_) (hf.c.m_)) hf.v) ?_
 refine ar (bz rfl) ?_
 refine ar (dg (aj t) bv rfl (by kernel_rfl)) ?_
 refine ac rfl (ez (c:=true) (v7 (ht.a1.m_) (ht.b1.m_) (ht.a2.m_) (ht.b2.m_) (ht.c.m_)) ht.v) ?_
 refine qQ rfl ?_
 refine ar (gI kP rfl) ?_
 refine ar (bz rfl) ?_
 refine ar (dg (aX k) qV rfl (by kernel_rfl)) ?_
 refine ac rfl (Zq hk vc.pos) ?_
 refine ar (bz rfl) ?_
 refine ar (gI kP rfl) ?_
 refine ar (bz rfl) ?_
 refine DL.mk<|wF (oE rfl)<|dX ?_
 refine qQ rfl<|ar (gT bW rfl) ?_
 refine ar (dg (aj f) bv rfl (by kernel_rfl)) ?_
 refine ac rfl (ez (c:=true) (Jc hk hf ht hf) vc.sp) ?_
 refine ar (bz rfl) ?_
 refine ar (gT bW rfl) ?_
 refine ar (dg (aj t) bv rfl (by kernel_rfl)) ?_
 refine ac rfl (ez (c:=true) (Jc hk hf ht ht) vc.sq) ?_
 refine ar (bz rfl) ?_
 refine ar (dg (aj f) bv rfl (by kernel_rfl)) ?_
 refine ar (dg (aj t) bv rfl (by kernel_rfl)) ?_
 refine ac rfl (ez (c:=false) (BO hf ht) (beq_eq_false_iff_ne.2 vc.ne)) ?_
 exact ah (az ae)
theorem UV (vc:CvV c):Ok Tryz.prog 13 [.a (aD c)] [.c (.b true)]:=by
 cases c with
 |seg l f t=>exact W6 vc
 |arc k w f t=>exact YJ vc
end Go.Proofs.YtegpmhlfjkhjmaaGreat
