/-The pieces of the circle:the program. -/
import Derived.Test.YtegpmhlfjkhjmaaGreatYgV
namespace Go.Proofs.YtegpmhlfjkhjmaaGreat
open Go Go.RowKit
variable {al w:Bool}{k:Ci}{c:Cv}{r rs:List CellD}{L:List Ci}{G O P:List Cv}{N i n s:Nat}{e:Nat→Bool}{m:Nat→Pt}{a b f p q t u v:Pt}{x y:Rat}
theorem UU (hk:RK k) (h0:0<k.q) (hL: ∀d∈L,RK d) (lL:L.length≤4):Ok Tryz.prog 42 [.a (bo k),.c (.s L.length (aJ bo L))] [.c (.s (((a8 k L)).length) (aJ aG ((a8 k L))))]:=by
 have hF:=Xj hk.k h0
 have hC:=H5 hk hL
 have lC:(aR k L).length≤2*L.length:=vW
 have ex1:jx k L ((bi k).getD 0 bL)=ws k L 1:=(l9 _).symm
 refine ex Tryz.func42 68 [.tmp 4] rfl<|ae<|ag<|ae<|bz<|aW (i9 rfl) ?_
 refine bD ?_
 refine oO (ι:=Unit) (fun i=>⟨68,[(2,.p 2 0),(5,.v (.c (.s ((aR k L).length) (aJ ai (aR k L)))))],[(2,40,bo k)]⟩) ?_ ?_
 ·refine ae<|ag ?_
  refine aP ?_
  refine bF (ι:=Sum ({n:Nat // n≤L.length∧(aR k (L.take n))=[]}) ({x9:Nat×Nat×List CellD // x9.1≤L.length∧(aR k (L.take x9.1)).length≤x9.2.1∧x9.2.1≤maxLen∧x9.2.2.length=(x9.2.1-(aR k (L.take x9.1)).length)*20})) (fun i=>match i with| .inl i=>⟨68,[(2,.p 2 0),(18,.v (.c (.s L.length (aJ bo L)))),(19,.v (.c (.i .i64 (L.length:Int)))),(20,.v (.c (.i .i64 (i.1:Int)))),(5,.z)],[(2,40,bo k)]⟩| .inr i=>⟨68,[(2,.p 2 0),(18,.v (.c (.s L.length (aJ bo L)))),(19,.v (.c (.i .i64 (L.length:Int)))),(20,.v (.c (.i .i64 (i.1.1:Int)))),(5,.o 32 ((aR k (L.take i.1.1)).length) i.1.2.1)],[(2,40,bo k),(32,47,aJ ai (aR k (L.take i.1.1))++i.1.2.2)]⟩) (fun i=>match i with| .inl i=>L.length-i.1| .inr i=>L.length-i.1.1) (.inl ⟨0,ju _,rfl⟩) (aA ⟨rfl,rfl,rfl,rfl,rfl,trivial⟩ ⟨rfl,trivial⟩ rfl) ?_
  rintro(⟨n,h2,h3⟩|⟨⟨n,c9,rs⟩,h2,h3,h4,h5⟩)
  ·replace h2:n≤L.length:=h2
   replace h3:(aR k (L.take n))=[]:=h3
   dsimp only
   refine ae<|ag<|ae ?_
   refine aS rfl (fun hc1=>?_) (fun hc1=>?_)
   ·have g1:n<L.length:=by have:=of_decide_eq_true hc1;omega
    have hd:=hL _ (bJ (d:=dK) g1)
    have hm2:=Bc (k:=k) (d:=L.getD n dK)
    refine aB<|ae<|aP<|ae<|ag<|ar (tX dK pQ g1 Wf rfl)<|ar (gF (us:=bo (L.getD n dK)) sI rfl (EO _ _) (pQ _) rfl) ?_
    refine ae<|ag ?_
    refine ac rfl (TM hk.k hd.k) ?_
    rcases jd (ij k (L.getD n dK)).length with e0|e0
    ·refine ag<|ar (CO jD rfl rfl e0 rfl) ?_
     refine ag<|ar (eu (by omega) rfl) ?_
     exact⟨.inl ⟨n+1,g1,by show aR k (L.take (n+1))=[];rw[(show aR k (L.take (n+1))=aR k (L.take n)++ij k (L.getD n dK) from m8 g1),h3,mI.1 e0];rfl⟩,aA ⟨rfl,rfl,rfl,rfl,rfl,trivial⟩ ⟨rfl,trivial⟩ rfl,by show L.length-(n+1)<L.length-n;omega⟩
    ·refine ag ?_
     refine DL.mk<|DJ (q:=(ij k (L.getD n dK)).length) (ys:=aJ ai (ij k (L.getD n dK))) (zs':=aJ ai (ij k (L.getD n dK))) jD rfl rfl (aM aT _) (e0) (by omega) (wC (by omega)) rfl (rfl) rfl (fun cg2 rg2 hga2 hgb2 hgc2=>eQ ?_)
     refine ag<|ar (eu (by omega) rfl) ?_
     exact⟨.inr ⟨⟨n+1,cg2,rg2⟩,g1,by show(aR k (L.take (n+1))).length≤cg2;rw[(show aR k (L.take (n+1))=aR k (L.take n)++ij k (L.getD n dK) from m8 g1),h3,sv];exact hga2,hgb2,by show rg2.length=(cg2-(aR k (L.take (n+1))).length)*20;rw[(show aR k (L.take (n+1))=aR k (L.take n)++ij k (L.getD n dK) from m8 g1),h3,sv];exact hgc2⟩,aA ⟨rfl,rfl,rfl,rfl,congrArg (fun q=>some (DV.o 32 (List.length q) cg2)) (by rw[(show aR k (L.take (n+1))=aR k (L.take n)++ij k (L.getD n dK) from m8 g1),h3];rfl),trivial⟩ ⟨rfl,congrArg (fun q=>some (47,aJ ai q++rg2)) (by rw[(show aR k (L.take (n+1))=aR k (L.take n)++ij k (L.getD n dK) from m8 g1),h3];rfl),trivial⟩ rfl,by show L.length-(n+1)<L.length-n;omega⟩
   ·have hp:n=L.length:=by have:=of_decide_eq_false hc1;omega
    refine ER (t:=5) rfl<|b7 ?_
    exact⟨(),aA ⟨rfl,congrArg (fun q:List Pt=>some (DV.v (.c (.s q.length (aJ ai q))))) (h3.symm.trans (by rw[hp,pS])),trivial⟩ ⟨rfl,trivial⟩ rfl⟩
  ·dsimp only at h2 h3 h4 h5
   have h6:(aR k (L.take n)).length≤2*n:=LV
   dsimp only
   refine ae<|ag<|ae ?_
   refine aS rfl (fun hc3=>?_) (fun hc3=>?_)
   ·have g1:n<L.length:=by have:=of_decide_eq_true hc3;omega
    have hd:=hL _ (bJ (d:=dK) g1)
    have hm2:=Bc (k:=k) (d:=L.getD n dK)
    refine aB<|ae<|aP<|ae<|ag<|ar (tX dK pQ g1 Wf rfl)<|ar (gF (us:=bo (L.getD n dK)) sI rfl (EO _ _) (pQ _) rfl) ?_
    refine ae<|ag ?_
    refine ac rfl (TM hk.k hd.k)<|ag ?_
    refine DL.mk<|G0 (n:=(aR k (L.take n)).length) (c:=c9) (q:=(ij k (L.getD n dK)).length) (us:=aJ ai (aR k (L.take n))) (rest:=rs) (N':=(aR k (L.take n)).length+(ij k (L.getD n dK)).length) (zs':=aJ ai (aR k (L.take n))++aJ ai (ij k (L.getD n dK))) jD rfl rfl rfl (rfl) (aM aT _) (h5) (aM aT _) (by decide) (by omega) (by assumption) (by omega) (wC (by omega)) (.inl rfl) (rfl) (rfl) rfl (fun cg4 rg4 hga4 hgb4 hgc4=>eQ ?_)
    refine ag<|ar (eu (by omega) rfl) ?_
    exact⟨.inr ⟨⟨n+1,cg4,rg4⟩,g1,by show(aR k (L.take (n+1))).length≤cg4;rw[(show aR k (L.take (n+1))=aR k (L.take n)++ij k (L.getD n dK) from m8 g1),dj];exact hga4,hgb4,by show rg4.length=(cg4-(aR k (L.take (n+1))).length)*20;rw[(show aR k (L.take (n+1))=aR k (L.take n)++ij k (L.getD n dK) from m8 g1),dj];exact hgc4⟩,aA ⟨rfl,rfl,rfl,rfl,congrArg (fun q=>some (DV.o 32 q cg4)) (by rw[(show aR k (L.take (n+1))=aR k (L.take n)++ij k (L.getD n dK) from m8 g1),dj]),trivial⟩ ⟨rfl,congrArg (fun q=>some (47,q++rg4)) (by rw[(show aR k (L.take (n+1))=aR k (L.take n)++ij k (L.getD n dK) from m8 g1),gW]),trivial⟩ rfl,by show L.length-(n+1)<L.length-n;omega⟩
   ·have hp:n=L.length:=by have:=of_decide_eq_false hc3;omega
    refine fu (t:=5) (m:=20) (us:=aJ ai (aR k (L.take n))) rfl rfl (tP (n:=(aR k (L.take n)).length) (by first|exact aM aT _|exact aM aj _) (by assumption) (by omega)) (by omega) (by assumption) (nQ (by first|exact aM aT _|exact aM aj _)) ?_
    refine b7 ?_
    exact⟨(),aA ⟨rfl,congrArg (fun q:List Pt=>some (DV.v (.c (.s q.length (aJ ai q))))) (by rw[hp,pS]),trivial⟩ ⟨rfl,trivial⟩ rfl⟩
 ·rintro⟨⟩
  try dsimp only
  refine ae<|bz<|aW (i9 rfl) ?_
  refine bD<|ae<|ae<|ag ?_
  refine ac rfl (Xl hk.k h0) ?_
  refine aP ?_
  refine Qz (ι:={x9:Nat×Nat×List CellD // 1≤x9.1∧x9.1≤2∧(ws k L x9.1).length≤x9.2.1∧x9.2.1≤maxLen∧x9.2.2.length=(x9.2.1-(ws k L x9.1).length)*66}) (fun i=>⟨68,[(2,.p 2 0),(5,.v (.c (.s ((aR k L).length) (aJ ai (aR k L))))),(35,.v (.c (.s (((bi k)).length) (aJ aG ((bi k)))))),(36,.v (.c (.i .i64 2))),(37,.v (.c (.i .i64 (i.1.1:Int)))),(10,.o 65 ((ws k L i.1.1).length) i.1.2.1)],[(2,40,bo k),(65,49,aJ aG (ws k L i.1.1)++i.1.2.2)]⟩) (fun i=>2-i.1.1) (3) ?_ ?_
  ·refine ae<|ag<|ae ?_
   refine aS rfl (fun hc5=>?_) (fun hc5=>?_)
   ·have g1:0<(bi k).length:=by show 0<2;omega
    have g9:0<2:=g1
    have vc:CvV ((bi k).getD 0 bL):=hF _ (bJ g1)
    have ha:Cv.isArc ((bi k).getD 0 bL)=true:=GV _ (bJ g1)
    have hE:=yy (k:=k) (c:=((bi k).getD 0 bL)) lL
    have hE0:=HS (k:=k) (L:=L) (c:=((bi k).getD 0 bL))
    refine aB<|ae<|aP<|ae<|ag<|ar (tX bL aj g1 lB rfl)<|ar (qh aj bT rfl)<|nM (du bT rfl rfl rfl (aj _) rfl rfl) ?_
    refine ae<|bz<|aW (i9 rfl) ?_
    refine bD ?_
    refine oO (ι:=Unit) (fun i=>⟨68,[(2,.p 2 0),(5,.v (.c (.s ((aR k L).length) (aJ ai (aR k L))))),(35,.v (.c (.s (((bi k)).length) (aJ aG ((bi k)))))),(36,.v (.c (.i .i64 2))),(37,.v (.c (.i .i64 0))),(12,.p 12 0),(10,.z),(13,.v (.c (.s (((j9 k L ((bi k).getD 0 bL))).length) (aJ ai ((j9 k L ((bi k).getD 0 bL)))))))],[(2,40,bo k),(12,49,aG (((bi k).getD 0 bL)))]⟩) ?_ ?_
    ·refine ae<|ag ?_
     refine aP ?_
     refine bF (ι:=Sum ({j:Nat // j≤(aR k L).length∧(((aR k L).take j).filter ((bi k).getD 0 bL).on)=[]}) ({x9:Nat×Nat×List CellD // x9.1≤(aR k L).length∧(((aR k L).take x9.1).filter ((bi k).getD 0 bL).on).length≤x9.2.1∧x9.2.1≤maxLen∧x9.2.2.length=(x9.2.1-(((aR k L).take x9.1).filter ((bi k).getD 0 bL).on).length)*20})) (fun i=>match i with| .inl i=>⟨68,[(2,.p 2 0),(5,.v (.c (.s ((aR k L).length) (aJ ai (aR k L))))),(35,.v (.c (.s (((bi k)).length) (aJ aG ((bi k)))))),(36,.v (.c (.i .i64 2))),(37,.v (.c (.i .i64 0))),(12,.p 12 0),(10,.z),(41,.v (.c (.s ((aR k L).length) (aJ ai (aR k L))))),(42,.v (.c (.i .i64 (((aR k L).length:Int))))),(43,.v (.c (.i .i64 (i.1:Int)))),(13,.z)],[(2,40,bo k),(12,49,aG (((bi k).getD 0 bL)))]⟩| .inr i=>⟨68,[(2,.p 2 0),(5,.v (.c (.s ((aR k L).length) (aJ ai (aR k L))))),(35,.v (.c (.s (((bi k)).length) (aJ aG ((bi k)))))),(36,.v (.c (.i .i64 2))),(37,.v (.c (.i .i64 0))),(12,.p 12 0),(10,.z),(41,.v (.c (.s ((aR k L).length) (aJ ai (aR k L))))),(42,.v (.c (.i .i64 (((aR k L).length:Int))))),(43,.v (.c (.i .i64 (i.1.1:Int)))),(13,.o 53 ((((aR k L).take i.1.1).filter ((bi k).getD 0 bL).on).length) i.1.2.1)],[(2,40,bo k),(12,49,aG (((bi k).getD 0 bL))),(53,47,aJ ai (((aR k L).take i.1.1).filter ((bi k).getD 0 bL).on)++i.1.2.2)]⟩) (fun i=>match i with| .inl i=>(aR k L).length-i.1| .inr i=>(aR k L).length-i.1.1) (.inl ⟨0,ju _,rfl⟩) (aA ⟨rfl,rfl,rfl,rfl,rfl,rfl,rfl,rfl,rfl,rfl,rfl,trivial⟩ ⟨rfl,rfl,trivial⟩ rfl) ?_
     rintro(⟨j,i2,i3⟩|⟨⟨j,c8,rt⟩,i2,i3,i4,i5⟩)
     ·replace i2:j≤(aR k L).length:=i2
      replace i3:(((aR k L).take j).filter ((bi k).getD 0 bL).on)=[]:=i3
      dsimp only
      refine ae<|ag<|ae ?_
      refine aS rfl (fun hc6=>?_) (fun hc6=>?_)
      ·have g2:j<(aR k L).length:=by have:=of_decide_eq_true hc6;omega
       have hx:=hC _ (bJ (d:=dPt) g2)
       refine aB<|ae<|aP<|ae<|ag<|ar (tX dPt aT g2 fD rfl)<|ar (qh aT bE rfl)<|ae<|ag ?_
       refine ar (oG (aj _) bT rfl) ?_
       refine ac rfl (H2 vc ha hx) ?_
       refine aS rfl (fun hc7=>?_) (fun hc7=>?_)
       ·have g3:((bi k).getD 0 bL).on ((aR k L).getD j dPt)=true:=hc7
        refine ag ?_
        refine ar (da (n:=1) (us:=ai ((((aR k L).getD j dPt)))) jD rfl rfl rfl (by decide) (by decide) rfl) ?_
        refine DL.mk<|rJ (ys:=ai ((((aR k L).getD j dPt)))) jD rfl rfl rfl (by decide) (by decide) (by decide) rfl rfl (fun cg8 rg8 hga8 hgb8 hgc8=>eQ ?_)
        refine ag<|ar (eu (by omega) rfl) ?_
        exact⟨.inr ⟨⟨j+1,cg8,rg8⟩,g2,by show(((aR k L).take (j+1)).filter ((bi k).getD 0 bL).on).length≤cg8;rw[oE g2 g3,i3];exact hga8,hgb8,by show rg8.length=(cg8-(((aR k L).take (j+1)).filter ((bi k).getD 0 bL).on).length)*20;rw[oE g2 g3,i3];exact hgc8⟩,aA ⟨rfl,rfl,rfl,rfl,rfl,rfl,rfl,rfl,rfl,rfl,congrArg (fun q=>some (DV.o 53 q cg8)) (by rw[oE g2 g3,i3];rfl),trivial⟩ ⟨rfl,rfl,congrArg (fun q=>some (47,q++rg8)) (by rw[oE g2 g3,i3,sv,jc]),trivial⟩ rfl,by show(aR k L).length-(j+1)<(aR k L).length-j;omega⟩
       ·have g3:((bi k).getD 0 bL).on ((aR k L).getD j dPt)=false:=hc7
        refine aB<|ag<|ar (eu (by omega) rfl) ?_
        exact⟨.inl ⟨j+1,g2,by rw[wn g2 g3];exact i3⟩,aA ⟨rfl,rfl,rfl,rfl,rfl,rfl,rfl,rfl,rfl,rfl,rfl,trivial⟩ ⟨rfl,rfl,trivial⟩ rfl,by show(aR k L).length-(j+1)<(aR k L).length-j;omega⟩
      ·have hj:j=(aR k L).length:=by have:=of_decide_eq_false hc6;omega
       refine ER (t:=13) rfl<|b7 ?_
       exact⟨(),aA ⟨rfl,rfl,rfl,rfl,rfl,rfl,rfl,congrArg (fun q:List Pt=>some (DV.v (.c (.s q.length (aJ ai q))))) (i3.symm.trans (show(j9 k L ((bi k).getD 0 bL))=((aR k L).take j).filter ((bi k).getD 0 bL).on by rw[hj,pS];rfl).symm),trivial⟩ ⟨rfl,rfl,trivial⟩ rfl⟩
     ·dsimp only at i2 i3 i4 i5
      have i6:(((aR k L).take j).filter ((bi k).getD 0 bL).on).length≤8:=mM (rg _ _) (by rw[gz];omega)
      dsimp only
      refine ae<|ag<|ae ?_
      refine aS rfl (fun hc9=>?_) (fun hc9=>?_)
      ·have g2:j<(aR k L).length:=by have:=of_decide_eq_true hc9;omega
       have hx:=hC _ (bJ (d:=dPt) g2)
       refine aB<|ae<|aP<|ae<|ag<|ar (tX dPt aT g2 fD rfl)<|ar (qh aT bE rfl)<|ae<|ag ?_
       refine ar (oG (aj _) bT rfl) ?_
       refine ac rfl (H2 vc ha hx) ?_
       refine aS rfl (fun hc10=>?_) (fun hc10=>?_)
       ·have g3:((bi k).getD 0 bL).on ((aR k L).getD j dPt)=true:=hc10
        refine ag ?_
        refine ar (da (n:=1) (us:=ai ((((aR k L).getD j dPt)))) jD rfl rfl rfl (by decide) (by decide) rfl) ?_
        refine DL.mk<|vt (us:=aJ ai (((aR k L).take j).filter ((bi k).getD 0 bL).on)) (rest:=rt) (ys:=ai ((((aR k L).getD j dPt)))) jD rfl rfl rfl (by first|exact aM aT _|exact aM aj _) (by assumption) rfl (by decide) (by omega) (by assumption) (by omega) (wC (by omega)) (.inl rfl) rfl (fun cg11 rg11 hga11 hgb11 hgc11=>eQ ?_)
        refine ag<|ar (eu (by omega) rfl) ?_
        exact⟨.inr ⟨⟨j+1,cg11,rg11⟩,g2,by show(((aR k L).take (j+1)).filter ((bi k).getD 0 bL).on).length≤cg11;rw[oE g2 g3,dj];exact hga11,hgb11,by show rg11.length=(cg11-(((aR k L).take (j+1)).filter ((bi k).getD 0 bL).on).length)*20;rw[oE g2 g3,dj];exact hgc11⟩,aA ⟨rfl,rfl,rfl,rfl,rfl,rfl,rfl,rfl,rfl,rfl,congrArg (fun q=>some (DV.o 53 q cg11)) (by rw[oE g2 g3,dj];rfl),trivial⟩ ⟨rfl,rfl,congrArg (fun q=>some (47,q++rg11)) (by rw[oE g2 g3,gW,jc]),trivial⟩ rfl,by show(aR k L).length-(j+1)<(aR k L).length-j;omega⟩
       ·have g3:((bi k).getD 0 bL).on ((aR k L).getD j dPt)=false:=hc10
        refine aB<|ag<|ar (eu (by omega) rfl) ?_
        exact⟨.inr ⟨⟨j+1,c8,rt⟩,g2,by show(((aR k L).take (j+1)).filter ((bi k).getD 0 bL).on).length≤c8;rw[wn g2 g3];exact i3,i4,by show rt.length=(c8-(((aR k L).take (j+1)).filter ((bi k).getD 0 bL).on).length)*20;rw[wn g2 g3];exact i5⟩,aA ⟨rfl,rfl,rfl,rfl,rfl,rfl,rfl,rfl,rfl,rfl,congrArg (fun q=>some (DV.o 53 (List.length q) c8)) (wn g2 g3).symm,trivial⟩ ⟨rfl,rfl,congrArg (fun q=>some (47,aJ ai q++rt)) (wn g2 g3).symm,trivial⟩ rfl,by show(aR k L).length-(j+1)<(aR k L).length-j;omega⟩
      ·have hj:j=(aR k L).length:=by have:=of_decide_eq_false hc9;omega
       refine fu (t:=13) (m:=20) (us:=aJ ai (((aR k L).take j).filter ((bi k).getD 0 bL).on)) rfl rfl (tP (n:=(((aR k L).take j).filter ((bi k).getD 0 bL).on).length) (by first|exact aM aT _|exact aM aj _) (by assumption) (by omega)) (by omega) (by assumption) (nQ (by first|exact aM aT _|exact aM aj _)) ?_
       refine b7 ?_
       exact⟨(),aA ⟨rfl,rfl,rfl,rfl,rfl,rfl,rfl,congrArg (fun q:List Pt=>some (DV.v (.c (.s q.length (aJ ai q))))) ((show(j9 k L ((bi k).getD 0 bL))=((aR k L).take j).filter ((bi k).getD 0 bL).on by rw[hj,pS];rfl).symm),trivial⟩ ⟨rfl,rfl,trivial⟩ rfl⟩
    ·rintro⟨⟩
     try dsimp only
     refine ae<|bz<|aW (oG (aj _) bT rfl)<|bQ 1 ?_
     refine yT rfl rfl ((show OkN _ _ [.a (aG ((bi k).getD 0 bL)),.c (.s ((j9 k L ((bi k).getD 0 bL))).length (aJ ai (j9 k L ((bi k).getD 0 bL))))] _ (jx k L ((bi k).getD 0 bL)).length _ (aJ aG (jx k L ((bi k).getD 0 bL))) _ from Vn (L:=(j9 k L ((bi k).getD 0 bL))) vc ha (fun p h=>hC p (ln.1 h).1) (mM (rg _ _) (by omega)) (fun p h=>(ln.1 h).2))) rfl rfl (fun cg12 rg12 hga12 hgb12 hgc12=>?_)
     refine bQ 1<|aW (Cs rfl rfl) ?_
     refine aW (B8 rfl rfl rfl) ?_
     refine fL<|ae<|ag<|dG rfl ?_
     refine fu (t:=16) (m:=66) (us:=aJ aG (jx k L ((bi k).getD 0 bL))) rfl rfl (tP (n:=(jx k L ((bi k).getD 0 bL)).length) (by first|exact aM aT _|exact aM aj _) (by assumption) (by omega)) (by omega) (by assumption) (nQ (by first|exact aM aT _|exact aM aj _)) ?_
     refine ag ?_
     refine DL.mk<|DJ (q:=(jx k L ((bi k).getD 0 bL)).length) (ys:=aJ aG (jx k L ((bi k).getD 0 bL))) (zs':=aJ aG (jx k L ((bi k).getD 0 bL))) wh rfl rfl (aM aj _) (hE0) (by omega) (wC (by omega)) rfl (rfl) rfl (fun cg13 rg13 hga13 hgb13 hgc13=>eQ ?_)
     refine ag<|ar (mj (r:=1) rfl rfl rfl rfl) ?_
     exact⟨⟨⟨1,cg13,rg13⟩,cj _,by show 1≤2;omega,by show(ws k L 1).length≤cg13;rw[←ex1];exact hga13,hgb13,by show rg13.length=(cg13-(ws k L 1).length)*66;rw[←ex1];exact hgc13⟩,aA ⟨rfl,rfl,rfl,rfl,rfl,congrArg (fun q=>some (DV.o 65 (List.length q) cg13)) ex1,trivial⟩ ⟨rfl,congrArg (fun q=>some (49,aJ aG q++rg13)) ex1,trivial⟩ rfl,by show 2-1<3;omega⟩
   ·exact absurd hc5 (by show ¬decide ((0:Int)<((2:Nat):Int))=false;decide)
  ·rintro⟨⟨n,c9,rs⟩,h1,h2,h3,h4,h5⟩
   dsimp only at h1 h2 h3 h4 h5
   have h6:(ws k L n).length≤9*n:=Ev lL h2
   dsimp only
   refine ae<|ag<|ae ?_
   refine aS rfl (fun hc14=>?_) (fun hc14=>?_)
   ·have g1:n<(bi k).length:=by have:=of_decide_eq_true hc14;show n<2;omega
    have g9:n<2:=g1
    have vc:CvV ((bi k).getD n bL):=hF _ (bJ g1)
    have ha:Cv.isArc ((bi k).getD n bL)=true:=GV _ (bJ g1)
    have hE:=yy (k:=k) (c:=((bi k).getD n bL)) lL
    have hE0:=HS (k:=k) (L:=L) (c:=((bi k).getD n bL))
    refine aB<|ae<|aP<|ae<|ag<|ar (tX bL aj g1 lB rfl)<|ar (qh aj bT rfl)<|nM (du bT rfl rfl rfl (aj _) rfl rfl) ?_
    refine ae<|bz<|aW (i9 rfl) ?_
    refine bD ?_
    refine oO (ι:=Unit) (fun i=>⟨68,[(2,.p 2 0),(5,.v (.c (.s ((aR k L).length) (aJ ai (aR k L))))),(35,.v (.c (.s (((bi k)).length) (aJ aG ((bi k)))))),(36,.v (.c (.i .i64 2))),(37,.v (.c (.i .i64 (n:Int)))),(12,.p 12 0),(10,.o 65 ((ws k L n).length) c9),(13,.v (.c (.s (((j9 k L ((bi k).getD n bL))).length) (aJ ai ((j9 k L ((bi k).getD n bL)))))))],[(2,40,bo k),(12,49,aG (((bi k).getD n bL))),(65,49,aJ aG (ws k L n)++rs)]⟩) ?_ ?_
    ·refine ae<|ag ?_
     refine aP ?_
     refine bF (ι:=Sum ({j:Nat // j≤(aR k L).length∧(((aR k L).take j).filter ((bi k).getD n bL).on)=[]}) ({x9:Nat×Nat×List CellD // x9.1≤(aR k L).length∧(((aR k L).take x9.1).filter ((bi k).getD n bL).on).length≤x9.2.1∧x9.2.1≤maxLen∧x9.2.2.length=(x9.2.1-(((aR k L).take x9.1).filter ((bi k).getD n bL).on).length)*20})) (fun i=>match i with| .inl i=>⟨68,[(2,.p 2 0),(5,.v (.c (.s ((aR k L).length) (aJ ai (aR k L))))),(35,.v (.c (.s (((bi k)).length) (aJ aG ((bi k)))))),(36,.v (.c (.i .i64 2))),(37,.v (.c (.i .i64 (n:Int)))),(12,.p 12 0),(10,.o 65 ((ws k L n).length) c9),(41,.v (.c (.s ((aR k L).length) (aJ ai (aR k L))))),(42,.v (.c (.i .i64 (((aR k L).length:Int))))),(43,.v (.c (.i .i64 (i.1:Int)))),(13,.z)],[(2,40,bo k),(12,49,aG (((bi k).getD n bL))),(65,49,aJ aG (ws k L n)++rs)]⟩| .inr i=>⟨68,[(2,.p 2 0),(5,.v (.c (.s ((aR k L).length) (aJ ai (aR k L))))),(35,.v (.c (.s (((bi k)).length) (aJ aG ((bi k)))))),(36,.v (.c (.i .i64 2))),(37,.v (.c (.i .i64 (n:Int)))),(12,.p 12 0),(10,.o 65 ((ws k L n).length) c9),(41,.v (.c (.s ((aR k L).length) (aJ ai (aR k L))))),(42,.v (.c (.i .i64 (((aR k L).length:Int))))),(43,.v (.c (.i .i64 (i.1.1:Int)))),(13,.o 53 ((((aR k L).take i.1.1).filter ((bi k).getD n bL).on).length) i.1.2.1)],[(2,40,bo k),(12,49,aG (((bi k).getD n bL))),(65,49,aJ aG (ws k L n)++rs),(53,47,aJ ai (((aR k L).take i.1.1).filter ((bi k).getD n bL).on)++i.1.2.2)]⟩) (fun i=>match i with| .inl i=>(aR k L).length-i.1| .inr i=>(aR k L).length-i.1.1) (.inl ⟨0,ju _,rfl⟩) (aA ⟨rfl,rfl,rfl,rfl,rfl,rfl,rfl,rfl,rfl,rfl,rfl,trivial⟩ ⟨rfl,rfl,rfl,trivial⟩ rfl) ?_
     rintro(⟨j,i2,i3⟩|⟨⟨j,c8,rt⟩,i2,i3,i4,i5⟩)
     ·replace i2:j≤(aR k L).length:=i2
      replace i3:(((aR k L).take j).filter ((bi k).getD n bL).on)=[]:=i3
      dsimp only
      refine ae<|ag<|ae ?_
      refine aS rfl (fun hc15=>?_) (fun hc15=>?_)
      ·have g2:j<(aR k L).length:=by have:=of_decide_eq_true hc15;omega
       have hx:=hC _ (bJ (d:=dPt) g2)
       refine aB<|ae<|aP<|ae<|ag<|ar (tX dPt aT g2 fD rfl)<|ar (qh aT bE rfl)<|ae<|ag ?_
       refine ar (oG (aj _) bT rfl) ?_
       refine ac rfl (H2 vc ha hx) ?_
       refine aS rfl (fun hc16=>?_) (fun hc16=>?_)
       ·have g3:((bi k).getD n bL).on ((aR k L).getD j dPt)=true:=hc16
        refine ag ?_
        refine ar (da (n:=1) (us:=ai ((((aR k L).getD j dPt)))) jD rfl rfl rfl (by decide) (by decide) rfl) ?_
        refine DL.mk<|rJ (ys:=ai ((((aR k L).getD j dPt)))) jD rfl rfl rfl (by decide) (by decide) (by decide) rfl rfl (fun cg17 rg17 hga17 hgb17 hgc17=>eQ ?_)
        refine ag<|ar (eu (by omega) rfl) ?_
        exact⟨.inr ⟨⟨j+1,cg17,rg17⟩,g2,by show(((aR k L).take (j+1)).filter ((bi k).getD n bL).on).length≤cg17;rw[oE g2 g3,i3];exact hga17,hgb17,by show rg17.length=(cg17-(((aR k L).take (j+1)).filter ((bi k).getD n bL).on).length)*20;rw[oE g2 g3,i3];exact hgc17⟩,aA ⟨rfl,rfl,rfl,rfl,rfl,rfl,rfl,rfl,rfl,rfl,congrArg (fun q=>some (DV.o 53 q cg17)) (by rw[oE g2 g3,i3];rfl),trivial⟩ ⟨rfl,rfl,rfl,congrArg (fun q=>some (47,q++rg17)) (by rw[oE g2 g3,i3,sv,jc]),trivial⟩ rfl,by show(aR k L).length-(j+1)<(aR k L).length-j;omega⟩
       ·have g3:((bi k).getD n bL).on ((aR k L).getD j dPt)=false:=hc16
        refine aB<|ag<|ar (eu (by omega) rfl) ?_
        exact⟨.inl ⟨j+1,g2,by rw[wn g2 g3];exact i3⟩,aA ⟨rfl,rfl,rfl,rfl,rfl,rfl,rfl,rfl,rfl,rfl,rfl,trivial⟩ ⟨rfl,rfl,rfl,trivial⟩ rfl,by show(aR k L).length-(j+1)<(aR k L).length-j;omega⟩
      ·have hj:j=(aR k L).length:=by have:=of_decide_eq_false hc15;omega
       refine ER (t:=13) rfl<|b7 ?_
       exact⟨(),aA ⟨rfl,rfl,rfl,rfl,rfl,rfl,rfl,congrArg (fun q:List Pt=>some (DV.v (.c (.s q.length (aJ ai q))))) (i3.symm.trans (show(j9 k L ((bi k).getD n bL))=((aR k L).take j).filter ((bi k).getD n bL).on by rw[hj,pS];rfl).symm),trivial⟩ ⟨rfl,rfl,rfl,trivial⟩ rfl⟩
     ·dsimp only at i2 i3 i4 i5
      have i6:(((aR k L).take j).filter ((bi k).getD n bL).on).length≤8:=mM (rg _ _) (by rw[gz];omega)
      dsimp only
      refine ae<|ag<|ae ?_
      refine aS rfl (fun hc18=>?_) (fun hc18=>?_)
      ·have g2:j<(aR k L).length:=by have:=of_decide_eq_true hc18;omega
       have hx:=hC _ (bJ (d:=dPt) g2)
       refine aB<|ae<|aP<|ae<|ag<|ar (tX dPt aT g2 fD rfl)<|ar (qh aT bE rfl)<|ae<|ag ?_
       refine ar (oG (aj _) bT rfl) ?_
       refine ac rfl (H2 vc ha hx) ?_
       refine aS rfl (fun hc19=>?_) (fun hc19=>?_)
       ·have g3:((bi k).getD n bL).on ((aR k L).getD j dPt)=true:=hc19
        refine ag ?_
        refine ar (da (n:=1) (us:=ai ((((aR k L).getD j dPt)))) jD rfl rfl rfl (by decide) (by decide) rfl) ?_
        refine DL.mk<|vt (us:=aJ ai (((aR k L).take j).filter ((bi k).getD n bL).on)) (rest:=rt) (ys:=ai ((((aR k L).getD j dPt)))) jD rfl rfl rfl (by first|exact aM aT _|exact aM aj _) (by assumption) rfl (by decide) (by omega) (by assumption) (by omega) (wC (by omega)) (.inl rfl) rfl (fun cg20 rg20 hga20 hgb20 hgc20=>eQ ?_)
        refine ag<|ar (eu (by omega) rfl) ?_
        exact⟨.inr ⟨⟨j+1,cg20,rg20⟩,g2,by show(((aR k L).take (j+1)).filter ((bi k).getD n bL).on).length≤cg20;rw[oE g2 g3,dj];exact hga20,hgb20,by show rg20.length=(cg20-(((aR k L).take (j+1)).filter ((bi k).getD n bL).on).length)*20;rw[oE g2 g3,dj];exact hgc20⟩,aA ⟨rfl,rfl,rfl,rfl,rfl,rfl,rfl,rfl,rfl,rfl,congrArg (fun q=>some (DV.o 53 q cg20)) (by rw[oE g2 g3,dj];rfl),trivial⟩ ⟨rfl,rfl,rfl,congrArg (fun q=>some (47,q++rg20)) (by rw[oE g2 g3,gW,jc]),trivial⟩ rfl,by show(aR k L).length-(j+1)<(aR k L).length-j;omega⟩
       ·have g3:((bi k).getD n bL).on ((aR k L).getD j dPt)=false:=hc19
        refine aB<|ag<|ar (eu (by omega) rfl) ?_
        exact⟨.inr ⟨⟨j+1,c8,rt⟩,g2,by show(((aR k L).take (j+1)).filter ((bi k).getD n bL).on).length≤c8;rw[wn g2 g3];exact i3,i4,by show rt.length=(c8-(((aR k L).take (j+1)).filter ((bi k).getD n bL).on).length)*20;rw[wn g2 g3];exact i5⟩,aA ⟨rfl,rfl,rfl,rfl,rfl,rfl,rfl,rfl,rfl,rfl,congrArg (fun q=>some (DV.o 53 (List.length q) c8)) (wn g2 g3).symm,trivial⟩ ⟨rfl,rfl,rfl,congrArg (fun q=>some (47,aJ ai q++rt)) (wn g2 g3).symm,trivial⟩ rfl,by show(aR k L).length-(j+1)<(aR k L).length-j;omega⟩
      ·have hj:j=(aR k L).length:=by have:=of_decide_eq_false hc18;omega
       refine fu (t:=13) (m:=20) (us:=aJ ai (((aR k L).take j).filter ((bi k).getD n bL).on)) rfl rfl (tP (n:=(((aR k L).take j).filter ((bi k).getD n bL).on).length) (by first|exact aM aT _|exact aM aj _) (by assumption) (by omega)) (by omega) (by assumption) (nQ (by first|exact aM aT _|exact aM aj _)) ?_
       refine b7 ?_
       exact⟨(),aA ⟨rfl,rfl,rfl,rfl,rfl,rfl,rfl,congrArg (fun q:List Pt=>some (DV.v (.c (.s q.length (aJ ai q))))) ((show(j9 k L ((bi k).getD n bL))=((aR k L).take j).filter ((bi k).getD n bL).on by rw[hj,pS];rfl).symm),trivial⟩ ⟨rfl,rfl,rfl,trivial⟩ rfl⟩
    ·rintro⟨⟩
     try dsimp only
     refine ae<|bz<|aW (oG (aj _) bT rfl)<|bQ 1 ?_
     refine yT rfl rfl ((show OkN _ _ [.a (aG ((bi k).getD n bL)),.c (.s ((j9 k L ((bi k).getD n bL))).length (aJ ai (j9 k L ((bi k).getD n bL))))] _ (jx k L ((bi k).getD n bL)).length _ (aJ aG (jx k L ((bi k).getD n bL))) _ from Vn (L:=(j9 k L ((bi k).getD n bL))) vc ha (fun p h=>hC p (ln.1 h).1) (mM (rg _ _) (by omega)) (fun p h=>(ln.1 h).2))) rfl rfl (fun cg21 rg21 hga21 hgb21 hgc21=>?_)
     refine bQ 1<|aW (Cs rfl rfl) ?_
     refine aW (B8 rfl rfl rfl) ?_
     refine fL<|ae<|ag<|dG rfl ?_
     refine fu (t:=16) (m:=66) (us:=aJ aG (jx k L ((bi k).getD n bL))) rfl rfl (tP (n:=(jx k L ((bi k).getD n bL)).length) (by first|exact aM aT _|exact aM aj _) (by assumption) (by omega)) (by omega) (by assumption) (nQ (by first|exact aM aT _|exact aM aj _)) ?_
     refine ag ?_
     refine DL.mk<|G0 (n:=(ws k L n).length) (c:=c9) (q:=(jx k L ((bi k).getD n bL)).length) (us:=aJ aG (ws k L n)) (rest:=rs) (N':=(ws k L n).length+(jx k L ((bi k).getD n bL)).length) (zs':=aJ aG (ws k L n)++aJ aG (jx k L ((bi k).getD n bL))) wh rfl rfl rfl (rfl) (aM aj _) (h5) (aM aj _) (by decide) (by omega) (by assumption) (by omega) (wC (by omega)) (.inl rfl) (rfl) (rfl) rfl (fun cg22 rg22 hga22 hgb22 hgc22=>eQ ?_)
     refine ag<|ar (eu (by omega) rfl) ?_
     exact⟨⟨⟨n+1,cg22,rg22⟩,by omega,by omega,by show(ws k L (n+1)).length≤cg22;rw[(show ws k L (n+1)=ws k L n++jx k L ((bi k).getD n bL) from m8 g1),dj];exact hga22,hgb22,by show rg22.length=(cg22-(ws k L (n+1)).length)*66;rw[(show ws k L (n+1)=ws k L n++jx k L ((bi k).getD n bL) from m8 g1),dj];exact hgc22⟩,aA ⟨rfl,rfl,rfl,rfl,rfl,congrArg (fun q=>some (DV.o 65 q cg22)) (by rw[(show ws k L (n+1)=ws k L n++jx k L ((bi k).getD n bL) from m8 g1),dj]),trivial⟩ ⟨rfl,congrArg (fun q=>some (49,q++rg22)) (by rw[(show ws k L (n+1)=ws k L n++jx k L ((bi k).getD n bL) from m8 g1),gW]),trivial⟩ rfl,by show 2-(n+1)<2-n;omega⟩
   ·have hp:n=2:=by
     have h8:=of_decide_eq_false hc14
     have h9: ¬(n:Int)<((2:Nat):Int):=h8
     omega
    refine b7<|ae<|ag ?_
    refine fu (t:=4) (m:=66) (us:=aJ aG (ws k L n)) rfl rfl (tP (n:=(ws k L n).length) (by first|exact aM aT _|exact aM aj _) (by assumption) (by omega)) (by omega) (by assumption) (nQ (by first|exact aM aT _|exact aM aj _)) ?_
    refine a9 ?_
    rw[show a8 k L=ws k L n from by rw[hp];rfl]
    exact ah (ak aa)
theorem RM (h0:e s=false) (h:lK P e s n=[]):e (s+n)=false:=by
 cases g:e (s+n) with
 |false=>rfl
 |true=>
  obtain⟨L,a,h1,_⟩:=zd h0 n g
  unfold lK at h
  rw[h1] at h
  simp at h
theorem Gg (c:Cv) (r:List CellD):((aG c++r).drop 46).take 20=ai c.q:=by
 have hl:=aj c
 rw[zJ (by omega),xA (by rw[jF];omega)]
 cases c<;>rfl
theorem Io (c:Cv) (q:Pt) (r:List CellD):(aG c++r).take 46++ai q++(aG c++r).drop 66=aG (c.ends c.p q)++r:=by
 have h:=Lm c c.p q
 rw[show c.setp c.p=c from by cases c<;>rfl] at h
 have hl:=aj c
 rw[xA (by omega),List.drop_append,show(aG c).drop 66=[] from pg (by omega),hl]
 rw[show(aG c).drop 66=[] from pg (by omega),l9] at h
 rw[h];rfl
theorem Mn:(aJ aG (O++[c])++rs).take (O.length*66+46)++ai q++(aJ aG (O++[c])++rs).drop (O.length*66+46+20)=aJ aG (O++[c.ends c.p q])++rs:=by
 have hl:=aM aj O
 rw[gW,gW,jc,jc,qc (aJ aG O),←hl,List.take_length_add_append,show(aJ aG O).length+46+20=(aJ aG O).length+66 from rfl,List.drop_length_add_append,qc (aJ aG O) _ (ai q),qc (aJ aG O),Io,qc (aJ aG O)]
theorem RA (hk:RK k) (h0:0<k.q) (hL: ∀d∈L,RK d) (lL:L.length≤4) (hm: ∀i,i<(a8 k L).length→GB (m i)∧Ok Tryz.prog 43 [.a (aG ((a8 k L).getD i bL))] [.a (ai (m i))]) (he: ∀i,i<(a8 k L).length→e i=qr L (m i)) (ha: ∀i,i<(a8 k L).length→e i=true):Ok Tryz.prog 9 [.a (bo k),.c (.s L.length (aJ bo L))] [.c (.s 0 []),.c (.b true)]:=by
 have lN:(a8 k L).length≤9*2:=Ev lL (cj _)
 have hN:(a8 k L).length≤100:=by omega
 have hMx:(a8 k L).length≤9223372036854775807:=by omega
 refine ex Tryz.func9 86 [.tmp 4,.tmp 5] rfl<|ae<|ag<|ae<|ag ?_
 refine ac rfl (UU hk h0 hL lL)<|ae<|ag ?_
 refine DL.mk<|pD (kg (n:=(((((a8 k L)).length:Nat):Int)).toNat) aak rfl rfl (by omega) (by omega) rfl) rfl<|eQ ?_
 refine ae<|ae<|ag ?_
 refine aP ?_
 refine bF (ι:={n:Nat // n≤(a8 k L).length}) (fun i=>⟨86,[(2,.p 2 0),(6,.v (.c (.s (((a8 k L)).length) (aJ aG ((a8 k L)))))),(1,.v (.c (.s L.length (aJ bo L)))),(7,.o 21 ((a8 k L).length) ((a8 k L).length)),(22,.v (.c (.s (((a8 k L)).length) (aJ aG ((a8 k L)))))),(23,.v (.c (.i .i64 (((a8 k L).length:Int))))),(24,.v (.c (.i .i64 (i.1:Int))))],[(2,40,bo k),(21,4,p8 e ((a8 k L).length) i.1++[])]⟩) (fun i=>(a8 k L).length-i.1) ⟨0,ju _⟩ (aA ⟨rfl,rfl,rfl,rfl,rfl,rfl,rfl,trivial⟩ ⟨rfl,congrArg (fun q=>some (4,q)) P3,trivial⟩ rfl) ?_
 rintro⟨n,h2⟩
 replace h2:n≤(a8 k L).length:=h2
 dsimp only
 refine ae<|ag<|ae ?_
 refine aS rfl (fun hc1=>?_) (fun hc1=>?_)
 ·have g1:n<(a8 k L).length:=by have:=of_decide_eq_true hc1;omega
  obtain⟨gm,om⟩:=hm n g1
  refine aB<|ae<|aP<|ae<|ag<|ar (tX bL aj g1 lB rfl)<|ar (qh aj bT rfl)<|nM (du bT rfl rfl rfl (aj _) rfl rfl) ?_
  refine ae<|ag ?_
  refine ar (oG (aj _) bT rfl) ?_
  refine ac rfl (om) ?_
  refine jT (t:=10) (k:=10) rfl rfl<|bz<|bQ 3 ?_
  refine aW (pM (us:=[.p (ai (m n))]) rfl rfl) ?_
  refine aW (cb rfl (eG (c:= !e n) (YF hL lL gm) (by rw[he n g1])))<|bQ 1<|aW (bk NE rfl rfl (by omega) rfl) ?_
  refine iu (aY (us:=p8 e ((a8 k L).length) (n+1)++[]) mv rfl rfl rfl rfl (by rw[l9,BK];omega) (by rw[Bool.not_not];exact Kb g1) rfl) ?_
  refine bD<|ag<|ar (eu (by omega) rfl) ?_
  exact⟨⟨n+1,g1⟩,aA ⟨rfl,rfl,rfl,rfl,rfl,rfl,rfl,trivial⟩ ⟨rfl,rfl,trivial⟩ rfl,by show(a8 k L).length-(n+1)<(a8 k L).length-n;omega⟩
 ·have hp:n=(a8 k L).length:=by have:=of_decide_eq_false hc1;omega
  refine oC (σ':=⟨86,[(2,.p 2 0),(6,.v (.c (.s (((a8 k L)).length) (aJ aG ((a8 k L)))))),(7,.o 21 ((a8 k L).length) ((a8 k L).length))],[(2,40,bo k),(21,4,B6 e ((a8 k L).length)++[])]⟩) (aA ⟨rfl,rfl,rfl,trivial⟩ ⟨rfl,congrArg (fun q=>some (4,q++[])) (by rw[hp];exact Ho),trivial⟩ rfl) ?_
  refine fu (t:=7) (m:=1) (us:=B6 e ((a8 k L).length)) rfl rfl (tP (n:=(a8 k L).length) (by first|exact nm|exact aM aj _|exact(aM aj _).trans (by rw[fk])) (by first|assumption|simp) (by omega)) (by omega) (by assumption) (nQ (by first|exact nm|exact aM aj _|exact(aM aj _).trans (by rw[fk]))) ?_
  refine b7<|ae<|ae<|ag<|ac rfl (Yq hN) ?_
  refine aS rfl (fun hc2=>?_) (fun hc2=>?_)
  ·refine ae<|ag<|a9 ?_
   exact ah (ak (ak aa))
  ·exact absurd hc2 (by rw[L6 ha];decide)
theorem Rp (hk:RK k) (h0:0<k.q) (hL: ∀d∈L,RK d) (lL:L.length≤4) (hm: ∀i,i<(a8 k L).length→GB (m i)∧Ok Tryz.prog 43 [.a (aG ((a8 k L).getD i bL))] [.a (ai (m i))]) (he: ∀i,i<(a8 k L).length→e i=qr L (m i)) (hr:Rnd e (a8 k L).length) (hs:s<(a8 k L).length) (hlt: ∀i,i<s→e i=true) (es:e s=false) (hG: ∀x∈lK (a8 k L) e s (a8 k L).length,CvV x):Ok Tryz.prog 9 [.a (bo k),.c (.s L.length (aJ bo L))] [.c (.s (((bc bL cW (lK (a8 k L) e s ((a8 k L).length)))).length) (aJ aG ((bc bL cW (lK (a8 k L) e s ((a8 k L).length)))))),.c (.b false)]:=by
 have lN:(a8 k L).length≤9*2:=Ev lL (cj _)
 have hN:(a8 k L).length≤100:=by omega
 have hMx:(a8 k L).length≤9223372036854775807:=by omega
 have hfs:fz e (a8 k L).length=s:=GD hlt es hs
 refine ex Tryz.func9 86 [.tmp 4,.tmp 5] rfl<|ae<|ag<|ae<|ag ?_
 refine ac rfl (UU hk h0 hL lL)<|ae<|ag ?_
 refine DL.mk<|pD (kg (n:=(((((a8 k L)).length:Nat):Int)).toNat) aak rfl rfl (by omega) (by omega) rfl) rfl<|eQ ?_
 refine ae<|ae<|ag ?_
 refine aP ?_
 refine bF (ι:={n:Nat // n≤(a8 k L).length}) (fun i=>⟨86,[(2,.p 2 0),(6,.v (.c (.s (((a8 k L)).length) (aJ aG ((a8 k L)))))),(1,.v (.c (.s L.length (aJ bo L)))),(7,.o 21 ((a8 k L).length) ((a8 k L).length)),(22,.v (.c (.s (((a8 k L)).length) (aJ aG ((a8 k L)))))),(23,.v (.c (.i .i64 (((a8 k L).length:Int))))),(24,.v (.c (.i .i64 (i.1:Int))))],[(2,40,bo k),(21,4,p8 e ((a8 k L).length) i.1++[])]⟩) (fun i=>(a8 k L).length-i.1) ⟨0,ju _⟩ (aA ⟨rfl,rfl,rfl,rfl,rfl,rfl,rfl,trivial⟩ ⟨rfl,congrArg (fun q=>some (4,q)) P3,trivial⟩ rfl) ?_
 rintro⟨n,h2⟩
 replace h2:n≤(a8 k L).length:=h2
 dsimp only
 refine ae<|ag<|ae ?_
 refine aS rfl (fun hc1=>?_) (fun hc1=>?_)
 ·have g1:n<(a8 k L).length:=by have:=of_decide_eq_true hc1;omega
  obtain⟨gm,om⟩:=hm n g1
  refine aB<|ae<|aP<|ae<|ag<|ar (tX bL aj g1 lB rfl)<|ar (qh aj bT rfl)<|nM (du bT rfl rfl rfl (aj _) rfl rfl) ?_
  refine ae<|ag ?_
  refine ar (oG (aj _) bT rfl) ?_
  refine ac rfl (om) ?_
  refine jT (t:=10) (k:=10) rfl rfl<|bz<|bQ 3 ?_
  refine aW (pM (us:=[.p (ai (m n))]) rfl rfl) ?_
  refine aW (cb rfl (eG (c:= !e n) (YF hL lL gm) (by rw[he n g1])))<|bQ 1<|aW (bk NE rfl rfl (by omega) rfl) ?_
  refine iu (aY (us:=p8 e ((a8 k L).length) (n+1)++[]) mv rfl rfl rfl rfl (by rw[l9,BK];omega) (by rw[Bool.not_not];exact Kb g1) rfl) ?_
  refine bD<|ag<|ar (eu (by omega) rfl) ?_
  exact⟨⟨n+1,g1⟩,aA ⟨rfl,rfl,rfl,rfl,rfl,rfl,rfl,trivial⟩ ⟨rfl,rfl,trivial⟩ rfl,by show(a8 k L).length-(n+1)<(a8 k L).length-n;omega⟩
 ·have hp:n=(a8 k L).length:=by have:=of_decide_eq_false hc1;omega
  refine oC (σ':=⟨86,[(2,.p 2 0),(6,.v (.c (.s (((a8 k L)).length) (aJ aG ((a8 k L)))))),(7,.o 21 ((a8 k L).length) ((a8 k L).length))],[(2,40,bo k),(21,4,B6 e ((a8 k L).length)++[])]⟩) (aA ⟨rfl,rfl,rfl,trivial⟩ ⟨rfl,congrArg (fun q=>some (4,q++[])) (by rw[hp];exact Ho),trivial⟩ rfl) ?_
  refine fu (t:=7) (m:=1) (us:=B6 e ((a8 k L).length)) rfl rfl (tP (n:=(a8 k L).length) (by first|exact nm|exact aM aj _|exact(aM aj _).trans (by rw[fk])) (by first|assumption|simp) (by omega)) (by omega) (by assumption) (nQ (by first|exact nm|exact aM aj _|exact(aM aj _).trans (by rw[fk]))) ?_
  refine b7<|ae<|ae<|ag<|ac rfl (Yq hN) ?_
  refine aS rfl (fun hc2=>?_) (fun hc2=>?_)
  ·exact absurd hc2 (by rw[hfs];simp)
  ·refine aB<|ae<|ag<|ac rfl ((by have h9:=Y1 (e:=e) hN;rw[hfs] at h9;exact h9)) ?_
   refine ae<|bz<|aW (i9 rfl) ?_
   refine bD<|ae<|ag<|ae<|ae<|ag ?_
   refine aP ?_
   refine bF (ι:=Sum ({n:Nat // n≤(a8 k L).length∧(lK (a8 k L) e s n)=[]}) ({x9:Nat×Nat×List CellD // x9.1≤(a8 k L).length∧(lK (a8 k L) e s x9.1).length≤x9.2.1∧x9.2.1≤maxLen∧x9.2.2.length=(x9.2.1-(lK (a8 k L) e s x9.1).length)*66∧1≤(lK (a8 k L) e s x9.1).length})) (fun i=>match i with| .inl i=>⟨86,[(2,.p 2 0),(6,.v (.c (.s (((a8 k L)).length) (aJ aG ((a8 k L)))))),(7,.v (.c (.s ((a8 k L).length) (B6 e ((a8 k L).length))))),(11,.v (.c (.i .i64 (s:Int)))),(13,.v (.c (.b (e (s+i.1))))),(44,.v (.c (.s (((a8 k L)).length) (aJ aG ((a8 k L)))))),(45,.v (.c (.i .i64 (((a8 k L).length:Int))))),(46,.v (.c (.i .i64 (i.1:Int)))),(12,.z)],[(2,40,bo k)]⟩| .inr i=>⟨86,[(2,.p 2 0),(6,.v (.c (.s (((a8 k L)).length) (aJ aG ((a8 k L)))))),(7,.v (.c (.s ((a8 k L).length) (B6 e ((a8 k L).length))))),(11,.v (.c (.i .i64 (s:Int)))),(13,.v (.c (.b (e (s+i.1.1))))),(44,.v (.c (.s (((a8 k L)).length) (aJ aG ((a8 k L)))))),(45,.v (.c (.i .i64 (((a8 k L).length:Int))))),(46,.v (.c (.i .i64 (i.1.1:Int)))),(12,.o 62 ((lK (a8 k L) e s i.1.1).length) i.1.2.1)],[(2,40,bo k),(62,49,aJ aG (lK (a8 k L) e s i.1.1)++i.1.2.2)]⟩) (fun i=>match i with| .inl i=>(a8 k L).length-i.1| .inr i=>(a8 k L).length-i.1.1) (.inl ⟨0,ju _,rfl⟩) (aA ⟨rfl,rfl,rfl,rfl,congrArg (fun q=>some (DV.v (.c (.b q)))) es.symm,rfl,rfl,rfl,rfl,trivial⟩ ⟨rfl,trivial⟩ rfl) ?_
   rintro(⟨n,i2,i3⟩|⟨⟨n,c9,rs⟩,i2,i3,i4,i5,i7⟩)
   ·replace i2:n≤(a8 k L).length:=i2
    replace i3:(lK (a8 k L) e s n)=[]:=i3
    dsimp only
    refine ae<|ag<|ae ?_
    refine aS rfl (fun hc3=>?_) (fun hc3=>?_)
    ·have g1:n<(a8 k L).length:=by have:=of_decide_eq_true hc3;omega
     obtain⟨kx,hkx⟩: ∃x,x=(s+1+n)%(a8 k L).length:=⟨_,rfl⟩
     have gk:kx<(a8 k L).length:=hkx▸Nat.mod_lt _ hr.pos
     have ek:kx=(s+n+1)%(a8 k L).length:=by rw[hkx,show s+1+n=s+n+1 from by omega]
     have em:e kx=e (s+n+1):=by rw[ek,hr.mod]
     refine aB<|ae<|aP<|ae<|ag<|ae<|ag<|ar (eu (by omega) rfl)<|ar (bZ (((s+1+n:Nat):Int)) ((bm (by omega) (by omega)).trans (congrArg some (by omega))) rfl) ?_
     refine ar (l8 (r:=(kx:Int)) rfl rfl (by omega) (by rw[hkx];exact(Int.ofNat_tmod _ _).symm) rfl) ?_
     refine aP<|ae<|ag<|ar (bK (us:=[CellD.b (e kx)]++(B6 e ((a8 k L).length)).drop (kx+1)) NE rfl rfl (by omega) (nm) (Ep gk) rfl) ?_
     refine ar (ci mv rfl rfl rfl) ?_
     refine aS rfl (fun hc4=>?_) (fun hc4=>?_)
     ·have o1:e (s+n+1)=false:=by rw[←em];simpa using hc4
      refine ag<|ag<|ar (eu (by omega) rfl) ?_
      exact⟨.inl ⟨n+1,g1,(zP o1).trans i3⟩,aA ⟨rfl,rfl,rfl,rfl,congrArg (fun q=>some (DV.v (.c (.b q)))) (show e (s+n+1)=false from o1).symm,rfl,rfl,rfl,rfl,trivial⟩ ⟨rfl,trivial⟩ rfl,by show(a8 k L).length-(n+1)<(a8 k L).length-n;omega⟩
     ·have o1:e (s+n+1)=true:=by rw[←em];simpa using hc4
      refine ae<|ag ?_
      refine aS rfl (fun hc5=>?_) (fun hc5=>?_)
      ·exact absurd hc5 (by rw[RM es i3];decide)
      ·have o2:e (s+n)=false:=hc5
       refine ag<|ar (tX bL aj gk lB rfl)<|ar (qh aj bT rfl)<|ar (da (n:=1) (us:=aG (((a8 k L).getD kx bL))) wh rfl (C9 rfl (aj _)) (je (aj _)) (by decide) (by decide) rfl) ?_
       refine DL.mk<|rJ (ys:=aG (((a8 k L).getD kx bL))) wh rfl rfl (je (aj _)) (by decide) (by decide) (by decide) rfl rfl (fun cg6 rg6 hga6 hgb6 hgc6=>eQ ?_)
       refine ag<|ar (eu (by omega) rfl) ?_
       exact⟨.inr ⟨⟨n+1,cg6,rg6⟩,g1,by show(lK (a8 k L) e s (n+1)).length≤cg6;rw[nk o1 o2,i3,sv];exact hga6,hgb6,by show rg6.length=(cg6-(lK (a8 k L) e s (n+1)).length)*66;rw[nk o1 o2,i3,sv];exact hgc6,by show 1≤(lK (a8 k L) e s (n+1)).length;rw[nk o1 o2,i3,sv];exact cj _⟩,aA ⟨rfl,rfl,rfl,rfl,congrArg (fun q=>some (DV.v (.c (.b q)))) (show e (s+n+1)=true from o1).symm,rfl,rfl,rfl,congrArg (fun q=>some (DV.o 62 (List.length q) cg6)) (show[(a8 k L).getD ((s+n+1)%(a8 k L).length) bL]=(lK (a8 k L) e s (n+1)) from by rw[nk o1 o2,i3,sv]),trivial⟩ ⟨rfl,congrArg (fun q=>some (49,q++rg6)) (show _=aJ aG (lK (a8 k L) e s (n+1)) from by rw[nk o1 o2,i3,sv,jc,ek]),trivial⟩ rfl,by show(a8 k L).length-(n+1)<(a8 k L).length-n;omega⟩
    ·have hp:n=(a8 k L).length:=by have:=of_decide_eq_false hc3;omega
     refine b7<|ae<|ER (t:=12) rfl<|ag<|ac rfl (Yx)<|ae<|ag<|a9 ?_
     rw[show(lK (a8 k L) e s ((a8 k L).length))=[] from hp▸i3]
     exact ah (ak (ak aa))
   ·dsimp only at i2 i3 i4 i5 i7
    have i6:(lK (a8 k L) e s n).length≤n:=Sr
    dsimp only
    refine ae<|ag<|ae ?_
    refine aS rfl (fun hc7=>?_) (fun hc7=>?_)
    ·have g1:n<(a8 k L).length:=by have:=of_decide_eq_true hc7;omega
     obtain⟨kx,hkx⟩: ∃x,x=(s+1+n)%(a8 k L).length:=⟨_,rfl⟩
     have gk:kx<(a8 k L).length:=hkx▸Nat.mod_lt _ hr.pos
     have ek:kx=(s+n+1)%(a8 k L).length:=by rw[hkx,show s+1+n=s+n+1 from by omega]
     have em:e kx=e (s+n+1):=by rw[ek,hr.mod]
     refine aB<|ae<|aP<|ae<|ag<|ae<|ag<|ar (eu (by omega) rfl)<|ar (bZ (((s+1+n:Nat):Int)) ((bm (by omega) (by omega)).trans (congrArg some (by omega))) rfl) ?_
     refine ar (l8 (r:=(kx:Int)) rfl rfl (by omega) (by rw[hkx];exact(Int.ofNat_tmod _ _).symm) rfl) ?_
     refine aP<|ae<|ag<|ar (bK (us:=[CellD.b (e kx)]++(B6 e ((a8 k L).length)).drop (kx+1)) NE rfl rfl (by omega) (nm) (Ep gk) rfl) ?_
     refine ar (ci mv rfl rfl rfl) ?_
     refine aS rfl (fun hc8=>?_) (fun hc8=>?_)
     ·have o1:e (s+n+1)=false:=by rw[←em];simpa using hc8
      refine ag<|ag<|ar (eu (by omega) rfl) ?_
      exact⟨.inr ⟨⟨n+1,c9,rs⟩,g1,by show(lK (a8 k L) e s (n+1)).length≤c9;rw[zP o1];exact i3,i4,by show rs.length=(c9-(lK (a8 k L) e s (n+1)).length)*66;rw[zP o1];exact i5,by show 1≤(lK (a8 k L) e s (n+1)).length;rw[zP o1];exact i7⟩,aA ⟨rfl,rfl,rfl,rfl,congrArg (fun q=>some (DV.v (.c (.b q)))) (show e (s+n+1)=false from o1).symm,rfl,rfl,rfl,congrArg (fun q=>some (DV.o 62 (List.length q) c9)) (zP o1).symm,trivial⟩ ⟨rfl,congrArg (fun q=>some (49,aJ aG q++rs)) (zP o1).symm,trivial⟩ rfl,by show(a8 k L).length-(n+1)<(a8 k L).length-n;omega⟩
     ·have o1:e (s+n+1)=true:=by rw[←em];simpa using hc8
      refine ae<|ag ?_
      refine aS rfl (fun hc9=>?_) (fun hc9=>?_)
      ·have o2:e (s+n)=true:=hc9
       obtain⟨O,c,oe,oe2⟩:=OV (P:=a8 k L) es o1 o2
       have lO:O.length+1≤n:=by have h8:=i6;rw[oe] at h8;simpa using h8
       have lO2:(O++[c]).length=O.length+1:=by simp
       refine oC (σ':=⟨86,[(2,.p 2 0),(6,.v (.c (.s (((a8 k L)).length) (aJ aG ((a8 k L)))))),(7,.v (.c (.s ((a8 k L).length) (B6 e ((a8 k L).length))))),(11,.v (.c (.i .i64 (s:Int)))),(13,.v (.c (.b (e (s+n))))),(44,.v (.c (.s (((a8 k L)).length) (aJ aG ((a8 k L)))))),(45,.v (.c (.i .i64 (((a8 k L).length:Int))))),(46,.v (.c (.i .i64 (n:Int)))),(15,.v (.c (.i .i64 (kx:Int)))),(12,.o 62 ((O++[c]).length) c9)],[(2,40,bo k),(62,49,aJ aG (O++[c])++rs)]⟩) (aA ⟨rfl,rfl,rfl,rfl,rfl,rfl,rfl,rfl,rfl,congrArg (fun q=>some (DV.o 62 (List.length q) c9)) oe,trivial⟩ ⟨rfl,congrArg (fun q=>some (49,aJ aG q++rs)) oe,trivial⟩ rfl) ?_
       refine ag<|ar (iJ lB rfl rfl) ?_
       refine ar (bZ ((O.length:Int)) ((bI (by simp only[dj,List.length_singleton];omega) (by simp only[dj,List.length_singleton];omega)).trans (congrArg some (by simp only[dj,List.length_singleton];omega))) rfl)<|ar (tX bL aj gk lB rfl)<|ar (pj Ef rfl rfl rfl) ?_
       refine ar (gF bE rfl (Gg _ _) (aT _) rfl) ?_
       refine ar (bk lB rfl rfl (by omega) rfl) ?_
       refine nM (aY (us:=aJ aG (O++[c.ends c.p ((a8 k L).getD kx bL).q])++rs) bE rfl rfl rfl (aT _) (by rw[dj,aM aj];simp;omega) (Mn) rfl) ?_
       refine ag<|ar (eu (by omega) rfl) ?_
       exact⟨.inr ⟨⟨n+1,c9,rs⟩,g1,by show(lK (a8 k L) e s (n+1)).length≤c9;rw[oe2];rw[oe] at i3;simpa using i3,i4,by show rs.length=(c9-(lK (a8 k L) e s (n+1)).length)*66;rw[oe2];rw[oe] at i5;simpa using i5,by show 1≤(lK (a8 k L) e s (n+1)).length;rw[oe2];simp⟩,aA ⟨rfl,rfl,rfl,rfl,congrArg (fun q=>some (DV.v (.c (.b q)))) (o2.trans o1.symm),rfl,rfl,rfl,congrArg (fun q=>some (DV.o 62 q c9)) (by rw[oe2];simp),trivial⟩ ⟨rfl,congrArg (fun q=>some (49,aJ aG q++rs)) (by rw[oe2,ek]),trivial⟩ rfl,by show(a8 k L).length-(n+1)<(a8 k L).length-n;omega⟩
      ·have o2:e (s+n)=false:=hc9
       refine ag<|ar (tX bL aj gk lB rfl)<|ar (qh aj bT rfl)<|ar (da (n:=1) (us:=aG (((a8 k L).getD kx bL))) wh rfl (C9 rfl (aj _)) (je (aj _)) (by decide) (by decide) rfl) ?_
       refine DL.mk<|vt (us:=aJ aG (lK (a8 k L) e s n)) (rest:=rs) (ys:=aG (((a8 k L).getD kx bL))) wh rfl rfl rfl (by first|exact nm|exact aM aj _|exact(aM aj _).trans (by rw[fk])) (by assumption) (je (aj _)) (by decide) (by omega) (by assumption) (by omega) (wC (by omega)) (.inl rfl) rfl (fun cg10 rg10 hga10 hgb10 hgc10=>eQ ?_)
       refine ag<|ar (eu (by omega) rfl) ?_
       exact⟨.inr ⟨⟨n+1,cg10,rg10⟩,g1,by show(lK (a8 k L) e s (n+1)).length≤cg10;rw[nk o1 o2,dj];exact hga10,hgb10,by show rg10.length=(cg10-(lK (a8 k L) e s (n+1)).length)*66;rw[nk o1 o2,dj];exact hgc10,by show 1≤(lK (a8 k L) e s (n+1)).length;rw[nk o1 o2,dj];exact Nat.le_add_left 1 _⟩,aA ⟨rfl,rfl,rfl,rfl,congrArg (fun q=>some (DV.v (.c (.b q)))) (show e (s+n+1)=true from o1).symm,rfl,rfl,rfl,congrArg (fun q=>some (DV.o 62 q cg10)) (show _=(lK (a8 k L) e s (n+1)).length from by rw[nk o1 o2,dj];rfl),trivial⟩ ⟨rfl,congrArg (fun q=>some (49,q++rg10)) (show _=aJ aG (lK (a8 k L) e s (n+1)) from by rw[nk o1 o2,gW,jc,ek]),trivial⟩ rfl,by show(a8 k L).length-(n+1)<(a8 k L).length-n;omega⟩
    ·have hp:n=(a8 k L).length:=by have:=of_decide_eq_false hc7;omega
     have hl0:(lK (a8 k L) e s n).length≤12:=by have:=OX (P:=a8 k L) (e:=e) (s:=s) (n:=(a8 k L).length);rw[hp];omega
     have hGn: ∀x∈(lK (a8 k L) e s n),CvV x:=hp▸hG
     refine b7<|ae<|ag ?_
     refine DL.mk<|r5 (jO rfl rfl rfl rfl rfl (aaS i7 hl0 hGn) rfl)<|eQ ?_
     refine ae<|ag ?_
     refine fu (t:=4) (m:=66) (us:=aJ aG (bc bL cW (lK (a8 k L) e s n))) rfl rfl (tP (n:=(lK (a8 k L) e s n).length) (by first|exact nm|exact aM aj _|exact(aM aj _).trans (by rw[fk])) (by first|assumption|simp) (by omega)) (by omega) (by assumption) (nQ (by first|exact nm|exact aM aj _|exact(aM aj _).trans (by rw[fk]))) ?_
     refine a9 ?_
     rw[←hp,fk]
     exact ah (ak (ak aa))
section
variable {x y:Pt}(gx:GP x) (gy:GP y) (h:cP x y=0)
include gx gy h
theorem M3:jQ k x=jQ k y:=by
 rw[y8 gx,y8 gy]
 congr 1
 refine dC ?_
 have h1:=(d8.1 h).1
 rw[n8 (b9 gx) (b9 gy)] at h1
 have h2:=(d8.1 h).2
 rw[rb (b9 gx) (b9 gy)] at h2
 rw[show wz k x-wz k y=(pX x-pX y)*(pX x+pX y-Re.of k.x-Re.of k.x)+(pY x-pY y)*(pY x+pY y-Re.of k.y-Re.of k.y) from ba fun n=>by unfold wz;simp only[aI,ao,aD,aV];grind]
 rw[dE _ (by rw[bj,h2,lX]),bj,h1,lX]
theorem zL (gf:GP f):fh k x f=fh k y f∧fh k f x=fh k f y:=by
 have a1:=vY (b9 gx) (b9 gy) h (b9 gf)
 have a2:=Bm (b9 gx) (b9 gy) h k
 have a3:=de (b9 gx) (b9 gf)
 have a4:=de (b9 gy) (b9 gf)
 have a5:cx f x=cx f y:=by omega
 unfold fh
 rw[a1,a2,a5]
 exact⟨rfl,rfl⟩
theorem OC (gf:GP f) (gt:GP t):(Cv.arc k false f t).on x=(Cv.arc k false f t).on y:=by
 show((jQ k x==0)&&decide (ru k f f x≤0)&&decide (ru k f x t≤0))=((jQ k y==0)&&decide (ru k f f y≤0)&&decide (ru k f y t≤0))
 unfold ru
 rw[M3 gx gy h,(zL gx gy h gf).1,(zL gx gy h gf).2,(zL gx gy h gt).1]
end
def MC (k:Ci) (L:List Ci) (c:Cv):List Pt:=L.flatMap fun d=>(BM k d).filter c.on
def pcR (k:Ci) (L:List Ci) (c:Cv):List Cv:=mN c (MC k L c)
def rcE (k:Ci) (L:List Ci):List Cv:=(bi k).flatMap (pcR k L)
section
variable {k:Ci}{L:List Ci}(hk:RK k) (hL: ∀d∈L,RK d)
include hk hL
theorem Kv: ∀p∈MC k L c,GP p∧c.on p=true:=fun p hp=>by
 obtain⟨d,hd,h⟩:=List.mem_flatMap.1 hp
 obtain⟨h1,h2⟩:=ln.1 h
 exact⟨yE hk.k (hL d hd).k p h1,h2⟩
theorem J2: ∀p∈j9 k L c,GP p∧c.on p=true:=fun p hp=>by
 obtain⟨h1,h2⟩:=ln.1 hp
 exact⟨H5 hk hL p h1,h2⟩
theorem H4 (gf:GP f) (gt:GP t):(∀x∈j9 k L (.arc k false f t),∃y∈MC k L (.arc k false f t),cP x y=0)∧ ∀y∈MC k L (.arc k false f t),∃x∈j9 k L (.arc k false f t),cP y x=0:=by
 refine⟨fun x hx=>?_,fun y hy=>?_⟩
 ·obtain⟨h1,h2⟩:=ln.1 hx
  obtain⟨d,hd,h3⟩:=List.mem_flatMap.1 h1
  obtain⟨y,hy,e⟩:=(CV hk (hL d hd)).1 x h3
  have gx:=xU hk (hL d hd) x h3
  have gy:=yE hk.k (hL d hd).k y hy
  exact⟨y,List.mem_flatMap.2 ⟨d,hd,ln.2 ⟨hy,(OC gx gy e gf gt).symm.trans h2⟩⟩,e⟩
 ·obtain⟨d,hd,h3⟩:=List.mem_flatMap.1 hy
  obtain⟨h1,h2⟩:=ln.1 h3
  obtain⟨x,hx,e⟩:=(CV hk (hL d hd)).2 y h1
  have gx:=xU hk (hL d hd) x hx
  have gy:=yE hk.k (hL d hd).k y h1
  exact⟨x,ln.2 ⟨List.mem_flatMap.2 ⟨d,hd,hx⟩,(OC gy gx e gf gt).symm.trans h2⟩,e⟩
theorem KC:Sim k (a8 k L) (rcE k L):=by
 have h0:=hk.pos
 have gL:=qZ hk.k h0
 have gR:=q5 hk.k h0
 have sL:=kX (b9 gL)
 have sR:=kX (b9 gR)
 obtain⟨sA1,sA2⟩:=H4 hk hL gL gR
 obtain⟨sB1,sB2⟩:=H4 hk hL gR gL
 obtain⟨T,T',hA,_⟩:=QA hk.k h0 (T4 hk.k h0) (fun x hx=>by rcases hx with rfl|rfl;exact .inl sL;exact .inr sR) (J2 hk hL) (Kv hk hL) sA1 sA2
 obtain⟨T2,T2',hB,_⟩:=QA hk.k h0 (Uq hk.k h0) (fun x hx=>by rcases hx with rfl|rfl;exact .inr sL;exact .inl sR) (J2 hk hL) (Kv hk hL) sB1 sB2
 have h:=XP hk.k h0 hA hB
 have e1:a8 k L=q8 (.arc k false (fY k) (fR k)) (jS (.arc k false (fY k) (fR k)) (j9 k L (.arc k false (fY k) (fR k))))++q8 (.arc k false (fR k) (fY k)) (jS (.arc k false (fR k) (fY k)) (j9 k L (.arc k false (fR k) (fY k)))):=by
  show _++(_++[])=_
  rw[l9];rfl
 have e2:rcE k L=mN (.arc k false (fY k) (fR k)) (MC k L (.arc k false (fY k) (fR k)))++mN (.arc k false (fR k) (fY k)) (MC k L (.arc k false (fR k) (fY k))):=by
  show _++(_++[])=_
  rw[l9];rfl
 rw[e1,e2]
 exact h
end
theorem PV (hk:RK k) (hL: ∀d∈L,RK d): ∃m:Nat→Pt,∀i,i<(a8 k L).length→
 GB (m i)∧Ok Tryz.prog 43 [.a (aG ((a8 k L).getD i bL))] [.a (ai (m i))]∧Ok Tryz.prog 56 [.a (aG ((rcE k L).getD i bL))] [.a (ai (m i))]∧ ∃x,m i=t8 ((a8 k L).getD i bL).fwd x∧jm ((a8 k L).getD i bL).fwd.p x<0∧0<jm ((a8 k L).getD i bL).fwd.q x:=by
 have S:=KC hk hL
 have key: ∀i,∃m:Pt,i<(a8 k L).length→GB m∧Ok Tryz.prog 43 [.a (aG ((a8 k L).getD i bL))] [.a (ai m)]∧Ok Tryz.prog 56 [.a (aG ((rcE k L).getD i bL))] [.a (ai m)]∧ ∃x,m=t8 ((a8 k L).getD i bL).fwd x∧jm ((a8 k L).getD i bL).fwd.p x<0∧0<jm ((a8 k L).getD i bL).fwd.q x:=fun i=>by
  by_cases hi:i<(a8 k L).length
  ·obtain⟨a,b,a',b',e1,e2,⟨oa,ob⟩,⟨oa',ob'⟩,z1,z2,ne,inn⟩:=S.at_ i hi
   have ee:=Fi (a7 oa) (a7 ob) (a7 oa') (a7 ob') z1 z2
   have vP:CvV (.arc k false a b):=⟨⟨hk.k,oa.1,ob.1⟩,hk.pos,bH.2 oa.2,bH.2 ob.2,ne⟩
   have vR:CvV (.arc k false a' b'):=⟨⟨hk.k,oa'.1,ob'.1⟩,hk.pos,bH.2 oa'.2,bH.2 ob'.2,fun q=>ne (ee.trans q)⟩
   obtain⟨m,h1,h2,h3,h4⟩:=R4 vP vR z1 z2 inn
   exact⟨m,fun _=>⟨h1,e1▸h2,e2▸h3,e1▸h4⟩⟩
  ·exact⟨dPt,fun h=>absurd h hi⟩
 exact Classical.axiomOfChoice key
def FK (k:Ci) (L:List Ci) (m:Nat→Pt) (i:Nat):Bool:=qr L (m (i%(a8 k L).length))
theorem NO (h:i<(a8 k L).length):FK k L m i=qr L (m i):=by unfold FK;rw[rZ h]
theorem Ti (h:0<(a8 k L).length):Rnd (FK k L m) (a8 k L).length:=⟨h,fun x=>by unfold FK;rw[Nat.add_mod_right]⟩
theorem VK:(∀i,i<N→e i=true)∨ ∃s,s<N∧(∀i,i<s→e i=true)∧e s=false:=by
 induction N with
 |zero=>exact .inl fun i hi=>absurd hi (by omega)
 |succ n ih=>
  rcases ih with h|⟨s,h1,h2,h3⟩
  ·cases g:e n with
   |true=>exact .inl fun i hi=>(kH i n).elim (h i) fun q=>(show i=n by omega)▸g
   |false=>exact .inr ⟨n,by omega,h,g⟩
  ·exact .inr ⟨s,by omega,h2,h3⟩
theorem KS (hk:RK k) (hL: ∀d∈L,RK d) (lL:L.length≤4) (hm: ∀i,i<(a8 k L).length→GB (m i)∧Ok Tryz.prog 43 [.a (aG ((a8 k L).getD i bL))] [.a (ai (m i))]):
 ((∀i,i<(a8 k L).length→FK k L m i=true)∧Ok Tryz.prog 9 [.a (bo k),.c (.s L.length (aJ bo L))] [.c (.s 0 []),.c (.b true)])∨
 ∃s,s<(a8 k L).length∧(∀i,i<s→FK k L m i=true)∧FK k L m s=false∧
  Ok Tryz.prog 9 [.a (bo k),.c (.s L.length (aJ bo L))] [.c (.s (bc bL cW (lK (a8 k L) (FK k L m) s (a8 k L).length)).length (aJ aG (bc bL cW (lK (a8 k L) (FK k L m) s (a8 k L).length)))),.c (.b false)]:=by
 have S:=KC hk hL
 rcases VK (e:=FK k L m) (N:=(a8 k L).length) with h|⟨s,h1,h2,h3⟩
 ·exact .inl ⟨h,RA hk hk.pos hL lL hm (fun i hi=>NO hi) h⟩
 ·have hr:=Ti (k:=k) (L:=L) (m:=m) (by omega)
  have hv:=(Oe hk.k hk.pos S hr h1 h3).2.1
  exact .inr ⟨s,h1,h2,h3,Rp hk hk.pos hL lL hm (fun i hi=>NO hi) hr h1 h2 h3 fun x hx=>(hv x ((iI _).mem_iff.2 hx)).1⟩
section
variable {k:Ci}{p q p' q':Pt}(hp:0≤p.c) (hq:0≤q.c) (m:Rat)
include hp hq
theorem Py:CB k p q=aO ((pX p-Re.of k.x)*(pY q-Re.of k.y)-(pY p-Re.of k.y)*(pX q-Re.of k.x)):=by
 unfold CB
 rw[mi hp hq]
 exact congrArg aO (ba fun n=>by simp only[jo,am,pX,pY,pk,WG,VL,WP,X6,aI,ao,aD,aV];grind)
theorem Y7:Is k p q m=aO ((pX p-Re.of k.x)*(pX q-Re.of k.x)+(pY p-Re.of k.y)*(pY q-Re.of k.y)-Re.of m):=by
 unfold Is
 rw[mi hp hq]
 exact congrArg aO (ba fun n=>by simp only[jo,am,pX,pY,pk,Xn,Va,VT,X2,aI,ao,aD,aV];grind)
variable (hp':0≤p'.c) (hq':0≤q'.c) (h:cP p p'=0) (g:cP q q'=0)
include hp' hq' h g
end
def wg (x:Rat) (c:Cv):Bool:=RE c x !=0||decide (SQ c x>0)
def CG (al:Bool) (x:Rat) (G:List Cv):Bool:= !(al|| !mQ x)&&G.all fun c=> !wg x c
theorem Ui (hn:n<G.length) (h:wg x (G.getD n bL)=true):CG al x G=false:=by
 unfold CG
 rw[show(G.all fun c=> !wg x c)=false from ?_,lU]
 rw[List.all_eq_false]
 exact⟨_,bJ hn,by rw[h];decide⟩
theorem YC (hc:mQ x=true) (h: ∀i,i<G.length→wg x (G.getD i bL)=false):CG false x G=true:=by
 unfold CG
 rw[hc,show(G.all fun c=> !wg x c)=true from ?_]
 ·rfl
 rw[mu]
 intro c hc
 obtain⟨i,hi,e⟩:=List.getElem_of_mem hc
 have:=h i hi
 rw[List.getD_eq_getElem?_getD,ip hi,e] at this
 rw[show wg x c=false from this];rfl
theorem PZ (h:(al|| !mQ x)=true):CG al x G=false:=by unfold CG;rw[h];rfl
theorem za (h:qC k p=0):jQ k p= -aw (Ac k p) 0:=by
 unfold jQ
 rw[h,aav (by decide+kernel)]
theorem Ql {r:Rat}(hr:0<r):rt (r*r)=r:=by
 have h1:=ze (cY hr hr) (xE r)
 have h2:=zh (r*r)
 have h3:(rt (r*r)-r)*(rt (r*r)+r)=0:=by grind
 rcases qE.1 h3 with h|h<;>grind
theorem Fo {s t:Rat}(ht:0<t):aw (s*t) 0=aw s 0:=by
 unfold aw
 by_cases h:s<0
 ·have:=cY (show 0< -s by grind) ht
  rw[if_pos h,if_pos (by grind)]
 ·by_cases g:0<s
  ·have:=cY g ht
   rw[if_neg h,if_pos g,if_neg (by grind),if_pos this]
  ·rw[show s=0 from by grind,Rat.zero_mul]
theorem rdX {s c v:Rat}:jm (dU x 0 y s c) v=aw x v:=by
 unfold dU
 split
 ·show bd (x+0*rt c-v) 0 _=_
  rw[gD,show x+0*rt c-v=x-v from by grind,f9]
 ·show bd (x-v) 0 _=_
  rw[gD,f9]
theorem rdY {s c:Rat}(h0:0<c):qf (dU x 0 y s c) y=aw s 0:=by
 unfold dU
 split
 ·rename_i hq
  have h1:=EU h0 hq
  show bd (y+s*rt c-y) 0 _=_
  rw[gD,show y+s*rt c-y=s*rt c from by grind,Fo h1]
 ·show bd (y-y) s (zc s c)=_
  rw[show y-y=0 from by grind]
  by_cases hs:s=0
  ·rw[hs,gD]
  ·rw[nF hs,DZ h0]
structure One (k D:Ci) (d r R:Rat):Prop where
 kx:k.x=d
 ky:k.y=0
 kq:k.q=r*r
 dx:D.x=0
 dy:D.y=0
 dq:D.q=R*R
 d0:0<d
 r0:0<r
 R0:0<R
 hk:RK k
 hD:RK D
section
variable {k D:Ci}{d r R:Rat}(o:One k D d r R)
include o
theorem One.q0:0<k.q:=o.kq▸cY o.r0 o.r0
theorem One.eL:fY k=rP (d-r) 0:=by
 unfold fY dU
 rw[o.kq,o.kx,o.ky,if_pos (xE r),Ql o.r0]
 show(⟨_,0,_,0,0⟩:Pt)=⟨_,0,_,0,0⟩
 congr 1<;>grind
theorem One.eR:fR k=rP (d+r) 0:=by
 unfold fR dU
 rw[o.kq,o.kx,o.ky,if_pos (xE r),Ql o.r0]
 show(⟨_,0,_,0,0⟩:Pt)=⟨_,0,_,0,0⟩
 congr 1<;>grind
theorem One.out {m:Pt}(hm:m=t8 (.arc k w f t) x) (h1:d-r<x) (h2:x<d+r):qr [D] m=decide (d*d-r*r+R*R<2*d*x):=by
 have e:jZ k x=r*r-(x-d)*(x-d):=by unfold jZ;rw[o.kq,o.kx]
 have hc:0<jZ k x:=by
  rw[e,show r*r-(x-d)*(x-d)=(x-(d-r))*(d+r-x) from by grind]
  exact cY (by grind) (by grind)
 have hs:sW w*sW w=1:=by cases w<;>decide+kernel
 have key:jQ D (dU x 0 k.y (sW w) (jZ k x))= -aw (2*d*x-(d*d-r*r+R*R)) 0:=by
  generalize jZ k x=c at*
  generalize sW w=s at*
  unfold dU
  split
  ·rename_i hq
   have h:=ze hc hq
   rw[za (by unfold qC Cc;rw[o.dx,o.dy];grind),show Ac D ⟨x+0*rt c,0,k.y+s*rt c,0,0⟩=2*d*x-(d*d-r*r+R*R) from by unfold Ac zf;rw[o.dx,o.dy,o.dq,o.ky];grind]
  ·rw[za (by unfold qC Cc;rw[o.dx,o.dy,o.ky];grind),show Ac D ⟨x,0,k.y,s,c⟩=2*d*x-(d*d-r*r+R*R) from by unfold Ac zf;rw[o.dx,o.dy,o.dq,o.ky];grind]
 subst hm
 show(decide (jQ D (dU x 0 k.y (sW w) (jZ k x))<0)&&true)=_
 rw[key,wM,f9]
 refine decide_eq_decide.2 ⟨fun h=>nH.1 (by omega),fun h=>?_⟩
 have:=nH.2 h
 omega
theorem One.rad:lv k D=⟨-(2*d),0,r*r-d*d-R*R⟩:=by
 unfold lv CF
 rw[o.dx,o.dy,o.dq,o.kx,o.ky,o.kq]
 congr 1<;>grind
theorem One.cuts:ij k D=xe ⟨-(2*d),0,r*r-d*d-R*R⟩ k:=by
 have h1:wi k D=false:=by
  unfold wi yV
  rw[o.kx,o.dx,show(aw d 0==0)=false from by rw[iY o.d0];rfl,lr]
 have h2:iQ k D=false:=by
  unfold iQ yV
  rw[o.kx,o.dx,show(aw d 0==0)=false from by rw[iY o.d0];rfl,lr,lr]
 rw[(EJ h2 h1).1,o.rad]
def xO (d r R:Rat):Rat:=(d*d-r*r+R*R)/(2*d)
omit o in
theorem Di (hd:0<d):xO d r R*(2*d)=d*d-r*r+R*R:=by unfold xO;exact no (by grind)
theorem One.foot:l7 ⟨-(2*d),0,r*r-d*d-R*R⟩ k=xO d r R∧ms ⟨-(2*d),0,r*r-d*d-R*R⟩ k=0:=by
 have h0:=o.d0
 have hx:=Di (d:=d) (r:=r) (R:=R) o.d0
 have hn:fM ⟨-(2*d),0,r*r-d*d-R*R⟩=4*(d*d):=by unfold fM;grind
 have hv:tj ⟨-(2*d),0,r*r-d*d-R*R⟩ k.x k.y=R*R-d*d-r*r:=by unfold tj;rw[o.kx,o.ky];grind
 have hq:(R*R-d*d-r*r)/(4*(d*d))*(4*(d*d))=R*R-d*d-r*r:=no (by have:=cY h0 h0;grind)
 unfold l7 ms
 rw[hn,hv,o.kx,o.ky]
 generalize (R*R-d*d-r*r)/(4*(d*d))=q at*
 refine⟨?_,by grind⟩
 have e:(d-q* -(2*d)-xO d r R)*(2*d)=0:=by grind
 rcases qE.1 e with e|e<;>grind
theorem One.kp:lJ ⟨-(2*d),0,r*r-d*d-R*R⟩ k*(4*(d*d)*(4*(d*d)))=4*(d*d)*(r*r)-(R*R-d*d-r*r)*(R*R-d*d-r*r):=by
 have h0:=cY o.d0 o.d0
 have h9:=cY (show 0<4*(d*d) by grind) (show 0<4*(d*d) by grind)
 have hn:fM ⟨-(2*d),0,r*r-d*d-R*R⟩=4*(d*d):=by unfold fM;grind
 have hv:tj ⟨-(2*d),0,r*r-d*d-R*R⟩ k.x k.y=R*R-d*d-r*r:=by unfold tj;rw[o.kx,o.ky];grind
 unfold lJ qi
 rw[hn,hv,o.kq]
 exact no (by grind)
theorem One.uw:Oz ⟨-(2*d),0,r*r-d*d-R*R⟩=false:=by
 have h0:=o.d0
 unfold Oz
 rw[show(- -(2*d):Rat)=2*d from by grind,iY (show 0<2*d by grind)]
 show(decide (aw (0:Rat) 0<0)||(aw (0:Rat) 0==0&&decide ((1:Int)<0)))=false
 decide+kernel
theorem One.two (h:0<lJ ⟨-(2*d),0,r*r-d*d-R*R⟩ k):ij k D=[dU (xO d r R) 0 0 (-(2*d)) (lJ ⟨-(2*d),0,r*r-d*d-R*R⟩ k),dU (xO d r R) 0 0 (2*d) (lJ ⟨-(2*d),0,r*r-d*d-R*R⟩ k)]:=by
 have hu:=o.uw
 obtain⟨f1,f2⟩:=o.foot
 rw[o.cuts,Ck (by rw[iY h];decide) (by rw[iY h];decide)]
 unfold D2 Dn MH ME
 rw[hu,f1,f2]
 simp only[Bool.false_eq_true,if_false]
 rw[show(-(0:Rat))=0 from by decide+kernel,show(- -(2*d):Rat)=2*d from by grind]
theorem One.none (h: ¬0<lJ ⟨-(2*d),0,r*r-d*d-R*R⟩ k): ∀p∈ij k D,cP p (fY k)=0∨cP p (fR k)=0:=fun p hp=>by
 obtain⟨f1,f2⟩:=o.foot
 rw[o.cuts] at hp
 by_cases g:aw (lJ ⟨-(2*d),0,r*r-d*d-R*R⟩ k) 0= -1
 ·rw[PM g] at hp;cases hp
 ·have z:lJ ⟨-(2*d),0,r*r-d*d-R*R⟩ k=0:=by
   unfold aw at g
   grind
  rw[Na g (by rw[z];decide+kernel),f1,f2] at hp
  rw[kj.1 hp,o.eL,o.eR]
  have e:=o.kp
  rw[z] at e
  have e2:(2*d*r-(R*R-d*d-r*r))*(2*d*r+(R*R-d*d-r*r))=0:=by grind
  have hx:=Di (d:=d) (r:=r) (R:=R) o.d0
  have h0:=o.d0
  have self: ∀a:Rat,cP (rP a 0) (rP a 0)=0:=fun a=>by
   have: ∀p:Pt,0≤p.c→cP p p=0:=fun p hp=>d8.2 ⟨yh hp,by rw[rb hp hp,pe]⟩
   exact this _ kO
  rcases qE.1 e2 with e3|e3
  ·right
   have:(xO d r R-(d+r))*(2*d)=0:=by grind
   rcases qE.1 this with q|q
   ·rw[show xO d r R=d+r from by grind];exact self _
   ·grind
  ·left
   have:(xO d r R-(d-r))*(2*d)=0:=by grind
   rcases qE.1 this with q|q
   ·rw[show xO d r R=d-r from by grind];exact self _
   ·grind
omit o in
theorem Hi (hc:c∈bi k) (h: ∀p∈ij k D,cP p (fY k)=0∨cP p (fR k)=0):jx k [D] c=[c]:=by
 have h1:jS c (j9 k [D] c)=[]:=by
  unfold jS
  rw[List.filter_eq_nil_iff]
  intro p hp
  have hp2:=(iI (e:=dPt) (C:=br c) (j9 k [D] c)).mem_iff.1 (B9 (tS (fk _).symm) hp)
  have hp3:p∈ij k D:=by
   have:=(ln.1 hp2).1
   unfold aR at this
   simpa using this
  rcases dM.1 hc with e|e
  ·subst e
   unfold gP
   rcases h p hp3 with q|q
   ·rw[show cP p (Cv.arc k false (fY k) (fR k)).p=0 from q];simp
   ·rw[show cP p (Cv.arc k false (fY k) (fR k)).q=0 from q];simp
  ·rw[kj.1 e]
   unfold gP
   rcases h p hp3 with q|q
   ·rw[show cP p (Cv.arc k false (fR k) (fY k)).q=0 from q];simp
   ·rw[show cP p (Cv.arc k false (fR k) (fY k)).p=0 from q];simp
 unfold jx
 rw[h1]
 cases c<;>rfl
omit o in
theorem aai (h: ∀p∈ij k D,cP p (fY k)=0∨cP p (fR k)=0):a8 k [D]=bi k:=by
 unfold a8
 show jx k [D] (.arc k false (fY k) (fR k))++(jx k [D] (.arc k false (fR k) (fY k))++[])=_
 rw[Hi gT h,Hi (gN _ gT) h]
 rfl
end
section
variable {k D:Ci}{d r R:Rat}(o:One k D d r R) {u v:Pt}(ou:OnK k u) (ov:OnK k v) (ku:kd k u=3) (kv:kd k v=1) (hm:ij k D=[u,v])
include o ou ov ku kv
theorem One.cxs:(cx u (fY k)=1∧cx u (fR k)= -1∧cx v (fY k)=1∧cx v (fR k)= -1)∧(cx (fY k) u= -1∧cx (fR k) u=1∧cx (fY k) v= -1∧cx (fR k) v=1)∧cx (fR k) (fY k)=1∧cx (fY k) (fR k)= -1:=by
 have hk:=o.hk.k
 have h0:=o.q0
 have a1:=pT hk h0 ou
 have a2:=nU hk h0 ou
 have a3:=pT hk h0 ov
 have a4:=nU hk h0 ov
 have a5:=nU hk h0 (nO hk h0)
 rw[ku] at a1 a2
 rw[kv] at a3 a4
 rw[sO h0] at a5
 have cl:=a7 (nO hk h0)
 have cr:=a7 (nL hk h0)
 have b1:=de cl (a7 ou)
 have b2:=de cr (a7 ou)
 have b3:=de cl (a7 ov)
 have b4:=de cr (a7 ov)
 have b5:=de cr cl
 simp at a1 a2 a3 a4 a5
 omega
theorem One.ons:(Cv.arc k false (fY k) (fR k)).on u=true∧(Cv.arc k false (fY k) (fR k)).on v=false∧(Cv.arc k false (fR k) (fY k)).on v=true∧(Cv.arc k false (fR k) (fY k)).on u=false:=by
 have hk:=o.hk.k
 have h0:=o.q0
 obtain⟨⟨a1,a2,a3,a4⟩,_,a5,a6⟩:=o.cxs ou ov ku kv
 have gl:=(nO hk h0).1
 have gr:=(nL hk h0).1
 have go: ∀ {f t x:Pt},GP f→GP t→OnK k x→(Cv.arc k false f t).on x=decide (xn k f x t≤0):=fun hf ht hx=>(yp (bH.2 hx.2)).trans (zi hf ht hx.1)
 rw[go gl gr ou,go gl gr ov,go gr gl ov,go gr gl ou,oN,oN,oN,oN,sO h0,sE h0,ku,kv,a1,a2,a3,a4,a5,a6]
 decide+kernel
include hm
theorem One.pcs4:a8 k [D]=[.arc k false (fY k) u,.arc k false u (fR k),.arc k false (fR k) v,.arc k false v (fY k)]:=by
 have hk:=o.hk.k
 have h0:=o.q0
 obtain⟨o1,o2,o3,o4⟩:=o.ons ou ov ku kv
 have hc:aR k [D]=[u,v]:=by unfold aR;rw[List.flatMap_cons,List.flatMap_nil,l9,hm]
 have one: ∀ {c:Cv}{p:Pt},j9 k [D] c=[p]→gP c p=true→jx k [D] c=q8 c [p]:=fun{c p} e g=>by
  unfold jx jS
  rw[e,List.perm_singleton.1 (iI (e:=dPt) (C:=br c) [p])]
  show q8 c (List.filter (gP c) [p])=_
  rw[List.filter_cons_of_pos g];rfl
 have nl: ∀ {p:Pt},OnK k p→kd k p=3∨kd k p=1→(cP p (fY k)==0)=false∧(cP p (fR k)==0)=false:=fun{p} hp g=>
  ⟨beq_eq_false_iff_ne.2 fun q=>by have:=KM hk h0 hp q;rw[this] at g;exact absurd g (by decide),beq_eq_false_iff_ne.2 fun q=>by have:=JP hk h0 hp q;rw[this] at g;exact absurd g (by decide)⟩
 obtain⟨n1,n2⟩:=nl ou (.inl ku)
 obtain⟨n3,n4⟩:=nl ov (.inr kv)
 unfold a8
 show jx k [D] (.arc k false (fY k) (fR k))++(jx k [D] (.arc k false (fR k) (fY k))++[])=_
 rw[one (c:=.arc k false (fY k) (fR k)) (p:=u) (by unfold j9;rw[hc,List.filter_cons_of_pos o1,List.filter_cons_of_neg (by rw[o2];decide)];rfl) (by show(!(cP u (fY k)==0)&& !(cP u (fR k)==0))=true;rw[n1,n2];rfl),
  one (c:=.arc k false (fR k) (fY k)) (p:=v) (by unfold j9;rw[hc,List.filter_cons_of_neg (by rw[o4];decide),List.filter_cons_of_pos o3];rfl) (by show(!(cP v (fR k)==0)&& !(cP v (fY k)==0))=true;rw[n3,n4];rfl)]
 rfl
end
theorem U3 (h:cx a b= -1):(Cv.arc k false a b).fwd=.arc k false a b:=HU (show decide (cP a b>0)=false by rw[L3 (by omega),h];decide)
theorem Wa (h:cx a b=1):(Cv.arc k false a b).fwd=.arc k true b a:=HE (show decide (cP a b>0)=true by rw[L3 (by omega),h];decide)
section
variable {k D:Ci}{d r R:Rat}(o:One k D d r R)
include o
theorem One.piece {m:Pt}{a b:Rat}(hf:c.fwd=.arc k w p q) (xp: ∀x,jm p x=aw a x) (xq: ∀x,jm q x=aw b x) (ha:d-r≤a) (hb:b≤d+r)
 (hm: ∃x,m=t8 c.fwd x∧jm c.fwd.p x<0∧0<jm c.fwd.q x):(b*(2*d)≤d*d-r*r+R*R→qr [D] m=false)∧(d*d-r*r+R*R≤a*(2*d)→qr [D] m=true):=by
 obtain⟨x,h1,h2,h3⟩:=hm
 rw[hf] at h1 h2 h3
 have g2:a<x:=uL.1 (xp x▸h2)
 have g3:x<b:=nH.1 (xq x▸h3)
 have h0:=o.d0
 rw[o.out h1 (by grind) (by grind)]
 have e1:=cY (show 0<x-a by grind) (show 0<2*d by grind)
 have e2:=cY (show 0<b-x by grind) (show 0<2*d by grind)
 exact⟨fun h=>decide_eq_false (by grind),fun h=>decide_eq_true (by grind)⟩
theorem One.xL (x:Rat):jm (fY k) x=aw (d-r) x:=by
 rw[o.eL]
 show bd (d-r-x) 0 _=_
 rw[gD,f9]
theorem One.xR (x:Rat):jm (fR k) x=aw (d+r) x:=by
 rw[o.eR]
 show bd (d+r-x) 0 _=_
 rw[gD,f9]
theorem One.halves (h:a8 k [D]=bi k) (hm: ∀i,i<(a8 k [D]).length→ ∃x,m i=t8 ((a8 k [D]).getD i bL).fwd x∧jm ((a8 k [D]).getD i bL).fwd.p x<0∧0<jm ((a8 k [D]).getD i bL).fwd.q x):
 ((d+r)*(2*d)≤d*d-r*r+R*R→FK k [D] m=fun _=>false)∧(d*d-r*r+R*R≤(d-r)*(2*d)→FK k [D] m=fun _=>true):=by
 have hk:=o.hk.k
 have h0:=o.q0
 have n1:cx (fY k) (fR k)= -1:=by rw[pT hk h0 (nL hk h0),sE h0];decide
 have n2:cx (fR k) (fY k)=1:=by rw[nU hk h0 (nO hk h0),sO h0];decide
 have f1:=U3 (k:=k) n1
 have f2:=Wa (k:=k) n2
 rw[h] at hm
 have q: ∀i,i<2→((d+r)*(2*d)≤d*d-r*r+R*R→qr [D] (m i)=false)∧(d*d-r*r+R*R≤(d-r)*(2*d)→qr [D] (m i)=true):=fun i hi=>by
  have:=hm i hi
  match i,hi with
  |0,_=>exact o.piece f1 o.xL o.xR kO kO this
  |1,_=>exact o.piece f2 o.xL o.xR kO kO this
 have e: ∀i,FK k [D] m i=qr [D] (m (i%2)):=fun i=>by unfold FK;rw[h];rfl
 exact⟨fun g=>funext fun i=>(e i).trans ((q _ (Nat.mod_lt _ (by decide))).1 g),fun g=>funext fun i=>(e i).trans ((q _ (Nat.mod_lt _ (by decide))).2 g)⟩
theorem One.cross (hp:0<lJ ⟨-(2*d),0,r*r-d*d-R*R⟩ k): ∃u v:Pt,ij k D=[u,v]∧OnK k u∧OnK k v∧kd k u=3∧kd k v=1∧(∀x,jm u x=aw (xO d r R) x)∧(∀x,jm v x=aw (xO d r R) x)∧d-r≤xO d r R∧xO d r R≤d+r:=by
 have hx:=Di (d:=d) (r:=r) (R:=R) o.d0
 have e:=o.kp
 have h0:=o.d0
 have hr:=o.r0
 have hR:=o.R0
 have h2:=o.two hp
 generalize hK:lJ ⟨-(2*d),0,r*r-d*d-R*R⟩ k=K at*
 generalize hX:xO d r R=X at*
 have dd:=cY h0 h0
 have key:(X-d)*(X-d)+4*(d*d)*K-r*r=0:=by
  have:((X-d)*(X-d)+4*(d*d)*K-r*r)*(4*(d*d))=0:=by grind
  rcases qE.1 this with q|q
  ·exact q
  ·grind
 have ins: ∀s:Rat,s*s=4*(d*d)→jQ k (dU X 0 0 s K)=0:=fun s hs=>by
  unfold dU
  split
  ·rename_i hq
   have h:=ze hp hq
   rw[za (by unfold qC Cc;rw[o.kx,o.ky];grind),show Ac k ⟨X+0*rt K,0,0+s*rt K,0,0⟩=0 from by unfold Ac zf;rw[o.kx,o.ky,o.kq];grind]
   decide+kernel
  ·rw[za (by unfold qC Cc;rw[o.kx,o.ky];grind),show Ac k ⟨X,0,0,s,K⟩=0 from by unfold Ac zf;rw[o.kx,o.ky,o.kq];grind]
   decide+kernel
 have gp:=xU o.hk o.hD
 rw[h2] at gp
 have ky: ∀s:Rat,qf (dU X 0 0 s K) k.y=aw s 0:=fun s=>by rw[o.ky];exact rdY hp
 have dk:=cY dd hp
 have sm:(X-d)*(X-d)<r*r:=by grind
 refine⟨_,_,h2,⟨gp _ gT,ins _ (by grind)⟩,⟨gp _ (gN _ gT),ins _ (by grind)⟩,?_,?_,fun x=>rdX,fun x=>rdX,?_,?_⟩
 ·have c:aw (-(2*d)) 0= -1:=by unfold aw;rw[if_pos (by grind)]
  unfold kd
  rw[ky,c];rfl
 ·unfold kd
  rw[ky,iY (show 0<2*d by grind)];rfl
 ·refine tO.1 fun q=>?_
  have:=cY (show 0<d-X-r by grind) (show 0<d-X+r by grind)
  grind
 ·refine tO.1 fun q=>?_
  have:=cY (show 0<X-d-r by grind) (show 0<X-d+r by grind)
  grind
theorem One.four (ou:OnK k u) (ov:OnK k v) (ku:kd k u=3) (kv:kd k v=1) (hc:ij k D=[u,v]) (xu: ∀x,jm u x=aw (xO d r R) x) (xv: ∀x,jm v x=aw (xO d r R) x) (h1:d-r≤xO d r R) (h2:xO d r R≤d+r)
 {m:Nat→Pt}(hm: ∀i,i<(a8 k [D]).length→ ∃x,m i=t8 ((a8 k [D]).getD i bL).fwd x∧jm ((a8 k [D]).getD i bL).fwd.p x<0∧0<jm ((a8 k [D]).getD i bL).fwd.q x):
 FK k [D] m=fun i=>i%4==1||i%4==2:=by
 obtain⟨⟨_,a2,_,a4⟩,⟨b1,b2,b3,b4⟩,_⟩:=o.cxs ou ov ku kv
 obtain⟨⟨a1,_,a3,_⟩,_⟩:=o.cxs ou ov ku kv
 have hx:=Di (d:=d) (r:=r) (R:=R) o.d0
 have hP:=o.pcs4 ou ov ku kv hc
 have f0:=U3 (k:=k) b1
 have f1:=U3 (k:=k) a2
 have f2:=Wa (k:=k) b4
 have f3:=Wa (k:=k) a3
 rw[hP] at hm
 have q: ∀i,i<4→qr [D] (m i)=(i==1||i==2):=fun i hi=>by
  have:=hm i hi
  match i,hi with
  |0,_=>exact(o.piece f0 o.xL xu kO h2 this).1 (by grind)
  |1,_=>exact(o.piece f1 xu o.xR h1 kO this).2 (by grind)
  |2,_=>exact(o.piece f2 xv o.xR h1 kO this).2 (by grind)
  |3,_=>exact(o.piece f3 o.xL xv kO h2 this).1 (by grind)
 funext i
 unfold FK
 rw[hP]
 exact q (i%4) (Nat.mod_lt _ (by decide))
theorem One.hL: ∀x∈ [D],RK x:=fun x hx=>by rw[kj.1 hx];exact o.hD
omit o in
theorem acF {a b e:Cv}:bc bL cW (lK [a,b,c,e] (fun i=>i%4==1||i%4==2) 0 [a,b,c,e].length)=[b.ends b.p c.q]:=by kernel_rfl
theorem One.prog:
 ((d+r)*(2*d)≤d*d-r*r+R*R∧Ok Tryz.prog 9 [.a (bo k),.c (.s 1 (aJ bo [D]))] [.c (.s 0 []),.c (.b false)])∨
 (d*d-r*r+R*R≤(d-r)*(2*d)∧Ok Tryz.prog 9 [.a (bo k),.c (.s 1 (aJ bo [D]))] [.c (.s 0 []),.c (.b true)])∨
 ∃u v:Pt,ij k D=[dU (xO d r R) 0 0 (-(2*d)) (lJ ⟨-(2*d),0,r*r-d*d-R*R⟩ k),dU (xO d r R) 0 0 (2*d) (lJ ⟨-(2*d),0,r*r-d*d-R*R⟩ k)]∧ij k D=[u,v]∧0<lJ ⟨-(2*d),0,r*r-d*d-R*R⟩ k∧OnK k u∧OnK k v∧kd k u=3∧kd k v=1∧
  Ok Tryz.prog 9 [.a (bo k),.c (.s 1 (aJ bo [D]))] [.c (.s [Cv.arc k false u v].length (aJ aG [Cv.arc k false u v])),.c (.b false)]:=by
 obtain⟨m,hm⟩:=PV o.hk o.hL
 have hp:=KS o.hk o.hL (show 1≤4 by decide) (fun i hi=>⟨(hm i hi).1,(hm i hi).2.1⟩)
 by_cases h:0<lJ ⟨-(2*d),0,r*r-d*d-R*R⟩ k
 ·right;right
  obtain⟨u,v,c1,c2,c3,c4,c5,c6,c7,c8,c9⟩:=o.cross h
  refine⟨u,v,o.two h,c1,h,c2,c3,c4,c5,?_⟩
  have e:=o.four c2 c3 c4 c5 c1 c6 c7 c8 c9 (m:=m) fun i hi=>(hm i hi).2.2.2
  have hP:=o.pcs4 c2 c3 c4 c5 c1
  rw[e,hP] at hp
  rcases hp with⟨g,_⟩|⟨s,_,g2,_,g⟩
  ·exact absurd (g 0 (by simp)) (by decide)
  ·have h0:s=0:=(jd s).elim id fun q=>absurd (g2 0 q) (by decide)
   subst h0
   rw[acF] at g
   exact g
 ·have hP:=aai (o.none h)
  have q:=o.halves hP (m:=m) fun i hi=>(hm i hi).2.2.2
  have e:=o.kp
  have d1:=o.d0
  have r1:=o.r0
  have R1:=o.R0
  have key:4*(d*d)*(r*r)-(R*R-d*d-r*r)*(R*R-d*d-r*r)≤0:=by
   have:=cY (show 0<4*(d*d) by have:=cY d1 d1;grind) (show 0<4*(d*d) by have:=cY d1 d1;grind)
   refine tO.1 fun g=>h ?_
   refine Rat.not_le.1 fun z=>?_
   have:=f7 (show 0≤ -lJ ⟨-(2*d),0,r*r-d*d-R*R⟩ k by grind) (n7 this)
   grind
  have dr:=cY d1 r1
  by_cases g:(d+r)*(2*d)≤d*d-r*r+R*R
  ·left
   refine⟨g,?_⟩
   rw[q.1 g,hP] at hp
   rcases hp with⟨g,_⟩|⟨s,_,g2,_,g⟩
   ·exact absurd (g 0 (show 0<2 by decide)) (by decide)
   ·have h0:s=0:=(jd s).elim id fun q=>absurd (g2 0 q) (by decide)
    subst h0
    exact g
  ·right;left
   have g3:d*d-r*r+R*R≤(d-r)*(2*d):=by
    refine tO.1 fun z=>?_
    have:=cY (show 0<2*(d*r)+(R*R-d*d-r*r) by grind) (show 0<2*(d*r)-(R*R-d*d-r*r) by grind)
    grind
   refine⟨g3,?_⟩
   rw[q.2 g3,hP] at hp
   rcases hp with⟨_,g⟩|⟨s,_,_,g2,_⟩
   ·exact g
   ·exact absurd (show true=false from g2) (by decide)
end
section
variable {k D:Ci}{d r R:Rat}(o:One k D d r R) (hp:0<lJ ⟨-(2*d),0,r*r-d*d-R*R⟩ k)
include o hp
omit hp in
theorem One.key:(xO d r R-d)*(xO d r R-d)+4*(d*d)*lJ ⟨-(2*d),0,r*r-d*d-R*R⟩ k=r*r:=by
 have hx:=Di (d:=d) (r:=r) (R:=R) o.d0
 have e:=o.kp
 have dd:=cY o.d0 o.d0
 generalize lJ ⟨-(2*d),0,r*r-d*d-R*R⟩ k=K at*
 generalize xO d r R=X at*
 have:((X-d)*(X-d)+4*(d*d)*K-r*r)*(4*(d*d))=0:=by grind
 rcases qE.1 this with q|q<;>grind
theorem One.re (hu:u=dU (xO d r R) 0 0 (-(2*d)) (lJ ⟨-(2*d),0,r*r-d*d-R*R⟩ k)) (hv:v=dU (xO d r R) 0 0 (2*d) (lJ ⟨-(2*d),0,r*r-d*d-R*R⟩ k)):
 ∃Y:Re,aO Y=1∧aO (Y*Y-Re.of (4*(d*d)*lJ ⟨-(2*d),0,r*r-d*d-R*R⟩ k))=0∧aO (pX u-Re.of (xO d r R))=0∧aO (pX v-Re.of (xO d r R))=0∧aO (pY u- -Y)=0∧aO (pY v-Y)=0:=by
 obtain⟨a1,a2⟩:=Ay (a1:=xO d r R) (b1:=0) (a2:=0) (b2:= -(2*d)) hp
 obtain⟨b1,b2⟩:=Ay (a1:=xO d r R) (b1:=0) (a2:=0) (b2:=2*d) hp
 rw[←hu] at a1 a2
 rw[←hv] at b1 b2
 have hs:=my (n7 hp)
 have d0:=o.d0
 generalize lJ ⟨-(2*d),0,r*r-d*d-R*R⟩ k=K at*
 refine⟨Re.of (2*d)*Re.rt K,?_,?_,?_,?_,?_,?_⟩
 ·rw[bj,ca,iY (show 0<2*d by grind)]
  have h1:aO (Re.rt K*Re.rt K)=1:=by
   rw[iX (y:=Re.of K) (z:=Re.rt K*Re.rt K-Re.of K) rfl hs,ca,iY hp]
  rw[bj] at h1
  have h2:=uk K
  have h3:=bp (Re.rt K)
  rcases h3 with h|h|h<;>rw[h] at h1 h2⊢ <;>first|rfl|(exfalso;revert h1;decide)|(exfalso;revert h2;decide)
 ·rw[iX (y:=Re.of (4*(d*d))*(Re.rt K*Re.rt K-Re.of K)) (z:=Re.of 0) (ba fun n=>by simp only[ao,aD,aV];grind) (by rw[ca];decide+kernel)]
  exact tR _ hs
 ·rw[iX (y:=pX u-(Re.of (xO d r R)+Re.of 0*Re.rt K)) (z:=Re.of 0) (ba fun n=>by simp only[ao,aD,aI,aV];grind) (by rw[ca];decide+kernel)]
  exact a1
 ·rw[iX (y:=pX v-(Re.of (xO d r R)+Re.of 0*Re.rt K)) (z:=Re.of 0) (ba fun n=>by simp only[ao,aD,aI,aV];grind) (by rw[ca];decide+kernel)]
  exact b1
 ·rw[iX (y:=pY u-(Re.of 0+Re.of (-(2*d))*Re.rt K)) (z:=Re.of 0) (ba fun n=>by simp only[ao,aD,aI,bg,aV];grind) (by rw[ca];decide+kernel)]
  exact a2
 ·rw[iX (y:=pY v-(Re.of 0+Re.of (2*d)*Re.rt K)) (z:=Re.of 0) (ba fun n=>by simp only[ao,aD,aI,aV];grind) (by rw[ca];decide+kernel)]
  exact b2
variable {u v:Pt}(hu:u=dU (xO d r R) 0 0 (-(2*d)) (lJ ⟨-(2*d),0,r*r-d*d-R*R⟩ k)) (hv:v=dU (xO d r R) 0 0 (2*d) (lJ ⟨-(2*d),0,r*r-d*d-R*R⟩ k)) (cu:0≤u.c) (cv:0≤v.c)
include hu hv cu cv
theorem One.sgs (m:Rat):CB k u v=aw (xO d r R-d) 0∧Is k u v m=aw ((xO d r R-d)*(xO d r R-d)-4*(d*d)*lJ ⟨-(2*d),0,r*r-d*d-R*R⟩ k) m∧
 CB k u (rP (d+r) 0)=1∧CB k (rP (d+r) 0) v=1:=by
 obtain⟨Y,y1,y2,x1,x2,x3,x4⟩:=o.re hp hu hv
 have c0:0≤(rP (d+r) 0).c:=kO
 have hr:=o.r0
 rw[Py cu cv,Y7 cu cv,Py cu c0,Py c0 cv,o.kx,o.ky,K8,Ua]
 generalize hK:lJ ⟨-(2*d),0,r*r-d*d-R*R⟩ k=K at*
 generalize xO d r R=X at*
 generalize pX u=P at*
 generalize pX v=P' at*
 generalize pY u=Q at*
 generalize pY v=Q' at*
 refine⟨?_,?_,?_,?_⟩
 ·rw[iX (y:=Re.of (2*(X-d))*Y) (z:=(P-Re.of X)*Q'+(P'-Re.of X)* -Q+Re.of (X-d)*(Q'-Y)-Re.of (X-d)*(Q- -Y)) (ba fun n=>by simp only[ao,aD,aI,bg,aV];grind) (Ka (Bq (Bq (bj _ _▸by rw[x1,lX]) (bj _ _▸by rw[x2,lX])) (tR _ x4)) (tR _ x3)),bj,y1,ri,ca]
  unfold aw
  grind
 ·rw[iX (y:=Re.of ((X-d)*(X-d)-4*(d*d)*K-m)) (z:=(P-Re.of X)*(P'-Re.of d)+Re.of (X-d)*(P'-Re.of X)+(Q- -Y)*Q'-Y*(Q'-Y)-(Y*Y-Re.of (4*(d*d)*K))) (ba fun n=>by simp only[ao,aD,aI,bg,aV];grind) (Ka (Ka (Bq (Bq (bj _ _▸by rw[x1,lX]) (tR _ x2)) (bj _ _▸by rw[x3,lX])) (tR _ x4)) y2),ca,f9]
 ·rw[iX (y:=Re.of r*Y) (z:= -(Re.of r*(Q- -Y))) (ba fun n=>by simp only[ao,aD,bg,aV];grind) (Ab (tR _ x3)),bj,y1,ri,ca,iY hr]
 ·rw[iX (y:=Re.of r*Y) (z:=Re.of r*(Q'-Y)) (ba fun n=>by simp only[ao,aD,aV];grind) (tR _ x4),bj,y1,ri,ca,iY hr]
theorem One.half (hc:mQ x=true):CG false x [Cv.arc k false u v]=Gx (CA R r d) x:=by
 obtain⟨s1,s2,_⟩:=o.sgs hp hu hv cu cv (x*k.q)
 have hk:=o.key
 have hx:=Di (d:=d) (r:=r) (R:=R) o.d0
 have d0:=o.d0
 have r0:=o.r0
 have rr:=cY r0 r0
 have hh:CA R r d*(((2:Int):Rat)*(d*r))=R*R-d*d-r*r:=by
  have:=cY d0 r0
  unfold CA
  exact no (by rw[show((2:Int):Rat)=2 from rfl];grind)
 rw[show((2:Int):Rat)=2 from rfl] at hh
 have e1:CA R r d*r=xO d r R-d:=by
  have:(CA R r d*r-(xO d r R-d))*(2*d)=0:=by grind
  rcases qE.1 this with q|q<;>grind
 have b:wg x (Cv.arc k false u v)= !(decide (aw (xO d r R-d) 0≥0)&&decide (aw ((xO d r R-d)*(xO d r R-d)-4*(d*d)*lJ ⟨-(2*d),0,r*r-d*d-R*R⟩ k) (x*k.q)≥0)):=by
  show(OK false k u v x !=0||decide (FD false k u v x>0))=_
  have e:CH false k u v x=decide (aw (xO d r R-d) 0≥0):=by
   unfold CH Em
   rw[hc,fW,←s1];rfl
  unfold OK FD
  rw[e,s2]
  cases decide (aw (xO d r R-d) 0≥0) with
  |false=>rfl
  |true=>
   show(false||decide (-aw ((xO d r R-d)*(xO d r R-d)-4*(d*d)*lJ ⟨-(2*d),0,r*r-d*d-R*R⟩ k) (x*k.q)>0))= !(true&&decide (aw ((xO d r R-d)*(xO d r R-d)-4*(d*d)*lJ ⟨-(2*d),0,r*r-d*d-R*R⟩ k) (x*k.q)≥0))
   rw[Bool.false_or,fW,←decide_not]
   exact decide_eq_decide.2 (by omega)
 show(!(false|| !mQ x)&&((!wg x (Cv.arc k false u v))&&true))=_
 rw[b,hc,o.kq]
 unfold Gx
 generalize lJ ⟨-(2*d),0,r*r-d*d-R*R⟩ k=K at*
 generalize xO d r R=X at*
 generalize CA R r d=h at*
 have f1:aw (X-d) 0=aw h 0:=by rw[←e1];exact Fo r0
 have f2:aw ((X-d)*(X-d)-4*(d*d)*K) (x*(r*r))=aw (((2:Int):Rat)*(h*h)-((1:Int):Rat)) x:=by
  rw[←f9,←f9 (((2:Int):Rat)*(h*h)-((1:Int):Rat)),←Fo (s:=((2:Int):Rat)*(h*h)-((1:Int):Rat)-x) rr,show((2:Int):Rat)=2 from rfl,show((1:Int):Rat)=1 from rfl]
  congr 1
  grind
 rw[f1,f2,Bool.not_not,wM]
 rfl
end
section
variable {k D:Ci}{d r R:Rat}(o:One k D d r R)
include o
theorem One.onR (ou:OnK k u) (ov:OnK k v) (ku:kd k u=3) (kv:kd k v=1):(Cv.arc k false u v).on (rP (d+r) 0)=true:=by
 have hk:=o.hk.k
 have h0:=o.q0
 obtain⟨_,⟨_,a,_,b⟩,_⟩:=o.cxs ou ov ku kv
 have or_:=nL hk h0
 rw[←o.eR,yp (bH.2 or_.2)]
 show(decide ((Cv.arc k false u v).ord u (fR k)≤0)&&decide ((Cv.arc k false u v).ord (fR k) v≤0))=true
 rw[zi ou.1 ov.1 or_.1,oN,sE h0,ku,kv,a,b]
 have n:=eJ v u
 have:cx v u= -1∨cx v u=0∨cx v u=1:=by omega
 rcases this with e|e|e<;>rw[e]<;>decide+kernel
theorem One.cvv (ou:OnK k u) (ov:OnK k v) (ku:kd k u=3) (kv:kd k v=1):CvV (.arc k false u v):=
 ⟨⟨o.hk.k,ou.1,ov.1⟩,o.q0,bH.2 ou.2,bH.2 ov.2,fun e=>by
  have e2:cy u v=0:=(d8.1 e).2
  rw[rb (a7 ou) (a7 ov)] at e2
  have e3:qf u k.y=qf v k.y:=by
   rw[yA (a7 ou),yA (a7 ov)]
   exact iX (z:=pY u-pY v) (ba fun n=>by simp only[ao];grind) e2
  unfold kd at ku kv
  rw[e3] at ku
  by_cases h:qf v k.y>0
  ·rw[if_pos h] at ku;exact absurd ku (by decide)
  ·rw[if_neg h] at kv
   split at kv
   ·split at kv<;>exact absurd kv (by decide)
   ·exact absurd kv (by decide)⟩
theorem One.dsc:(0<lJ ⟨-(2*d),0,r*r-d*d-R*R⟩ k→ra R r d=true)∧((d+r)*(2*d)≤d*d-r*r+R*R→ra R r d=false)∧(d*d-r*r+R*R≤(d-r)*(2*d)→ra R r d=false):=by
 have d0:=o.d0
 have r0:=o.r0
 have R0:=o.R0
 have dr:=cY d0 r0
 have e:=o.kp
 have hh:CA R r d*(((2:Int):Rat)*(d*r))=R*R-d*d-r*r:=by
  unfold CA
  exact no (by rw[show((2:Int):Rat)=2 from rfl];grind)
 rw[show((2:Int):Rat)=2 from rfl] at hh
 have p1:decide (aw R 0≤0)=false:=decide_eq_false (by rw[iY R0];decide)
 have p2:decide (aw r 0≤0)=false:=decide_eq_false (by rw[iY r0];decide)
 have p3:decide (aw d 0≤0)=false:=decide_eq_false (by rw[iY d0];decide)
 unfold ra
 rw[p1,p2,p3]
 generalize CA R r d=h at*
 have m: ∀t:Rat,0<t→0<t*(2*(d*r)):=fun t ht=>cY ht (by grind)
 refine⟨fun g=>?_,fun g=>?_,fun g=>?_⟩
 ·have dd:=cY (show 0<4*(d*d) by have:=cY d0 d0;grind) (show 0<4*(d*d) by have:=cY d0 d0;grind)
  have kk:=cY g dd
  generalize lJ ⟨-(2*d),0,r*r-d*d-R*R⟩ k=K at*
  have h1:h<1:=by
   refine Rat.not_le.1 fun q=>?_
   have a:=f7 (show 0≤h-1 by grind) (n7 (show 0<2*(d*r) by grind))
   have b:=f7 (show 0≤(R*R-d*d-r*r)-2*(d*r) by grind) (show 0≤(R*R-d*d-r*r)+2*(d*r) by grind)
   grind
  have h2: -h<1:=by
   refine Rat.not_le.1 fun q=>?_
   have a:=f7 (show 0≤ -h-1 by grind) (n7 (show 0<2*(d*r) by grind))
   have b:=f7 (show 0≤ -(R*R-d*d-r*r)-2*(d*r) by grind) (show 0≤ -(R*R-d*d-r*r)+2*(d*r) by grind)
   grind
  have q1:aw h ((1:Int):Rat)<0:=uL.2 h1
  have q2:aw (-h) ((1:Int):Rat)<0:=uL.2 h2
  rw[decide_eq_false (show ¬aw h ((1:Int):Rat)≥0 by omega),decide_eq_false (show ¬aw (-h) ((1:Int):Rat)≥0 by omega)]
  rfl
 ·have h1:1≤h:=by
   refine tO.1 fun q=>?_
   have:=m (1-h) (by grind)
   grind
  rw[decide_eq_true (show aw h ((1:Int):Rat)≥0 from Az.2 h1)]
  rfl
 ·have h1:1≤ -h:=by
   refine tO.1 fun q=>?_
   have:=m (1+h) (by grind)
   grind
  rw[decide_eq_true (show aw (-h) ((1:Int):Rat)≥0 from Az.2 h1),Bool.or_true]
  rfl
theorem One.inn (h:(d+r)*(2*d)≤d*d-r*r+R*R): ¬R+r≤d∧ ¬R+d≤r:=by
 have d0:=o.d0
 have r0:=o.r0
 have R0:=o.R0
 refine⟨fun q=>?_,fun q=>?_⟩
 ·have:=cY (show 0<d+r-R by grind) (show 0<d+r+R by grind)
  grind
 ·have:=cY (show 0<d+r-R by grind) (show 0<d+r+R by grind)
  grind
end
theorem Si {d r R:Rat}(h:d*d-r*r+R*R≤(d-r)*(2*d)):R+r≤d∨R+d≤r:=by
 by_cases q:R+r≤d
 ·exact .inl q
 ·refine .inr (tO.1 fun g=>?_)
  have:=cY (show 0<R+r-d by grind) (show 0<R+d-r by grind)
  grind
theorem OO:((aG (.arc k w p q)++r).drop 13).take 12=bo k:=rfl
def oK:Ci:=⟨0,0,0⟩
theorem goK:GK oK:=⟨Rz.zero (by decide),eK (by decide),eK (by decide)⟩
section
variable (p q:Pt)
def q9:Rat:=(p.a1-0)*(q.a1-0)+(p.a2-0)*(q.a2-0)
def uh:Rat:=p.b1*(q.a1-0)+p.b2*(q.a2-0)
def uV:Rat:=(p.a1-0)*q.b1+(p.a2-0)*q.b2
def wX:Rat:=p.b1*q.b1+p.b2*q.b2
def sN:Rat:=zf (p.a1-0) (p.a2-0) p.b1 p.b2 p.c
def abh:Int:=eE (-(q9 p q+q9 p q)+sN p+sN q-0*0) (-(uh p q+uh p q)+qC oK p) (-(uV p q+uV p q)+qC oK q) (-(wX p q+wX p q)) p.c q.c
end
section
variable {p q:Pt}(hp:GP p) (hq:GP q)
include hp hq
theorem Y4:(Rz 600 (q9 p q)∧Rz 600 (uh p q)∧Rz 600 (uV p q)∧Rz 600 (wX p q))∧Rz 1000 (sN p)∧Rz 1000 (sN q)∧Rz 1000 (qC oK p)∧Rz 1000 (qC oK q):=by
 have z:Rz 1 (0:Rat):=eK (by decide)
 have a:=hp.a1.sub z
 have b:=hp.a2.sub z
 have c:=hq.a1.sub z
 have d:=hq.a2.sub z
 have sA: ∀ {u:Pt},GP u→Rz 1000 (sN u)∧Rz 1000 (qC oK u):=fun{u} hu=>by
  have x:=hu.a1.sub z
  have y:=hu.a2.sub z
  refine⟨?_,?_⟩
  ·unfold sN zf
   exact(((x.mul x).add (y.mul y)).add (((hu.b1.mul hu.b1).add (hu.b2.mul hu.b2)).mul hu.c)).mono (by decide)
  ·show Rz 1000 (Cc (u.a1-0) (u.a2-0) u.b1 u.b2)
   unfold Cc
   exact(((x.mul hu.b1).add (y.mul hu.b2)).add ((x.mul hu.b1).add (y.mul hu.b2))).mono (by decide)
 exact⟨⟨((a.mul c).add (b.mul d)).mono (by decide),((hp.b1.mul c).add (hp.b2.mul d)).mono (by decide),((a.mul hq.b1).add (b.mul hq.b2)).mono (by decide),((hp.b1.mul hq.b1).add (hp.b2.mul hq.b2)).mono (by decide)⟩,
  (sA hp).1,(sA hq).1,(sA hp).2,(sA hq).2⟩
end
end Go.Proofs.YtegpmhlfjkhjmaaGreat
