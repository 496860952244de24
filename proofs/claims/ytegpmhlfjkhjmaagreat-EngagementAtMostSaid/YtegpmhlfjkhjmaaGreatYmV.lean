/-The pieces of the circle:the program. -/
import Derived.Test.YtegpmhlfjkhjmaaGreatYmU
namespace Go.Proofs.YtegpmhlfjkhjmaaGreat
open Go Go.RowKit
variable {k:Ci}{c:Cv}{L:List Ci}{O P:List Cv}{l:Ln}{n s:Nat}{e:Nat→Bool}{m:Nat→Pt}{f q t:Pt}
theorem vT:type_of% @Int.ofNat_tmod:=@Int.ofNat_tmod
theorem WD (hk:RK k) (h0:0<k.q) (hL: ∀d∈L,RK d) (lL:L.length≤4):Ok Tryz.prog 42 [.a (aV k),.c (.s L.length (ao aV L))] [.c (.s (((bj k L)).length) (ao aC ((bj k L))))]:=by
 have hF:=PG hk.k h0
 have hC:=Hr hk hL
 have lC:(aW k L).length≤2*L.length:=wG
 have ex1:ns k L ((aw k).getD 0 aX)=xq k L 1:=(iZ _).symm
 refine eo Tryz.func42 68 [.tmp 4] rfl<|aa<|ag<|aa<|bm<|aU (eg rfl) ?_
 refine bt ?_
 refine m8 (ι:=Unit) (fun i=>⟨68,[(2,.p 2 0),(5,.v (.c (.s ((aW k L).length) (ao aj (aW k L)))))],[(2,40,aV k)]⟩) ?_ ?_
 ·refine aa<|ag ?_
  refine aE ?_
  refine bn (ι:=Sum ({n:Nat // n≤L.length∧(aW k (L.take n))=[]}) ({x9:Nat×Nat×List CellD // x9.1≤L.length∧(aW k (L.take x9.1)).length≤x9.2.1∧x9.2.1≤maxLen∧x9.2.2.length=(x9.2.1-(aW k (L.take x9.1)).length)*20})) (fun i=>match i with| .inl i=>⟨68,[(2,.p 2 0),(18,.v (.c (.s L.length (ao aV L)))),(19,.v (.c (.i .i64 (L.length:Int)))),(20,.v (.c (.i .i64 (i.1:Int)))),(5,.z)],[(2,40,aV k)]⟩| .inr i=>⟨68,[(2,.p 2 0),(18,.v (.c (.s L.length (ao aV L)))),(19,.v (.c (.i .i64 (L.length:Int)))),(20,.v (.c (.i .i64 (i.1.1:Int)))),(5,.o 32 ((aW k (L.take i.1.1)).length) i.1.2.1)],[(2,40,aV k),(32,47,ao aj (aW k (L.take i.1.1))++i.1.2.2)]⟩) (fun i=>match i with| .inl i=>L.length-i.1| .inr i=>L.length-i.1.1) (.inl ⟨0,eF _,rfl⟩) (ap ⟨rfl,rfl,rfl,rfl,rfl,trivial⟩ ⟨rfl,trivial⟩ rfl) ?_
  rintro(⟨n,h2,h3⟩|⟨⟨n,c9,rs⟩,h2,h3,h4,h5⟩)
  ·replace h2:n≤L.length:=h2
   replace h3:(aW k (L.take n))=[]:=h3
   dsimp only
   refine aa<|ag<|aa ?_
   refine aJ rfl (fun hc1=>?_) (fun hc1=>?_)
   ·have g1:n<L.length:=by have:=of_decide_eq_true hc1;omega
    have hd:=hL _ (bd (d:=dK) g1)
    have hm2:=CV (k:=k) (d:=L.getD n dK)
    refine aA<|aa<|aE<|aa<|ag<|ar (fl dK dU g1 D3 rfl)<|ar (ck (us:=aV (L.getD n dK)) qK rfl (rA _ _) (dU _) rfl) ?_
    refine aa<|ag ?_
    refine ac rfl (Wq hk.k hd.k) ?_
    rcases jn (lK k (L.getD n dK)).length with e0|e0
    ·refine ag<|ar (Ed du rfl rfl e0 rfl) ?_
     refine ag<|ar (ca (by omega) rfl) ?_
     exact⟨.inl ⟨n+1,g1,by show aW k (L.take (n+1))=[];rw[(show aW k (L.take (n+1))=aW k (L.take n)++lK k (L.getD n dK) from jI g1),h3,jQ.1 e0];rfl⟩,ap ⟨rfl,rfl,rfl,rfl,rfl,trivial⟩ ⟨rfl,trivial⟩ rfl,by show L.length-(n+1)<L.length-n;omega⟩
    ·refine ag ?_
     refine DL.mk<|wC (q:=(lK k (L.getD n dK)).length) (ys:=ao aj (lK k (L.getD n dK))) (zs':=ao aj (lK k (L.getD n dK))) du rfl rfl (am ak _) (e0) (by omega) (iQ (by omega)) rfl (rfl) rfl (fun cg2 rg2 hga2 hgb2 hgc2=>dZ ?_)
     refine ag<|ar (ca (by omega) rfl) ?_
     exact⟨.inr ⟨⟨n+1,cg2,rg2⟩,g1,by show(aW k (L.take (n+1))).length≤cg2;rw[(show aW k (L.take (n+1))=aW k (L.take n)++lK k (L.getD n dK) from jI g1),h3,nE];exact hga2,hgb2,by show rg2.length=(cg2-(aW k (L.take (n+1))).length)*20;rw[(show aW k (L.take (n+1))=aW k (L.take n)++lK k (L.getD n dK) from jI g1),h3,nE];exact hgc2⟩,ap ⟨rfl,rfl,rfl,rfl,congrArg (fun q=>some (DV.o 32 (List.length q) cg2)) (by rw[(show aW k (L.take (n+1))=aW k (L.take n)++lK k (L.getD n dK) from jI g1),h3];rfl),trivial⟩ ⟨rfl,congrArg (fun q=>some (47,ao aj q++rg2)) (by rw[(show aW k (L.take (n+1))=aW k (L.take n)++lK k (L.getD n dK) from jI g1),h3];rfl),trivial⟩ rfl,by show L.length-(n+1)<L.length-n;omega⟩
   ·have hp:n=L.length:=by have:=of_decide_eq_false hc1;omega
    refine vg (t:=5) rfl<|bi ?_
    exact⟨(),ap ⟨rfl,congrArg (fun q:List Pt=>some (DV.v (.c (.s q.length (ao aj q))))) (h3.symm.trans (by rw[hp,lI])),trivial⟩ ⟨rfl,trivial⟩ rfl⟩
  ·dsimp only at h2 h3 h4 h5
   have h6:(aW k (L.take n)).length≤2*n:=Nm
   dsimp only
   refine aa<|ag<|aa ?_
   refine aJ rfl (fun hc3=>?_) (fun hc3=>?_)
   ·have g1:n<L.length:=by have:=of_decide_eq_true hc3;omega
    have hd:=hL _ (bd (d:=dK) g1)
    have hm2:=CV (k:=k) (d:=L.getD n dK)
    refine aA<|aa<|aE<|aa<|ag<|ar (fl dK dU g1 D3 rfl)<|ar (ck (us:=aV (L.getD n dK)) qK rfl (rA _ _) (dU _) rfl) ?_
    refine aa<|ag ?_
    refine ac rfl (Wq hk.k hd.k)<|ag ?_
    refine DL.mk<|vt (n:=(aW k (L.take n)).length) (c:=c9) (q:=(lK k (L.getD n dK)).length) (us:=ao aj (aW k (L.take n))) (rest:=rs) (N':=(aW k (L.take n)).length+(lK k (L.getD n dK)).length) (zs':=ao aj (aW k (L.take n))++ao aj (lK k (L.getD n dK))) du rfl rfl rfl (rfl) (am ak _) (h5) (am ak _) (by decide) (by omega) (by assumption) (by omega) (iQ (by omega)) (.inl rfl) (rfl) (rfl) rfl (fun cg4 rg4 hga4 hgb4 hgc4=>dZ ?_)
    refine ag<|ar (ca (by omega) rfl) ?_
    exact⟨.inr ⟨⟨n+1,cg4,rg4⟩,g1,by show(aW k (L.take (n+1))).length≤cg4;rw[(show aW k (L.take (n+1))=aW k (L.take n)++lK k (L.getD n dK) from jI g1),dt];exact hga4,hgb4,by show rg4.length=(cg4-(aW k (L.take (n+1))).length)*20;rw[(show aW k (L.take (n+1))=aW k (L.take n)++lK k (L.getD n dK) from jI g1),dt];exact hgc4⟩,ap ⟨rfl,rfl,rfl,rfl,congrArg (fun q=>some (DV.o 32 q cg4)) (by rw[(show aW k (L.take (n+1))=aW k (L.take n)++lK k (L.getD n dK) from jI g1),dt]),trivial⟩ ⟨rfl,congrArg (fun q=>some (47,q++rg4)) (by rw[(show aW k (L.take (n+1))=aW k (L.take n)++lK k (L.getD n dK) from jI g1),dB]),trivial⟩ rfl,by show L.length-(n+1)<L.length-n;omega⟩
   ·have hp:n=L.length:=by have:=of_decide_eq_false hc3;omega
    refine cB (t:=5) (m:=20) (us:=ao aj (aW k (L.take n))) rfl rfl (jw (n:=(aW k (L.take n)).length) (by first|exact am ak _|exact am ai _) (by assumption) (by omega)) (by omega) (by assumption) (gn (by first|exact am ak _|exact am ai _)) ?_
    refine bi ?_
    exact⟨(),ap ⟨rfl,congrArg (fun q:List Pt=>some (DV.v (.c (.s q.length (ao aj q))))) (by rw[hp,lI]),trivial⟩ ⟨rfl,trivial⟩ rfl⟩
 ·rintro⟨⟩
  try dsimp only
  refine aa<|bm<|aU (eg rfl) ?_
  refine bt<|aa<|aa<|ag ?_
  refine ac rfl (X6 hk.k h0) ?_
  refine aE ?_
  refine DC (ι:={x9:Nat×Nat×List CellD // 1≤x9.1∧x9.1≤2∧(xq k L x9.1).length≤x9.2.1∧x9.2.1≤maxLen∧x9.2.2.length=(x9.2.1-(xq k L x9.1).length)*66}) (fun i=>⟨68,[(2,.p 2 0),(5,.v (.c (.s ((aW k L).length) (ao aj (aW k L))))),(35,.v (.c (.s (((aw k)).length) (ao aC ((aw k)))))),(36,.v (.c (.i .i64 2))),(37,.v (.c (.i .i64 (i.1.1:Int)))),(10,.o 65 ((xq k L i.1.1).length) i.1.2.1)],[(2,40,aV k),(65,49,ao aC (xq k L i.1.1)++i.1.2.2)]⟩) (fun i=>2-i.1.1) (3) ?_ ?_
  ·refine aa<|ag<|aa ?_
   refine aJ rfl (fun hc5=>?_) (fun hc5=>?_)
   ·have g1:0<(aw k).length:=by show 0<2;omega
    have g9:0<2:=g1
    have vc:CvV ((aw k).getD 0 aX):=hF _ (bd g1)
    have ha:Cv.isArc ((aw k).getD 0 aX)=true:=IZ _ (bd g1)
    have hE:=zQ (k:=k) (c:=((aw k).getD 0 aX)) lL
    have hE0:=HB (k:=k) (L:=L) (c:=((aw k).getD 0 aX))
    refine aA<|aa<|aE<|aa<|ag<|ar (fl aX ai g1 gP rfl)<|ar (iK ai bO rfl)<|pu (cZ bO rfl rfl rfl (ai _) rfl rfl) ?_
    refine aa<|bm<|aU (eg rfl) ?_
    refine bt ?_
    refine m8 (ι:=Unit) (fun i=>⟨68,[(2,.p 2 0),(5,.v (.c (.s ((aW k L).length) (ao aj (aW k L))))),(35,.v (.c (.s (((aw k)).length) (ao aC ((aw k)))))),(36,.v (.c (.i .i64 2))),(37,.v (.c (.i .i64 0))),(12,.p 12 0),(10,.z),(13,.v (.c (.s (((nt k L ((aw k).getD 0 aX))).length) (ao aj ((nt k L ((aw k).getD 0 aX)))))))],[(2,40,aV k),(12,49,aC (((aw k).getD 0 aX)))]⟩) ?_ ?_
    ·refine aa<|ag ?_
     refine aE ?_
     refine bn (ι:=Sum ({j:Nat // j≤(aW k L).length∧(((aW k L).take j).filter ((aw k).getD 0 aX).on)=[]}) ({x9:Nat×Nat×List CellD // x9.1≤(aW k L).length∧(((aW k L).take x9.1).filter ((aw k).getD 0 aX).on).length≤x9.2.1∧x9.2.1≤maxLen∧x9.2.2.length=(x9.2.1-(((aW k L).take x9.1).filter ((aw k).getD 0 aX).on).length)*20})) (fun i=>match i with| .inl i=>⟨68,[(2,.p 2 0),(5,.v (.c (.s ((aW k L).length) (ao aj (aW k L))))),(35,.v (.c (.s (((aw k)).length) (ao aC ((aw k)))))),(36,.v (.c (.i .i64 2))),(37,.v (.c (.i .i64 0))),(12,.p 12 0),(10,.z),(41,.v (.c (.s ((aW k L).length) (ao aj (aW k L))))),(42,.v (.c (.i .i64 (((aW k L).length:Int))))),(43,.v (.c (.i .i64 (i.1:Int)))),(13,.z)],[(2,40,aV k),(12,49,aC (((aw k).getD 0 aX)))]⟩| .inr i=>⟨68,[(2,.p 2 0),(5,.v (.c (.s ((aW k L).length) (ao aj (aW k L))))),(35,.v (.c (.s (((aw k)).length) (ao aC ((aw k)))))),(36,.v (.c (.i .i64 2))),(37,.v (.c (.i .i64 0))),(12,.p 12 0),(10,.z),(41,.v (.c (.s ((aW k L).length) (ao aj (aW k L))))),(42,.v (.c (.i .i64 (((aW k L).length:Int))))),(43,.v (.c (.i .i64 (i.1.1:Int)))),(13,.o 53 ((((aW k L).take i.1.1).filter ((aw k).getD 0 aX).on).length) i.1.2.1)],[(2,40,aV k),(12,49,aC (((aw k).getD 0 aX))),(53,47,ao aj (((aW k L).take i.1.1).filter ((aw k).getD 0 aX).on)++i.1.2.2)]⟩) (fun i=>match i with| .inl i=>(aW k L).length-i.1| .inr i=>(aW k L).length-i.1.1) (.inl ⟨0,eF _,rfl⟩) (ap ⟨rfl,rfl,rfl,rfl,rfl,rfl,rfl,rfl,rfl,rfl,rfl,trivial⟩ ⟨rfl,rfl,trivial⟩ rfl) ?_
     rintro(⟨j,i2,i3⟩|⟨⟨j,c8,rt⟩,i2,i3,i4,i5⟩)
     ·replace i2:j≤(aW k L).length:=i2
      replace i3:(((aW k L).take j).filter ((aw k).getD 0 aX).on)=[]:=i3
      dsimp only
      refine aa<|ag<|aa ?_
      refine aJ rfl (fun hc6=>?_) (fun hc6=>?_)
      ·have g2:j<(aW k L).length:=by have:=of_decide_eq_true hc6;omega
       have hx:=hC _ (bd (d:=dPt) g2)
       refine aA<|aa<|aE<|aa<|ag<|ar (fl dPt ak g2 cE rfl)<|ar (iK ak bq rfl)<|aa<|ag ?_
       refine ar (kV (ai _) bO rfl) ?_
       refine ac rfl (Iw vc ha hx) ?_
       refine aJ rfl (fun hc7=>?_) (fun hc7=>?_)
       ·have g3:((aw k).getD 0 aX).on ((aW k L).getD j dPt)=true:=hc7
        refine ag ?_
        refine ar (bV (n:=1) (us:=aj ((((aW k L).getD j dPt)))) du rfl rfl rfl (by decide) (by decide) rfl) ?_
        refine DL.mk<|lq (ys:=aj ((((aW k L).getD j dPt)))) du rfl rfl rfl (by decide) (by decide) (by decide) rfl rfl (fun cg8 rg8 hga8 hgb8 hgc8=>dZ ?_)
        refine ag<|ar (ca (by omega) rfl) ?_
        exact⟨.inr ⟨⟨j+1,cg8,rg8⟩,g2,by show(((aW k L).take (j+1)).filter ((aw k).getD 0 aX).on).length≤cg8;rw[oO g2 g3,i3];exact hga8,hgb8,by show rg8.length=(cg8-(((aW k L).take (j+1)).filter ((aw k).getD 0 aX).on).length)*20;rw[oO g2 g3,i3];exact hgc8⟩,ap ⟨rfl,rfl,rfl,rfl,rfl,rfl,rfl,rfl,rfl,rfl,congrArg (fun q=>some (DV.o 53 q cg8)) (by rw[oO g2 g3,i3];rfl),trivial⟩ ⟨rfl,rfl,congrArg (fun q=>some (47,q++rg8)) (by rw[oO g2 g3,i3,nE,dW]),trivial⟩ rfl,by show(aW k L).length-(j+1)<(aW k L).length-j;omega⟩
       ·have g3:((aw k).getD 0 aX).on ((aW k L).getD j dPt)=false:=hc7
        refine aA<|ag<|ar (ca (by omega) rfl) ?_
        exact⟨.inl ⟨j+1,g2,by rw[we g2 g3];exact i3⟩,ap ⟨rfl,rfl,rfl,rfl,rfl,rfl,rfl,rfl,rfl,rfl,rfl,trivial⟩ ⟨rfl,rfl,trivial⟩ rfl,by show(aW k L).length-(j+1)<(aW k L).length-j;omega⟩
      ·have hj:j=(aW k L).length:=by have:=of_decide_eq_false hc6;omega
       refine vg (t:=13) rfl<|bi ?_
       exact⟨(),ap ⟨rfl,rfl,rfl,rfl,rfl,rfl,rfl,congrArg (fun q:List Pt=>some (DV.v (.c (.s q.length (ao aj q))))) (i3.symm.trans (show(nt k L ((aw k).getD 0 aX))=((aW k L).take j).filter ((aw k).getD 0 aX).on by rw[hj,lI];rfl).symm),trivial⟩ ⟨rfl,rfl,trivial⟩ rfl⟩
     ·dsimp only at i2 i3 i4 i5
      have i6:(((aW k L).take j).filter ((aw k).getD 0 aX).on).length≤8:=iO (tx _ _) (by rw[dH];omega)
      dsimp only
      refine aa<|ag<|aa ?_
      refine aJ rfl (fun hc9=>?_) (fun hc9=>?_)
      ·have g2:j<(aW k L).length:=by have:=of_decide_eq_true hc9;omega
       have hx:=hC _ (bd (d:=dPt) g2)
       refine aA<|aa<|aE<|aa<|ag<|ar (fl dPt ak g2 cE rfl)<|ar (iK ak bq rfl)<|aa<|ag ?_
       refine ar (kV (ai _) bO rfl) ?_
       refine ac rfl (Iw vc ha hx) ?_
       refine aJ rfl (fun hc10=>?_) (fun hc10=>?_)
       ·have g3:((aw k).getD 0 aX).on ((aW k L).getD j dPt)=true:=hc10
        refine ag ?_
        refine ar (bV (n:=1) (us:=aj ((((aW k L).getD j dPt)))) du rfl rfl rfl (by decide) (by decide) rfl) ?_
        refine DL.mk<|mh (us:=ao aj (((aW k L).take j).filter ((aw k).getD 0 aX).on)) (rest:=rt) (ys:=aj ((((aW k L).getD j dPt)))) du rfl rfl rfl (by first|exact am ak _|exact am ai _) (by assumption) rfl (by decide) (by omega) (by assumption) (by omega) (iQ (by omega)) (.inl rfl) rfl (fun cg11 rg11 hga11 hgb11 hgc11=>dZ ?_)
        refine ag<|ar (ca (by omega) rfl) ?_
        exact⟨.inr ⟨⟨j+1,cg11,rg11⟩,g2,by show(((aW k L).take (j+1)).filter ((aw k).getD 0 aX).on).length≤cg11;rw[oO g2 g3,dt];exact hga11,hgb11,by show rg11.length=(cg11-(((aW k L).take (j+1)).filter ((aw k).getD 0 aX).on).length)*20;rw[oO g2 g3,dt];exact hgc11⟩,ap ⟨rfl,rfl,rfl,rfl,rfl,rfl,rfl,rfl,rfl,rfl,congrArg (fun q=>some (DV.o 53 q cg11)) (by rw[oO g2 g3,dt];rfl),trivial⟩ ⟨rfl,rfl,congrArg (fun q=>some (47,q++rg11)) (by rw[oO g2 g3,dB,dW]),trivial⟩ rfl,by show(aW k L).length-(j+1)<(aW k L).length-j;omega⟩
       ·have g3:((aw k).getD 0 aX).on ((aW k L).getD j dPt)=false:=hc10
        refine aA<|ag<|ar (ca (by omega) rfl) ?_
        exact⟨.inr ⟨⟨j+1,c8,rt⟩,g2,by show(((aW k L).take (j+1)).filter ((aw k).getD 0 aX).on).length≤c8;rw[we g2 g3];exact i3,i4,by show rt.length=(c8-(((aW k L).take (j+1)).filter ((aw k).getD 0 aX).on).length)*20;rw[we g2 g3];exact i5⟩,ap ⟨rfl,rfl,rfl,rfl,rfl,rfl,rfl,rfl,rfl,rfl,congrArg (fun q=>some (DV.o 53 (List.length q) c8)) (we g2 g3).symm,trivial⟩ ⟨rfl,rfl,congrArg (fun q=>some (47,ao aj q++rt)) (we g2 g3).symm,trivial⟩ rfl,by show(aW k L).length-(j+1)<(aW k L).length-j;omega⟩
      ·have hj:j=(aW k L).length:=by have:=of_decide_eq_false hc9;omega
       refine cB (t:=13) (m:=20) (us:=ao aj (((aW k L).take j).filter ((aw k).getD 0 aX).on)) rfl rfl (jw (n:=(((aW k L).take j).filter ((aw k).getD 0 aX).on).length) (by first|exact am ak _|exact am ai _) (by assumption) (by omega)) (by omega) (by assumption) (gn (by first|exact am ak _|exact am ai _)) ?_
       refine bi ?_
       exact⟨(),ap ⟨rfl,rfl,rfl,rfl,rfl,rfl,rfl,congrArg (fun q:List Pt=>some (DV.v (.c (.s q.length (ao aj q))))) ((show(nt k L ((aw k).getD 0 aX))=((aW k L).take j).filter ((aw k).getD 0 aX).on by rw[hj,lI];rfl).symm),trivial⟩ ⟨rfl,rfl,trivial⟩ rfl⟩
    ·rintro⟨⟩
     try dsimp only
     refine aa<|bm<|aU (kV (ai _) bO rfl)<|bU 1 ?_
     refine yB rfl rfl ((show OkN _ _ [.a (aC ((aw k).getD 0 aX)),.c (.s ((nt k L ((aw k).getD 0 aX))).length (ao aj (nt k L ((aw k).getD 0 aX))))] _ (ns k L ((aw k).getD 0 aX)).length _ (ao aC (ns k L ((aw k).getD 0 aX))) _ from Yf (L:=(nt k L ((aw k).getD 0 aX))) vc ha (fun p h=>hC p (mx.1 h).1) (iO (tx _ _) (by omega)) (fun p h=>(mx.1 h).2))) rfl rfl (fun cg12 rg12 hga12 hgb12 hgc12=>?_)
     refine bU 1<|aU (DF rfl rfl) ?_
     refine aU (DB rfl rfl rfl) ?_
     refine ed<|aa<|ag<|dO rfl ?_
     refine cB (t:=16) (m:=66) (us:=ao aC (ns k L ((aw k).getD 0 aX))) rfl rfl (jw (n:=(ns k L ((aw k).getD 0 aX)).length) (by first|exact am ak _|exact am ai _) (by assumption) (by omega)) (by omega) (by assumption) (gn (by first|exact am ak _|exact am ai _)) ?_
     refine ag ?_
     refine DL.mk<|wC (q:=(ns k L ((aw k).getD 0 aX)).length) (ys:=ao aC (ns k L ((aw k).getD 0 aX))) (zs':=ao aC (ns k L ((aw k).getD 0 aX))) lp rfl rfl (am ai _) (hE0) (by omega) (iQ (by omega)) rfl (rfl) rfl (fun cg13 rg13 hga13 hgb13 hgc13=>dZ ?_)
     refine ag<|ar (ju (r:=1) rfl rfl rfl rfl) ?_
     exact⟨⟨⟨1,cg13,rg13⟩,cg _,by show 1≤2;omega,by show(xq k L 1).length≤cg13;rw[←ex1];exact hga13,hgb13,by show rg13.length=(cg13-(xq k L 1).length)*66;rw[←ex1];exact hgc13⟩,ap ⟨rfl,rfl,rfl,rfl,rfl,congrArg (fun q=>some (DV.o 65 (List.length q) cg13)) ex1,trivial⟩ ⟨rfl,congrArg (fun q=>some (49,ao aC q++rg13)) ex1,trivial⟩ rfl,by show 2-1<3;omega⟩
   ·exact absurd hc5 (by show ¬decide ((0:Int)<((2:Nat):Int))=false;decide)
  ·rintro⟨⟨n,c9,rs⟩,h1,h2,h3,h4,h5⟩
   dsimp only at h1 h2 h3 h4 h5
   have h6:(xq k L n).length≤9*n:=BY lL h2
   dsimp only
   refine aa<|ag<|aa ?_
   refine aJ rfl (fun hc14=>?_) (fun hc14=>?_)
   ·have g1:n<(aw k).length:=by have:=of_decide_eq_true hc14;show n<2;omega
    have g9:n<2:=g1
    have vc:CvV ((aw k).getD n aX):=hF _ (bd g1)
    have ha:Cv.isArc ((aw k).getD n aX)=true:=IZ _ (bd g1)
    have hE:=zQ (k:=k) (c:=((aw k).getD n aX)) lL
    have hE0:=HB (k:=k) (L:=L) (c:=((aw k).getD n aX))
    refine aA<|aa<|aE<|aa<|ag<|ar (fl aX ai g1 gP rfl)<|ar (iK ai bO rfl)<|pu (cZ bO rfl rfl rfl (ai _) rfl rfl) ?_
    refine aa<|bm<|aU (eg rfl) ?_
    refine bt ?_
    refine m8 (ι:=Unit) (fun i=>⟨68,[(2,.p 2 0),(5,.v (.c (.s ((aW k L).length) (ao aj (aW k L))))),(35,.v (.c (.s (((aw k)).length) (ao aC ((aw k)))))),(36,.v (.c (.i .i64 2))),(37,.v (.c (.i .i64 (n:Int)))),(12,.p 12 0),(10,.o 65 ((xq k L n).length) c9),(13,.v (.c (.s (((nt k L ((aw k).getD n aX))).length) (ao aj ((nt k L ((aw k).getD n aX)))))))],[(2,40,aV k),(12,49,aC (((aw k).getD n aX))),(65,49,ao aC (xq k L n)++rs)]⟩) ?_ ?_
    ·refine aa<|ag ?_
     refine aE ?_
     refine bn (ι:=Sum ({j:Nat // j≤(aW k L).length∧(((aW k L).take j).filter ((aw k).getD n aX).on)=[]}) ({x9:Nat×Nat×List CellD // x9.1≤(aW k L).length∧(((aW k L).take x9.1).filter ((aw k).getD n aX).on).length≤x9.2.1∧x9.2.1≤maxLen∧x9.2.2.length=(x9.2.1-(((aW k L).take x9.1).filter ((aw k).getD n aX).on).length)*20})) (fun i=>match i with| .inl i=>⟨68,[(2,.p 2 0),(5,.v (.c (.s ((aW k L).length) (ao aj (aW k L))))),(35,.v (.c (.s (((aw k)).length) (ao aC ((aw k)))))),(36,.v (.c (.i .i64 2))),(37,.v (.c (.i .i64 (n:Int)))),(12,.p 12 0),(10,.o 65 ((xq k L n).length) c9),(41,.v (.c (.s ((aW k L).length) (ao aj (aW k L))))),(42,.v (.c (.i .i64 (((aW k L).length:Int))))),(43,.v (.c (.i .i64 (i.1:Int)))),(13,.z)],[(2,40,aV k),(12,49,aC (((aw k).getD n aX))),(65,49,ao aC (xq k L n)++rs)]⟩| .inr i=>⟨68,[(2,.p 2 0),(5,.v (.c (.s ((aW k L).length) (ao aj (aW k L))))),(35,.v (.c (.s (((aw k)).length) (ao aC ((aw k)))))),(36,.v (.c (.i .i64 2))),(37,.v (.c (.i .i64 (n:Int)))),(12,.p 12 0),(10,.o 65 ((xq k L n).length) c9),(41,.v (.c (.s ((aW k L).length) (ao aj (aW k L))))),(42,.v (.c (.i .i64 (((aW k L).length:Int))))),(43,.v (.c (.i .i64 (i.1.1:Int)))),(13,.o 53 ((((aW k L).take i.1.1).filter ((aw k).getD n aX).on).length) i.1.2.1)],[(2,40,aV k),(12,49,aC (((aw k).getD n aX))),(65,49,ao aC (xq k L n)++rs),(53,47,ao aj (((aW k L).take i.1.1).filter ((aw k).getD n aX).on)++i.1.2.2)]⟩) (fun i=>match i with| .inl i=>(aW k L).length-i.1| .inr i=>(aW k L).length-i.1.1) (.inl ⟨0,eF _,rfl⟩) (ap ⟨rfl,rfl,rfl,rfl,rfl,rfl,rfl,rfl,rfl,rfl,rfl,trivial⟩ ⟨rfl,rfl,rfl,trivial⟩ rfl) ?_
     rintro(⟨j,i2,i3⟩|⟨⟨j,c8,rt⟩,i2,i3,i4,i5⟩)
     ·replace i2:j≤(aW k L).length:=i2
      replace i3:(((aW k L).take j).filter ((aw k).getD n aX).on)=[]:=i3
      dsimp only
      refine aa<|ag<|aa ?_
      refine aJ rfl (fun hc15=>?_) (fun hc15=>?_)
      ·have g2:j<(aW k L).length:=by have:=of_decide_eq_true hc15;omega
       have hx:=hC _ (bd (d:=dPt) g2)
       refine aA<|aa<|aE<|aa<|ag<|ar (fl dPt ak g2 cE rfl)<|ar (iK ak bq rfl)<|aa<|ag ?_
       refine ar (kV (ai _) bO rfl) ?_
       refine ac rfl (Iw vc ha hx) ?_
       refine aJ rfl (fun hc16=>?_) (fun hc16=>?_)
       ·have g3:((aw k).getD n aX).on ((aW k L).getD j dPt)=true:=hc16
        refine ag ?_
        refine ar (bV (n:=1) (us:=aj ((((aW k L).getD j dPt)))) du rfl rfl rfl (by decide) (by decide) rfl) ?_
        refine DL.mk<|lq (ys:=aj ((((aW k L).getD j dPt)))) du rfl rfl rfl (by decide) (by decide) (by decide) rfl rfl (fun cg17 rg17 hga17 hgb17 hgc17=>dZ ?_)
        refine ag<|ar (ca (by omega) rfl) ?_
        exact⟨.inr ⟨⟨j+1,cg17,rg17⟩,g2,by show(((aW k L).take (j+1)).filter ((aw k).getD n aX).on).length≤cg17;rw[oO g2 g3,i3];exact hga17,hgb17,by show rg17.length=(cg17-(((aW k L).take (j+1)).filter ((aw k).getD n aX).on).length)*20;rw[oO g2 g3,i3];exact hgc17⟩,ap ⟨rfl,rfl,rfl,rfl,rfl,rfl,rfl,rfl,rfl,rfl,congrArg (fun q=>some (DV.o 53 q cg17)) (by rw[oO g2 g3,i3];rfl),trivial⟩ ⟨rfl,rfl,rfl,congrArg (fun q=>some (47,q++rg17)) (by rw[oO g2 g3,i3,nE,dW]),trivial⟩ rfl,by show(aW k L).length-(j+1)<(aW k L).length-j;omega⟩
       ·have g3:((aw k).getD n aX).on ((aW k L).getD j dPt)=false:=hc16
        refine aA<|ag<|ar (ca (by omega) rfl) ?_
        exact⟨.inl ⟨j+1,g2,by rw[we g2 g3];exact i3⟩,ap ⟨rfl,rfl,rfl,rfl,rfl,rfl,rfl,rfl,rfl,rfl,rfl,trivial⟩ ⟨rfl,rfl,rfl,trivial⟩ rfl,by show(aW k L).length-(j+1)<(aW k L).length-j;omega⟩
      ·have hj:j=(aW k L).length:=by have:=of_decide_eq_false hc15;omega
       refine vg (t:=13) rfl<|bi ?_
       exact⟨(),ap ⟨rfl,rfl,rfl,rfl,rfl,rfl,rfl,congrArg (fun q:List Pt=>some (DV.v (.c (.s q.length (ao aj q))))) (i3.symm.trans (show(nt k L ((aw k).getD n aX))=((aW k L).take j).filter ((aw k).getD n aX).on by rw[hj,lI];rfl).symm),trivial⟩ ⟨rfl,rfl,rfl,trivial⟩ rfl⟩
     ·dsimp only at i2 i3 i4 i5
      have i6:(((aW k L).take j).filter ((aw k).getD n aX).on).length≤8:=iO (tx _ _) (by rw[dH];omega)
      dsimp only
      refine aa<|ag<|aa ?_
      refine aJ rfl (fun hc18=>?_) (fun hc18=>?_)
      ·have g2:j<(aW k L).length:=by have:=of_decide_eq_true hc18;omega
       have hx:=hC _ (bd (d:=dPt) g2)
       refine aA<|aa<|aE<|aa<|ag<|ar (fl dPt ak g2 cE rfl)<|ar (iK ak bq rfl)<|aa<|ag ?_
       refine ar (kV (ai _) bO rfl) ?_
       refine ac rfl (Iw vc ha hx) ?_
       refine aJ rfl (fun hc19=>?_) (fun hc19=>?_)
       ·have g3:((aw k).getD n aX).on ((aW k L).getD j dPt)=true:=hc19
        refine ag ?_
        refine ar (bV (n:=1) (us:=aj ((((aW k L).getD j dPt)))) du rfl rfl rfl (by decide) (by decide) rfl) ?_
        refine DL.mk<|mh (us:=ao aj (((aW k L).take j).filter ((aw k).getD n aX).on)) (rest:=rt) (ys:=aj ((((aW k L).getD j dPt)))) du rfl rfl rfl (by first|exact am ak _|exact am ai _) (by assumption) rfl (by decide) (by omega) (by assumption) (by omega) (iQ (by omega)) (.inl rfl) rfl (fun cg20 rg20 hga20 hgb20 hgc20=>dZ ?_)
        refine ag<|ar (ca (by omega) rfl) ?_
        exact⟨.inr ⟨⟨j+1,cg20,rg20⟩,g2,by show(((aW k L).take (j+1)).filter ((aw k).getD n aX).on).length≤cg20;rw[oO g2 g3,dt];exact hga20,hgb20,by show rg20.length=(cg20-(((aW k L).take (j+1)).filter ((aw k).getD n aX).on).length)*20;rw[oO g2 g3,dt];exact hgc20⟩,ap ⟨rfl,rfl,rfl,rfl,rfl,rfl,rfl,rfl,rfl,rfl,congrArg (fun q=>some (DV.o 53 q cg20)) (by rw[oO g2 g3,dt];rfl),trivial⟩ ⟨rfl,rfl,rfl,congrArg (fun q=>some (47,q++rg20)) (by rw[oO g2 g3,dB,dW]),trivial⟩ rfl,by show(aW k L).length-(j+1)<(aW k L).length-j;omega⟩
       ·have g3:((aw k).getD n aX).on ((aW k L).getD j dPt)=false:=hc19
        refine aA<|ag<|ar (ca (by omega) rfl) ?_
        exact⟨.inr ⟨⟨j+1,c8,rt⟩,g2,by show(((aW k L).take (j+1)).filter ((aw k).getD n aX).on).length≤c8;rw[we g2 g3];exact i3,i4,by show rt.length=(c8-(((aW k L).take (j+1)).filter ((aw k).getD n aX).on).length)*20;rw[we g2 g3];exact i5⟩,ap ⟨rfl,rfl,rfl,rfl,rfl,rfl,rfl,rfl,rfl,rfl,congrArg (fun q=>some (DV.o 53 (List.length q) c8)) (we g2 g3).symm,trivial⟩ ⟨rfl,rfl,rfl,congrArg (fun q=>some (47,ao aj q++rt)) (we g2 g3).symm,trivial⟩ rfl,by show(aW k L).length-(j+1)<(aW k L).length-j;omega⟩
      ·have hj:j=(aW k L).length:=by have:=of_decide_eq_false hc18;omega
       refine cB (t:=13) (m:=20) (us:=ao aj (((aW k L).take j).filter ((aw k).getD n aX).on)) rfl rfl (jw (n:=(((aW k L).take j).filter ((aw k).getD n aX).on).length) (by first|exact am ak _|exact am ai _) (by assumption) (by omega)) (by omega) (by assumption) (gn (by first|exact am ak _|exact am ai _)) ?_
       refine bi ?_
       exact⟨(),ap ⟨rfl,rfl,rfl,rfl,rfl,rfl,rfl,congrArg (fun q:List Pt=>some (DV.v (.c (.s q.length (ao aj q))))) ((show(nt k L ((aw k).getD n aX))=((aW k L).take j).filter ((aw k).getD n aX).on by rw[hj,lI];rfl).symm),trivial⟩ ⟨rfl,rfl,rfl,trivial⟩ rfl⟩
    ·rintro⟨⟩
     try dsimp only
     refine aa<|bm<|aU (kV (ai _) bO rfl)<|bU 1 ?_
     refine yB rfl rfl ((show OkN _ _ [.a (aC ((aw k).getD n aX)),.c (.s ((nt k L ((aw k).getD n aX))).length (ao aj (nt k L ((aw k).getD n aX))))] _ (ns k L ((aw k).getD n aX)).length _ (ao aC (ns k L ((aw k).getD n aX))) _ from Yf (L:=(nt k L ((aw k).getD n aX))) vc ha (fun p h=>hC p (mx.1 h).1) (iO (tx _ _) (by omega)) (fun p h=>(mx.1 h).2))) rfl rfl (fun cg21 rg21 hga21 hgb21 hgc21=>?_)
     refine bU 1<|aU (DF rfl rfl) ?_
     refine aU (DB rfl rfl rfl) ?_
     refine ed<|aa<|ag<|dO rfl ?_
     refine cB (t:=16) (m:=66) (us:=ao aC (ns k L ((aw k).getD n aX))) rfl rfl (jw (n:=(ns k L ((aw k).getD n aX)).length) (by first|exact am ak _|exact am ai _) (by assumption) (by omega)) (by omega) (by assumption) (gn (by first|exact am ak _|exact am ai _)) ?_
     refine ag ?_
     refine DL.mk<|vt (n:=(xq k L n).length) (c:=c9) (q:=(ns k L ((aw k).getD n aX)).length) (us:=ao aC (xq k L n)) (rest:=rs) (N':=(xq k L n).length+(ns k L ((aw k).getD n aX)).length) (zs':=ao aC (xq k L n)++ao aC (ns k L ((aw k).getD n aX))) lp rfl rfl rfl (rfl) (am ai _) (h5) (am ai _) (by decide) (by omega) (by assumption) (by omega) (iQ (by omega)) (.inl rfl) (rfl) (rfl) rfl (fun cg22 rg22 hga22 hgb22 hgc22=>dZ ?_)
     refine ag<|ar (ca (by omega) rfl) ?_
     exact⟨⟨⟨n+1,cg22,rg22⟩,by omega,by omega,by show(xq k L (n+1)).length≤cg22;rw[(show xq k L (n+1)=xq k L n++ns k L ((aw k).getD n aX) from jI g1),dt];exact hga22,hgb22,by show rg22.length=(cg22-(xq k L (n+1)).length)*66;rw[(show xq k L (n+1)=xq k L n++ns k L ((aw k).getD n aX) from jI g1),dt];exact hgc22⟩,ap ⟨rfl,rfl,rfl,rfl,rfl,congrArg (fun q=>some (DV.o 65 q cg22)) (by rw[(show xq k L (n+1)=xq k L n++ns k L ((aw k).getD n aX) from jI g1),dt]),trivial⟩ ⟨rfl,congrArg (fun q=>some (49,q++rg22)) (by rw[(show xq k L (n+1)=xq k L n++ns k L ((aw k).getD n aX) from jI g1),dB]),trivial⟩ rfl,by show 2-(n+1)<2-n;omega⟩
   ·have hp:n=2:=by
     have h8:=of_decide_eq_false hc14
     have h9: ¬(n:Int)<((2:Nat):Int):=h8
     omega
    refine bi<|aa<|ag ?_
    refine cB (t:=4) (m:=66) (us:=ao aC (xq k L n)) rfl rfl (jw (n:=(xq k L n).length) (by first|exact am ak _|exact am ai _) (by assumption) (by omega)) (by omega) (by assumption) (gn (by first|exact am ak _|exact am ai _)) ?_
    refine a7 ?_
    rw[show bj k L=xq k L n from by rw[hp];rfl]
    exact ah (az ae)
theorem Tv (h0:e s=false) (h:m7 P e s n=[]):e (s+n)=false:=by
 cases g:e (s+n) with
 |false=>rfl
 |true=>
  obtain⟨L,a,h1,_⟩:=Be h0 n g
  unfold m7 at h
  rw[h1] at h
  simp at h
theorem yK (c:Cv) (r:List CellD):((aC c++r).drop 46).take 20=aj c.q:=by
 have hl:=ai c
 rw[xT (by omega),yy (by rw[fS];omega)]
 cases c<;>rfl
theorem KV (c:Cv) (q:Pt) (r:List CellD):(aC c++r).take 46++aj q++(aC c++r).drop 66=aC (c.ends c.p q)++r:=by
 have h:=Ao c c.p q
 rw[show c.setp c.p=c from by cases c<;>rfl] at h
 have hl:=ai c
 rw[yy (by omega),List.drop_append,show(aC c).drop 66=[] from pk (by omega),hl]
 rw[show(aC c).drop 66=[] from pk (by omega),iZ] at h
 rw[h];rfl
theorem Oj {rs:List CellD}:(ao aC (O++[c])++rs).take (O.length*66+46)++aj q++(ao aC (O++[c])++rs).drop (O.length*66+46+20)=ao aC (O++[c.ends c.p q])++rs:=by
 have hl:=am ai O
 rw[dB,dB,dW,dW,nk (ao aC O),←hl,List.take_length_add_append,show(ao aC O).length+46+20=(ao aC O).length+66 from rfl,List.drop_length_add_append,nk (ao aC O) _ (aj q),nk (ao aC O),KV,nk (ao aC O)]
theorem Ub (hk:RK k) (h0:0<k.q) (hL: ∀d∈L,RK d) (lL:L.length≤4) (hm: ∀i,i<(bj k L).length→GB (m i)∧Ok Tryz.prog 43 [.a (aC ((bj k L).getD i aX))] [.a (aj (m i))]) (he: ∀i,i<(bj k L).length→e i=qg L (m i)) (ha: ∀i,i<(bj k L).length→e i=true):Ok Tryz.prog 9 [.a (aV k),.c (.s L.length (ao aV L))] [.c (.s 0 []),.c (.b true)]:=by
 have lN:(bj k L).length≤9*2:=BY lL (cg _)
 have hN:(bj k L).length≤100:=by omega
 have hMx:(bj k L).length≤9223372036854775807:=by omega
 refine eo Tryz.func9 86 [.tmp 4,.tmp 5] rfl<|aa<|ag<|aa<|ag ?_
 refine ac rfl (WD hk h0 hL lL)<|aa<|ag ?_
 refine DL.mk<|pE (j9 (n:=(((((bj k L)).length:Nat):Int)).toNat) Zs rfl rfl (by omega) (by omega) rfl) rfl<|dZ ?_
 refine aa<|aa<|ag ?_
 refine aE ?_
 refine bn (ι:={n:Nat // n≤(bj k L).length}) (fun i=>⟨86,[(2,.p 2 0),(6,.v (.c (.s (((bj k L)).length) (ao aC ((bj k L)))))),(1,.v (.c (.s L.length (ao aV L)))),(7,.o 21 ((bj k L).length) ((bj k L).length)),(22,.v (.c (.s (((bj k L)).length) (ao aC ((bj k L)))))),(23,.v (.c (.i .i64 (((bj k L).length:Int))))),(24,.v (.c (.i .i64 (i.1:Int))))],[(2,40,aV k),(21,4,nO e ((bj k L).length) i.1++[])]⟩) (fun i=>(bj k L).length-i.1) ⟨0,eF _⟩ (ap ⟨rfl,rfl,rfl,rfl,rfl,rfl,rfl,trivial⟩ ⟨rfl,congrArg (fun q=>some (4,q)) Kg,trivial⟩ rfl) ?_
 rintro⟨n,h2⟩
 replace h2:n≤(bj k L).length:=h2
 dsimp only
 refine aa<|ag<|aa ?_
 refine aJ rfl (fun hc1=>?_) (fun hc1=>?_)
 ·have g1:n<(bj k L).length:=by have:=of_decide_eq_true hc1;omega
  obtain⟨gm,om⟩:=hm n g1
  refine aA<|aa<|aE<|aa<|ag<|ar (fl aX ai g1 gP rfl)<|ar (iK ai bO rfl)<|pu (cZ bO rfl rfl rfl (ai _) rfl rfl) ?_
  refine aa<|ag ?_
  refine ar (kV (ai _) bO rfl) ?_
  refine ac rfl (om) ?_
  refine kO (t:=10) (k:=10) rfl rfl<|bm<|bU 3 ?_
  refine aU (qR (us:=[.p (aj (m n))]) rfl rfl) ?_
  refine aU (cb rfl (fp (c:= !e n) (aaE hL lL gm) (by rw[he n g1])))<|bU 1<|aU (bo A6 rfl rfl (by omega) rfl) ?_
  refine gi (aY (us:=nO e ((bj k L).length) (n+1)++[]) lW rfl rfl rfl rfl (by rw[iZ,zj];omega) (by rw[Bool.not_not];exact FW g1) rfl) ?_
  refine bt<|ag<|ar (ca (by omega) rfl) ?_
  exact⟨⟨n+1,g1⟩,ap ⟨rfl,rfl,rfl,rfl,rfl,rfl,rfl,trivial⟩ ⟨rfl,rfl,trivial⟩ rfl,by show(bj k L).length-(n+1)<(bj k L).length-n;omega⟩
 ·have hp:n=(bj k L).length:=by have:=of_decide_eq_false hc1;omega
  refine lh (σ':=⟨86,[(2,.p 2 0),(6,.v (.c (.s (((bj k L)).length) (ao aC ((bj k L)))))),(7,.o 21 ((bj k L).length) ((bj k L).length))],[(2,40,aV k),(21,4,tE e ((bj k L).length)++[])]⟩) (ap ⟨rfl,rfl,rfl,trivial⟩ ⟨rfl,congrArg (fun q=>some (4,q++[])) (by rw[hp];exact DR),trivial⟩ rfl) ?_
  refine cB (t:=7) (m:=1) (us:=tE e ((bj k L).length)) rfl rfl (jw (n:=(bj k L).length) (by first|exact dN|exact am ai _|exact(am ai _).trans (by rw[fL])) (by first|assumption|simp) (by omega)) (by omega) (by assumption) (gn (by first|exact dN|exact am ai _|exact(am ai _).trans (by rw[fL]))) ?_
  refine bi<|aa<|aa<|ag<|ac rfl (aaK hN) ?_
  refine aJ rfl (fun hc2=>?_) (fun hc2=>?_)
  ·refine aa<|ag<|a7 ?_
   exact ah (az (az ae))
  ·exact absurd hc2 (by rw[Nr ha];decide)
theorem TA (hk:RK k) (h0:0<k.q) (hL: ∀d∈L,RK d) (lL:L.length≤4) (hm: ∀i,i<(bj k L).length→GB (m i)∧Ok Tryz.prog 43 [.a (aC ((bj k L).getD i aX))] [.a (aj (m i))]) (he: ∀i,i<(bj k L).length→e i=qg L (m i)) (hr:Rnd e (bj k L).length) (hs:s<(bj k L).length) (hlt: ∀i,i<s→e i=true) (es:e s=false) (hG: ∀x∈m7 (bj k L) e s (bj k L).length,CvV x):Ok Tryz.prog 9 [.a (aV k),.c (.s L.length (ao aV L))] [.c (.s (((bp aX dh (m7 (bj k L) e s ((bj k L).length)))).length) (ao aC ((bp aX dh (m7 (bj k L) e s ((bj k L).length)))))),.c (.b false)]:=by
 have lN:(bj k L).length≤9*2:=BY lL (cg _)
 have hN:(bj k L).length≤100:=by omega
 have hMx:(bj k L).length≤9223372036854775807:=by omega
 have hfs:fz e (bj k L).length=s:=IC hlt es hs
 refine eo Tryz.func9 86 [.tmp 4,.tmp 5] rfl<|aa<|ag<|aa<|ag ?_
 refine ac rfl (WD hk h0 hL lL)<|aa<|ag ?_
 refine DL.mk<|pE (j9 (n:=(((((bj k L)).length:Nat):Int)).toNat) Zs rfl rfl (by omega) (by omega) rfl) rfl<|dZ ?_
 refine aa<|aa<|ag ?_
 refine aE ?_
 refine bn (ι:={n:Nat // n≤(bj k L).length}) (fun i=>⟨86,[(2,.p 2 0),(6,.v (.c (.s (((bj k L)).length) (ao aC ((bj k L)))))),(1,.v (.c (.s L.length (ao aV L)))),(7,.o 21 ((bj k L).length) ((bj k L).length)),(22,.v (.c (.s (((bj k L)).length) (ao aC ((bj k L)))))),(23,.v (.c (.i .i64 (((bj k L).length:Int))))),(24,.v (.c (.i .i64 (i.1:Int))))],[(2,40,aV k),(21,4,nO e ((bj k L).length) i.1++[])]⟩) (fun i=>(bj k L).length-i.1) ⟨0,eF _⟩ (ap ⟨rfl,rfl,rfl,rfl,rfl,rfl,rfl,trivial⟩ ⟨rfl,congrArg (fun q=>some (4,q)) Kg,trivial⟩ rfl) ?_
 rintro⟨n,h2⟩
 replace h2:n≤(bj k L).length:=h2
 dsimp only
 refine aa<|ag<|aa ?_
 refine aJ rfl (fun hc1=>?_) (fun hc1=>?_)
 ·have g1:n<(bj k L).length:=by have:=of_decide_eq_true hc1;omega
  obtain⟨gm,om⟩:=hm n g1
  refine aA<|aa<|aE<|aa<|ag<|ar (fl aX ai g1 gP rfl)<|ar (iK ai bO rfl)<|pu (cZ bO rfl rfl rfl (ai _) rfl rfl) ?_
  refine aa<|ag ?_
  refine ar (kV (ai _) bO rfl) ?_
  refine ac rfl (om) ?_
  refine kO (t:=10) (k:=10) rfl rfl<|bm<|bU 3 ?_
  refine aU (qR (us:=[.p (aj (m n))]) rfl rfl) ?_
  refine aU (cb rfl (fp (c:= !e n) (aaE hL lL gm) (by rw[he n g1])))<|bU 1<|aU (bo A6 rfl rfl (by omega) rfl) ?_
  refine gi (aY (us:=nO e ((bj k L).length) (n+1)++[]) lW rfl rfl rfl rfl (by rw[iZ,zj];omega) (by rw[Bool.not_not];exact FW g1) rfl) ?_
  refine bt<|ag<|ar (ca (by omega) rfl) ?_
  exact⟨⟨n+1,g1⟩,ap ⟨rfl,rfl,rfl,rfl,rfl,rfl,rfl,trivial⟩ ⟨rfl,rfl,trivial⟩ rfl,by show(bj k L).length-(n+1)<(bj k L).length-n;omega⟩
 ·have hp:n=(bj k L).length:=by have:=of_decide_eq_false hc1;omega
  refine lh (σ':=⟨86,[(2,.p 2 0),(6,.v (.c (.s (((bj k L)).length) (ao aC ((bj k L)))))),(7,.o 21 ((bj k L).length) ((bj k L).length))],[(2,40,aV k),(21,4,tE e ((bj k L).length)++[])]⟩) (ap ⟨rfl,rfl,rfl,trivial⟩ ⟨rfl,congrArg (fun q=>some (4,q++[])) (by rw[hp];exact DR),trivial⟩ rfl) ?_
  refine cB (t:=7) (m:=1) (us:=tE e ((bj k L).length)) rfl rfl (jw (n:=(bj k L).length) (by first|exact dN|exact am ai _|exact(am ai _).trans (by rw[fL])) (by first|assumption|simp) (by omega)) (by omega) (by assumption) (gn (by first|exact dN|exact am ai _|exact(am ai _).trans (by rw[fL]))) ?_
  refine bi<|aa<|aa<|ag<|ac rfl (aaK hN) ?_
  refine aJ rfl (fun hc2=>?_) (fun hc2=>?_)
  ·exact absurd hc2 (by rw[hfs];simp)
  ·refine aA<|aa<|ag<|ac rfl ((by have h9:=aaV (e:=e) hN;rw[hfs] at h9;exact h9)) ?_
   refine aa<|bm<|aU (eg rfl) ?_
   refine bt<|aa<|ag<|aa<|aa<|ag ?_
   refine aE ?_
   refine bn (ι:=Sum ({n:Nat // n≤(bj k L).length∧(m7 (bj k L) e s n)=[]}) ({x9:Nat×Nat×List CellD // x9.1≤(bj k L).length∧(m7 (bj k L) e s x9.1).length≤x9.2.1∧x9.2.1≤maxLen∧x9.2.2.length=(x9.2.1-(m7 (bj k L) e s x9.1).length)*66∧1≤(m7 (bj k L) e s x9.1).length})) (fun i=>match i with| .inl i=>⟨86,[(2,.p 2 0),(6,.v (.c (.s (((bj k L)).length) (ao aC ((bj k L)))))),(7,.v (.c (.s ((bj k L).length) (tE e ((bj k L).length))))),(11,.v (.c (.i .i64 (s:Int)))),(13,.v (.c (.b (e (s+i.1))))),(44,.v (.c (.s (((bj k L)).length) (ao aC ((bj k L)))))),(45,.v (.c (.i .i64 (((bj k L).length:Int))))),(46,.v (.c (.i .i64 (i.1:Int)))),(12,.z)],[(2,40,aV k)]⟩| .inr i=>⟨86,[(2,.p 2 0),(6,.v (.c (.s (((bj k L)).length) (ao aC ((bj k L)))))),(7,.v (.c (.s ((bj k L).length) (tE e ((bj k L).length))))),(11,.v (.c (.i .i64 (s:Int)))),(13,.v (.c (.b (e (s+i.1.1))))),(44,.v (.c (.s (((bj k L)).length) (ao aC ((bj k L)))))),(45,.v (.c (.i .i64 (((bj k L).length:Int))))),(46,.v (.c (.i .i64 (i.1.1:Int)))),(12,.o 62 ((m7 (bj k L) e s i.1.1).length) i.1.2.1)],[(2,40,aV k),(62,49,ao aC (m7 (bj k L) e s i.1.1)++i.1.2.2)]⟩) (fun i=>match i with| .inl i=>(bj k L).length-i.1| .inr i=>(bj k L).length-i.1.1) (.inl ⟨0,eF _,rfl⟩) (ap ⟨rfl,rfl,rfl,rfl,congrArg (fun q=>some (DV.v (.c (.b q)))) es.symm,rfl,rfl,rfl,rfl,trivial⟩ ⟨rfl,trivial⟩ rfl) ?_
   rintro(⟨n,i2,i3⟩|⟨⟨n,c9,rs⟩,i2,i3,i4,i5,i7⟩)
   ·replace i2:n≤(bj k L).length:=i2
    replace i3:(m7 (bj k L) e s n)=[]:=i3
    dsimp only
    refine aa<|ag<|aa ?_
    refine aJ rfl (fun hc3=>?_) (fun hc3=>?_)
    ·have g1:n<(bj k L).length:=by have:=of_decide_eq_true hc3;omega
     obtain⟨kx,hkx⟩: ∃x,x=(s+1+n)%(bj k L).length:=⟨_,rfl⟩
     have gk:kx<(bj k L).length:=hkx▸r7 _ hr.pos
     have ek:kx=(s+n+1)%(bj k L).length:=by rw[hkx,show s+1+n=s+n+1 from by omega]
     have em:e kx=e (s+n+1):=by rw[ek,hr.mod]
     refine aA<|aa<|aE<|aa<|ag<|aa<|ag<|ar (ca (by omega) rfl)<|ar (ci (((s+1+n:Nat):Int)) ((bh (by omega) (by omega)).trans (congrArg some (by omega))) rfl) ?_
     refine ar (gD (r:=(kx:Int)) rfl rfl (by omega) (by rw[hkx];exact(vT _ _).symm) rfl) ?_
     refine aE<|aa<|ag<|ar (bI (us:=[CellD.b (e kx)]++(tE e ((bj k L).length)).drop (kx+1)) A6 rfl rfl (by omega) (dN) (pP gk) rfl) ?_
     refine ar (b7 lW rfl rfl rfl) ?_
     refine aJ rfl (fun hc4=>?_) (fun hc4=>?_)
     ·have o1:e (s+n+1)=false:=by rw[←em];simpa using hc4
      refine ag<|ag<|ar (ca (by omega) rfl) ?_
      exact⟨.inl ⟨n+1,g1,(AM o1).trans i3⟩,ap ⟨rfl,rfl,rfl,rfl,congrArg (fun q=>some (DV.v (.c (.b q)))) (show e (s+n+1)=false from o1).symm,rfl,rfl,rfl,rfl,trivial⟩ ⟨rfl,trivial⟩ rfl,by show(bj k L).length-(n+1)<(bj k L).length-n;omega⟩
     ·have o1:e (s+n+1)=true:=by rw[←em];simpa using hc4
      refine aa<|ag ?_
      refine aJ rfl (fun hc5=>?_) (fun hc5=>?_)
      ·exact absurd hc5 (by rw[Tv es i3];decide)
      ·have o2:e (s+n)=false:=hc5
       refine ag<|ar (fl aX ai gk gP rfl)<|ar (iK ai bO rfl)<|ar (bV (n:=1) (us:=aC (((bj k L).getD kx aX))) lp rfl (vh rfl (ai _)) (d7 (ai _)) (by decide) (by decide) rfl) ?_
       refine DL.mk<|lq (ys:=aC (((bj k L).getD kx aX))) lp rfl rfl (d7 (ai _)) (by decide) (by decide) (by decide) rfl rfl (fun cg6 rg6 hga6 hgb6 hgc6=>dZ ?_)
       refine ag<|ar (ca (by omega) rfl) ?_
       exact⟨.inr ⟨⟨n+1,cg6,rg6⟩,g1,by show(m7 (bj k L) e s (n+1)).length≤cg6;rw[n7 o1 o2,i3,nE];exact hga6,hgb6,by show rg6.length=(cg6-(m7 (bj k L) e s (n+1)).length)*66;rw[n7 o1 o2,i3,nE];exact hgc6,by show 1≤(m7 (bj k L) e s (n+1)).length;rw[n7 o1 o2,i3,nE];exact cg _⟩,ap ⟨rfl,rfl,rfl,rfl,congrArg (fun q=>some (DV.v (.c (.b q)))) (show e (s+n+1)=true from o1).symm,rfl,rfl,rfl,congrArg (fun q=>some (DV.o 62 (List.length q) cg6)) (show[(bj k L).getD ((s+n+1)%(bj k L).length) aX]=(m7 (bj k L) e s (n+1)) from by rw[n7 o1 o2,i3,nE]),trivial⟩ ⟨rfl,congrArg (fun q=>some (49,q++rg6)) (show _=ao aC (m7 (bj k L) e s (n+1)) from by rw[n7 o1 o2,i3,nE,dW,ek]),trivial⟩ rfl,by show(bj k L).length-(n+1)<(bj k L).length-n;omega⟩
    ·have hp:n=(bj k L).length:=by have:=of_decide_eq_false hc3;omega
     refine bi<|aa<|vg (t:=12) rfl<|ag<|ac rfl (ab6)<|aa<|ag<|a7 ?_
     rw[show(m7 (bj k L) e s ((bj k L).length))=[] from hp▸i3]
     exact ah (az (az ae))
   ·dsimp only at i2 i3 i4 i5 i7
    have i6:(m7 (bj k L) e s n).length≤n:=Te
    dsimp only
    refine aa<|ag<|aa ?_
    refine aJ rfl (fun hc7=>?_) (fun hc7=>?_)
    ·have g1:n<(bj k L).length:=by have:=of_decide_eq_true hc7;omega
     obtain⟨kx,hkx⟩: ∃x,x=(s+1+n)%(bj k L).length:=⟨_,rfl⟩
     have gk:kx<(bj k L).length:=hkx▸r7 _ hr.pos
     have ek:kx=(s+n+1)%(bj k L).length:=by rw[hkx,show s+1+n=s+n+1 from by omega]
     have em:e kx=e (s+n+1):=by rw[ek,hr.mod]
     refine aA<|aa<|aE<|aa<|ag<|aa<|ag<|ar (ca (by omega) rfl)<|ar (ci (((s+1+n:Nat):Int)) ((bh (by omega) (by omega)).trans (congrArg some (by omega))) rfl) ?_
     refine ar (gD (r:=(kx:Int)) rfl rfl (by omega) (by rw[hkx];exact(vT _ _).symm) rfl) ?_
     refine aE<|aa<|ag<|ar (bI (us:=[CellD.b (e kx)]++(tE e ((bj k L).length)).drop (kx+1)) A6 rfl rfl (by omega) (dN) (pP gk) rfl) ?_
     refine ar (b7 lW rfl rfl rfl) ?_
     refine aJ rfl (fun hc8=>?_) (fun hc8=>?_)
     ·have o1:e (s+n+1)=false:=by rw[←em];simpa using hc8
      refine ag<|ag<|ar (ca (by omega) rfl) ?_
      exact⟨.inr ⟨⟨n+1,c9,rs⟩,g1,by show(m7 (bj k L) e s (n+1)).length≤c9;rw[AM o1];exact i3,i4,by show rs.length=(c9-(m7 (bj k L) e s (n+1)).length)*66;rw[AM o1];exact i5,by show 1≤(m7 (bj k L) e s (n+1)).length;rw[AM o1];exact i7⟩,ap ⟨rfl,rfl,rfl,rfl,congrArg (fun q=>some (DV.v (.c (.b q)))) (show e (s+n+1)=false from o1).symm,rfl,rfl,rfl,congrArg (fun q=>some (DV.o 62 (List.length q) c9)) (AM o1).symm,trivial⟩ ⟨rfl,congrArg (fun q=>some (49,ao aC q++rs)) (AM o1).symm,trivial⟩ rfl,by show(bj k L).length-(n+1)<(bj k L).length-n;omega⟩
     ·have o1:e (s+n+1)=true:=by rw[←em];simpa using hc8
      refine aa<|ag ?_
      refine aJ rfl (fun hc9=>?_) (fun hc9=>?_)
      ·have o2:e (s+n)=true:=hc9
       obtain⟨O,c,oe,oe2⟩:=RF (P:=bj k L) es o1 o2
       have lO:O.length+1≤n:=by have h8:=i6;rw[oe] at h8;simpa using h8
       have lO2:(O++[c]).length=O.length+1:=by simp
       refine lh (σ':=⟨86,[(2,.p 2 0),(6,.v (.c (.s (((bj k L)).length) (ao aC ((bj k L)))))),(7,.v (.c (.s ((bj k L).length) (tE e ((bj k L).length))))),(11,.v (.c (.i .i64 (s:Int)))),(13,.v (.c (.b (e (s+n))))),(44,.v (.c (.s (((bj k L)).length) (ao aC ((bj k L)))))),(45,.v (.c (.i .i64 (((bj k L).length:Int))))),(46,.v (.c (.i .i64 (n:Int)))),(15,.v (.c (.i .i64 (kx:Int)))),(12,.o 62 ((O++[c]).length) c9)],[(2,40,aV k),(62,49,ao aC (O++[c])++rs)]⟩) (ap ⟨rfl,rfl,rfl,rfl,rfl,rfl,rfl,rfl,rfl,congrArg (fun q=>some (DV.o 62 (List.length q) c9)) oe,trivial⟩ ⟨rfl,congrArg (fun q=>some (49,ao aC q++rs)) oe,trivial⟩ rfl) ?_
       refine ag<|ar (iq gP rfl rfl) ?_
       refine ar (ci ((O.length:Int)) ((bK (by simp only[dt,List.length_singleton];omega) (by simp only[dt,List.length_singleton];omega)).trans (congrArg some (by simp only[dt,List.length_singleton];omega))) rfl)<|ar (fl aX ai gk gP rfl)<|ar (qp AD rfl rfl rfl) ?_
       refine ar (ck bq rfl (yK _ _) (ak _) rfl) ?_
       refine ar (bo gP rfl rfl (by omega) rfl) ?_
       refine pu (aY (us:=ao aC (O++[c.ends c.p ((bj k L).getD kx aX).q])++rs) bq rfl rfl rfl (ak _) (by rw[dt,am ai];simp;omega) (Oj) rfl) ?_
       refine ag<|ar (ca (by omega) rfl) ?_
       exact⟨.inr ⟨⟨n+1,c9,rs⟩,g1,by show(m7 (bj k L) e s (n+1)).length≤c9;rw[oe2];rw[oe] at i3;simpa using i3,i4,by show rs.length=(c9-(m7 (bj k L) e s (n+1)).length)*66;rw[oe2];rw[oe] at i5;simpa using i5,by show 1≤(m7 (bj k L) e s (n+1)).length;rw[oe2];simp⟩,ap ⟨rfl,rfl,rfl,rfl,congrArg (fun q=>some (DV.v (.c (.b q)))) (o2.trans o1.symm),rfl,rfl,rfl,congrArg (fun q=>some (DV.o 62 q c9)) (by rw[oe2];simp),trivial⟩ ⟨rfl,congrArg (fun q=>some (49,ao aC q++rs)) (by rw[oe2,ek]),trivial⟩ rfl,by show(bj k L).length-(n+1)<(bj k L).length-n;omega⟩
      ·have o2:e (s+n)=false:=hc9
       refine ag<|ar (fl aX ai gk gP rfl)<|ar (iK ai bO rfl)<|ar (bV (n:=1) (us:=aC (((bj k L).getD kx aX))) lp rfl (vh rfl (ai _)) (d7 (ai _)) (by decide) (by decide) rfl) ?_
       refine DL.mk<|mh (us:=ao aC (m7 (bj k L) e s n)) (rest:=rs) (ys:=aC (((bj k L).getD kx aX))) lp rfl rfl rfl (by first|exact dN|exact am ai _|exact(am ai _).trans (by rw[fL])) (by assumption) (d7 (ai _)) (by decide) (by omega) (by assumption) (by omega) (iQ (by omega)) (.inl rfl) rfl (fun cg10 rg10 hga10 hgb10 hgc10=>dZ ?_)
       refine ag<|ar (ca (by omega) rfl) ?_
       exact⟨.inr ⟨⟨n+1,cg10,rg10⟩,g1,by show(m7 (bj k L) e s (n+1)).length≤cg10;rw[n7 o1 o2,dt];exact hga10,hgb10,by show rg10.length=(cg10-(m7 (bj k L) e s (n+1)).length)*66;rw[n7 o1 o2,dt];exact hgc10,by show 1≤(m7 (bj k L) e s (n+1)).length;rw[n7 o1 o2,dt];exact Nat.le_add_left 1 _⟩,ap ⟨rfl,rfl,rfl,rfl,congrArg (fun q=>some (DV.v (.c (.b q)))) (show e (s+n+1)=true from o1).symm,rfl,rfl,rfl,congrArg (fun q=>some (DV.o 62 q cg10)) (show _=(m7 (bj k L) e s (n+1)).length from by rw[n7 o1 o2,dt];rfl),trivial⟩ ⟨rfl,congrArg (fun q=>some (49,q++rg10)) (show _=ao aC (m7 (bj k L) e s (n+1)) from by rw[n7 o1 o2,dB,dW,ek]),trivial⟩ rfl,by show(bj k L).length-(n+1)<(bj k L).length-n;omega⟩
    ·have hp:n=(bj k L).length:=by have:=of_decide_eq_false hc7;omega
     have hl0:(m7 (bj k L) e s n).length≤12:=by have:=IA (P:=bj k L) (e:=e) (s:=s) (n:=(bj k L).length);rw[hp];omega
     have hGn: ∀x∈(m7 (bj k L) e s n),CvV x:=hp▸hG
     refine bi<|aa<|ag ?_
     refine DL.mk<|sO (kP rfl rfl rfl rfl rfl (adA i7 hl0 hGn) rfl)<|dZ ?_
     refine aa<|ag ?_
     refine cB (t:=4) (m:=66) (us:=ao aC (bp aX dh (m7 (bj k L) e s n))) rfl rfl (jw (n:=(m7 (bj k L) e s n).length) (by first|exact dN|exact am ai _|exact(am ai _).trans (by rw[fL])) (by first|assumption|simp) (by omega)) (by omega) (by assumption) (gn (by first|exact dN|exact am ai _|exact(am ai _).trans (by rw[fL]))) ?_
     refine a7 ?_
     rw[←hp,fL]
     exact ah (az (az ae))
structure Rn where
 x:Int
 y:Int
 q:Int
 d:Int
structure RnB (r:Rn):Prop where
 x0: -32768≤r.x
 x1:r.x≤32767
 y0: -32768≤r.y
 y1:r.y≤32767
 q0:0≤r.q
 q1:r.q≤65535
 d0:0≤r.d
 d1:r.d≤255
def Jo:Rn:=⟨0,0,0,0⟩
def uR (r:Rn):List CellD:=[.i .i16 r.x]++[.i .i16 r.y]++[.i .u16 r.q]++[.i .u8 r.d]
theorem yF (r:Rn):(uR r).length=4:=rfl
theorem Lr (r:Rn) (s:List CellD):(uR r++s).take 4=uR r:=List.take_left' rfl
def Cb (r:Rn):Ci:=⟨Rat.divInt r.x (r.d%8+1),Rat.divInt r.y (r.d%8+1),Rat.divInt (r.q+1) (r.d%8+1)⟩
theorem UU {r:Rn}(h:RnB r):0<(Cb r).q:=by
 have:=h.q0;have:=h.d0
 show 0<Rat.divInt (r.q+1) (r.d%8+1)
 have hd:((0:Int):Rat)<((r.d%8+1:Int):Rat):=iM.2 (by omega)
 have hn:((0:Int):Rat)<((r.q+1:Int):Rat):=iM.2 (by omega)
 rw[Bf]
 generalize ((r.d%8+1:Int):Rat)=x at*
 generalize ((r.q+1:Int):Rat)=y at*
 have h1:=O9 (x:=x) (by grind)
 rw[show y/x=y*(1/x) from by grind]
 exact kw (by grind) h1
theorem Qg {r:Rn}(h:RnB r):RK (Cb r):=by
 have:=h.x0;have:=h.x1;have:=h.y0;have:=h.y1;have:=h.q0;have:=h.q1;have:=h.d0
 have hd:(r.d%8+1).natAbs<2^16:=by omega
 exact⟨ED (by omega) hd (by omega),ED (by omega) hd (by omega),ED (by omega) (by omega) (by omega),UU h⟩
theorem adG {m:Pt}(h:n<L.length) (g:eO L m n=false):qg L m=false:=by
 cases ho:qg L m with
 |false=>rfl
 |true=>
  unfold qg at ho
  rw[kY] at ho
  have:=ho _ (bd (d:=dK) h)
  unfold eO at g
  rw[this] at g;cases g
theorem adR {m:Pt}(h: ∀i,i<L.length→eO L m i=true):qg L m=true:=by
 unfold qg
 rw[kY]
 intro d hd
 obtain⟨i,hi,rfl⟩:=List.getElem_of_mem hd
 have:=h i hi
 unfold eO at this
 simpa [List.getD,hi] using this
theorem LU {α β:Type}{d:α}{f:α→β}{l:List α}(h:n<l.length):(l.take (n+1)).map f=(l.take n).map f++[f (l.getD n d)]:=by
 rw[AO,oZ,eB (d:=d) h]
 rfl
theorem ac9 (hL: ∀d∈L,RK d) (lL:L.length≤4) {m:Pt}(hm:GB m):Ok Tryz.prog 55 [.a (aj m),.c (.s L.length (ao aV L))] [.c (.b (qg L m))]:=by
 refine bX Tryz.func55 rfl ?_
 refine DW.mk<|bn (ι:={n:Nat // n≤L.length∧ ∀i,i<n→eO L m i=true}) (fun i=>⟨19,[(1,.v (.c (.s L.length (ao aV L)))),(2,.p 2 0),(5,.v (.c (.i .i64 (i.1:Int))))],[(2,47,aj m)]⟩) (fun i=>L.length-i.1) ⟨0,eF _,fun i hi=>absurd hi (by omega)⟩ (ap ⟨rfl,rfl,rfl,trivial⟩ ⟨rfl,trivial⟩ rfl) ?_
 rintro⟨n,h2,h3⟩
 replace h2:n≤L.length:=h2
 replace h3: ∀i,i<n→eO L m i=true:=h3
 dsimp only
 refine nu ?_
 refine dk rfl (fun hc1=>?_) (fun hc1=>?_)
 ·have g1:n<L.length:=by have:=of_decide_eq_true hc1;omega
  refine cJ 7 []<|aq (fl dK dU g1 D3 rfl)<|aq (ck (us:=aV (L.getD n dK)) qK rfl (rA _ _) (dU _) rfl) ?_
  refine aK rfl (Rs (hL _ (bd g1)).k hm) ?_
  refine dk rfl (fun hc2=>?_) (fun hc2=>?_)
  ·have g2:eO L m n=false:=by have:=of_decide_eq_true hc2;unfold eO;rw[decide_eq_false (by omega)]
   refine ah ?_
   rw[adG g1 g2]
   exact az ae
  ·have g2:eO L m n=true:=by have:=of_decide_eq_false hc2;unfold eO;rw[decide_eq_true (by omega)]
   refine ar (ca (by omega) rfl) ?_
   exact⟨⟨n+1,g1,fun i hi=>(gO i n).elim (h3 i) fun q=>(show i=n by omega)▸g2⟩,ap ⟨rfl,rfl,rfl,trivial⟩ ⟨rfl,trivial⟩ rfl,by show L.length-(n+1)<L.length-n;omega⟩
 ·have hp:n=L.length:=by have:=of_decide_eq_false hc1;omega
  refine ah ?_
  rw[adR (hp▸h3)]
  exact az ae
theorem Td {r:Rn}(hr:RnB r):Ok Tryz.prog 10 [.a (([.i .i16 r.x]++[.i .i16 r.y]++[.i .u16 r.q]++[.i .u8 r.d]))] [.a (aV (Cb r))]:=by
 have q1:=hr.x0;have q2:=hr.x1;have q3:=hr.y0;have q4:=hr.y1;have q5:=hr.q0;have q6:=hr.q1;have q7:=hr.d0;have q8:=hr.d1
 refine bX Tryz.func10 rfl<|ar (gD (r:=r.d%8) rfl rfl (by omega) (by rw[qz q7]) rfl) ?_
 refine ar (bZ (r:=r.d%8) Yy Ag rfl (pK (by omega) (by omega)) rfl) ?_
 refine ar (ci ((r.d%8+1)) ((bh (by omega) (by omega)).trans (congrArg some (by omega))) rfl)<|cJ 17 [] ?_
 refine aq (bZ (r:=r.x) Wr Ag rfl (pK (by omega) (by omega)) rfl) ?_
 refine aK rfl (xe (by omega) (by omega) (by omega) (by omega) (by omega)) ?_
 refine aq (bZ (r:=r.y) Wr Ag rfl (pK (by omega) (by omega)) rfl) ?_
 refine aK rfl (xe (by omega) (by omega) (by omega) (by omega) (by omega)) ?_
 refine aq (bZ (r:=r.q) aay Ag rfl (pK (by omega) (by omega)) rfl) ?_
 refine aq (ci (r.q+1) ((bh (by omega) (by omega)).trans (congrArg some (by omega))) rfl)<|aK rfl (xe (by omega) (by omega) (by omega) (by omega) (by omega))<|aq (aG (us:=(cR (Rat.divInt r.x (r.d%8+1))++cR (Rat.divInt r.y (r.d%8+1))++cR (Rat.divInt (r.q+1) (r.d%8+1)))) Y3 VE rfl rfl rfl) ?_
 exact ah (aS qK rfl ae)
theorem adM:Ok Tryz.prog 11 [.c (.s 0 [])] [.c (.s 0 [])]:=by
 refine eo Tryz.func11 8 [.tmp 2] rfl<|aa<|ag<|aa<|aa<|bm<|bU 1 ?_
 refine yV D3 rfl rfl (fun bz1 hbz1=>?_)
 refine bt ?_
 refine aJ rfl (fun hc2=>?_) (fun hc2=>?_)
 ·refine aa<|ag<|a7 ?_
  exact ah (az ae)
 ·refine aA<|aa<|ag<|ar (kj Fr rfl) ?_
  refine ar (n8 Fr rfl rfl rfl) ?_
  refine VM (t:=2) rfl<|a7 ?_
  exact ah (az ae)
theorem adY (hl:0<L.length) (lL:L.length≤4):Ok Tryz.prog 11 [.c (.s L.length (ao aV L))] [.c (.s L.length (ao aV L))]:=by
 refine eo Tryz.func11 8 [.tmp 2] rfl<|aa<|ag<|aa<|aa<|bm<|bU 1 ?_
 refine yV D3 rfl rfl (fun bz1 hbz1=>?_)
 refine bt ?_
 refine aJ rfl (fun hc2=>?_) (fun hc2=>?_)
 ·exact absurd hc2 (by rw[hbz1 hl];decide)
 ·refine aA<|aa<|ag<|ar (kj Fr rfl) ?_
  refine DL.mk<|Et (q:=L.length) (ys:=ao aV L) (zs':=ao aV L) Fr rfl rfl (am dU _) (hl) (by omega) (iQ (by omega)) rfl (rfl) rfl (fun cg3 rg3 hga3 hgb3 hgc3=>dZ ?_)
  refine cB (t:=2) (m:=12) (us:=ao aV L) rfl rfl (jw (n:=L.length) (am dU _) (by assumption) (by omega)) (by omega) (by assumption) (gn (am dU _))<|a7 ?_
  exact ah (az ae)
theorem adQ (lL:L.length≤4):Ok Tryz.prog 11 [.c (.s L.length (ao aV L))] [.c (.s L.length (ao aV L))]:=by
 rcases jn L.length with h|h
 ·obtain rfl:=jQ.1 h
  exact adM
 ·exact adY h lL
theorem aa9 {W:List Rn}(hW: ∀r∈W,RnB r):Ok Tryz.prog 8 [.c (.s W.length (ao uR W)),.c (.i .i64 4)] [.c (.s ((((W.take 4).map Cb)).length) (ao aV (((W.take 4).map Cb)))),.c (.b (decide (W.length≤4)))]:=by
 refine eo Tryz.func8 32 [.tmp 4,.tmp 5] rfl<|aa<|ag<|aa<|bm<|aU (eg rfl) ?_
 refine bt<|aa<|aa<|ag<|aE ?_
 refine bn (ι:=Sum (Unit) ({x9:Nat×Nat×List CellD // 1≤x9.1∧x9.1≤W.length∧x9.1≤4∧x9.1≤x9.2.1∧x9.2.1≤maxLen∧x9.2.2.length=(x9.2.1-x9.1)*12})) (fun i=>match i with| .inl i=>⟨32,[(0,.v (.c (.s W.length (ao uR W)))),(1,.v (.c (.i .i64 4))),(6,.z),(7,.v (.c (.i .i64 0)))],[]⟩| .inr i=>⟨32,[(0,.v (.c (.s W.length (ao uR W)))),(1,.v (.c (.i .i64 4))),(7,.v (.c (.i .i64 (i.1.1:Int)))),(6,.o 26 i.1.1 i.1.2.1)],[(26,40,ao aV ((W.take i.1.1).map Cb)++i.1.2.2)]⟩) (fun i=>match i with| .inl i=>W.length-0| .inr i=>W.length-i.1.1) (.inl ()) (ap ⟨rfl,rfl,rfl,rfl,trivial⟩ trivial rfl) ?_
 rintro(⟨⟩|⟨⟨n,c9,rs⟩,h1,h2,h3,h4,h5,h6⟩)
 ·dsimp only
  refine aa<|aa<|ag ?_
  refine jU (bE rfl) (fun c1 hb1=>?_)
  cases c1
  ·have hW0:W=[]:=jQ.1 (by have:=of_decide_eq_false hb1;omega)
   refine bz rfl<|vg (t:=6) rfl<|bi<|aa<|bm<|bU 4<|aU (a8 (c:=decide (W.length≤4)) (fh rfl) (by rw[xE];simp;omega)) ?_
   refine ed<|a7 ?_
   subst hW0
   exact ah (az (az ae))
  ·have g1:0<W.length:=by have:=of_decide_eq_true hb1;omega
   have g2:0<4:=by first|decide|(have:=of_decide_eq_true {h2};omega)
   have hx:=hW _ (bd (d:=Jo) g1)
   refine dO rfl<|aA<|aa<|aE<|ag<|ar (fl Jo yF g1 aav rfl)<|ar (ck (us:=([.i .i16 ((W.getD 0 Jo).x)]++[.i .i16 ((W.getD 0 Jo).y)]++[.i .u16 ((W.getD 0 Jo).q)]++[.i .u8 ((W.getD 0 Jo).d)])) aaF rfl (Lr _ _) (yF _) rfl) ?_
   refine ac rfl (Td hx)<|ar (bV (n:=1) (us:=aV ((Cb (W.getD 0 Jo)))) Fr rfl rfl rfl (by decide) (by decide) rfl) ?_
   refine DL.mk<|lq (ys:=aV ((Cb (W.getD 0 Jo)))) Fr rfl rfl rfl (by decide) (by decide) (by decide) rfl rfl (fun cg2 rg2 hga2 hgb2 hgc2=>dZ ?_)
   refine ag<|ar (ju (r:=1) rfl rfl rfl rfl) ?_
   exact⟨.inr ⟨⟨0+1,cg2,rg2⟩,by omega,g1,by omega,hga2,hgb2,hgc2⟩,ap ⟨rfl,rfl,rfl,rfl,trivial⟩ ⟨congrArg (fun q=>some (40,q++rg2)) (show _=ao aV ((W.take (0+1)).map Cb) from by rw[LU g1];exact(dW _).symm),trivial⟩ rfl,by show W.length-(0+1)<W.length-0;omega⟩
 ·dsimp only at h1 h2 h3 h4 h5 h6
  dsimp only
  refine aa<|aa<|ag ?_
  refine jU (bE rfl) (fun c3 hb3=>?_)
  cases c3
  ·have hp:W.length≤n:=by have:=of_decide_eq_false hb3;omega
   refine bz rfl<|cB (t:=6) (m:=12) (us:=ao aV ((W.take n).map Cb)) rfl rfl (jw (n:=n) ((am dU _).trans (by rw[oN,dH,il h2])) (by assumption) (by omega)) (by omega) (by assumption) (gn ((am dU _).trans (by rw[oN,dH,il h2])))<|bi<|aa<|bm<|bU 4<|aU (a8 (c:=decide (W.length≤4)) (fh rfl) (by rw[xE];simp;omega)) ?_
   refine ed<|a7 ?_
   rw[show W.take 4=W.take n from(jm (by omega)).trans (jm hp).symm,oN,dH,il h2]
   exact ah (az (az ae))
  ·refine aJ rfl (fun hc4=>?_) (fun hc4=>?_)
   ·have g1:n<W.length:=by have:=of_decide_eq_true hb3;omega
    have g2:n<4:=by first|decide|(have:=of_decide_eq_true hc4;omega)
    have hx:=hW _ (bd (d:=Jo) g1)
    refine aA<|aa<|aE<|ag<|ar (fl Jo yF g1 aav rfl)<|ar (ck (us:=([.i .i16 ((W.getD n Jo).x)]++[.i .i16 ((W.getD n Jo).y)]++[.i .u16 ((W.getD n Jo).q)]++[.i .u8 ((W.getD n Jo).d)])) aaF rfl (Lr _ _) (yF _) rfl) ?_
    refine ac rfl (Td hx)<|ar (bV (n:=1) (us:=aV ((Cb (W.getD n Jo)))) Fr rfl rfl rfl (by decide) (by decide) rfl) ?_
    refine DL.mk<|mh (us:=ao aV ((W.take n).map Cb)) (rest:=rs) (ys:=aV ((Cb (W.getD n Jo)))) Fr rfl rfl rfl ((am dU _).trans (by rw[oN,dH,il h2])) (by assumption) rfl (by decide) (by omega) (by assumption) (by omega) (iQ (by omega)) (.inl rfl) rfl (fun cg5 rg5 hga5 hgb5 hgc5=>dZ ?_)
    refine ag<|ar (ca (by omega) rfl) ?_
    exact⟨.inr ⟨⟨n+1,cg5,rg5⟩,by omega,g1,by omega,by show n+1≤cg5;exact hga5,hgb5,hgc5⟩,ap ⟨rfl,rfl,rfl,rfl,trivial⟩ ⟨congrArg (fun q=>some (40,q++rg5)) (show _=ao aV ((W.take (n+1)).map Cb) from by rw[LU g1,dB,dW]),trivial⟩ rfl,by show W.length-(n+1)<W.length-n;omega⟩
   ·have hp:n=4:=by have:=of_decide_eq_false hc4;omega
    refine cB (t:=6) (m:=12) (us:=ao aV ((W.take n).map Cb)) rfl rfl (jw (n:=n) ((am dU _).trans (by rw[oN,dH,il h2])) (by assumption) (by omega)) (by omega) (by assumption) (gn ((am dU _).trans (by rw[oN,dH,il h2])))<|bi<|aa<|bm<|bU 4<|aU (a8 (c:=decide (W.length≤4)) (fh rfl) (by rw[xE];simp;omega)) ?_
    refine ed<|a7 ?_
    subst hp;rw[oN,dH,il h2]
    exact ah (az (az ae))
theorem YE (hl:GL l):Ok Tryz.prog 60 [.a (iI l)] [.c (.b (vLn l))]:=by
 refine bX Tryz.func60 rfl ?_
 refine ac rfl (kh (hl.a.m_)) ?_
 refine ar (bE rfl) ?_
 refine ac rfl (kh (hl.b.m_)) ?_
 refine ar (bE rfl) ?_
 refine ac rfl (kh (hl.c.m_)) ?_
 refine ar (bE rfl) ?_
 refine ac rfl (dm) ?_
 refine jU (bE rfl) (fun c1 hb1=>?_)
 cases c1
 ·refine ac rfl (dm)<|ah ?_
  rw[W6 hb1]
  exact az ae
 ·refine ah ?_
  rw[Wj hb1]
  exact az ae
theorem aao (hl:GL l):Ok Tryz.prog 60 [.a (iI l)] [.c (.b true)]:=fp (YE hl) (aca hl.n)
theorem Z1 (hk:GK k):Ok Tryz.prog 59 [.a (aV k)] [.c (.b (decide (aM k.q 0>0)))]:=by
 refine bX Tryz.func59 rfl ?_
 refine ac rfl (kh (hk.x.m_)) ?_
 refine ar (bE rfl) ?_
 refine ac rfl (kh (hk.y.m_)) ?_
 refine ar (bE rfl) ?_
 refine ac rfl (kh (hk.q.m_)) ?_
 refine ar (bE rfl) ?_
 refine ac rfl (dm) ?_
 exact ah (az ae)
theorem aal (hk:GK k) (h0:0<k.q):Ok Tryz.prog 59 [.a (aV k)] [.c (.b true)]:=fp (Z1 hk) (decide_eq_true (Aa.2 h0))
theorem Zy (vc:CvV (Cv.seg l f t)):Ok Tryz.prog 13 [.a (([.b false]++iI l++rQ++[.b false]++aj f++aj t))] [.c (.b true)]:=by
 have hl:=vc.g.1
 have hf:=vc.g.2.1
 have ht:=vc.g.2.2
 refine bX Tryz.func13 rfl ?_
 refine ar (cO (aj f) bq rfl (by kernel_rfl)) ?_
 refine ac rfl (fp (c:=true) (xh (hf.a1.m_) (hf.b1.m_) (hf.a2.m_) (hf.b2.m_) (hf.c.m_)) hf.v) ?_
 refine ar (bE rfl) ?_
 refine ar (cO (aj t) bq rfl (by kernel_rfl)) ?_
 refine ac rfl (fp (c:=true) (xh (ht.a1.m_) (ht.b1.m_) (ht.a2.m_) (ht.b2.m_) (ht.c.m_)) ht.v) ?_
 refine sb rfl ?_
 refine ar (gY lW rfl) ?_
 refine ar (bE rfl) ?_
 refine ar (bE rfl) ?_
 refine ar (gY lW rfl) ?_
 refine ar (bE rfl) ?_
 refine ar (gY lW rfl) ?_
 refine ar (bE rfl) ?_
 refine ar (cO (iI l) TX rfl (by kernel_rfl))<|ac rfl (aao hl)<|sb rfl<|ar (gE bO rfl) ?_
 refine ar (cO (aj f) bq rfl (by kernel_rfl)) ?_
 refine ac rfl (fp (c:=true) (Kt hl hf ht hf) vc.sp) ?_
 refine ar (bE rfl) ?_
 refine ar (gE bO rfl) ?_
 refine ar (cO (aj t) bq rfl (by kernel_rfl)) ?_
 refine ac rfl (fp (c:=true) (Kt hl hf ht ht) vc.sq) ?_
 refine ar (bE rfl) ?_
 refine ar (cO (aj f) bq rfl (by kernel_rfl)) ?_
 refine ar (cO (aj t) bq rfl (by kernel_rfl)) ?_
 refine ac rfl (fp (c:=false) (Hj hf ht) (beq_eq_false_iff_ne.2 vc.ne)) ?_
 exact ah (az ae)
theorem Yc {w:Bool}(vc:CvV (Cv.arc k w f t)):Ok Tryz.prog 13 [.a (([.b true]++nr++aV k++[.b w]++aj f++aj t))] [.c (.b true)]:=by
 have hk:=vc.g.1
 have hf:=vc.g.2.1
 have ht:=vc.g.2.2
 refine bX Tryz.func13 rfl ?_
 refine ar (cO (aj f) bq rfl (by kernel_rfl)) ?_
 refine ac rfl (fp (c:=true) (xh (hf.a1.m_) (hf.b1.m_) (hf.a2.m_) (hf.b2.m_) (hf.c.m_)) hf.v) ?_
 refine ar (bE rfl) ?_
 refine ar (cO (aj t) bq rfl (by kernel_rfl)) ?_
 refine ac rfl (fp (c:=true) (xh (ht.a1.m_) (ht.b1.m_) (ht.a2.m_) (ht.b2.m_) (ht.c.m_)) ht.v) ?_
 refine sb rfl ?_
 refine ar (gY lW rfl) ?_
 refine ar (bE rfl) ?_
 refine ar (cO (aV k) qK rfl (by kernel_rfl)) ?_
 refine ac rfl (aal hk vc.pos) ?_
 refine ar (bE rfl) ?_
 refine ar (gY lW rfl) ?_
 refine ar (bE rfl) ?_
 refine DL.mk<|wO (oI rfl)<|dZ ?_
 refine sb rfl<|ar (gE bO rfl) ?_
 refine ar (cO (aj f) bq rfl (by kernel_rfl)) ?_
 refine ac rfl (fp (c:=true) (Ke hk hf ht hf) vc.sp) ?_
 refine ar (bE rfl) ?_
 refine ar (gE bO rfl) ?_
 refine ar (cO (aj t) bq rfl (by kernel_rfl)) ?_
 refine ac rfl (fp (c:=true) (Ke hk hf ht ht) vc.sq) ?_
 refine ar (bE rfl) ?_
 refine ar (cO (aj f) bq rfl (by kernel_rfl)) ?_
 refine ar (cO (aj t) bq rfl (by kernel_rfl)) ?_
 refine ac rfl (fp (c:=false) (Hj hf ht) (beq_eq_false_iff_ne.2 vc.ne)) ?_
 exact ah (az ae)
theorem acO (vc:CvV c):Ok Tryz.prog 13 [.a (aC c)] [.c (.b true)]:=by
 cases c with
 |seg l f t=>exact Zy vc
 |arc k w f t=>exact Yc vc
end Go.Proofs.YtegpmhlfjkhjmaaGreat
