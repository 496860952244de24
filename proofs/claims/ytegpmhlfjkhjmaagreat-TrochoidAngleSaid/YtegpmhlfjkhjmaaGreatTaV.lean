/-Plain:the points at which the circle is divided,its pieces. -/
import Derived.Test.YtegpmhlfjkhjmaaGreatTaU
import Derived.Laws.StructEq
namespace Go.Proofs.YtegpmhlfjkhjmaaGreat
open Go Go.RowKit
variable {r:Bool}{k:Ci}{a a1 a2 b s t u x' y':Int}{rs us ws:List CellD}{L:List Ci}{O P:List Cv}{N d i j n:Nat}{e:Nat→Bool}{m:Nat→Pt}{f p q:Pt}{c:Rat}{pos:String}{ty xt yt:TypeId}{w:World}
variable {af:Array Edge}{g:Option (Nat×Bool)}{dst:Option Nat}
theorem iI:type_of% @Rz.num:=@Rz.num
theorem vz:type_of% @List.mem_flatMap:=@List.mem_flatMap
theorem AC:type_of% @Bool.or_eq_false_iff:=@Bool.or_eq_false_iff
theorem pe {α:Type}{d:α}{f:α→Bool}{l:List α}(h:j<l.length) (g:f (l.getD j d)=true):(l.take (j+1)).filter f=(l.take j).filter f++[l.getD j d]:=by
 rw[List.take_add_one,Ba,kV (d:=d) h]
 show _++List.filter f [l.getD j d]=_
 rw[List.filter_cons_of_pos g];rfl
theorem xQ {α:Type}{d:α}{f:α→Bool}{l:List α}(h:j<l.length) (g:f (l.getD j d)=false):(l.take (j+1)).filter f=(l.take j).filter f:=by
 rw[List.take_add_one,Ba,kV (d:=d) h]
 show _++List.filter f [l.getD j d]=_
 rw[List.filter_cons_of_neg (by rw[g];decide)]
 exact m9 _
theorem nU {α β:Type}{d:α}{f:α→List β}{l:List α}(h:n<l.length):(l.take (n+1)).flatMap f=(l.take n).flatMap f++f (l.getD n d):=by
 rw[List.take_add_one,List.flatMap_append,kV (d:=d) h]
 show _++List.flatMap f [l.getD n d]=_
 rw[List.flatMap_cons,List.flatMap_nil,m9]
def a9 (k:Ci) (L:List Ci):List Pt:=L.flatMap (iZ k)
def j8 (k:Ci) (L:List Ci) (c:Cv):List Pt:=(a9 k L).filter c.on
def jp (k:Ci) (L:List Ci) (c:Cv):List Cv:=uj c (jG c (j8 k L c))
def aR (k:Ci) (L:List Ci):List Cv:=(bz k).flatMap (jp k L)
def xE (k:Ci) (L:List Ci) (n:Nat):List Cv:=((bz k).take n).flatMap (jp k L)
theorem xB {k:Ci}: ∀ {L:List Ci},(a9 k L).length≤2*L.length
 |[]=>ck _
 |d::L=>by
  have h:=xB (k:=k) (L:=L)
  have h2:=DT (k:=k) (d:=d)
  unfold a9 at h⊢
  rw[List.flatMap_cons,d6,A9]
  omega
section
variable {k:Ci}{L:List Ci}(hk:RK k) (hL: ∀d∈L,RK d) (lL:L.length≤4)
include hk hL
theorem H3: ∀p∈a9 k L,GP p:=fun p hp=>by
 obtain⟨d,hd,h⟩:=vz.1 hp
 exact z7 hk (hL d hd) p h
end
theorem Ol:(a9 k (L.take n)).length≤2*n:=
 nF xB (by rw[gX];omega)
theorem zL {c:Cv}(lL:L.length≤4):(jp k L c).length≤9:=by
 have h1:(jp k L c).length=(jG c (j8 k L c)).length+1:=zI _ _
 have h2:(jG c (j8 k L c)).length≤(bO (bp dPt (bL c) (j8 k L c)) (j8 k L c).length).length:=sC _ _
 have h3:=y9 (S:=bp dPt (bL c) (j8 k L c)) (n:=(j8 k L c).length)
 have h4:(j8 k L c).length≤(a9 k L).length:=sC _ _
 have h5:=xB (k:=k) (L:=L)
 omega
theorem vn {c:Cv}:0<(jp k L c).length:=by
 have h1:(jp k L c).length=(jG c (j8 k L c)).length+1:=zI _ _
 omega
theorem Jm: ∀c∈bz k,c.isArc=true:=fun c hc=>by
 rcases d8.1 hc with rfl|hc
 ·rfl
 ·rw[nC.1 hc];rfl
theorem Z2 (hk:GK k) (h0:0<k.q): ∀c∈bz k,CvV c:=fun c hc=>by
 rcases d8.1 hc with rfl|hc
 ·exact Ll hk h0
 ·rw[nC.1 hc];exact MX hk h0
theorem BP (lL:L.length≤4) (hn:n≤2):(xE k L n).length≤9*n:=by
 have hA:=zL (k:=k) (c:=.arc k false (mi k) (lX k)) lL
 have hB:=zL (k:=k) (c:=.arc k false (lX k) (mi k)) lL
 match n,hn with
 |0,_=>exact ck _
 |1,_=>
  show(jp k L (.arc k false (mi k) (lX k))++[]).length≤9
  rw[m9];exact hA
 |2,_=>
  show(jp k L (.arc k false (mi k) (lX k))++(jp k L (.arc k false (lX k) (mi k))++[])).length≤18
  rw[m9,d6];omega
theorem TE:xE k L 2=aR k L:=rfl
theorem WH (hk:RK k) (h0:0<k.q) (hL: ∀d∈L,RK d) (lL:L.length≤4):Ok Tryz.prog 42 [.a (bT k),.c (.s L.length (aW bT L))] [.c (.s (((aR k L)).length) (aW aZ ((aR k L))))]:=by
 have hF:=Z2 hk.k h0
 have hC:=H3 hk hL
 have lC:(a9 k L).length≤2*L.length:=xB
 have ex1:jp k L ((bz k).getD 0 bY)=xE k L 1:=(m9 _).symm
 refine eo Tryz.func42 68 [.tmp 4] rfl<|ae<|ah<|ae<|bq<|aO (fE rfl) ?_
 refine bt ?_
 refine pr (ι:=Unit) (fun i=>⟨68,[(2,.p 2 0),(5,.v (.c (.s ((a9 k L).length) (aW aw (a9 k L)))))],[(2,40,bT k)]⟩) ?_ ?_
 ·refine ae<|ah ?_
  refine aG ?_
  refine bv (ι:=Sum ({n:Nat // n≤L.length∧(a9 k (L.take n))=[]}) ({x9:Nat×Nat×List CellD // x9.1≤L.length∧(a9 k (L.take x9.1)).length≤x9.2.1∧x9.2.1≤maxLen∧x9.2.2.length=(x9.2.1-(a9 k (L.take x9.1)).length)*20})) (fun i=>match i with| .inl i=>⟨68,[(2,.p 2 0),(18,.v (.c (.s L.length (aW bT L)))),(19,.v (.c (.i .i64 (L.length:Int)))),(20,.v (.c (.i .i64 (i.1:Int)))),(5,.z)],[(2,40,bT k)]⟩| .inr i=>⟨68,[(2,.p 2 0),(18,.v (.c (.s L.length (aW bT L)))),(19,.v (.c (.i .i64 (L.length:Int)))),(20,.v (.c (.i .i64 (i.1.1:Int)))),(5,.o 32 ((a9 k (L.take i.1.1)).length) i.1.2.1)],[(2,40,bT k),(32,47,aW aw (a9 k (L.take i.1.1))++i.1.2.2)]⟩) (fun i=>match i with| .inl i=>L.length-i.1| .inr i=>L.length-i.1.1) (.inl ⟨0,iW _,rfl⟩) (ap (bo rfl) ⟨rfl,trivial⟩ rfl) ?_
  rintro(⟨n,h2,h3⟩|⟨⟨n,c9,rs⟩,h2,h3,h4,h5⟩)
  ·replace h2:n≤L.length:=h2
   replace h3:(a9 k (L.take n))=[]:=h3
   dsimp only
   refine ae<|ah<|ae ?_
   refine aP rfl (fun hc1=>?_) (fun hc1=>?_)
   ·have g1:n<L.length:=by have:=of_decide_eq_true hc1;omega
    have hd:=hL _ (bX (d:=dK) g1)
    have hm2:=DT (k:=k) (d:=L.getD n dK)
    refine aA<|ae<|aG<|ae<|ah<|ar (vf dK mV g1 ZG rfl)<|ar (dM (us:=bT (L.getD n dK)) AX rfl (Gq _ _) (mV _) rfl) ?_
    refine ae<|ah ?_
    refine ac rfl (WA hk.k hd.k) ?_
    rcases li (iZ k (L.getD n dK)).length with e0|e0
    ·refine ah<|ar (D7 kj rfl rfl e0 rfl) ?_
     refine ah<|ar (dZ (by omega) rfl) ?_
     exact⟨.inl ⟨n+1,g1,by show a9 k (L.take (n+1))=[];rw[(show a9 k (L.take (n+1))=a9 k (L.take n)++iZ k (L.getD n dK) from nU g1),h3,nJ.1 e0];rfl⟩,ap (bo rfl) ⟨rfl,trivial⟩ rfl,by show L.length-(n+1)<L.length-n;omega⟩
    ·refine ah ?_
     refine DL.mk<|EP (q:=(iZ k (L.getD n dK)).length) (ys:=aW aw (iZ k (L.getD n dK))) (zs':=aW aw (iZ k (L.getD n dK))) kj rfl rfl (a7 bi _) (e0) (by omega) (oD (by omega)) rfl (rfl) rfl (fun cg2 rg2 hga2 hgb2 hgc2=>fa ?_)
     refine ah<|ar (dZ (by omega) rfl) ?_
     exact⟨.inr ⟨⟨n+1,cg2,rg2⟩,g1,by show(a9 k (L.take (n+1))).length≤cg2;rw[(show a9 k (L.take (n+1))=a9 k (L.take n)++iZ k (L.getD n dK) from nU g1),h3,tF];exact hga2,hgb2,by show rg2.length=(cg2-(a9 k (L.take (n+1))).length)*20;rw[(show a9 k (L.take (n+1))=a9 k (L.take n)++iZ k (L.getD n dK) from nU g1),h3,tF];exact hgc2⟩,ap ⟨rfl,rfl,rfl,rfl,congrArg (fun q=>some (DV.o 32 (List.length q) cg2)) (by rw[(show a9 k (L.take (n+1))=a9 k (L.take n)++iZ k (L.getD n dK) from nU g1),h3];rfl),trivial⟩ ⟨rfl,congrArg (fun q=>some (47,aW aw q++rg2)) (by rw[(show a9 k (L.take (n+1))=a9 k (L.take n)++iZ k (L.getD n dK) from nU g1),h3];rfl),trivial⟩ rfl,by show L.length-(n+1)<L.length-n;omega⟩
   ·have hp:n=L.length:=by have:=of_decide_eq_false hc1;omega
    refine C2 (t:=5) rfl<|bV ?_
    exact⟨(),ap ⟨rfl,congrArg (fun q:List Pt=>some (DV.v (.c (.s q.length (aW aw q))))) (h3.symm.trans (by rw[hp,qh])),trivial⟩ ⟨rfl,trivial⟩ rfl⟩
  ·dsimp only at h2 h3 h4 h5
   have h6:(a9 k (L.take n)).length≤2*n:=Ol
   dsimp only
   refine ae<|ah<|ae ?_
   refine aP rfl (fun hc3=>?_) (fun hc3=>?_)
   ·have g1:n<L.length:=by have:=of_decide_eq_true hc3;omega
    have hd:=hL _ (bX (d:=dK) g1)
    have hm2:=DT (k:=k) (d:=L.getD n dK)
    refine aA<|ae<|aG<|ae<|ah<|ar (vf dK mV g1 ZG rfl)<|ar (dM (us:=bT (L.getD n dK)) AX rfl (Gq _ _) (mV _) rfl) ?_
    refine ae<|ah ?_
    refine ac rfl (WA hk.k hd.k)<|ah ?_
    refine DL.mk<|Hr (n:=(a9 k (L.take n)).length) (c:=c9) (q:=(iZ k (L.getD n dK)).length) (us:=aW aw (a9 k (L.take n))) (rest:=rs) (N':=(a9 k (L.take n)).length+(iZ k (L.getD n dK)).length) (zs':=aW aw (a9 k (L.take n))++aW aw (iZ k (L.getD n dK))) kj rfl rfl rfl (rfl) (a7 bi _) (h5) (a7 bi _) (by decide) (by omega) (by assumption) (by omega) (oD (by omega)) (.inl rfl) (rfl) (rfl) rfl (fun cg4 rg4 hga4 hgb4 hgc4=>fa ?_)
    refine ah<|ar (dZ (by omega) rfl) ?_
    exact⟨.inr ⟨⟨n+1,cg4,rg4⟩,g1,by show(a9 k (L.take (n+1))).length≤cg4;rw[(show a9 k (L.take (n+1))=a9 k (L.take n)++iZ k (L.getD n dK) from nU g1),d6];exact hga4,hgb4,by show rg4.length=(cg4-(a9 k (L.take (n+1))).length)*20;rw[(show a9 k (L.take (n+1))=a9 k (L.take n)++iZ k (L.getD n dK) from nU g1),d6];exact hgc4⟩,ap ⟨rfl,rfl,rfl,rfl,congrArg (fun q=>some (DV.o 32 q cg4)) (by rw[(show a9 k (L.take (n+1))=a9 k (L.take n)++iZ k (L.getD n dK) from nU g1),d6]),trivial⟩ ⟨rfl,congrArg (fun q=>some (47,q++rg4)) (by rw[(show a9 k (L.take (n+1))=a9 k (L.take n)++iZ k (L.getD n dK) from nU g1),ii]),trivial⟩ rfl,by show L.length-(n+1)<L.length-n;omega⟩
   ·have hp:n=L.length:=by have:=of_decide_eq_false hc3;omega
    refine d7 (t:=5) (m:=20) (us:=aW aw (a9 k (L.take n))) rfl rfl (pf (n:=(a9 k (L.take n)).length) (by first|exact a7 bi _|exact a7 ao _) (by assumption) (by omega)) (by omega) (by assumption) (lq (by first|exact a7 bi _|exact a7 ao _)) ?_
    refine bV ?_
    exact⟨(),ap ⟨rfl,congrArg (fun q:List Pt=>some (DV.v (.c (.s q.length (aW aw q))))) (by rw[hp,qh]),trivial⟩ ⟨rfl,trivial⟩ rfl⟩
 ·rintro⟨⟩
  try dsimp only
  refine ae<|bq<|aO (fE rfl) ?_
  refine bt<|ae<|ae<|ah ?_
  refine ac rfl (Yg hk.k h0) ?_
  refine aG ?_
  refine zQ (ι:={x9:Nat×Nat×List CellD // 1≤x9.1∧x9.1≤2∧(xE k L x9.1).length≤x9.2.1∧x9.2.1≤maxLen∧x9.2.2.length=(x9.2.1-(xE k L x9.1).length)*66}) (fun i=>⟨68,[(2,.p 2 0),(5,.v (.c (.s ((a9 k L).length) (aW aw (a9 k L))))),(35,.v (.c (.s (((bz k)).length) (aW aZ ((bz k)))))),(36,.v (.c (.i .i64 2))),(37,.v (.c (.i .i64 (i.1.1:Int)))),(10,.o 65 ((xE k L i.1.1).length) i.1.2.1)],[(2,40,bT k),(65,49,aW aZ (xE k L i.1.1)++i.1.2.2)]⟩) (fun i=>2-i.1.1) (3) ?_ ?_
  ·refine ae<|ah<|ae ?_
   refine aP rfl (fun hc5=>?_) (fun hc5=>?_)
   ·have g1:0<(bz k).length:=by show 0<2;omega
    have g9:0<2:=g1
    have vc:CvV ((bz k).getD 0 bY):=hF _ (bX g1)
    have ha:Cv.isArc ((bz k).getD 0 bY)=true:=Jm _ (bX g1)
    have hE:=zL (k:=k) (c:=((bz k).getD 0 bY)) lL
    have hE0:=vn (k:=k) (L:=L) (c:=((bz k).getD 0 bY))
    refine aA<|ae<|aG<|ae<|ah<|ar (vf bY ao g1 qN rfl)<|ar (ve ao cG rfl)<|r9 (dN cG rfl rfl rfl (ao _) rfl rfl) ?_
    refine ae<|bq<|aO (fE rfl) ?_
    refine bt ?_
    refine pr (ι:=Unit) (fun i=>⟨68,[(2,.p 2 0),(5,.v (.c (.s ((a9 k L).length) (aW aw (a9 k L))))),(35,.v (.c (.s (((bz k)).length) (aW aZ ((bz k)))))),(36,.v (.c (.i .i64 2))),(37,.v (.c (.i .i64 0))),(12,.p 12 0),(10,.z),(13,.v (.c (.s (((j8 k L ((bz k).getD 0 bY))).length) (aW aw ((j8 k L ((bz k).getD 0 bY)))))))],[(2,40,bT k),(12,49,aZ (((bz k).getD 0 bY)))]⟩) ?_ ?_
    ·refine ae<|ah ?_
     refine aG ?_
     refine bv (ι:=Sum ({j:Nat // j≤(a9 k L).length∧(((a9 k L).take j).filter ((bz k).getD 0 bY).on)=[]}) ({x9:Nat×Nat×List CellD // x9.1≤(a9 k L).length∧(((a9 k L).take x9.1).filter ((bz k).getD 0 bY).on).length≤x9.2.1∧x9.2.1≤maxLen∧x9.2.2.length=(x9.2.1-(((a9 k L).take x9.1).filter ((bz k).getD 0 bY).on).length)*20})) (fun i=>match i with| .inl i=>⟨68,[(2,.p 2 0),(5,.v (.c (.s ((a9 k L).length) (aW aw (a9 k L))))),(35,.v (.c (.s (((bz k)).length) (aW aZ ((bz k)))))),(36,.v (.c (.i .i64 2))),(37,.v (.c (.i .i64 0))),(12,.p 12 0),(10,.z),(41,.v (.c (.s ((a9 k L).length) (aW aw (a9 k L))))),(42,.v (.c (.i .i64 (((a9 k L).length:Int))))),(43,.v (.c (.i .i64 (i.1:Int)))),(13,.z)],[(2,40,bT k),(12,49,aZ (((bz k).getD 0 bY)))]⟩| .inr i=>⟨68,[(2,.p 2 0),(5,.v (.c (.s ((a9 k L).length) (aW aw (a9 k L))))),(35,.v (.c (.s (((bz k)).length) (aW aZ ((bz k)))))),(36,.v (.c (.i .i64 2))),(37,.v (.c (.i .i64 0))),(12,.p 12 0),(10,.z),(41,.v (.c (.s ((a9 k L).length) (aW aw (a9 k L))))),(42,.v (.c (.i .i64 (((a9 k L).length:Int))))),(43,.v (.c (.i .i64 (i.1.1:Int)))),(13,.o 53 ((((a9 k L).take i.1.1).filter ((bz k).getD 0 bY).on).length) i.1.2.1)],[(2,40,bT k),(12,49,aZ (((bz k).getD 0 bY))),(53,47,aW aw (((a9 k L).take i.1.1).filter ((bz k).getD 0 bY).on)++i.1.2.2)]⟩) (fun i=>match i with| .inl i=>(a9 k L).length-i.1| .inr i=>(a9 k L).length-i.1.1) (.inl ⟨0,iW _,rfl⟩) (ap (bo rfl) (bo rfl) rfl) ?_
     rintro(⟨j,i2,i3⟩|⟨⟨j,c8,rt⟩,i2,i3,i4,i5⟩)
     ·replace i2:j≤(a9 k L).length:=i2
      replace i3:(((a9 k L).take j).filter ((bz k).getD 0 bY).on)=[]:=i3
      dsimp only
      refine ae<|ah<|ae ?_
      refine aP rfl (fun hc6=>?_) (fun hc6=>?_)
      ·have g2:j<(a9 k L).length:=by have:=of_decide_eq_true hc6;omega
       have hx:=hC _ (bX (d:=dPt) g2)
       refine aA<|ae<|aG<|ae<|ah<|ar (vf dPt bi g2 f7 rfl)<|ar (ve bi cn rfl)<|ae<|ah ?_
       refine ar (pM (ao _) cG rfl) ?_
       refine ac rfl (Io vc ha hx) ?_
       refine aP rfl (fun hc7=>?_) (fun hc7=>?_)
       ·have g3:((bz k).getD 0 bY).on ((a9 k L).getD j dPt)=true:=hc7
        refine ah ?_
        refine ar (bW (n:=1) (us:=aw ((((a9 k L).getD j dPt)))) kj rfl rfl rfl (by decide) (by decide) rfl) ?_
        refine DL.mk<|lv (ys:=aw ((((a9 k L).getD j dPt)))) kj rfl rfl rfl (by decide) (by decide) (by decide) rfl rfl (fun cg8 rg8 hga8 hgb8 hgc8=>fa ?_)
        refine ah<|ar (dZ (by omega) rfl) ?_
        exact⟨.inr ⟨⟨j+1,cg8,rg8⟩,g2,by show(((a9 k L).take (j+1)).filter ((bz k).getD 0 bY).on).length≤cg8;rw[pe g2 g3,i3];exact hga8,hgb8,by show rg8.length=(cg8-(((a9 k L).take (j+1)).filter ((bz k).getD 0 bY).on).length)*20;rw[pe g2 g3,i3];exact hgc8⟩,ap ⟨rfl,rfl,rfl,rfl,rfl,rfl,rfl,rfl,rfl,rfl,congrArg (fun q=>some (DV.o 53 q cg8)) (by rw[pe g2 g3,i3];rfl),trivial⟩ ⟨rfl,rfl,congrArg (fun q=>some (47,q++rg8)) (by rw[pe g2 g3,i3,tF,iH]),trivial⟩ rfl,by show(a9 k L).length-(j+1)<(a9 k L).length-j;omega⟩
       ·have g3:((bz k).getD 0 bY).on ((a9 k L).getD j dPt)=false:=hc7
        refine aA<|ah<|ar (dZ (by omega) rfl) ?_
        exact⟨.inl ⟨j+1,g2,by rw[xQ g2 g3];exact i3⟩,ap (bo rfl) (bo rfl) rfl,by show(a9 k L).length-(j+1)<(a9 k L).length-j;omega⟩
      ·have hj:j=(a9 k L).length:=by have:=of_decide_eq_false hc6;omega
       refine C2 (t:=13) rfl<|bV ?_
       exact⟨(),ap ⟨rfl,rfl,rfl,rfl,rfl,rfl,rfl,congrArg (fun q:List Pt=>some (DV.v (.c (.s q.length (aW aw q))))) (i3.symm.trans (show(j8 k L ((bz k).getD 0 bY))=((a9 k L).take j).filter ((bz k).getD 0 bY).on by rw[hj,qh];rfl).symm),trivial⟩ (bo rfl) rfl⟩
     ·dsimp only at i2 i3 i4 i5
      have i6:(((a9 k L).take j).filter ((bz k).getD 0 bY).on).length≤8:=nF (sC _ _) (by rw[gX];omega)
      dsimp only
      refine ae<|ah<|ae ?_
      refine aP rfl (fun hc9=>?_) (fun hc9=>?_)
      ·have g2:j<(a9 k L).length:=by have:=of_decide_eq_true hc9;omega
       have hx:=hC _ (bX (d:=dPt) g2)
       refine aA<|ae<|aG<|ae<|ah<|ar (vf dPt bi g2 f7 rfl)<|ar (ve bi cn rfl)<|ae<|ah ?_
       refine ar (pM (ao _) cG rfl) ?_
       refine ac rfl (Io vc ha hx) ?_
       refine aP rfl (fun hc10=>?_) (fun hc10=>?_)
       ·have g3:((bz k).getD 0 bY).on ((a9 k L).getD j dPt)=true:=hc10
        refine ah ?_
        refine ar (bW (n:=1) (us:=aw ((((a9 k L).getD j dPt)))) kj rfl rfl rfl (by decide) (by decide) rfl) ?_
        refine DL.mk<|kQ (us:=aW aw (((a9 k L).take j).filter ((bz k).getD 0 bY).on)) (rest:=rt) (ys:=aw ((((a9 k L).getD j dPt)))) kj rfl rfl rfl (by first|exact a7 bi _|exact a7 ao _) (by assumption) rfl (by decide) (by omega) (by assumption) (by omega) (oD (by omega)) (.inl rfl) rfl (fun cg11 rg11 hga11 hgb11 hgc11=>fa ?_)
        refine ah<|ar (dZ (by omega) rfl) ?_
        exact⟨.inr ⟨⟨j+1,cg11,rg11⟩,g2,by show(((a9 k L).take (j+1)).filter ((bz k).getD 0 bY).on).length≤cg11;rw[pe g2 g3,d6];exact hga11,hgb11,by show rg11.length=(cg11-(((a9 k L).take (j+1)).filter ((bz k).getD 0 bY).on).length)*20;rw[pe g2 g3,d6];exact hgc11⟩,ap ⟨rfl,rfl,rfl,rfl,rfl,rfl,rfl,rfl,rfl,rfl,congrArg (fun q=>some (DV.o 53 q cg11)) (by rw[pe g2 g3,d6];rfl),trivial⟩ ⟨rfl,rfl,congrArg (fun q=>some (47,q++rg11)) (by rw[pe g2 g3,ii,iH]),trivial⟩ rfl,by show(a9 k L).length-(j+1)<(a9 k L).length-j;omega⟩
       ·have g3:((bz k).getD 0 bY).on ((a9 k L).getD j dPt)=false:=hc10
        refine aA<|ah<|ar (dZ (by omega) rfl) ?_
        exact⟨.inr ⟨⟨j+1,c8,rt⟩,g2,by show(((a9 k L).take (j+1)).filter ((bz k).getD 0 bY).on).length≤c8;rw[xQ g2 g3];exact i3,i4,by show rt.length=(c8-(((a9 k L).take (j+1)).filter ((bz k).getD 0 bY).on).length)*20;rw[xQ g2 g3];exact i5⟩,ap ⟨rfl,rfl,rfl,rfl,rfl,rfl,rfl,rfl,rfl,rfl,congrArg (fun q=>some (DV.o 53 (List.length q) c8)) (xQ g2 g3).symm,trivial⟩ ⟨rfl,rfl,congrArg (fun q=>some (47,aW aw q++rt)) (xQ g2 g3).symm,trivial⟩ rfl,by show(a9 k L).length-(j+1)<(a9 k L).length-j;omega⟩
      ·have hj:j=(a9 k L).length:=by have:=of_decide_eq_false hc9;omega
       refine d7 (t:=13) (m:=20) (us:=aW aw (((a9 k L).take j).filter ((bz k).getD 0 bY).on)) rfl rfl (pf (n:=(((a9 k L).take j).filter ((bz k).getD 0 bY).on).length) (by first|exact a7 bi _|exact a7 ao _) (by assumption) (by omega)) (by omega) (by assumption) (lq (by first|exact a7 bi _|exact a7 ao _)) ?_
       refine bV ?_
       exact⟨(),ap ⟨rfl,rfl,rfl,rfl,rfl,rfl,rfl,congrArg (fun q:List Pt=>some (DV.v (.c (.s q.length (aW aw q))))) ((show(j8 k L ((bz k).getD 0 bY))=((a9 k L).take j).filter ((bz k).getD 0 bY).on by rw[hj,qh];rfl).symm),trivial⟩ (bo rfl) rfl⟩
    ·rintro⟨⟩
     try dsimp only
     refine ae<|bq<|aO (pM (ao _) cG rfl)<|bH 1 ?_
     refine Ao rfl rfl ((show OkN _ _ [.a (aZ ((bz k).getD 0 bY)),.c (.s ((j8 k L ((bz k).getD 0 bY))).length (aW aw (j8 k L ((bz k).getD 0 bY))))] _ (jp k L ((bz k).getD 0 bY)).length _ (aW aZ (jp k L ((bz k).getD 0 bY))) _ from Yn (L:=(j8 k L ((bz k).getD 0 bY))) vc ha (fun p h=>hC p (mG.1 h).1) (nF (sC _ _) (by omega)) (fun p h=>(mG.1 h).2))) rfl rfl (fun cg12 rg12 hga12 hgb12 hgc12=>?_)
     refine bH 1<|aO (CF rfl rfl) ?_
     refine aO (CU rfl rfl rfl) ?_
     refine gi<|ae<|ah<|cz rfl ?_
     refine d7 (t:=16) (m:=66) (us:=aW aZ (jp k L ((bz k).getD 0 bY))) rfl rfl (pf (n:=(jp k L ((bz k).getD 0 bY)).length) (by first|exact a7 bi _|exact a7 ao _) (by assumption) (by omega)) (by omega) (by assumption) (lq (by first|exact a7 bi _|exact a7 ao _)) ?_
     refine ah ?_
     refine DL.mk<|EP (q:=(jp k L ((bz k).getD 0 bY)).length) (ys:=aW aZ (jp k L ((bz k).getD 0 bY))) (zs':=aW aZ (jp k L ((bz k).getD 0 bY))) xH rfl rfl (a7 ao _) (hE0) (by omega) (oD (by omega)) rfl (rfl) rfl (fun cg13 rg13 hga13 hgb13 hgc13=>fa ?_)
     refine ah<|ar (er (r:=1) rfl rfl rfl rfl) ?_
     exact⟨⟨⟨1,cg13,rg13⟩,ck _,by show 1≤2;omega,by show(xE k L 1).length≤cg13;rw[←ex1];exact hga13,hgb13,by show rg13.length=(cg13-(xE k L 1).length)*66;rw[←ex1];exact hgc13⟩,ap ⟨rfl,rfl,rfl,rfl,rfl,congrArg (fun q=>some (DV.o 65 (List.length q) cg13)) ex1,trivial⟩ ⟨rfl,congrArg (fun q=>some (49,aW aZ q++rg13)) ex1,trivial⟩ rfl,by show 2-1<3;omega⟩
   ·exact absurd hc5 (by show ¬decide ((0:Int)<((2:Nat):Int))=false;decide)
  ·rintro⟨⟨n,c9,rs⟩,h1,h2,h3,h4,h5⟩
   dsimp only at h1 h2 h3 h4 h5
   have h6:(xE k L n).length≤9*n:=BP lL h2
   dsimp only
   refine ae<|ah<|ae ?_
   refine aP rfl (fun hc14=>?_) (fun hc14=>?_)
   ·have g1:n<(bz k).length:=by have:=of_decide_eq_true hc14;show n<2;omega
    have g9:n<2:=g1
    have vc:CvV ((bz k).getD n bY):=hF _ (bX g1)
    have ha:Cv.isArc ((bz k).getD n bY)=true:=Jm _ (bX g1)
    have hE:=zL (k:=k) (c:=((bz k).getD n bY)) lL
    have hE0:=vn (k:=k) (L:=L) (c:=((bz k).getD n bY))
    refine aA<|ae<|aG<|ae<|ah<|ar (vf bY ao g1 qN rfl)<|ar (ve ao cG rfl)<|r9 (dN cG rfl rfl rfl (ao _) rfl rfl) ?_
    refine ae<|bq<|aO (fE rfl) ?_
    refine bt ?_
    refine pr (ι:=Unit) (fun i=>⟨68,[(2,.p 2 0),(5,.v (.c (.s ((a9 k L).length) (aW aw (a9 k L))))),(35,.v (.c (.s (((bz k)).length) (aW aZ ((bz k)))))),(36,.v (.c (.i .i64 2))),(37,.v (.c (.i .i64 (n:Int)))),(12,.p 12 0),(10,.o 65 ((xE k L n).length) c9),(13,.v (.c (.s (((j8 k L ((bz k).getD n bY))).length) (aW aw ((j8 k L ((bz k).getD n bY)))))))],[(2,40,bT k),(12,49,aZ (((bz k).getD n bY))),(65,49,aW aZ (xE k L n)++rs)]⟩) ?_ ?_
    ·refine ae<|ah ?_
     refine aG ?_
     refine bv (ι:=Sum ({j:Nat // j≤(a9 k L).length∧(((a9 k L).take j).filter ((bz k).getD n bY).on)=[]}) ({x9:Nat×Nat×List CellD // x9.1≤(a9 k L).length∧(((a9 k L).take x9.1).filter ((bz k).getD n bY).on).length≤x9.2.1∧x9.2.1≤maxLen∧x9.2.2.length=(x9.2.1-(((a9 k L).take x9.1).filter ((bz k).getD n bY).on).length)*20})) (fun i=>match i with| .inl i=>⟨68,[(2,.p 2 0),(5,.v (.c (.s ((a9 k L).length) (aW aw (a9 k L))))),(35,.v (.c (.s (((bz k)).length) (aW aZ ((bz k)))))),(36,.v (.c (.i .i64 2))),(37,.v (.c (.i .i64 (n:Int)))),(12,.p 12 0),(10,.o 65 ((xE k L n).length) c9),(41,.v (.c (.s ((a9 k L).length) (aW aw (a9 k L))))),(42,.v (.c (.i .i64 (((a9 k L).length:Int))))),(43,.v (.c (.i .i64 (i.1:Int)))),(13,.z)],[(2,40,bT k),(12,49,aZ (((bz k).getD n bY))),(65,49,aW aZ (xE k L n)++rs)]⟩| .inr i=>⟨68,[(2,.p 2 0),(5,.v (.c (.s ((a9 k L).length) (aW aw (a9 k L))))),(35,.v (.c (.s (((bz k)).length) (aW aZ ((bz k)))))),(36,.v (.c (.i .i64 2))),(37,.v (.c (.i .i64 (n:Int)))),(12,.p 12 0),(10,.o 65 ((xE k L n).length) c9),(41,.v (.c (.s ((a9 k L).length) (aW aw (a9 k L))))),(42,.v (.c (.i .i64 (((a9 k L).length:Int))))),(43,.v (.c (.i .i64 (i.1.1:Int)))),(13,.o 53 ((((a9 k L).take i.1.1).filter ((bz k).getD n bY).on).length) i.1.2.1)],[(2,40,bT k),(12,49,aZ (((bz k).getD n bY))),(65,49,aW aZ (xE k L n)++rs),(53,47,aW aw (((a9 k L).take i.1.1).filter ((bz k).getD n bY).on)++i.1.2.2)]⟩) (fun i=>match i with| .inl i=>(a9 k L).length-i.1| .inr i=>(a9 k L).length-i.1.1) (.inl ⟨0,iW _,rfl⟩) (ap (bo rfl) (bo rfl) rfl) ?_
     rintro(⟨j,i2,i3⟩|⟨⟨j,c8,rt⟩,i2,i3,i4,i5⟩)
     ·replace i2:j≤(a9 k L).length:=i2
      replace i3:(((a9 k L).take j).filter ((bz k).getD n bY).on)=[]:=i3
      dsimp only
      refine ae<|ah<|ae ?_
      refine aP rfl (fun hc15=>?_) (fun hc15=>?_)
      ·have g2:j<(a9 k L).length:=by have:=of_decide_eq_true hc15;omega
       have hx:=hC _ (bX (d:=dPt) g2)
       refine aA<|ae<|aG<|ae<|ah<|ar (vf dPt bi g2 f7 rfl)<|ar (ve bi cn rfl)<|ae<|ah ?_
       refine ar (pM (ao _) cG rfl) ?_
       refine ac rfl (Io vc ha hx) ?_
       refine aP rfl (fun hc16=>?_) (fun hc16=>?_)
       ·have g3:((bz k).getD n bY).on ((a9 k L).getD j dPt)=true:=hc16
        refine ah ?_
        refine ar (bW (n:=1) (us:=aw ((((a9 k L).getD j dPt)))) kj rfl rfl rfl (by decide) (by decide) rfl) ?_
        refine DL.mk<|lv (ys:=aw ((((a9 k L).getD j dPt)))) kj rfl rfl rfl (by decide) (by decide) (by decide) rfl rfl (fun cg17 rg17 hga17 hgb17 hgc17=>fa ?_)
        refine ah<|ar (dZ (by omega) rfl) ?_
        exact⟨.inr ⟨⟨j+1,cg17,rg17⟩,g2,by show(((a9 k L).take (j+1)).filter ((bz k).getD n bY).on).length≤cg17;rw[pe g2 g3,i3];exact hga17,hgb17,by show rg17.length=(cg17-(((a9 k L).take (j+1)).filter ((bz k).getD n bY).on).length)*20;rw[pe g2 g3,i3];exact hgc17⟩,ap ⟨rfl,rfl,rfl,rfl,rfl,rfl,rfl,rfl,rfl,rfl,congrArg (fun q=>some (DV.o 53 q cg17)) (by rw[pe g2 g3,i3];rfl),trivial⟩ ⟨rfl,rfl,rfl,congrArg (fun q=>some (47,q++rg17)) (by rw[pe g2 g3,i3,tF,iH]),trivial⟩ rfl,by show(a9 k L).length-(j+1)<(a9 k L).length-j;omega⟩
       ·have g3:((bz k).getD n bY).on ((a9 k L).getD j dPt)=false:=hc16
        refine aA<|ah<|ar (dZ (by omega) rfl) ?_
        exact⟨.inl ⟨j+1,g2,by rw[xQ g2 g3];exact i3⟩,ap (bo rfl) (bo rfl) rfl,by show(a9 k L).length-(j+1)<(a9 k L).length-j;omega⟩
      ·have hj:j=(a9 k L).length:=by have:=of_decide_eq_false hc15;omega
       refine C2 (t:=13) rfl<|bV ?_
       exact⟨(),ap ⟨rfl,rfl,rfl,rfl,rfl,rfl,rfl,congrArg (fun q:List Pt=>some (DV.v (.c (.s q.length (aW aw q))))) (i3.symm.trans (show(j8 k L ((bz k).getD n bY))=((a9 k L).take j).filter ((bz k).getD n bY).on by rw[hj,qh];rfl).symm),trivial⟩ (bo rfl) rfl⟩
     ·dsimp only at i2 i3 i4 i5
      have i6:(((a9 k L).take j).filter ((bz k).getD n bY).on).length≤8:=nF (sC _ _) (by rw[gX];omega)
      dsimp only
      refine ae<|ah<|ae ?_
      refine aP rfl (fun hc18=>?_) (fun hc18=>?_)
      ·have g2:j<(a9 k L).length:=by have:=of_decide_eq_true hc18;omega
       have hx:=hC _ (bX (d:=dPt) g2)
       refine aA<|ae<|aG<|ae<|ah<|ar (vf dPt bi g2 f7 rfl)<|ar (ve bi cn rfl)<|ae<|ah ?_
       refine ar (pM (ao _) cG rfl) ?_
       refine ac rfl (Io vc ha hx) ?_
       refine aP rfl (fun hc19=>?_) (fun hc19=>?_)
       ·have g3:((bz k).getD n bY).on ((a9 k L).getD j dPt)=true:=hc19
        refine ah ?_
        refine ar (bW (n:=1) (us:=aw ((((a9 k L).getD j dPt)))) kj rfl rfl rfl (by decide) (by decide) rfl) ?_
        refine DL.mk<|kQ (us:=aW aw (((a9 k L).take j).filter ((bz k).getD n bY).on)) (rest:=rt) (ys:=aw ((((a9 k L).getD j dPt)))) kj rfl rfl rfl (by first|exact a7 bi _|exact a7 ao _) (by assumption) rfl (by decide) (by omega) (by assumption) (by omega) (oD (by omega)) (.inl rfl) rfl (fun cg20 rg20 hga20 hgb20 hgc20=>fa ?_)
        refine ah<|ar (dZ (by omega) rfl) ?_
        exact⟨.inr ⟨⟨j+1,cg20,rg20⟩,g2,by show(((a9 k L).take (j+1)).filter ((bz k).getD n bY).on).length≤cg20;rw[pe g2 g3,d6];exact hga20,hgb20,by show rg20.length=(cg20-(((a9 k L).take (j+1)).filter ((bz k).getD n bY).on).length)*20;rw[pe g2 g3,d6];exact hgc20⟩,ap ⟨rfl,rfl,rfl,rfl,rfl,rfl,rfl,rfl,rfl,rfl,congrArg (fun q=>some (DV.o 53 q cg20)) (by rw[pe g2 g3,d6];rfl),trivial⟩ ⟨rfl,rfl,rfl,congrArg (fun q=>some (47,q++rg20)) (by rw[pe g2 g3,ii,iH]),trivial⟩ rfl,by show(a9 k L).length-(j+1)<(a9 k L).length-j;omega⟩
       ·have g3:((bz k).getD n bY).on ((a9 k L).getD j dPt)=false:=hc19
        refine aA<|ah<|ar (dZ (by omega) rfl) ?_
        exact⟨.inr ⟨⟨j+1,c8,rt⟩,g2,by show(((a9 k L).take (j+1)).filter ((bz k).getD n bY).on).length≤c8;rw[xQ g2 g3];exact i3,i4,by show rt.length=(c8-(((a9 k L).take (j+1)).filter ((bz k).getD n bY).on).length)*20;rw[xQ g2 g3];exact i5⟩,ap ⟨rfl,rfl,rfl,rfl,rfl,rfl,rfl,rfl,rfl,rfl,congrArg (fun q=>some (DV.o 53 (List.length q) c8)) (xQ g2 g3).symm,trivial⟩ ⟨rfl,rfl,rfl,congrArg (fun q=>some (47,aW aw q++rt)) (xQ g2 g3).symm,trivial⟩ rfl,by show(a9 k L).length-(j+1)<(a9 k L).length-j;omega⟩
      ·have hj:j=(a9 k L).length:=by have:=of_decide_eq_false hc18;omega
       refine d7 (t:=13) (m:=20) (us:=aW aw (((a9 k L).take j).filter ((bz k).getD n bY).on)) rfl rfl (pf (n:=(((a9 k L).take j).filter ((bz k).getD n bY).on).length) (by first|exact a7 bi _|exact a7 ao _) (by assumption) (by omega)) (by omega) (by assumption) (lq (by first|exact a7 bi _|exact a7 ao _)) ?_
       refine bV ?_
       exact⟨(),ap ⟨rfl,rfl,rfl,rfl,rfl,rfl,rfl,congrArg (fun q:List Pt=>some (DV.v (.c (.s q.length (aW aw q))))) ((show(j8 k L ((bz k).getD n bY))=((a9 k L).take j).filter ((bz k).getD n bY).on by rw[hj,qh];rfl).symm),trivial⟩ (bo rfl) rfl⟩
    ·rintro⟨⟩
     try dsimp only
     refine ae<|bq<|aO (pM (ao _) cG rfl)<|bH 1 ?_
     refine Ao rfl rfl ((show OkN _ _ [.a (aZ ((bz k).getD n bY)),.c (.s ((j8 k L ((bz k).getD n bY))).length (aW aw (j8 k L ((bz k).getD n bY))))] _ (jp k L ((bz k).getD n bY)).length _ (aW aZ (jp k L ((bz k).getD n bY))) _ from Yn (L:=(j8 k L ((bz k).getD n bY))) vc ha (fun p h=>hC p (mG.1 h).1) (nF (sC _ _) (by omega)) (fun p h=>(mG.1 h).2))) rfl rfl (fun cg21 rg21 hga21 hgb21 hgc21=>?_)
     refine bH 1<|aO (CF rfl rfl) ?_
     refine aO (CU rfl rfl rfl) ?_
     refine gi<|ae<|ah<|cz rfl ?_
     refine d7 (t:=16) (m:=66) (us:=aW aZ (jp k L ((bz k).getD n bY))) rfl rfl (pf (n:=(jp k L ((bz k).getD n bY)).length) (by first|exact a7 bi _|exact a7 ao _) (by assumption) (by omega)) (by omega) (by assumption) (lq (by first|exact a7 bi _|exact a7 ao _)) ?_
     refine ah ?_
     refine DL.mk<|Hr (n:=(xE k L n).length) (c:=c9) (q:=(jp k L ((bz k).getD n bY)).length) (us:=aW aZ (xE k L n)) (rest:=rs) (N':=(xE k L n).length+(jp k L ((bz k).getD n bY)).length) (zs':=aW aZ (xE k L n)++aW aZ (jp k L ((bz k).getD n bY))) xH rfl rfl rfl (rfl) (a7 ao _) (h5) (a7 ao _) (by decide) (by omega) (by assumption) (by omega) (oD (by omega)) (.inl rfl) (rfl) (rfl) rfl (fun cg22 rg22 hga22 hgb22 hgc22=>fa ?_)
     refine ah<|ar (dZ (by omega) rfl) ?_
     exact⟨⟨⟨n+1,cg22,rg22⟩,by omega,by omega,by show(xE k L (n+1)).length≤cg22;rw[(show xE k L (n+1)=xE k L n++jp k L ((bz k).getD n bY) from nU g1),d6];exact hga22,hgb22,by show rg22.length=(cg22-(xE k L (n+1)).length)*66;rw[(show xE k L (n+1)=xE k L n++jp k L ((bz k).getD n bY) from nU g1),d6];exact hgc22⟩,ap ⟨rfl,rfl,rfl,rfl,rfl,congrArg (fun q=>some (DV.o 65 q cg22)) (by rw[(show xE k L (n+1)=xE k L n++jp k L ((bz k).getD n bY) from nU g1),d6]),trivial⟩ ⟨rfl,congrArg (fun q=>some (49,q++rg22)) (by rw[(show xE k L (n+1)=xE k L n++jp k L ((bz k).getD n bY) from nU g1),ii]),trivial⟩ rfl,by show 2-(n+1)<2-n;omega⟩
   ·have hp:n=2:=by
     have h8:=of_decide_eq_false hc14
     have h9: ¬(n:Int)<((2:Nat):Int):=h8
     omega
    refine bV<|ae<|ah ?_
    refine d7 (t:=4) (m:=66) (us:=aW aZ (xE k L n)) rfl rfl (pf (n:=(xE k L n).length) (by first|exact a7 bi _|exact a7 ao _) (by assumption) (by omega)) (by omega) (by assumption) (lq (by first|exact a7 bi _|exact a7 ao _)) ?_
    refine ba ?_
    rw[show aR k L=xE k L n from by rw[hp];rfl]
    exact ai (ak ag)
theorem QD (c:Cv) (r:List CellD):((aZ c++r).drop 46).take 20=aw c.q:=by cases c<;>rfl
theorem Um {s:Nat}(h0:e s=false) (h:mr P e s n=[]):e (s+n)=false:=by
 cases g:e (s+n) with
 |false=>rfl
 |true=>
  obtain⟨L,a,h1,_⟩:=AI h0 n g
  unfold mr at h
  rw[h1] at h
  simp at h
theorem JT (c:Cv) (q:Pt) (r:List CellD):(aZ c++r).take 46++aw q++(aZ c++r).drop 66=aZ (c.ends c.p q)++r:=by
 have h:=NB c c.p q
 rw[show c.setp c.p=c from by cases c<;>rfl] at h
 have hl:=ao c
 rw[CJ (by omega),List.drop_append,show(aZ c).drop 66=[] from qI (by omega),hl]
 rw[show(aZ c).drop 66=[] from qI (by omega),m9] at h
 rw[h];rfl
theorem Oc {c:Cv}:(aW aZ (O++[c])++rs).take (O.length*66+46)++aw q++(aW aZ (O++[c])++rs).drop (O.length*66+46+20)=aW aZ (O++[c.ends c.p q])++rs:=by
 have hl:=a7 ao O
 rw[ii,ii,iH,iH,wx (aW aZ O),←hl,List.take_length_add_append,show(aW aZ O).length+46+20=(aW aZ O).length+66 from rfl,List.drop_length_add_append,wx (aW aZ O) _ (aw q),wx (aW aZ O),JT,wx (aW aZ O)]
theorem VA (hk:RK k) (h0:0<k.q) (hL: ∀d∈L,RK d) (lL:L.length≤4) (hm: ∀i,i<(aR k L).length→GB (m i)∧Ok Tryz.prog 43 [.a (aZ ((aR k L).getD i bY))] [.a (aw (m i))]) (he: ∀i,i<(aR k L).length→e i=BD L (m i)) (ha: ∀i,i<(aR k L).length→e i=true):Ok Tryz.prog 9 [.a (bT k),.c (.s L.length (aW bT L))] [.c (.s 0 []),.c (.b true)]:=by
 have lN:(aR k L).length≤9*2:=BP lL (ck _)
 have hN:(aR k L).length≤100:=by omega
 have hMx:(aR k L).length≤9223372036854775807:=by omega
 refine eo Tryz.func9 86 [.tmp 4,.tmp 5] rfl<|ae<|ah<|ae<|ah ?_
 refine ac rfl (WH hk h0 hL lL)<|ae<|ah ?_
 refine DL.mk<|qa (lU (n:=(((((aR k L)).length:Nat):Int)).toNat) aaV rfl rfl (by omega) (by omega) rfl) rfl<|fa ?_
 refine ae<|ae<|ah ?_
 refine aG ?_
 refine bv (ι:={n:Nat // n≤(aR k L).length}) (fun i=>⟨86,[(2,.p 2 0),(6,.v (.c (.s (((aR k L)).length) (aW aZ ((aR k L)))))),(1,.v (.c (.s L.length (aW bT L)))),(7,.o 21 ((aR k L).length) ((aR k L).length)),(22,.v (.c (.s (((aR k L)).length) (aW aZ ((aR k L)))))),(23,.v (.c (.i .i64 (((aR k L).length:Int))))),(24,.v (.c (.i .i64 (i.1:Int))))],[(2,40,bT k),(21,4,qx e ((aR k L).length) i.1++[])]⟩) (fun i=>(aR k L).length-i.1) ⟨0,iW _⟩ (ap (bo rfl) ⟨rfl,congrArg (fun q=>some (4,q)) R1,trivial⟩ rfl) ?_
 rintro⟨n,h2⟩
 replace h2:n≤(aR k L).length:=h2
 dsimp only
 refine ae<|ah<|ae ?_
 refine aP rfl (fun hc1=>?_) (fun hc1=>?_)
 ·have g1:n<(aR k L).length:=by have:=of_decide_eq_true hc1;omega
  obtain⟨gm,om⟩:=hm n g1
  refine aA<|ae<|aG<|ae<|ah<|ar (vf bY ao g1 qN rfl)<|ar (ve ao cG rfl)<|r9 (dN cG rfl rfl rfl (ao _) rfl rfl) ?_
  refine ae<|ah ?_
  refine ar (pM (ao _) cG rfl) ?_
  refine ac rfl (om) ?_
  refine kW (t:=10) (k:=10) rfl rfl<|bq<|bH 3 ?_
  refine aO (pT (us:=[.p (aw (m n))]) rfl rfl) ?_
  refine aO (dg rfl (cE (c:= !e n) (aaM hL lL gm) (by rw[he n g1])))<|bH 1<|aO (bE PI rfl rfl (by omega) rfl) ?_
  refine jk (br (us:=qx e ((aR k L).length) (n+1)++[]) sK rfl rfl rfl rfl (by rw[m9,CG];omega) (by rw[Bool.not_not];exact ML g1) rfl) ?_
  refine bt<|ah<|ar (dZ (by omega) rfl) ?_
  exact⟨⟨n+1,g1⟩,ap (bo rfl) (bo rfl) rfl,by show(aR k L).length-(n+1)<(aR k L).length-n;omega⟩
 ·have hp:n=(aR k L).length:=by have:=of_decide_eq_false hc1;omega
  refine nH (σ':=⟨86,[(2,.p 2 0),(6,.v (.c (.s (((aR k L)).length) (aW aZ ((aR k L)))))),(7,.o 21 ((aR k L).length) ((aR k L).length))],[(2,40,bT k),(21,4,Dt e ((aR k L).length)++[])]⟩) (ap (bo rfl) ⟨rfl,congrArg (fun q=>some (4,q++[])) (by rw[hp];exact IU),trivial⟩ rfl) ?_
  refine d7 (t:=7) (m:=1) (us:=Dt e ((aR k L).length)) rfl rfl (pf (n:=(aR k L).length) (by first|exact n6|exact a7 ao _|exact(a7 ao _).trans (by rw[fV])) (by first|assumption|simp) (by omega)) (by omega) (by assumption) (lq (by first|exact n6|exact a7 ao _|exact(a7 ao _).trans (by rw[fV]))) ?_
  refine bV<|ae<|ae<|ah<|ac rfl (ab1 hN) ?_
  refine aP rfl (fun hc2=>?_) (fun hc2=>?_)
  ·refine ae<|ah<|ba ?_
   exact ai (ak (ak ag))
  ·exact absurd hc2 (by rw[Oi ha];decide)
theorem TY (hk:RK k) (h0:0<k.q) (hL: ∀d∈L,RK d) (lL:L.length≤4) (hm: ∀i,i<(aR k L).length→GB (m i)∧Ok Tryz.prog 43 [.a (aZ ((aR k L).getD i bY))] [.a (aw (m i))]) (he: ∀i,i<(aR k L).length→e i=BD L (m i)) (hr:Rnd e (aR k L).length) {s:Nat}(hs:s<(aR k L).length) (hlt: ∀i,i<s→e i=true) (es:e s=false) (hG: ∀x∈mr (aR k L) e s (aR k L).length,CvV x):Ok Tryz.prog 9 [.a (bT k),.c (.s L.length (aW bT L))] [.c (.s (((bp bY dj (mr (aR k L) e s ((aR k L).length)))).length) (aW aZ ((bp bY dj (mr (aR k L) e s ((aR k L).length)))))),.c (.b false)]:=by
 have lN:(aR k L).length≤9*2:=BP lL (ck _)
 have hN:(aR k L).length≤100:=by omega
 have hMx:(aR k L).length≤9223372036854775807:=by omega
 have hfs:fz e (aR k L).length=s:=I5 hlt es hs
 refine eo Tryz.func9 86 [.tmp 4,.tmp 5] rfl<|ae<|ah<|ae<|ah ?_
 refine ac rfl (WH hk h0 hL lL)<|ae<|ah ?_
 refine DL.mk<|qa (lU (n:=(((((aR k L)).length:Nat):Int)).toNat) aaV rfl rfl (by omega) (by omega) rfl) rfl<|fa ?_
 refine ae<|ae<|ah ?_
 refine aG ?_
 refine bv (ι:={n:Nat // n≤(aR k L).length}) (fun i=>⟨86,[(2,.p 2 0),(6,.v (.c (.s (((aR k L)).length) (aW aZ ((aR k L)))))),(1,.v (.c (.s L.length (aW bT L)))),(7,.o 21 ((aR k L).length) ((aR k L).length)),(22,.v (.c (.s (((aR k L)).length) (aW aZ ((aR k L)))))),(23,.v (.c (.i .i64 (((aR k L).length:Int))))),(24,.v (.c (.i .i64 (i.1:Int))))],[(2,40,bT k),(21,4,qx e ((aR k L).length) i.1++[])]⟩) (fun i=>(aR k L).length-i.1) ⟨0,iW _⟩ (ap (bo rfl) ⟨rfl,congrArg (fun q=>some (4,q)) R1,trivial⟩ rfl) ?_
 rintro⟨n,h2⟩
 replace h2:n≤(aR k L).length:=h2
 dsimp only
 refine ae<|ah<|ae ?_
 refine aP rfl (fun hc1=>?_) (fun hc1=>?_)
 ·have g1:n<(aR k L).length:=by have:=of_decide_eq_true hc1;omega
  obtain⟨gm,om⟩:=hm n g1
  refine aA<|ae<|aG<|ae<|ah<|ar (vf bY ao g1 qN rfl)<|ar (ve ao cG rfl)<|r9 (dN cG rfl rfl rfl (ao _) rfl rfl) ?_
  refine ae<|ah ?_
  refine ar (pM (ao _) cG rfl) ?_
  refine ac rfl (om) ?_
  refine kW (t:=10) (k:=10) rfl rfl<|bq<|bH 3 ?_
  refine aO (pT (us:=[.p (aw (m n))]) rfl rfl) ?_
  refine aO (dg rfl (cE (c:= !e n) (aaM hL lL gm) (by rw[he n g1])))<|bH 1<|aO (bE PI rfl rfl (by omega) rfl) ?_
  refine jk (br (us:=qx e ((aR k L).length) (n+1)++[]) sK rfl rfl rfl rfl (by rw[m9,CG];omega) (by rw[Bool.not_not];exact ML g1) rfl) ?_
  refine bt<|ah<|ar (dZ (by omega) rfl) ?_
  exact⟨⟨n+1,g1⟩,ap (bo rfl) (bo rfl) rfl,by show(aR k L).length-(n+1)<(aR k L).length-n;omega⟩
 ·have hp:n=(aR k L).length:=by have:=of_decide_eq_false hc1;omega
  refine nH (σ':=⟨86,[(2,.p 2 0),(6,.v (.c (.s (((aR k L)).length) (aW aZ ((aR k L)))))),(7,.o 21 ((aR k L).length) ((aR k L).length))],[(2,40,bT k),(21,4,Dt e ((aR k L).length)++[])]⟩) (ap (bo rfl) ⟨rfl,congrArg (fun q=>some (4,q++[])) (by rw[hp];exact IU),trivial⟩ rfl) ?_
  refine d7 (t:=7) (m:=1) (us:=Dt e ((aR k L).length)) rfl rfl (pf (n:=(aR k L).length) (by first|exact n6|exact a7 ao _|exact(a7 ao _).trans (by rw[fV])) (by first|assumption|simp) (by omega)) (by omega) (by assumption) (lq (by first|exact n6|exact a7 ao _|exact(a7 ao _).trans (by rw[fV]))) ?_
  refine bV<|ae<|ae<|ah<|ac rfl (ab1 hN) ?_
  refine aP rfl (fun hc2=>?_) (fun hc2=>?_)
  ·exact absurd hc2 (by rw[hfs];simp)
  ·refine aA<|ae<|ah<|ac rfl ((by have h9:=abX (e:=e) hN;rw[hfs] at h9;exact h9)) ?_
   refine ae<|bq<|aO (fE rfl) ?_
   refine bt<|ae<|ah<|ae<|ae<|ah ?_
   refine aG ?_
   refine bv (ι:=Sum ({n:Nat // n≤(aR k L).length∧(mr (aR k L) e s n)=[]}) ({x9:Nat×Nat×List CellD // x9.1≤(aR k L).length∧(mr (aR k L) e s x9.1).length≤x9.2.1∧x9.2.1≤maxLen∧x9.2.2.length=(x9.2.1-(mr (aR k L) e s x9.1).length)*66∧1≤(mr (aR k L) e s x9.1).length})) (fun i=>match i with| .inl i=>⟨86,[(2,.p 2 0),(6,.v (.c (.s (((aR k L)).length) (aW aZ ((aR k L)))))),(7,.v (.c (.s ((aR k L).length) (Dt e ((aR k L).length))))),(11,.v (.c (.i .i64 (s:Int)))),(13,.v (.c (.b (e (s+i.1))))),(44,.v (.c (.s (((aR k L)).length) (aW aZ ((aR k L)))))),(45,.v (.c (.i .i64 (((aR k L).length:Int))))),(46,.v (.c (.i .i64 (i.1:Int)))),(12,.z)],[(2,40,bT k)]⟩| .inr i=>⟨86,[(2,.p 2 0),(6,.v (.c (.s (((aR k L)).length) (aW aZ ((aR k L)))))),(7,.v (.c (.s ((aR k L).length) (Dt e ((aR k L).length))))),(11,.v (.c (.i .i64 (s:Int)))),(13,.v (.c (.b (e (s+i.1.1))))),(44,.v (.c (.s (((aR k L)).length) (aW aZ ((aR k L)))))),(45,.v (.c (.i .i64 (((aR k L).length:Int))))),(46,.v (.c (.i .i64 (i.1.1:Int)))),(12,.o 62 ((mr (aR k L) e s i.1.1).length) i.1.2.1)],[(2,40,bT k),(62,49,aW aZ (mr (aR k L) e s i.1.1)++i.1.2.2)]⟩) (fun i=>match i with| .inl i=>(aR k L).length-i.1| .inr i=>(aR k L).length-i.1.1) (.inl ⟨0,iW _,rfl⟩) (ap ⟨rfl,rfl,rfl,rfl,congrArg (fun q=>some (DV.v (.c (.b q)))) es.symm,rfl,rfl,rfl,rfl,trivial⟩ ⟨rfl,trivial⟩ rfl) ?_
   rintro(⟨n,i2,i3⟩|⟨⟨n,c9,rs⟩,i2,i3,i4,i5,i7⟩)
   ·replace i2:n≤(aR k L).length:=i2
    replace i3:(mr (aR k L) e s n)=[]:=i3
    dsimp only
    refine ae<|ah<|ae ?_
    refine aP rfl (fun hc3=>?_) (fun hc3=>?_)
    ·have g1:n<(aR k L).length:=by have:=of_decide_eq_true hc3;omega
     obtain⟨kx,hkx⟩: ∃x,x=(s+1+n)%(aR k L).length:=⟨_,rfl⟩
     have gk:kx<(aR k L).length:=hkx▸Nat.mod_lt _ hr.pos
     have ek:kx=(s+n+1)%(aR k L).length:=by rw[hkx,show s+1+n=s+n+1 from by omega]
     have em:e kx=e (s+n+1):=by rw[ek,hr.mod]
     refine aA<|ae<|aG<|ae<|ah<|ae<|ah<|ar (dZ (by omega) rfl)<|ar (bF (((s+1+n:Nat):Int)) ((aT (by omega) (by omega)).trans (congrArg some (by omega))) rfl) ?_
     refine ar (mW (r:=(kx:Int)) rfl rfl (by omega) (by rw[hkx];exact(Int.ofNat_tmod _ _).symm) rfl) ?_
     refine aG<|ae<|ah<|ar (bc (us:=[CellD.b (e kx)]++(Dt e ((aR k L).length)).drop (kx+1)) PI rfl rfl (by omega) (n6) (Gy gk) rfl) ?_
     refine ar (bn sK rfl rfl rfl) ?_
     refine aP rfl (fun hc4=>?_) (fun hc4=>?_)
     ·have o1:e (s+n+1)=false:=by rw[←em];simpa using hc4
      refine ah<|ah<|ar (dZ (by omega) rfl) ?_
      exact⟨.inl ⟨n+1,g1,(Bb o1).trans i3⟩,ap ⟨rfl,rfl,rfl,rfl,congrArg (fun q=>some (DV.v (.c (.b q)))) (show e (s+n+1)=false from o1).symm,rfl,rfl,rfl,rfl,trivial⟩ ⟨rfl,trivial⟩ rfl,by show(aR k L).length-(n+1)<(aR k L).length-n;omega⟩
     ·have o1:e (s+n+1)=true:=by rw[←em];simpa using hc4
      refine ae<|ah ?_
      refine aP rfl (fun hc5=>?_) (fun hc5=>?_)
      ·exact absurd hc5 (by rw[Um es i3];decide)
      ·have o2:e (s+n)=false:=hc5
       refine ah<|ar (vf bY ao gk qN rfl)<|ar (ve ao cG rfl)<|ar (bW (n:=1) (us:=aZ (((aR k L).getD kx bY))) xH rfl (Fm rfl (ao _)) (jH (ao _)) (by decide) (by decide) rfl) ?_
       refine DL.mk<|lv (ys:=aZ (((aR k L).getD kx bY))) xH rfl rfl (jH (ao _)) (by decide) (by decide) (by decide) rfl rfl (fun cg6 rg6 hga6 hgb6 hgc6=>fa ?_)
       refine ah<|ar (dZ (by omega) rfl) ?_
       exact⟨.inr ⟨⟨n+1,cg6,rg6⟩,g1,by show(mr (aR k L) e s (n+1)).length≤cg6;rw[n7 o1 o2,i3,tF];exact hga6,hgb6,by show rg6.length=(cg6-(mr (aR k L) e s (n+1)).length)*66;rw[n7 o1 o2,i3,tF];exact hgc6,by show 1≤(mr (aR k L) e s (n+1)).length;rw[n7 o1 o2,i3,tF];exact ck _⟩,ap ⟨rfl,rfl,rfl,rfl,congrArg (fun q=>some (DV.v (.c (.b q)))) (show e (s+n+1)=true from o1).symm,rfl,rfl,rfl,congrArg (fun q=>some (DV.o 62 (List.length q) cg6)) (show[(aR k L).getD ((s+n+1)%(aR k L).length) bY]=(mr (aR k L) e s (n+1)) from by rw[n7 o1 o2,i3,tF]),trivial⟩ ⟨rfl,congrArg (fun q=>some (49,q++rg6)) (show _=aW aZ (mr (aR k L) e s (n+1)) from by rw[n7 o1 o2,i3,tF,iH,ek]),trivial⟩ rfl,by show(aR k L).length-(n+1)<(aR k L).length-n;omega⟩
    ·have hp:n=(aR k L).length:=by have:=of_decide_eq_false hc3;omega
     refine bV<|ae<|C2 (t:=12) rfl<|ah<|ac rfl (aci)<|ae<|ah<|ba ?_
     rw[show(mr (aR k L) e s ((aR k L).length))=[] from hp▸i3]
     exact ai (ak (ak ag))
   ·dsimp only at i2 i3 i4 i5 i7
    have i6:(mr (aR k L) e s n).length≤n:=Ld
    dsimp only
    refine ae<|ah<|ae ?_
    refine aP rfl (fun hc7=>?_) (fun hc7=>?_)
    ·have g1:n<(aR k L).length:=by have:=of_decide_eq_true hc7;omega
     obtain⟨kx,hkx⟩: ∃x,x=(s+1+n)%(aR k L).length:=⟨_,rfl⟩
     have gk:kx<(aR k L).length:=hkx▸Nat.mod_lt _ hr.pos
     have ek:kx=(s+n+1)%(aR k L).length:=by rw[hkx,show s+1+n=s+n+1 from by omega]
     have em:e kx=e (s+n+1):=by rw[ek,hr.mod]
     refine aA<|ae<|aG<|ae<|ah<|ae<|ah<|ar (dZ (by omega) rfl)<|ar (bF (((s+1+n:Nat):Int)) ((aT (by omega) (by omega)).trans (congrArg some (by omega))) rfl) ?_
     refine ar (mW (r:=(kx:Int)) rfl rfl (by omega) (by rw[hkx];exact(Int.ofNat_tmod _ _).symm) rfl) ?_
     refine aG<|ae<|ah<|ar (bc (us:=[CellD.b (e kx)]++(Dt e ((aR k L).length)).drop (kx+1)) PI rfl rfl (by omega) (n6) (Gy gk) rfl) ?_
     refine ar (bn sK rfl rfl rfl) ?_
     refine aP rfl (fun hc8=>?_) (fun hc8=>?_)
     ·have o1:e (s+n+1)=false:=by rw[←em];simpa using hc8
      refine ah<|ah<|ar (dZ (by omega) rfl) ?_
      exact⟨.inr ⟨⟨n+1,c9,rs⟩,g1,by show(mr (aR k L) e s (n+1)).length≤c9;rw[Bb o1];exact i3,i4,by show rs.length=(c9-(mr (aR k L) e s (n+1)).length)*66;rw[Bb o1];exact i5,by show 1≤(mr (aR k L) e s (n+1)).length;rw[Bb o1];exact i7⟩,ap ⟨rfl,rfl,rfl,rfl,congrArg (fun q=>some (DV.v (.c (.b q)))) (show e (s+n+1)=false from o1).symm,rfl,rfl,rfl,congrArg (fun q=>some (DV.o 62 (List.length q) c9)) (Bb o1).symm,trivial⟩ ⟨rfl,congrArg (fun q=>some (49,aW aZ q++rs)) (Bb o1).symm,trivial⟩ rfl,by show(aR k L).length-(n+1)<(aR k L).length-n;omega⟩
     ·have o1:e (s+n+1)=true:=by rw[←em];simpa using hc8
      refine ae<|ah ?_
      refine aP rfl (fun hc9=>?_) (fun hc9=>?_)
      ·have o2:e (s+n)=true:=hc9
       obtain⟨O,c,oe,oe2⟩:=QQ (P:=aR k L) es o1 o2
       have lO:O.length+1≤n:=by have h8:=i6;rw[oe] at h8;simpa using h8
       have lO2:(O++[c]).length=O.length+1:=by simp
       refine nH (σ':=⟨86,[(2,.p 2 0),(6,.v (.c (.s (((aR k L)).length) (aW aZ ((aR k L)))))),(7,.v (.c (.s ((aR k L).length) (Dt e ((aR k L).length))))),(11,.v (.c (.i .i64 (s:Int)))),(13,.v (.c (.b (e (s+n))))),(44,.v (.c (.s (((aR k L)).length) (aW aZ ((aR k L)))))),(45,.v (.c (.i .i64 (((aR k L).length:Int))))),(46,.v (.c (.i .i64 (n:Int)))),(15,.v (.c (.i .i64 (kx:Int)))),(12,.o 62 ((O++[c]).length) c9)],[(2,40,bT k),(62,49,aW aZ (O++[c])++rs)]⟩) (ap ⟨rfl,rfl,rfl,rfl,rfl,rfl,rfl,rfl,rfl,congrArg (fun q=>some (DV.o 62 (List.length q) c9)) oe,trivial⟩ ⟨rfl,congrArg (fun q=>some (49,aW aZ q++rs)) oe,trivial⟩ rfl) ?_
       refine ah<|ar (jm qN rfl rfl) ?_
       refine ar (bF ((O.length:Int)) ((aS (by simp only[d6,List.length_singleton];omega) (by simp only[d6,List.length_singleton];omega)).trans (congrArg some (by simp only[d6,List.length_singleton];omega))) rfl)<|ar (vf bY ao gk qN rfl)<|ar (qE Kk rfl rfl rfl) ?_
       refine ar (dM (us:=aw (((aR k L).getD kx bY)).q) cn rfl (QD _ _) rfl rfl) ?_
       refine ar (bE qN rfl rfl (by omega) rfl) ?_
       refine r9 (br (us:=aW aZ (O++[c.ends c.p ((aR k L).getD kx bY).q])++rs) cn rfl rfl rfl (bi _) (by rw[d6,a7 ao];simp;omega) (Oc) rfl) ?_
       refine ah<|ar (dZ (by omega) rfl) ?_
       exact⟨.inr ⟨⟨n+1,c9,rs⟩,g1,by show(mr (aR k L) e s (n+1)).length≤c9;rw[oe2];rw[oe] at i3;simpa using i3,i4,by show rs.length=(c9-(mr (aR k L) e s (n+1)).length)*66;rw[oe2];rw[oe] at i5;simpa using i5,by show 1≤(mr (aR k L) e s (n+1)).length;rw[oe2];simp⟩,ap ⟨rfl,rfl,rfl,rfl,congrArg (fun q=>some (DV.v (.c (.b q)))) (o2.trans o1.symm),rfl,rfl,rfl,congrArg (fun q=>some (DV.o 62 q c9)) (by rw[oe2];simp),trivial⟩ ⟨rfl,congrArg (fun q=>some (49,aW aZ q++rs)) (by rw[oe2,ek]),trivial⟩ rfl,by show(aR k L).length-(n+1)<(aR k L).length-n;omega⟩
      ·have o2:e (s+n)=false:=hc9
       refine ah<|ar (vf bY ao gk qN rfl)<|ar (ve ao cG rfl)<|ar (bW (n:=1) (us:=aZ (((aR k L).getD kx bY))) xH rfl (Fm rfl (ao _)) (jH (ao _)) (by decide) (by decide) rfl) ?_
       refine DL.mk<|kQ (us:=aW aZ (mr (aR k L) e s n)) (rest:=rs) (ys:=aZ (((aR k L).getD kx bY))) xH rfl rfl rfl (by first|exact n6|exact a7 ao _|exact(a7 ao _).trans (by rw[fV])) (by assumption) (jH (ao _)) (by decide) (by omega) (by assumption) (by omega) (oD (by omega)) (.inl rfl) rfl (fun cg10 rg10 hga10 hgb10 hgc10=>fa ?_)
       refine ah<|ar (dZ (by omega) rfl) ?_
       exact⟨.inr ⟨⟨n+1,cg10,rg10⟩,g1,by show(mr (aR k L) e s (n+1)).length≤cg10;rw[n7 o1 o2,d6];exact hga10,hgb10,by show rg10.length=(cg10-(mr (aR k L) e s (n+1)).length)*66;rw[n7 o1 o2,d6];exact hgc10,by show 1≤(mr (aR k L) e s (n+1)).length;rw[n7 o1 o2,d6];exact Nat.le_add_left 1 _⟩,ap ⟨rfl,rfl,rfl,rfl,congrArg (fun q=>some (DV.v (.c (.b q)))) (show e (s+n+1)=true from o1).symm,rfl,rfl,rfl,congrArg (fun q=>some (DV.o 62 q cg10)) (show _=(mr (aR k L) e s (n+1)).length from by rw[n7 o1 o2,d6];rfl),trivial⟩ ⟨rfl,congrArg (fun q=>some (49,q++rg10)) (show _=aW aZ (mr (aR k L) e s (n+1)) from by rw[n7 o1 o2,ii,iH,ek]),trivial⟩ rfl,by show(aR k L).length-(n+1)<(aR k L).length-n;omega⟩
    ·have hp:n=(aR k L).length:=by have:=of_decide_eq_false hc7;omega
     have hl0:(mr (aR k L) e s n).length≤12:=by have:=Q7 (P:=aR k L) (e:=e) (s:=s) (n:=(aR k L).length);rw[hp];omega
     have hGn: ∀x∈(mr (aR k L) e s n),CvV x:=hp▸hG
     refine bV<|ae<|ah ?_
     refine DL.mk<|tE (kU rfl rfl rfl rfl rfl (adN i7 hl0 hGn) rfl)<|fa ?_
     refine ae<|ah ?_
     refine d7 (t:=4) (m:=66) (us:=aW aZ (bp bY dj (mr (aR k L) e s n))) rfl rfl (pf (n:=(mr (aR k L) e s n).length) (by first|exact n6|exact a7 ao _|exact(a7 ao _).trans (by rw[fV])) (by first|assumption|simp) (by omega)) (by omega) (by assumption) (lq (by first|exact n6|exact a7 ao _|exact(a7 ao _).trans (by rw[fV]))) ?_
     refine ba ?_
     rw[←hp,fV]
     exact ai (ak (ak ag))
section
variable {x y:Pt}(gx:GP x) (gy:GP y) (h:cP x y=0)
include gx gy h
theorem CL:dE k x=dE k y:=by
 rw[yv gx,yv gy]
 congr 1
 refine cY ?_
 have h1:=(eH.1 h).1
 rw[nT (cg gx) (cg gy)] at h1
 have h2:=(eH.1 h).2
 rw[rW (cg gx) (cg gy)] at h2
 rw[show xA k x-xA k y=(pX x-pX y)*(pX x+pX y-Re.of k.x-Re.of k.x)+(pY x-pY y)*(pY x+pY y-Re.of k.y-Re.of k.y) from aM fun n=>by unfold xA;simp only[aD,aj,aE,aK];grind]
 rw[dH _ (by rw[aY,h2,oG]),aY,h1,oG]
theorem AS (gf:GP f):s9 k x f=s9 k y f∧s9 k f x=s9 k f y:=by
 have a1:=xl (cg gx) (cg gy) h (cg gf)
 have a2:=CC (cg gx) (cg gy) h k
 have a3:=dd (cg gx) (cg gf)
 have a4:=dd (cg gy) (cg gf)
 have a5:cx f x=cx f y:=by omega
 unfold s9
 rw[a1,a2,a5]
 exact⟨rfl,rfl⟩
theorem QI {t:Pt}(gf:GP f) (gt:GP t):(Cv.arc k false f t).on x=(Cv.arc k false f t).on y:=by
 show((dE k x==0)&&decide (xI k f f x≤0)&&decide (xI k f x t≤0))=((dE k y==0)&&decide (xI k f f y≤0)&&decide (xI k f y t≤0))
 unfold xI
 rw[CL gx gy h,(AS gx gy h gf).1,(AS gx gy h gf).2,(AS gx gy h gt).1]
end
def Od (k:Ci) (L:List Ci) (c:Cv):List Pt:=L.flatMap fun d=>(wh k d).filter c.on
def pcR (k:Ci) (L:List Ci) (c:Cv):List Cv:=nh c (Od k L c)
def rcE (k:Ci) (L:List Ci):List Cv:=(bz k).flatMap (pcR k L)
section
variable {k:Ci}{L:List Ci}(hk:RK k) (hL: ∀d∈L,RK d)
include hk hL
theorem Lf {c:Cv}: ∀p∈Od k L c,GP p∧c.on p=true:=fun p hp=>by
 obtain⟨d,hd,h⟩:=vz.1 hp
 obtain⟨h1,h2⟩:=mG.1 h
 exact⟨te hk.k (hL d hd).k p h1,h2⟩
theorem z8 {c:Cv}: ∀p∈j8 k L c,GP p∧c.on p=true:=fun p hp=>by
 obtain⟨h1,h2⟩:=mG.1 hp
 exact⟨H3 hk hL p h1,h2⟩
theorem Ib {t:Pt}(gf:GP f) (gt:GP t):(∀x∈j8 k L (.arc k false f t),∃y∈Od k L (.arc k false f t),cP x y=0)∧ ∀y∈Od k L (.arc k false f t),∃x∈j8 k L (.arc k false f t),cP y x=0:=by
 refine⟨fun x hx=>?_,fun y hy=>?_⟩
 ·obtain⟨h1,h2⟩:=mG.1 hx
  obtain⟨d,hd,h3⟩:=vz.1 h1
  obtain⟨y,hy,e⟩:=(wS hk (hL d hd)).1 x h3
  have gx:=z7 hk (hL d hd) x h3
  have gy:=te hk.k (hL d hd).k y hy
  exact⟨y,vz.2 ⟨d,hd,mG.2 ⟨hy,(QI gx gy e gf gt).symm.trans h2⟩⟩,e⟩
 ·obtain⟨d,hd,h3⟩:=vz.1 hy
  obtain⟨h1,h2⟩:=mG.1 h3
  obtain⟨x,hx,e⟩:=(wS hk (hL d hd)).2 y h1
  have gx:=z7 hk (hL d hd) x hx
  have gy:=te hk.k (hL d hd).k y h1
  exact⟨x,mG.2 ⟨List.mem_flatMap.2 ⟨d,hd,hx⟩,(QI gy gx e gf gt).symm.trans h2⟩,e⟩
theorem xf:Sim k (aR k L) (rcE k L):=by
 have h0:=hk.pos
 have gL:=r7 hk.k h0
 have gR:=rR hk.k h0
 have sL:=mh (cg gL)
 have sR:=mh (cg gR)
 obtain⟨sA1,sA2⟩:=Ib hk hL gL gR
 obtain⟨sB1,sB2⟩:=Ib hk hL gR gL
 obtain⟨T,T',hA,_⟩:=RY hk.k h0 (Ll hk.k h0) (fun x hx=>by rcases hx with rfl|rfl;exact .inl sL;exact .inr sR) (z8 hk hL) (Lf hk hL) sA1 sA2
 obtain⟨T2,T2',hB,_⟩:=RY hk.k h0 (MX hk.k h0) (fun x hx=>by rcases hx with rfl|rfl;exact .inr sL;exact .inl sR) (z8 hk hL) (Lf hk hL) sB1 sB2
 have h:=Yb hk.k h0 hA hB
 have e1:aR k L=uj (.arc k false (mi k) (lX k)) (jG (.arc k false (mi k) (lX k)) (j8 k L (.arc k false (mi k) (lX k))))++uj (.arc k false (lX k) (mi k)) (jG (.arc k false (lX k) (mi k)) (j8 k L (.arc k false (lX k) (mi k)))):=by
  show _++(_++[])=_
  rw[m9];rfl
 have e2:rcE k L=nh (.arc k false (mi k) (lX k)) (Od k L (.arc k false (mi k) (lX k)))++nh (.arc k false (lX k) (mi k)) (Od k L (.arc k false (lX k) (mi k))):=by
  show _++(_++[])=_
  rw[m9];rfl
 rw[e1,e2]
 exact h
end
theorem ZX (hk:RK k) (hL: ∀d∈L,RK d): ∃m:Nat→Pt,∀i,i<(aR k L).length→
 GB (m i)∧Ok Tryz.prog 43 [.a (aZ ((aR k L).getD i bY))] [.a (aw (m i))]∧Ok Tryz.prog 56 [.a (aZ ((rcE k L).getD i bY))] [.a (aw (m i))]∧ ∃x,m i=uP ((aR k L).getD i bY).fwd x∧lu ((aR k L).getD i bY).fwd.p x<0∧0<lu ((aR k L).getD i bY).fwd.q x:=by
 have S:=xf hk hL
 have key: ∀i,∃m:Pt,i<(aR k L).length→GB m∧Ok Tryz.prog 43 [.a (aZ ((aR k L).getD i bY))] [.a (aw m)]∧Ok Tryz.prog 56 [.a (aZ ((rcE k L).getD i bY))] [.a (aw m)]∧ ∃x,m=uP ((aR k L).getD i bY).fwd x∧lu ((aR k L).getD i bY).fwd.p x<0∧0<lu ((aR k L).getD i bY).fwd.q x:=fun i=>by
  by_cases hi:i<(aR k L).length
  ·obtain⟨a,b,a',b',e1,e2,⟨oa,ob⟩,⟨oa',ob'⟩,z1,z2,ne,inn⟩:=S.at_ i hi
   have ee:=Gz (aU oa) (aU ob) (aU oa') (aU ob') z1 z2
   have vP:CvV (.arc k false a b):=⟨⟨hk.k,oa.1,ob.1⟩,hk.pos,bK.2 oa.2,bK.2 ob.2,ne⟩
   have vR:CvV (.arc k false a' b'):=⟨⟨hk.k,oa'.1,ob'.1⟩,hk.pos,bK.2 oa'.2,bK.2 ob'.2,fun q=>ne (ee.trans q)⟩
   obtain⟨m,h1,h2,h3,h4⟩:=Uv vP vR z1 z2 inn
   exact⟨m,fun _=>⟨h1,e1▸h2,e2▸h3,e1▸h4⟩⟩
  ·exact⟨dPt,fun h=>absurd h hi⟩
 exact Classical.axiomOfChoice key
def xW (k:Ci) (L:List Ci) (m:Nat→Pt) (i:Nat):Bool:=BD L (m (i%(aR k L).length))
theorem KD (h:i<(aR k L).length):xW k L m i=BD L (m i):=by unfold xW;rw[sN h]
theorem MN (h:0<(aR k L).length):Rnd (xW k L m) (aR k L).length:=⟨h,fun x=>by unfold xW;rw[Aq]⟩
theorem YI:(∀i,i<N→e i=true)∨ ∃s,s<N∧(∀i,i<s→e i=true)∧e s=false:=by
 induction N with
 |zero=>exact .inl fun i hi=>absurd hi (by omega)
 |succ n ih=>
  rcases ih with h|⟨s,h1,h2,h3⟩
  ·cases g:e n with
   |true=>exact .inl fun i hi=>(jY i n).elim (h i) fun q=>(show i=n by omega)▸g
   |false=>exact .inr ⟨n,by omega,h,g⟩
  ·exact .inr ⟨s,by omega,h2,h3⟩
theorem UL (hk:RK k) (hL: ∀d∈L,RK d) (lL:L.length≤4) (hm: ∀i,i<(aR k L).length→GB (m i)∧Ok Tryz.prog 43 [.a (aZ ((aR k L).getD i bY))] [.a (aw (m i))]):
 ((∀i,i<(aR k L).length→xW k L m i=true)∧Ok Tryz.prog 9 [.a (bT k),.c (.s L.length (aW bT L))] [.c (.s 0 []),.c (.b true)])∨
 ∃s,s<(aR k L).length∧(∀i,i<s→xW k L m i=true)∧xW k L m s=false∧
  Ok Tryz.prog 9 [.a (bT k),.c (.s L.length (aW bT L))] [.c (.s (bp bY dj (mr (aR k L) (xW k L m) s (aR k L).length)).length (aW aZ (bp bY dj (mr (aR k L) (xW k L m) s (aR k L).length)))),.c (.b false)]:=by
 have S:=xf hk hL
 rcases YI (e:=xW k L m) (N:=(aR k L).length) with h|⟨s,h1,h2,h3⟩
 ·exact .inl ⟨h,VA hk hk.pos hL lL hm (fun i hi=>KD hi) h⟩
 ·have hr:=MN (k:=k) (L:=L) (m:=m) (by omega)
  have hv:=(Jv hk.k hk.pos S hr h1 h3).2.1
  exact .inr ⟨s,h1,h2,h3,TY hk hk.pos hL lL hm (fun i hi=>KD hi) hr h1 h2 h3 fun x hx=>(hv x ((jl _).mem_iff.2 hx)).1⟩
section
variable {P:Program}{ops:Array Oper}{T:TF}{B:BF}
def tvI:CellD→Value
 | .i k m=>.int k m
 |_=>undef
def isI:CellD→Bool
 | .i _ _=>true
 |_=>false
theorem MU {V:Nat→Prop}{w:World}: ∀ {vs:List Value}{us:List CellD},us.all isI=true→RdCs V w vs us→vs=us.map tvI
 |[],[],_,_=>rfl
 |[],_::_,_,h=>by have:=h.1;simp at this
 |_::_,[],_,h=>by have:=h.1;simp at this
 |v::vs,u::us,ha,h=>by
  simp only[List.all_cons,di] at ha
  obtain⟨h1,h2⟩:=h.uncons
  rw[MU ha.2 h2,ru]
  congr 1
  cases u with
  |i k m=>exact h1.int_eq
  |_=>cases ha.1
theorem FZ {V:Nat→Prop}{v:Value}(hi:us.all isI=true) (h:RdV V w v (.a us)):v=.agg (us.map tvI).toArray:=by
 obtain⟨cs,rfl,hr⟩:=h
 rw[←MU hi hr]
theorem VH {x y:Operand}
 (hx:cO T x=some (.v (.a us))) (hy:cO T y=some (.v (.a ws))) (hi:us.all isI=true) (hj:ws.all isI=true) (hq:P.eqGuardType P.depth xt=false)
 (he: ∀w,(Op.equalIn 10000 xt (.agg (us.map tvI).toArray) (.agg (ws.map tvI).toArray)).run P w=.ok r w) (hg:gd ops ⟨dst,.binOp .eql xt x y yt,ty,pos,af,g⟩ T=some true):
 Sem P ops ⟨dst,.binOp .eql xt x y yt,ty,pos,af,g⟩ T B (.r (.v (.c (.b r)))):=
 bI hg (pF rfl) (fun V β a w hs=>by
  have e1:=FZ hi (aC hs (x:=x) (by simp[Op.operands]) hx)
  have e2:=FZ hj (aC hs (x:=y) (by simp[Op.operands]) hy)
  refine⟨.bool r,?_,.b _⟩
  simp only[execOp,e1,e2,eM,run_eqGuard_agg w .eql xt x y _ _ hq,fi,run_eql_struct,he]
  rfl)
theorem LP {x y:Operand}
 (hx:cO T x=some (.v (.a us))) (hy:cO T y=some (.v (.a ws))) (hi:us.all isI=true) (hj:ws.all isI=true) (hq:P.eqGuardType P.depth xt=false)
 (he: ∀w,(Op.equalIn 10000 xt (.agg (us.map tvI).toArray) (.agg (ws.map tvI).toArray)).run P w=.ok r w) (hg:gd ops ⟨dst,.binOp .neq xt x y yt,ty,pos,af,g⟩ T=some true):
 Sem P ops ⟨dst,.binOp .neq xt x y yt,ty,pos,af,g⟩ T B (.r (.v (.c (.b (!r))))):=
 bI hg (pF rfl) (fun V β a w hs=>by
  have e1:=FZ hi (aC hs (x:=x) (by simp[Op.operands]) hx)
  have e2:=FZ hj (aC hs (x:=y) (by simp[Op.operands]) hy)
  refine⟨.bool (!r),?_,.b _⟩
  simp only[execOp,e1,e2,eM,run_eqGuard_agg w .neq xt x y _ _ hq,fi,run_neq_struct,he]
  rfl)
theorem wu {xs ys:Array Value}{f:Field}{fs:List Field}{x y:Value}(hn:f.name≠ "_") (hx:(part f.type xs f.offset).run P w=.ok x w) (hy:(part f.type ys f.offset).run P w=.ok y w)
 (he:(Op.equalIn d f.type x y).run P w=.ok r w):(Op.eqFields d xs ys (f::fs)).run P w=if r then(Op.eqFields d xs ys fs).run P w else .ok false w:=by
 simp only[Op.eqFields,if_pos hn,eM,hx,fi,hy,he]
 cases r<;>simp
end
section
variable {P:Program}{f:FuncId}{ds rs:List D0}
theorem R5 {x y:Int}(h:Ok P f ds (.a ([.i .i64 x]++[.i .i64 y])::rs)) (e1:x=x') (e2:y=y'):Ok P f ds (.a ([.i .i64 x']++[.i .i64 y'])::rs):=by subst e1 e2;exact h
theorem q8 {x y:Int}{b c:Bool}(h:Ok P f ds [.a ([.i .i64 x]++[.i .i64 y]),.c (.b b)]) (e1:x=x') (e2:y=y') (e3:b=c):Ok P f ds [.a ([.i .i64 x']++[.i .i64 y']),.c (.b c)]:=by subst e1 e2 e3;exact h
end
theorem XM (a b c e:Int) (w:World):(Op.equalIn 10000 72 (.agg #[.int .i64 a,.int .i64 b]) (.agg #[.int .i64 c,.int .i64 e])).run Tryz.prog w=.ok (a==c&&b==e) w:=by
 rw[show(10000:Nat)=9998+1+1 from rfl,run_equalIn_agg w _ _ _ _ (by kernel_rfl) (by kernel_rfl),
  show(Tryz.prog.fieldsOf 72).toList=[(Tryz.prog.fieldsOf 72)[0]!,(Tryz.prog.fieldsOf 72)[1]!] from by kernel_rfl,
  wu (x:=.int .i64 a) (y:=.int .i64 c) (r:=a==c) (of_decide_eq_true (by kernel_rfl)) (by kernel_rfl) (by kernel_rfl) (run_equalIn_int w _ _ .i64 .i64 a c (by kernel_rfl)),
  wu (x:=.int .i64 b) (y:=.int .i64 e) (r:=b==e) (of_decide_eq_true (by kernel_rfl)) (by kernel_rfl) (by kernel_rfl) (run_equalIn_int w _ _ .i64 .i64 b e (by kernel_rfl))]
 cases a==c<;>cases b==e<;>rfl
theorem Z0 (a b c:Int) (d:Nat) (w:World):(Op.equalIn (d+1+1) 148 (.agg #[.int .i64 a,.int .i64 b,.int .i64 c]) (.agg #[.int .i64 a,.int .i64 b,.int .i64 c])).run Tryz.prog w=.ok true w:=by
 rw[run_equalIn_agg w _ _ _ _ (by kernel_rfl) (by kernel_rfl),
  show(Tryz.prog.fieldsOf 148).toList=[(Tryz.prog.fieldsOf 148)[0]!,(Tryz.prog.fieldsOf 148)[1]!,(Tryz.prog.fieldsOf 148)[2]!] from by kernel_rfl,
  wu (x:=.int .i64 a) (y:=.int .i64 a) (r:=true) (of_decide_eq_true (by kernel_rfl)) (by kernel_rfl) (by kernel_rfl) ((run_equalIn_int w _ _ .i64 .i64 a a (by kernel_rfl)).trans (by rw[beq_self_eq_true])),
  wu (x:=.int .i64 b) (y:=.int .i64 b) (r:=true) (of_decide_eq_true (by kernel_rfl)) (by kernel_rfl) (by kernel_rfl) ((run_equalIn_int w _ _ .i64 .i64 b b (by kernel_rfl)).trans (by rw[beq_self_eq_true])),
  wu (x:=.int .i64 c) (y:=.int .i64 c) (r:=true) (of_decide_eq_true (by kernel_rfl)) (by kernel_rfl) (by kernel_rfl) ((run_equalIn_int w _ _ .i64 .i64 c c (by kernel_rfl)).trans (by rw[beq_self_eq_true]))]
 rfl
def vj (a b:Int):Int:=if a<b then 1 else if a>b then-1 else 0
theorem WW (h:decide (a<b)=true):vj a b=1:=if_pos (of_decide_eq_true h)
theorem WM (h:decide (a>b)=true):vj a b= -1:=by
 have:=of_decide_eq_true h
 unfold vj;rw[if_neg (by omega),if_pos this]
theorem XR (h:decide (a<b)=false) (h2:decide (a>b)=false):vj a b=0:=by
 unfold vj;rw[if_neg (of_decide_eq_false h),if_neg (of_decide_eq_false h2)]
theorem Ge (a b:Int): -1≤vj a b∧vj a b≤1:=by unfold vj;split<;>(try split)<;>omega
def G8 (a1 a2 b1 b2:Int):Bool:= !((vj a1 b1==0)==(vj a2 b2==0))
def fb (x:Int):Bool:=if decide (x>10000000) then true else decide (x< -10000000)
theorem Xj {x:Int}(h:decide (x>10000000)=true):fb x=true:=by unfold fb;rw[h];rfl
theorem W3 {x:Int}(h:decide (x>10000000)=false):fb x=decide (x< -10000000):=by unfold fb;rw[h];rfl
theorem xO {x:Int}(h:fb x=false): -10000000≤x∧x≤10000000:=by
 unfold fb at h
 split at h
 ·cases h
 ·rename_i g;simp at h g;omega
theorem Is {x:Int}(h1: -10000000≤x) (h2:x≤10000000):fb x=false:=by
 unfold fb
 rw[if_neg (by simp;omega)]
 simp;omega
def pI (x y r:Int):Bool:=(fb x||(fb y||fb r))||(fb (x+r)||(fb (x-r)||(fb (y+r)||fb (y-r))))
def Jz (x y r:Int):Bool:=(!(fb x||fb y)&&decide (r≤20000000))&& !(fb (x-r)||(fb (x+r)||(fb (y-r)||fb (y+r))))
theorem K0 (x:Int):fb x=false↔(-10000000≤x∧x≤10000000):=⟨xO,fun h=>Is h.1 h.2⟩
theorem tC (x y r:Int):pI x y r=false↔((-10000000≤x∧x≤10000000)∧(-10000000≤y∧y≤10000000)∧(-10000000≤r∧r≤10000000)∧(-10000000≤x+r∧x+r≤10000000)∧(-10000000≤x-r∧x-r≤10000000)∧(-10000000≤y+r∧y+r≤10000000)∧(-10000000≤y-r∧y-r≤10000000)):=by
 unfold pI
 simp only[AC,K0]
 omega
theorem n5 (x y r:Int):Jz x y r=true↔((-10000000≤x∧x≤10000000)∧(-10000000≤y∧y≤10000000)∧r≤20000000∧(-10000000≤x+r∧x+r≤10000000)∧(-10000000≤x-r∧x-r≤10000000)∧(-10000000≤y+r∧y+r≤10000000)∧(-10000000≤y-r∧y-r≤10000000)):=by
 unfold Jz
 simp only[di,qg,AC,K0,decide_eq_true_eq]
 omega
theorem LY {x y r:Int}(h:0≤r):Jz x y r= !pI x y r:=by
 cases h1:pI x y r with
 |false=>rw[tC] at h1;rw[uV,n5];omega
 |true=>
  rw[Bool.not_true]
  cases h2:Jz x y r with
  |false=>rfl
  |true=>
   rw[n5] at h2
   have:pI x y r=false:=by rw[tC];omega
   rw[this] at h1;cases h1
def Dir (dx dy:Int):Prop:=(dx=1∧dy=0)∨(dx= -1∧dy=0)∨(dx=0∧dy=1)∨(dx=0∧dy= -1)
theorem QK {b1 b2:Int}(h:G8 a1 a2 b1 b2=true): ∃L dx dy,1≤L∧Dir dx dy∧b1=a1+L*dx∧b2=a2+L*dy:=by
 by_cases h1:a1<b1
 ·have e1:vj a1 b1=1:=by unfold vj;rw[if_pos h1]
  by_cases h2:a2=b2
  ·exact⟨b1-a1,1,0,by omega,.inl ⟨rfl,rfl⟩,by omega,by omega⟩
  ·exfalso
   have e2:vj a2 b2≠0:=by unfold vj;split<;>(try split)<;>omega
   unfold G8 at h;rw[e1] at h;simp[e2] at h
 ·by_cases h2:a1>b1
  ·have e1:vj a1 b1= -1:=by unfold vj;rw[if_neg h1,if_pos h2]
   by_cases h2:a2=b2
   ·exact⟨a1-b1,-1,0,by omega,.inr (.inl ⟨rfl,rfl⟩),by omega,by omega⟩
   ·exfalso
    have e2:vj a2 b2≠0:=by unfold vj;split<;>(try split)<;>omega
    unfold G8 at h;rw[e1] at h;simp[e2] at h
  ·have e1:vj a1 b1=0:=by unfold vj;rw[if_neg h1,if_neg h2]
   by_cases h3:a2<b2
   ·exact⟨b2-a2,0,1,by omega,.inr (.inr (.inl ⟨rfl,rfl⟩)),by omega,by omega⟩
   ·by_cases h4:a2>b2
    ·exact⟨a2-b2,0,-1,by omega,.inr (.inr (.inr ⟨rfl,rfl⟩)),by omega,by omega⟩
    ·exfalso
     have e2:vj a2 b2=0:=by unfold vj;rw[if_neg h3,if_neg h4]
     unfold G8 at h;rw[e1,e2] at h;simp at h
section
variable {a L d dx dy:Int}
theorem i9 (hL:1≤L) (hd:d=1∨d= -1∨d=0):vj a (a+L*d)=d:=by
 rcases hd with h|h|h<;>subst h<;>unfold vj
 ·rw[if_pos (by omega)]
 ·rw[if_neg (by omega),if_pos (by omega)]
 ·rw[if_neg (by omega),if_neg (by omega)]
theorem Dir.x (h:Dir dx dy):dx=1∨dx= -1∨dx=0:=by unfold Dir at h;omega
theorem Dir.y (h:Dir dx dy):dy=1∨dy= -1∨dy=0:=by unfold Dir at h;omega
theorem pK (hL:1≤L) (h:Dir dx dy):G8 a1 a2 (a1+L*dx) (a2+L*dy)=true:=by
 unfold G8
 rw[i9 hL h.x,i9 hL h.y]
 rcases h with⟨rfl,rfl⟩|⟨rfl,rfl⟩|⟨rfl,rfl⟩|⟨rfl,rfl⟩<;>rfl
end
def BY (a1 a2 dx dy s:Int):Nat→List CellD
 |0=>[.i .i64 a1]++[.i .i64 a2]
 |i+1=>BY a1 a2 dx dy s i++([.i .i64 (a1+dx*(((i+1:Nat):Int)*s))]++[.i .i64 (a2+dy*(((i+1:Nat):Int)*s))])
theorem gw {a1 a2 dx dy s:Int}: ∀i,(BY a1 a2 dx dy s i).length=(i+1)*2
 |0=>rfl
 |i+1=>by
  show(BY a1 a2 dx dy s i++_).length=_
  rw[d6,gw i,Nat.succ_mul (i+1)];rfl
theorem ye {L:Int}{k:Nat}(hs:1≤s) (hk:(k:Int)=(L-1)/s) (i:Nat):((i+1:Nat):Int)*s<L↔i<k:=by
 have h:=Dn (a:=((i+1:Nat):Int)) (b:=L-1) (c:=s) (by omega)
 constructor
 ·intro h1;have:=h.2 (by omega);omega
 ·intro h1;have:=h.1 (by omega);omega
theorem Ic (hs:1≤s) (i:Nat):0≤(i:Int)*s:=fU (by omega) (by omega)
theorem W9 (hs:1≤s) (i:Nat):s≤((i+1:Nat):Int)*s:=by
 have:=vv (show(1:Int)≤((i+1:Nat):Int) by omega) (show 0≤s by omega)
 omega
theorem DJ (i:Nat):((i+1:Nat):Int)*s=(i:Int)*s+s:=by
 rw[Int.natCast_add,Int.add_mul];simp
theorem Or {L:Int}(hL:1≤L) (hs:1≤s):0≤(L-1)/s∧(L-1)/s≤L-1:=
 ⟨Int.ediv_nonneg (by omega) (by omega),AY _ (by omega)⟩
theorem acH {L:Int}(hL:1≤L) (hL2:L≤20000000) (hs:1≤s):IntKind.i64.wrap ((L+s-1).tdiv s)=(L-1)/s+1:=by
 have hq:=Or hL hs
 rw[qX (by omega),show L+s-1=L-1+1*s by omega,Int.add_mul_ediv_right _ _ (by omega)]
 exact qO (by omega) (by omega)
theorem PA {L dx dy:Int}(_hL:1≤L) (hd:Dir dx dy) (r1: -10000000≤a1∧a1≤10000000) (r2: -10000000≤a2∧a2≤10000000) (r3: -10000000≤a1+L*dx∧a1+L*dx≤10000000) (r4: -10000000≤a2+L*dy∧a2+L*dy≤10000000):L≤20000000:=by
 rcases hd with⟨rfl,rfl⟩|⟨rfl,rfl⟩|⟨rfl,rfl⟩|⟨rfl,rfl⟩<;>omega
def j6 (c:Rat):Bool:=decide (c≤1)&&decide (-1≤c)
theorem aab (h:decide (aX c ((1:Int):Rat)≤0)=true):j6 c=decide (aX (-c) ((1:Int):Rat)≤0):=by
 have h1:=wX.1 (of_decide_eq_true h)
 unfold j6
 rw[decide_eq_true (show c≤1 from h1),iA]
 apply decide_eq_decide.2
 rw[wX]
 constructor<;>intro h<;>grind
theorem PQ (h:decide (aX c ((1:Int):Rat)≤0)=false):j6 c=false:=by
 have h1:=mt wX.2 (of_decide_eq_false h)
 unfold j6
 rw[decide_eq_false (show ¬c≤1 from h1),q7]
theorem VD (h:decide (aX c ((1:Int):Rat)≤0)=true):j6 c=decide (aX c (-((1:Int):Rat))≥0):=by
 have h1:=wX.1 (of_decide_eq_true h)
 unfold j6
 rw[decide_eq_true (show c≤1 from h1),iA]
 apply decide_eq_decide.2
 rw[wQ]
 constructor<;>intro h<;>grind
def hfQ (R r e:Rat):Rat:=(R*R-e*e-r*r)/(((2:Int):Rat)*(e*r))
def cq (a t s:Int):Rat:=hfQ (((a+t:Int)):Rat) ((t:Int):Rat) (((a+s:Int)):Rat)
def D4 (a t s:Int) (c:Rat):Bool:=decide (aX (cq a t s) 0≥0)&&decide (aX (cq a t s*cq a t s+cq a t s*cq a t s-((1:Int):Rat)) c≥0)
theorem VY {n:Int}(h:1≤n):0<(n:Rat):=by
 have:=iF.2 (show 0<n by omega)
 exact this
theorem yh (ha:1≤a) (ht:1≤t) (hs:0≤s):0<(((a+s:Int)):Rat)*((t:Int):Rat):=jh (VY (by omega)) (VY ht)
theorem I0 (ha:1≤a) (ht:1≤t) (hs:0≤s):cq a t s*(((2:Int):Rat)*((((a+s:Int)):Rat)*((t:Int):Rat)))=(((a+t)*(a+t)-(a+s)*(a+s)-t*t:Int):Rat):=by
 have h:=yh ha ht hs
 unfold cq hfQ
 rw[rK (by have:(0:Rat)<((2:Int):Rat)*((((a+s:Int)):Rat)*((t:Int):Rat)):=jh (by decide) h;grind)]
 simp only[ri,dD]
theorem XF (ha:1≤a) (ht:1≤t) (hs:1≤s):cq a t s<1:=by
 have h:=I0 ha ht (show 0≤s by omega)
 have hp:(0:Rat)<((2:Int):Rat)*((((a+s:Int)):Rat)*((t:Int):Rat)):=jh (by decide) (yh ha ht (by omega))
 apply fe
 intro hn
 have h1:(1:Rat)≤cq a t s:=by grind
 have h2:=qQ h1 (show 0≤((2:Int):Rat)*((((a+s:Int)):Rat)*((t:Int):Rat)) by grind)
 rw[h,Rat.one_mul] at h2
 have h3:(((2*((a+s)*t):Int)):Rat)≤(((a+t)*(a+t)-(a+s)*(a+s)-t*t:Int):Rat):=by
  rw[dD,dD];exact h2
 have h4:=fm.1 h3
 have h5:(a+t)*(a+t)≤(a+s+t)*(a+t):=vv (by omega) (by omega)
 have h6:(a+s+t)*(a+t)<(a+s+t)*(a+s+t):=Int.mul_lt_mul_of_pos_left (by omega) (by omega)
 grind
theorem Vz (ha:1≤a) (ht:1≤t) (hs:0≤s) (hu:s≤u) (h0:0≤cq a t u):cq a t u≤cq a t s:=by
 have e1:=I0 ha ht hs
 have e2:=I0 ha ht (show 0≤u by omega)
 have p1:=yh ha ht hs
 have p2:=yh ha ht (show 0≤u by omega)
 apply fe
 intro hn
 have hlt:cq a t s<cq a t u:=by grind
 have q1:(0:Rat)<((2:Int):Rat)*((((a+s:Int)):Rat)*((t:Int):Rat)):=jh (by decide) p1
 have h1:=wn hlt q1
 have hle:((2:Int):Rat)*((((a+s:Int)):Rat)*((t:Int):Rat))≤((2:Int):Rat)*((((a+u:Int)):Rat)*((t:Int):Rat)):=by
  have h3:(2*((a+s)*t))≤2*((a+u)*t):=by
   have:=vv (show a+s≤a+u by omega) (show 0≤t by omega)
   omega
  have h4:=fm.2 h3
  rw[dD,dD,dD,dD] at h4
  exact h4
 have h2:=tW hle h0
 rw[e2] at h2
 rw[e1] at h1
 have h5:(((a+t)*(a+t)-(a+s)*(a+s)-t*t:Int):Rat)<(((a+t)*(a+t)-(a+u)*(a+u)-t*t:Int):Rat):=by grind
 have h6:=iF.1 h5
 have h7:(a+s)*(a+s)≤(a+u)*(a+u):=qS (by omega) (by omega) (by omega) (by omega)
 omega
theorem FQ:D4 a t s c=true↔0≤cq a t s∧c≤cq a t s*cq a t s+cq a t s*cq a t s-1:=by
 unfold D4
 rw[di,decide_eq_true_eq,decide_eq_true_eq,wQ,wQ]
 exact Iff.rfl
theorem Iz (ha:1≤a) (ht:1≤t) (hs:0≤s) (hu:s≤u) (h:D4 a t u c=true):D4 a t s c=true:=by
 rw[FQ] at*
 have h1:=Vz ha ht hs hu h.1
 have h2:cq a t u*cq a t u≤cq a t s*cq a t s:=by
  have g1:=tW h1 h.1
  have g2:=qQ h1 (show 0≤cq a t s by grind)
  grind
 exact⟨by grind,by grind⟩
theorem Wl (ha:1≤a) (ht:1≤t) (hs:1≤s) (h:decide (aX (cq a t s) ((1:Int):Rat)≥0)=true):False:=by
 have h1:=wQ.1 (of_decide_eq_true h)
 have h2:=XF ha ht hs
 have h3:(1:Rat)≤cq a t s:=h1
 grind
theorem acs (h:decide (aX (cq a t s) 0≥0)=true):D4 a t s c=decide (aX (cq a t s*cq a t s+cq a t s*cq a t s-((1:Int):Rat)) c≥0):=by unfold D4;rw[h,iA]
theorem abC (h:decide (aX (cq a t s) 0≥0)=false):D4 a t s c=false:=by unfold D4;rw[h,q7]
theorem M9 (i r:Int):(!decide (i<r))=decide (r≤i):=by rw[←decide_not];exact decide_eq_decide.2 (by omega)
theorem OH {m:Int}:m.fdiv (2^(min (1:Int).toNat IntKind.u64.bits))=m/2:=by
 show m.fdiv 2=m/2
 exact pc _ (by decide)
theorem ab8 (ha:1≤a) (ht:1≤t) (hs:1≤s) (ha2:a≤10000000) (ht2:t≤10000000) (hs2:s≤10000001):Rz 40 (cq a t s):=by
 have r1:Rz 3 (((a+t:Int)):Rat):=iI (by omega) (by omega)
 have r2:Rz 3 (((a+s:Int)):Rat):=iI (by omega) (by omega)
 have r3:Rz 3 ((t:Int):Rat):=iI (by omega) (by omega)
 have r4:Rz 3 ((2:Int):Rat):=iI (by omega) (by omega)
 have hp:(0:Rat)<((2:Int):Rat)*((((a+s:Int)):Rat)*((t:Int):Rat)):=jh (by decide) (yh ha ht (by omega))
 exact((((r1.mul r1).sub (r2.mul r2)).sub (r3.mul r3)).div (r4.mul (r2.mul r3)) (by grind)).mono (by decide)
theorem Du (φ:Int→Bool) (hm: ∀i j,0≤i→i≤j→φ j=true→φ i=true): ∀n:Nat,∃r:Int,0≤r∧r≤n∧ ∀i:Int,0≤i→i<n→φ i=decide (i<r)
 |0=>⟨0,by omega,by omega,fun i h1 h2=>by omega⟩
 |n+1=>by
  obtain⟨r,h1,h2,h3⟩:=Du φ hm n
  by_cases h:φ n=true
  ·refine⟨n+1,by omega,by omega,fun i g1 g2=>?_⟩
   rw[decide_eq_true (by omega)]
   exact hm i n g1 (by omega) h
  ·refine⟨r,h1,by omega,fun i g1 g2=>?_⟩
   by_cases hi:i=n
   ·subst hi
    rw[decide_eq_false (by omega)]
    simpa using h
   ·exact h3 i g1 (by omega)
theorem Tp (c:Rat) (ha:1≤a) (ht:1≤t): ∃r:Int,0≤r∧r≤t+1∧ ∀i:Int,0≤i→i<t+1→D4 a t (i+1) c=decide (i<r):=by
 obtain⟨r,h1,h2,h3⟩:=Du (fun i=>D4 a t (i+1) c) (fun i j g1 g2 h=>Iz ha ht (by omega) (by omega) h) (t+1).toNat
 exact⟨r,h1,by omega,fun i g1 g2=>h3 i g1 (by omega)⟩
section
variable (k:Ci) (p q:Pt) (m:Rat)
def crA:Rat:=(p.a1-k.x)*(q.a2-k.y)+ -((p.a2-k.y)*(q.a1-k.x))
def Yf:Rat:=p.b1*(q.a2-k.y)+ -(p.b2*(q.a1-k.x))
def XY:Rat:=(p.a1-k.x)*q.b2+ -((p.a2-k.y)*q.b1)
def crD:Rat:=p.b1*q.b2+ -(p.b2*q.b1)
def X8:Rat:=(p.a1-k.x)*(q.a1-k.x)+(p.a2-k.y)*(q.a2-k.y)-m
def Zt:Rat:=p.b1*(q.a1-k.x)+p.b2*(q.a2-k.y)
def YH:Rat:=(p.a1-k.x)*q.b1+(p.a2-k.y)*q.b2
def dtD:Rat:=p.b1*q.b1+p.b2*q.b2
def Nj:Int:=fN (crA k p q) (Yf k p q) (XY k p q) (crD p q) p.c q.c
def Il:Int:=fN (X8 k p q m) (Zt k p q) (YH k p q) (dtD p q) p.c q.c
end
theorem QB (k:Ci) (p q:Pt) (m:Rat): -1≤Il k p q m∧Il k p q m≤1:=Jg _ _ _ _ _ _
theorem Lq (A B C D M N:Rat):jM A C B D N M=jM A B C D M N:=aM fun n=>by
 unfold jM az
 simp only[aD,aE,aK]
 grind
theorem aaf {m:Rat}(hp:0≤p.c) (hq:0≤q.c):Il k q p m=Il k p q m:=by
 unfold Il
 rw[np hq hp,np hp hq,←Lq (X8 k p q m)]
 congr 1
 rw[show X8 k q p m=X8 k p q m from by unfold X8;grind,show Zt k q p=YH k p q from by unfold Zt YH;grind,show YH k q p=Zt k p q from by unfold Zt YH;grind,show dtD q p=dtD p q from by unfold dtD;grind]
theorem aan (hp:0≤p.c) (hq:0≤q.c):Nj k q p= -Nj k p q:=by
 unfold Nj
 rw[np hq hp,np hp hq,←bG,←Lq (crA k q p)]
 congr 1
 rw[show crA k q p= -crA k p q from by unfold crA;grind,show Yf k q p= -XY k p q from by unfold Yf XY;grind,show XY k q p= -Yf k p q from by unfold Yf XY;grind,show crD q p= -crD p q from by unfold crD;grind]
 exact aM fun n=>by
  unfold jM az
  simp only[aD,aE,aK,aV]
  grind
def Eb (w:Bool) (k:Ci) (f t:Pt):Int:=if w then-Nj k f t else Nj k f t
def BI (w:Bool) (k:Ci) (f t:Pt) (c:Rat):Bool:=j6 c&&decide (Eb w k f t≥0)
def Ea (w:Bool) (k:Ci) (f t:Pt) (c:Rat):Int:=if BI w k f t c then-Il k f t (c*k.q) else 0
def Oy (w:Bool) (k:Ci) (f t:Pt) (c:Rat):Int:=if BI w k f t c then 0 else 1
section
variable {w:Bool}{k:Ci}{f t:Pt}{c:Rat}
theorem Gk (h:j6 c=false):Ea w k f t c=0∧Oy w k f t c=1:=by
 have:BI w k f t c=false:=by unfold BI;rw[h];rfl
 unfold Ea Oy;rw[this];exact⟨rfl,rfl⟩
theorem Gc (h:decide (Eb w k f t≥0)=false):Ea w k f t c=0∧Oy w k f t c=1:=by
 have:BI w k f t c=false:=by unfold BI;rw[h,mX]
 unfold Ea Oy;rw[this];exact⟨rfl,rfl⟩
theorem Gw (h:j6 c=true) (g:decide (Eb w k f t≥0)=true):Ea w k f t c= -Il k f t (c*k.q)∧Oy w k f t c=0:=by
 have:BI w k f t c=true:=by unfold BI;rw[h,g];rfl
 unfold Ea Oy;rw[this];exact⟨rfl,rfl⟩
end
def UD (c:Cv) (x:Rat):Int:=match c with
 | .seg ..=>0
 | .arc k w f t=>Ea w k f t x
def Vb (c:Cv) (x:Rat):Int:=match c with
 | .seg ..=>1
 | .arc k w f t=>Oy w k f t x
theorem vK (x:Rat):0+((1:Int):Rat)*x=x:=by rw[show((1:Int):Rat)=1 from rfl];grind
theorem F2 (x y:Rat):x+((1:Int):Rat)*y=x+y:=by rw[show((1:Int):Rat)=1 from rfl];grind
theorem FW (x y:Rat):x+((-1:Int):Rat)*y=x+ -y:=by rw[show((-1:Int):Rat)= -1 from rfl];grind
theorem Gr {P:Program}{f:FuncId}{ds:List D0}{A B C D M N A' B' C' D':Rat}(h:Ok P f ds [.a (cR A++cR B++cR C++cR D++cR M++cR N)]) (e1:A=A') (e2:B=B') (e3:C=C') (e4:D=D'):Ok P f ds [.a (cR A'++cR B'++cR C'++cR D'++cR M++cR N)]:=by subst e1 e2 e3 e4;exact h
section
variable {k:Ci}{p q:Pt}(hk:GK k) (hp:GP p) (hq:GP q)
include hk hp hq
theorem RM:Rz 347 (p.a1-k.x)∧Rz 347 (p.a2-k.y)∧Rz 347 (q.a1-k.x)∧Rz 347 (q.a2-k.y):=
 ⟨(hp.a1.sub hk.x).mono (by decide),(hp.a2.sub hk.y).mono (by decide),(hq.a1.sub hk.x).mono (by decide),(hq.a2.sub hk.y).mono (by decide)⟩
theorem abV:Rz 1600 (crA k p q)∧Rz 1600 (Yf k p q)∧Rz 1600 (XY k p q)∧Rz 1600 (crD p q):=by
 obtain⟨h1,h2,h3,h4⟩:=RM hk hp hq
 exact⟨((h1.mul h4).add (h2.mul h3).neg).mono (by decide),((hp.b1.mul h4).add (hp.b2.mul h3).neg).mono (by decide),((h1.mul hq.b2).add (h2.mul hq.b1).neg).mono (by decide),((hp.b1.mul hq.b2).add (hp.b2.mul hq.b1).neg).mono (by decide)⟩
theorem acN {m:Rat}(hm:Rz 10 m):Rz 1600 (X8 k p q m)∧Rz 1600 (Zt k p q)∧Rz 1600 (YH k p q)∧Rz 1600 (dtD p q):=by
 obtain⟨h1,h2,h3,h4⟩:=RM hk hp hq
 exact⟨(((h1.mul h3).add (h2.mul h4)).sub hm).mono (by decide),((hp.b1.mul h3).add (hp.b2.mul h4)).mono (by decide),((h1.mul hq.b1).add (h2.mul hq.b2)).mono (by decide),((hp.b1.mul hq.b1).add (hp.b2.mul hq.b2)).mono (by decide)⟩
end
end Go.Proofs.YtegpmhlfjkhjmaaGreat
