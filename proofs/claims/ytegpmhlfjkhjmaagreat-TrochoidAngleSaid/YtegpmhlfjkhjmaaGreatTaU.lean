/-The middle of a piece:the program and the reference. -/
import Derived.Test.YtegpmhlfjkhjmaaGreatTaT
namespace Go.Proofs.YtegpmhlfjkhjmaaGreat
open Go Go.RowKit
variable {c d:Cv}{L L':List Pt}{i j:Nat}{f t:Pt}{x:Rat}
theorem Ar:type_of% @List.map_congr_left:=@List.map_congr_left
theorem Aq:type_of% @Nat.add_mod_right:=@Nat.add_mod_right
theorem aa6 (vc:CvV c) (hx:Rz 13681 x) (hb:yn c x=true):Ok Tryz.prog 129 [.a ((cR x++cR 0++cR 0)),.a (Xd c x)] [.a (aw (uP c x)),.c (.i .i64 0)]:=by
 obtain⟨⟨_,_,h3⟩,hv⟩:=Kx vc hx hb
 obtain⟨ea,eb⟩:=Rj c x
 rw[XG]
 exact GM (x7 (dW (by decide)) ((Rz.zc h3 (by decide)).mono (by decide)) (fun h=>h.1 rfl)) ea eb rfl rfl (O1 hv eb)
theorem Yc (vc:CvV c) (hx:Rz 13681 x) (hb:yn c x=true):Ok Tryz.prog 270 [.a ((cR x++cR 0++cR 0)),.a (Xd c x)] [.a (aw (uP c x)),.c (.i .i64 0)]:=by
 obtain⟨⟨_,_,h3⟩,hv⟩:=Kx vc hx hb
 obtain⟨ea,eb⟩:=Rj c x
 rw[XG]
 exact GM (Kb (dW (by decide)) ((Rz.zc h3 (by decide)).mono (by decide)) (fun h=>h.1 rfl)) ea eb rfl rfl (O1 hv eb)
theorem ab6 {k:Ci}(vc:CvV (.arc k false f t)) (ea:(Cv.arc k false f t).inner (mi k)=false) (eb:(Cv.arc k false f t).inner (lX k)=false) (hx:Rz 13681 x) (bb:yn (Cv.arc k false f t).fwd x=true) (hB:Ok Tryz.prog 126 [.a ((cR (((Cv.arc k false f t).fwd.p).a1)++cR (((Cv.arc k false f t).fwd.p).b1)++cR (zc ((Cv.arc k false f t).fwd.p).b1 ((Cv.arc k false f t).fwd.p).c))),.a ((cR (((Cv.arc k false f t).fwd.q).a1)++cR (((Cv.arc k false f t).fwd.q).b1)++cR (zc ((Cv.arc k false f t).fwd.q).b1 ((Cv.arc k false f t).fwd.q).c)))] [dR x,.c (.i .i64 0)]):Ok Tryz.prog 43 [.a (([.b true]++rx++bT k++[.b false]++aw f++aw t))] [.a (aw (((uP (Cv.arc k false f t).fwd x))))]:=by
 have vc9:CvV (Cv.arc k false f t).fwd:=HM vc
 refine eo Tryz.func43 48 [.cell 2 47] rfl<|ae<|ah<|ae<|ah ?_
 refine ar (j5 cG rfl) ?_
 refine ac rfl (acg vc ea eb) ?_
 refine ar (bc (us:=aZ (Cv.arc k false f t).fwd++[]) qN rfl rfl (by simp) (a7 ao _) (wD ao (j:=0) (kV (d:=bY) (show 0<([(Cv.arc k false f t).fwd]:List Cv).length from Nat.one_pos))) rfl) ?_
 refine ar (ve ao cG rfl)<|r9 (dN cG rfl rfl rfl (ao _) rfl rfl) ?_
 refine ae<|cX 13 [4,999999] ?_
 refine aq (cD (us:=aw ((Cv.arc k false f t).fwd).p) cn rfl rfl (sj _) rfl rfl) ?_
 refine aI rfl (qz) ?_
 refine aq (cD (us:=aw ((Cv.arc k false f t).fwd).q) cn rfl rfl (wj _) rfl rfl) ?_
 refine aI rfl (qz)<|aI rfl (hB) ?_
 refine DQ.mk<|gD (eQ bU rfl) rfl rfl rfl rfl<|dP ?_
 refine ae<|ae<|ah<|bh rfl<|aA<|ae<|bq<|aO (pM (ao _) cG rfl)<|bH 1<|aO (dg rfl ((by have h9:=aas vc9 (hx.m_);rw[if_pos bb] at h9;exact h9))) ?_
 refine bH 3<|rQ (jc lW rfl) rfl<|jk (dN d9 rfl rfl rfl (Cd _ _) rfl rfl) ?_
 refine gi<|ae<|ae<|ah<|bh rfl<|aA<|ae<|xr 10 [7,999999] jK (by kernel_rfl) rfl rfl<|ji 1<|cK (dg rfl (gP))<|cK (pM (Cd _ _) d9 rfl)<|cK (dg rfl (aa6 vc9 hx bb))<|ji 3<|AU (jc De rfl) rfl ?_
 refine gD (eQ cn rfl) rfl rfl rfl rfl<|Gm<|EX<|bt<|ae<|ae<|ah<|bh rfl<|aA<|ae<|ah ?_
 refine ba ?_
 exact ai (bj cn rfl ag)
theorem Zl (vd:CvV d) (hv:d.vert=false) (hx:Rz 13681 x) (bb:yn d x=true) (hB:Ok Tryz.prog 269 [.a ((cR d.p.a1++cR d.p.b1++cR (zc d.p.b1 d.p.c))),.a ((cR d.q.a1++cR d.q.b1++cR (zc d.q.b1 d.q.c)))] [dR x]):Ok Tryz.prog 148 [.a (aZ d)] [.a (aw (uP d x))]:=by
 refine eo Tryz.func148 51 [.cell 2 47] rfl<|ae<|ah<|ae<|ae<|ah ?_
 refine ar (pM (ao _) cG rfl) ?_
 refine ac rfl ((by have h9:=Zi vd;rw[hv] at h9;exact h9)) ?_
 refine bh rfl<|aA<|ae<|cX 8 [] ?_
 refine aq (cD (us:=aw d.p) cn rfl rfl (sj _) rfl rfl) ?_
 refine aI rfl (vt) ?_
 refine aq (cD (us:=aw d.q) cn rfl rfl (wj _) rfl rfl) ?_
 refine aI rfl (vt)<|aI rfl (hB)<|ae<|bq<|aO (pM (ao _) cG rfl)<|bH 1<|aO (dg rfl ((by have h9:=Z6 vd (hx.m_);rw[if_pos bb] at h9;exact h9))) ?_
 refine bH 3<|rQ (jc lW rfl) rfl<|jk (dN d9 rfl rfl rfl (Cd _ _) rfl rfl) ?_
 refine gi<|ae<|xr 10 [9,999999] jK (by kernel_rfl) rfl rfl<|ji 1<|cK (dg rfl (fF))<|cK (pM (Cd _ _) d9 rfl)<|cK (dg rfl (Yc vd hx bb))<|ji 3<|AU (jc De rfl) rfl<|gD (eQ cn rfl) rfl rfl rfl rfl<|Gm<|EX<|bt<|ae ?_
 refine ah ?_
 refine ba ?_
 exact ai (bj cn rfl ag)
theorem Za (vc:CvV c) (hv:c.fwd.vert=false) (hx:Rz 13681 x) (bb:yn c.fwd x=true) (hB:Ok Tryz.prog 269 [.a ((cR c.fwd.p.a1++cR c.fwd.p.b1++cR (zc c.fwd.p.b1 c.fwd.p.c))),.a ((cR c.fwd.q.a1++cR c.fwd.q.b1++cR (zc c.fwd.q.b1 c.fwd.q.c)))] [dR x]):Ok Tryz.prog 56 [.a (aZ c)] [.a (aw (uP c.fwd x))]:=by
 have v9:CvV c.fwd:=HM vc
 have h16:=Zl v9 hv hx bb hB
 refine b9 Tryz.func56 rfl<|ar (cD (us:=aw c.p) cn rfl rfl (sj _) rfl rfl) ?_
 refine ar (cD (us:=aw c.q) cn rfl rfl (wj _) rfl rfl) ?_
 refine ac rfl (YU (kO vc.g) (tK vc.g)) ?_
 refine dS rfl (fun hc1=>?_) (fun hc1=>?_)
 ·have g0:=In hc1
  refine ar (pM (ao _) cG rfl)<|ac rfl (ZE vc) ?_
  refine r9 (dN cG rfl rfl rfl (ao _) (ao _) rfl) ?_
  refine ar (pM (ao _) cG rfl)<|ac rfl ((Eq.subst (motive:=fun z=>Ok _ _ [.a z] _) (congrArg aZ g0) h16)) ?_
  exact ai (bj cn rfl ag)
 ·have g0:=Jw hc1
  refine ar (pM (ao _) cG rfl)<|ac rfl ((Eq.subst (motive:=fun z=>Ok _ _ [.a z] _) (congrArg aZ g0) h16)) ?_
  exact ai (bj cn rfl ag)
def Tl (k:Ci):Cv:=.arc k false (mi k) (lX k)
def hvB (k:Ci):Cv:=.arc k false (lX k) (mi k)
structure Sim (k:Ci) (P R:List Cv):Prop where
 len:P.length=R.length
 two:2≤P.length
 at_: ∀i,i<P.length→ ∃a b a' b':Pt,P.getD i bY=.arc k false a b∧R.getD i bY=.arc k false a' b'∧(OnK k a∧OnK k b)∧(OnK k a'∧OnK k b')∧cP a a'=0∧cP b b'=0∧cP a b≠0∧
  (∀x,x=mi k∨x=lX k→(Cv.arc k false a b).inner x=false∧(Cv.arc k false a' b').inner x=false)
 nxt: ∀i,i<P.length→(P.getD i bY).q=(P.getD ((i+1)%P.length) bY).p
 dis: ∀i j,i<j→j<P.length→cP (P.getD i bY).p (P.getD j bY).p≠0
section
variable {k:Ci}(hk:GK k) (h0:0<k.q)
include hk h0
theorem Ll:CvV (Tl k):=⟨⟨hk,r7 hk h0,rR hk h0⟩,h0,bK.2 (GG hk h0),bK.2 (Fu hk h0),Xl hk h0⟩
theorem MX:CvV (hvB k):=⟨⟨hk,rR hk h0,r7 hk h0⟩,h0,bK.2 (Fu hk h0),bK.2 (GG hk h0),fun e=>Xl hk h0 (mZ (cg (rR hk h0)) (cg (r7 hk h0)) e)⟩
theorem Yd {x:Pt}(ox:OnK k x) (h:(Tl k).ord x (lX k)<0):qp k x=false:=by
 have hx:xI k (mi k) x (lX k)<0:=h
 have a1:=rL hk h0 ox
 have a2:=uH hk h0 ox
 have a3:=uH hk h0 (qb hk h0)
 have b1:=dd (aU ox) (aU (qb hk h0))
 have b2:=dd (aU ox) (aU (oX hk h0))
 rw[iM,fW,fW,fW,yq h0,vM h0,a3,yq h0,show cx x (mi k)= -(cx (mi k) x) from by omega,show cx x (lX k)= -(cx (lX k) x) from by omega,a1,a2] at hx
 rw[fW]
 revert hx
 generalize kd k x=j
 revert j
 decide
theorem X3 {x:Pt}(ox:OnK k x) (h:(hvB k).ord x (mi k)<0):qp k x=true:=by
 have hx:xI k (lX k) x (mi k)<0:=h
 have a1:=rL hk h0 ox
 have a2:=uH hk h0 ox
 have a3:=rL hk h0 (oX hk h0)
 have b1:=dd (aU ox) (aU (qb hk h0))
 have b2:=dd (aU ox) (aU (oX hk h0))
 rw[iM,fW,fW,fW,yq h0,vM h0,a3,vM h0,show cx x (mi k)= -(cx (mi k) x) from by omega,show cx x (lX k)= -(cx (lX k) x) from by omega,a1,a2] at hx
 rw[fW]
 revert hx
 generalize kd k x=j
 revert j
 decide
end
theorem sy {α:Type}{d:α}{A B:List α}(h:i<A.length):(A++B).getD i d=A.getD i d:=by simp[List.getD,CK h]
theorem Fn {α:Type}{d:α}{A B:List α}:(A++B).getD (A.length+i) d=B.getD i d:=by simp[List.getD,GH]
theorem IK (vc:CvV c) (hL: ∀y∈L,GP y∧c.on y=true) (hd:d∈nh c L) {x:Pt}(gx:GP x) (hx:cP c.p x=0∨cP c.q x=0):d.inner x=false:=by
 cases h:d.inner x with
 |false=>rfl
 |true=>
  obtain⟨h1,_⟩:=IF vc hL hd gx h
  obtain⟨_,h2,h3⟩:=kS.1 h1
  omega
structure Hlf (k:Ci) (f t:Pt) (P R:List Cv) (T T':List Pt):Prop where
 p:P=kH (.arc k false f t) T
 r:R=kH (.arc k false f t) T'
 len:T.length=T'.length
 two:2≤T.length
 eq: ∀i,i<T.length→cP (T.getD i dPt) (T'.getD i dPt)=0
 o: ∀x∈T,OnK k x
 o': ∀x∈T',OnK k x
 s:T.Pairwise fun p q=>(Cv.arc k false f t).ord p q<0
 fst:T.getD 0 dPt=f
 lst:T.getD (T.length-1) dPt=t
 v:CvV (.arc k false f t)
 inn: ∀d,d∈P∨d∈R→ ∀x,x=mi k∨x=lX k→d.inner x=false
section
variable {k:Ci}{f t:Pt}{P R:List Cv}{T T':List Pt}
theorem Hlf.lenP (h:Hlf k f t P R T T'):P.length+1=T.length:=by rw[h.p,tJ];have:=h.two;omega
theorem Hlf.lenR (h:Hlf k f t P R T T'):R.length+1=T.length:=by rw[h.r,tJ];have:=h.two;have:=h.len;omega
theorem Hlf.P_at (h:Hlf k f t P R T T') (hi:i<P.length):P.getD i bY=.arc k false (T.getD i dPt) (T.getD (i+1) dPt):=by
 have:=h.lenP
 have e:=GD (.arc k false f t) (T:=T) (i:=i) (by omega)
 rw[←h.p] at e;exact e
theorem Hlf.R_at (h:Hlf k f t P R T T') (hi:i<P.length):R.getD i bY=.arc k false (T'.getD i dPt) (T'.getD (i+1) dPt):=by
 have:=h.lenP
 have e:=GD (.arc k false f t) (T:=T') (i:=i) (by have:=h.len;omega)
 rw[←h.r] at e;exact e
theorem Hlf.lt (h:Hlf k f t P R T T') (hij:i<j) (hj:j<T.length):(Cv.arc k false f t).ord (T.getD i dPt) (T.getD j dPt)<0:=by
 have:=(List.pairwise_iff_getElem.1 h.s) i j (by omega) hj hij
 rw[List.getD,gE (by omega),List.getD,gE hj];exact this
theorem Hlf.ne (h:Hlf k f t P R T T') (hij:i<j) (hj:j<T.length):cP (T.getD i dPt) (T.getD j dPt)≠0:=
 sF h.v.g (h.o _ (bX (by omega))).1 (h.o _ (bX hj)).1 (h.lt hij hj)
theorem Hlf.at_ (h:Hlf k f t P R T T') (hi:i<P.length): ∃a b a' b':Pt,P.getD i bY=.arc k false a b∧R.getD i bY=.arc k false a' b'∧(OnK k a∧OnK k b)∧(OnK k a'∧OnK k b')∧cP a a'=0∧cP b b'=0∧cP a b≠0∧
 (∀x,x=mi k∨x=lX k→(Cv.arc k false a b).inner x=false∧(Cv.arc k false a' b').inner x=false):=by
 have l1:=h.lenP
 have l2:=h.lenR
 have l3:=h.len
 refine⟨_,_,_,_,h.P_at hi,h.R_at hi,⟨h.o _ (bX (by omega)),h.o _ (bX (by omega))⟩,⟨h.o' _ (bX (by omega)),h.o' _ (bX (by omega))⟩,h.eq i (by omega),h.eq (i+1) (by omega),h.ne (by omega) (by omega),fun x hx=>⟨?_,?_⟩⟩
 ·rw[←h.P_at hi];exact h.inn _ (.inl (bX hi)) x hx
 ·rw[←h.R_at hi];exact h.inn _ (.inr (bX (by omega))) x hx
end
theorem RY {k:Ci}(hk:GK k) (h0:0<k.q) (v:CvV (.arc k false f t)) (hx: ∀x,x=mi k∨x=lX k→cP f x=0∨cP t x=0) (hL: ∀p∈L,GP p∧(Cv.arc k false f t).on p=true) (hL': ∀p∈L',GP p∧(Cv.arc k false f t).on p=true) (h12: ∀x∈L,∃y∈L',cP x y=0) (h21: ∀y∈L',∃x∈L,cP y x=0):
 ∃T T':List Pt,Hlf k f t (uj (.arc k false f t) (jG (.arc k false f t) L)) (nh (.arc k false f t) L') T T'∧T.length≤L.length+2:=by
 obtain⟨T,T',e1,e2,e3,e4,e5,e6,e7,e8,e9,_,e10,e11⟩:=Wb v hL hL' h12 h21
 refine⟨T,T',⟨e1,e2,e3,e4,e6,e7,e8,e9,e10,e11,v,fun d hd x hx2=>?_⟩,e5⟩
 have gx:GP x:=by rcases hx2 with rfl|rfl;exact r7 hk h0;exact rR hk h0
 rcases hd with hd|hd
 ·rw[xZ v hL] at hd
  exact IK v (fun y hy=>hL y ((BS v hL).2.1 y hy).2) hd gx (hx x hx2)
 ·exact IK v hL' hd gx (hx x hx2)
theorem Yb {k:Ci}(hk:GK k) (h0:0<k.q) {P R P2 R2:List Cv}{T T' T2 T2':List Pt}(h:Hlf k (mi k) (lX k) P R T T') (g:Hlf k (lX k) (mi k) P2 R2 T2 T2'):Sim k (P++P2) (R++R2):=by
 have l1:=h.lenP
 have l2:=g.lenP
 have m1:=h.lenR
 have m2:=g.lenR
 have n1:=h.two
 have n2:=g.two
 have lR:P.length=R.length:=by omega
 have at2: ∀i,¬i<P.length→(P++P2).getD i bY=P2.getD (i-P.length) bY:=fun i hi=>by rw[show i=P.length+(i-P.length) from by omega,Fn,Nat.add_sub_cancel_left]
 have at3: ∀i,¬i<P.length→(R++R2).getD i bY=R2.getD (i-P.length) bY:=fun i hi=>by rw[show i=R.length+(i-R.length) from by omega,Fn,←lR];congr 1;omega
 have kA: ∀ {i:Nat},i<P.length→qp k (T.getD i dPt)=false:=fun{i} hi=>Yd hk h0 (h.o _ (bX (by omega))) (by have:=h.lt (i:=i) (j:=T.length-1) (by omega) (by omega);rw[h.lst] at this;exact this)
 have kB: ∀ {i:Nat},i<P2.length→qp k (T2.getD i dPt)=true:=fun{i} hi=>X3 hk h0 (g.o _ (bX (by omega))) (by have:=g.lt (i:=i) (j:=T2.length-1) (by omega) (by omega);rw[g.lst] at this;exact this)
 refine⟨by rw[d6,d6];omega,by rw[d6];omega,fun i hi=>?_,fun i hi=>?_,fun i j hij hj=>?_⟩
 ·rw[d6] at hi
  by_cases q:i<P.length
  ·rw[sy q,sy (by omega)];exact h.at_ q
  ·rw[at2 i q,at3 i q];exact g.at_ (by omega)
 ·rw[d6] at hi⊢
  by_cases q:i<P.length
  ·rw[sy q,h.P_at q]
   show T.getD (i+1) dPt=_
   rw[sN (by omega)]
   by_cases q2:i+1<P.length
   ·rw[sy q2,h.P_at q2];rfl
   ·rw[at2 _ q2,g.P_at (by omega)]
    show _=T2.getD (i+1-P.length) dPt
    rw[show i+1-P.length=0 from by omega,g.fst,←h.lst];congr 1;omega
  ·rw[at2 i q,g.P_at (by omega)]
   show T2.getD (i-P.length+1) dPt=_
   by_cases q2:i+1<P.length+P2.length
   ·rw[sN q2,at2 _ (by omega),g.P_at (by omega)]
    show _=T2.getD (i+1-P.length) dPt
    congr 1;omega
   ·rw[show i+1=P.length+P2.length from by omega,Nat.mod_self,sy (by omega),h.P_at (by omega)]
    show _=T.getD 0 dPt
    rw[h.fst,←g.lst];congr 1;omega
 ·rw[d6] at hj
  by_cases q:j<P.length
  ·rw[sy q,sy (by omega),h.P_at q,h.P_at (by omega)]
   exact h.ne hij (by omega)
  ·rw[at2 j q,g.P_at (by omega)]
   by_cases q2:i<P.length
   ·rw[sy q2,h.P_at q2]
    intro e
    have u1:=kA q2
    have u2:=kB (i:=j-P.length) (by omega)
    have:=CC (cg (h.o _ (bX (by omega))).1) (cg (g.o _ (bX (by omega))).1) (show cP (T.getD i dPt) (T2.getD (j-P.length) dPt)=0 from e) k
    rw[u1,u2] at this;cases this
   ·rw[at2 i q2,g.P_at (by omega)]
    exact g.ne (by omega) (by omega)
end Go.Proofs.YtegpmhlfjkhjmaaGreat
namespace Go.Proofs.YtegpmhlfjkhjmaaGreat
variable {a f i n s:Nat}
def qL (e:Nat→Bool) (i:Nat):Nat→Nat
 |0=>0
 |f+1=>if e (i+1) then qL e (i+1) f+1 else 0
def Nv (e:Nat→Bool) (a:Nat):Bool:=e (a+1)&& !e a
def mI (e:Nat→Bool) (s n:Nat):List Nat:=((List.range n).map (s+ ·)).filter (Nv e)
section
variable {e:Nat→Bool}
theorem CI: ∀(f i:Nat),qL e i f≤f
 |0,_=>ck _
 |f+1,i=>by
  unfold qL
  have:=CI f (i+1)
  split<;>omega
theorem vu: ∀(f i j:Nat),j<qL e i f→e (i+1+j)=true
 |0,i,j,h=>absurd h (Nat.not_lt_zero _)
 |f+1,i,j,h=>by
  unfold qL at h
  split at h
  ·rename_i g
   cases j with
   |zero=>exact g
   |succ j=>rw[show i+1+(j+1)=(i+1)+1+j from by omega];exact vu f (i+1) j (by omega)
  ·omega
theorem sO: ∀(f i:Nat),qL e i f≠f→e (i+1+qL e i f)=false
 |0,i,h=>absurd rfl h
 |f+1,i,h=>by
  unfold qL at h⊢
  by_cases g:e (i+1)=true
  ·rw[if_pos g] at h⊢
   rw[show i+1+(qL e (i+1) f+1)=(i+1)+1+qL e (i+1) f from by omega]
   exact sO f (i+1) (by omega)
  ·rw[if_neg g]
   simpa using g
theorem Kp {m:Nat}(h:m≤f) (h1: ∀j,j<m→e (i+1+j)=true) (h2:m=f∨e (i+1+m)=false):qL e i f=m:=by
 rcases Nat.lt_trichotomy (qL e i f) m with g|g|g
 ·have a:=sO (e:=e) f i (by omega)
  rw[h1 _ g] at a;cases a
 ·exact g
 ·have a:=vu (e:=e) f i m g
  have b:=CI (e:=e) f i
  rcases h2 with h2|h2
  ·omega
  ·rw[h2] at a;cases a
theorem KA (h:qL e i f≠f∨e (i+1+f)=false):qL e i (f+1)=qL e i f:=by
 refine Kp (by have:=CI (e:=e) f i;omega) (fun j hj=>vu f i j hj) (.inr ?_)
 by_cases g:qL e i f=f
 ·rw[g];exact h.resolve_left (fun k=>k g)
 ·exact sO f i g
theorem LD (h:qL e i f=f) (g:e (i+1+f)=true):qL e i (f+1)=f+1:=by
 refine Kp (ck _) (fun j hj=>?_) (.inl rfl)
 by_cases k:j=f
 ·rw[k];exact g
 ·exact vu f i j (by omega)
theorem s7 (s n:Nat):mI e s (n+1)=mI e s n++(if Nv e (s+n) then[s+n] else[]):=by
 unfold mI
 rw[List.range_succ,rV,Ba]
 congr 1
 rw[List.map_singleton,List.filter_cons]
 split<;>rfl
theorem JW (s n:Nat) (h:Nv e (s+n)=false):mI e s (n+1)=mI e s n:=by rw[s7,h];simp
theorem RA (s n:Nat) (h:Nv e (s+n)=true):mI e s (n+1)=mI e s n++[s+n]:=by rw[s7,h];simp
theorem FT:Nv e a=true↔e (a+1)=true∧e a=false:=by unfold Nv;simp
theorem gM:a∈mI e s n↔s≤a∧a<s+n∧e (a+1)=true∧e a=false:=by
 unfold mI
 rw[mG,FT,pp]
 constructor
 ·rintro⟨⟨j,hj,rfl⟩,h2⟩
  have:=ko.1 hj
  exact⟨by omega,by omega,h2⟩
 ·rintro⟨h1,h2,h3⟩
  exact⟨⟨a-s,ko.2 (by omega),by omega⟩,h3⟩
theorem Fy (s:Nat): ∀n,(mI e s n).Pairwise (· < ·)
 |0=>List.Pairwise.nil
 |n+1=>by
  rw[s7]
  refine yl.2 ⟨Fy s n,?_,fun a ha b hb=>?_⟩
  ·split
   ·exact CT _ _
   ·exact List.Pairwise.nil
  ·split at hb
   ·rw[nC.1 hb];exact(gM.1 ha).2.1
   ·cases hb
theorem AI {s:Nat}(h0:e s=false): ∀n,e (s+n)=true→ ∃L a,mI e s n=L++[a]∧qL e (a+1) (s+n-(a+1))=s+n-(a+1)
 |0,h=>by rw[rZ,h0] at h;cases h
 |n+1,h=>by
  cases g:e (s+n) with
  |false=>
   refine⟨mI e s n,s+n,RA s n (FT.2 ⟨h,g⟩),?_⟩
   rw[show s+(n+1)-(s+n+1)=0 from by omega];rfl
  |true=>
   obtain⟨L,a,h1,h2⟩:=AI h0 n g
   refine⟨L,a,by rw[JW s n (by unfold Nv;rw[g];simp)];exact h1,?_⟩
   have ha:a∈mI e s n:=by rw[h1];simp
   have hb:=(gM.1 ha).2.1
   rw[show s+(n+1)-(a+1)=s+n-(a+1)+1 from by omega]
   exact LD h2 (by rw[show a+1+1+(s+n-(a+1))=s+(n+1) from by omega];exact h)
theorem xj {b:Nat}(ha:a∈mI e s n) (hab:a<b) (hb:b≤s+n) (h:e b=false):qL e (a+1) (s+n-(a+1))≠s+n-(a+1):=fun q=>by
 obtain⟨_,h2,h3,_⟩:=gM.1 ha
 by_cases g:b=a+1
 ·rw[g,h3] at h;cases h
 ·have:=vu (e:=e) _ _ (b-(a+2)) (by rw[q];omega)
  rw[show a+1+1+(b-(a+2))=b from by omega,h] at this;cases this
end
def AG (P:List Cv) (u v:Nat):Cv:=(P.getD (u%P.length) bY).ends (P.getD (u%P.length) bY).p (P.getD (v%P.length) bY).q
def mr (P:List Cv) (e:Nat→Bool) (s n:Nat):List Cv:=(mI e s n).map fun a=>AG P (a+1) (a+1+qL e (a+1) (s+n-(a+1)))
theorem TD (c:Cv):c.ends c.p c.q=c:=by cases c<;>rfl
theorem QR (c:Cv) (a b x:Pt):(c.ends a b).ends (c.ends a b).p x=c.ends a x:=by cases c<;>rfl
section
variable {P:List Cv}{e:Nat→Bool}{s n:Nat}
theorem Ld:(mr P e s n).length≤n:=by
 unfold mr mI
 rw[List.length_map]
 exact nF (sC _ _) (by simp)
theorem Bb (h:e (s+n+1)=false):mr P e s (n+1)=mr P e s n:=by
 unfold mr
 rw[JW s n (by unfold Nv;rw[h];rfl)]
 refine Ar fun a ha=>?_
 have:=(gM.1 ha).2.1
 rw[show s+(n+1)-(a+1)=s+n-(a+1)+1 from by omega,KA (.inr (by rw[show a+1+1+(s+n-(a+1))=s+n+1 from by omega];exact h))]
theorem n7 (h:e (s+n+1)=true) (g:e (s+n)=false):mr P e s (n+1)=mr P e s n++[P.getD ((s+n+1)%P.length) bY]:=by
 unfold mr
 rw[RA s n (FT.2 ⟨h,g⟩),rV]
 congr 1
 ·refine Ar fun a ha=>?_
  have:=(gM.1 ha).2.1
  rw[show s+(n+1)-(a+1)=s+n-(a+1)+1 from by omega,KA (.inl (xj ha (b:=s+n) (by omega) (ck _) g))]
 ·rw[List.map_singleton,show s+(n+1)-(s+n+1)=0 from by omega]
  show[AG P (s+n+1) (s+n+1)]=_
  unfold AG
  rw[TD]
theorem QQ (h0:e s=false) (h:e (s+n+1)=true) (g:e (s+n)=true): ∃L c,mr P e s n=L++[c]∧mr P e s (n+1)=L++[c.ends c.p (P.getD ((s+n+1)%P.length) bY).q]:=by
 obtain⟨L,a,h1,h2⟩:=AI h0 n g
 have ha:a∈mI e s n:=by rw[h1];simp
 have hb:=(gM.1 ha).2
 refine⟨L.map fun a=>AG P (a+1) (a+1+qL e (a+1) (s+n-(a+1))),AG P (a+1) (s+n),?_,?_⟩
 ·unfold mr
  rw[h1,rV,List.map_singleton,h2,show a+1+(s+n-(a+1))=s+n from by omega]
 ·unfold mr
  rw[JW s n (by unfold Nv;rw[g];simp),h1,rV,List.map_singleton]
  congr 1
  ·refine Ar fun b hb2=>?_
   have hm:b∈mI e s n:=by rw[h1];exact List.mem_append_left _ hb2
   have hlt:b<a:=(yl.1 (h1▸Fy (e:=e) s n)).2.2 b hb2 a (by simp)
   have:=(gM.1 hm).2.1
   rw[show s+(n+1)-(b+1)=s+n-(b+1)+1 from by omega,KA (.inl (xj hm hlt (by omega) hb.2.2))]
  ·rw[show s+(n+1)-(a+1)=s+n-(a+1)+1 from by omega,LD h2 (by rw[show a+1+1+(s+n-(a+1))=s+n+1 from by omega];exact h),show a+1+(s+n-(a+1)+1)=s+n+1 from by omega]
   unfold AG
   rw[QR]
end
structure Rnd (e:Nat→Bool) (n:Nat):Prop where
 pos:0<n
 per: ∀x,e (x+n)=e x
def qi (e:Nat→Bool) (n:Nat):List Nat:=(List.range n).filter fun i=>e i&& !e (i+n-1)
section
variable {P:List Cv}{e:Nat→Bool}{s n:Nat}
theorem Vc {u v:Nat}:AG P (u+P.length) (v+P.length)=AG P u v:=by unfold AG;rw[Aq,Aq]
theorem Mx (h: ∀x,e (x+n)=e x): ∀(f i:Nat),qL e (i+n) f=qL e i f
 |0,i=>rfl
 |f+1,i=>by
  unfold qL
  rw[show i+n+1=i+1+n from by omega,h,Mx h f (i+1)]
theorem VJ (hr:Rnd e P.length) (hs:e s=false):mr P e s P.length=(mI e s P.length).map fun a=>AG P (a+1) (a+1+qL e (a+1) P.length):=by
 unfold mr
 refine Ar fun a ha=>?_
 obtain⟨h1,h2,h3,_⟩:=gM.1 ha
 have hd:=xj ha (b:=s+P.length) (by omega) (ck _) (by rw[hr.per];exact hs)
 rw[Kp (e:=e) (f:=P.length) (i:=a+1) (m:=qL e (a+1) (s+P.length-(a+1))) (nF (CI _ _) (by omega)) (fun j hj=>vu _ _ j hj) (.inr (sO _ _ hd))]
theorem QW (hr:Rnd e n) (hs:s<n):((mI e s n).map fun a=>(a+1)%n).Perm (qi e n):=by
 have md: ∀x,x<n→(x+n)%n=x:=fun x hx=>by rw[Aq];exact sN hx
 have ml: ∀a,s≤a→a<s+n→(a+1)%n=if a+1<n then a+1 else if a+1<n+n then a+1-n else 0:=fun a h1 h2=>by
  by_cases g:a+1<n
  ·rw[if_pos g];exact sN g
  ·rw[if_neg g]
   by_cases g2:a+1<n+n
   ·rw[if_pos g2,show a+1=(a+1-n)+n from by omega,md _ (by omega)];omega
   ·omega
 refine(List.perm_ext_iff_of_nodup ?_ ?_).2 fun i=>?_
 ·refine List.Pairwise.map _ (R:=fun a b=>a∈mI e s n∧b∈mI e s n∧a<b) (fun a b ⟨ha,hb,h⟩ q=>?_) (uE (fun{a b} ha hb h=>⟨ha,hb,h⟩) (Fy s n))
  obtain⟨a1,a2,_⟩:=gM.1 ha
  obtain⟨b1,b2,_⟩:=gM.1 hb
  rw[ml a a1 a2,ml b b1 b2] at q
  grind
 ·exact List.Pairwise.filter _ List.nodup_range
 ·unfold qi
  rw[pp,mG,ko]
  constructor
  ·rintro⟨a,ha,rfl⟩
   obtain⟨a1,a2,a3,a4⟩:=gM.1 ha
   have hl:=ml a a1 a2
   refine⟨Nat.mod_lt _ hr.pos,?_⟩
   by_cases g:a+1<n
   ·rw[if_pos g] at hl
    rw[hl,a3,show a+1+n-1=a+n from by omega,hr.per,a4];rfl
   ·rw[if_neg g,if_pos (by omega)] at hl
    rw[hl,show a+1-n+n-1=a from by omega,a4,←hr.per,show a+1-n+n=a+1 from by omega,a3];rfl
  ·rintro⟨h1,h2⟩
   rw[di] at h2
   have h3:e (i+n-1)=false:=by simpa using h2.2
   by_cases g:s+1≤i
   ·refine⟨i-1,gM.2 ⟨by omega,by omega,by rw[show i-1+1=i from by omega];exact h2.1,?_⟩,?_⟩
    ·rw[show i+n-1=i-1+n from by omega,hr.per] at h3;exact h3
    ·show(i-1+1)%n=i
     rw[show i-1+1=i from by omega];exact sN h1
   ·refine⟨i+n-1,gM.2 ⟨by omega,by omega,by rw[show i+n-1+1=i+n from by omega,hr.per];exact h2.1,h3⟩,?_⟩
    show(i+n-1+1)%n=i
    rw[show i+n-1+1=i+n from by omega,md _ h1]
theorem Up (hr:Rnd e P.length) (hs:e s=false) (hl:s<P.length):mr P e s P.length=((mI e s P.length).map fun a=>(a+1)%P.length).map fun i=>AG P i (i+qL e i P.length):=by
 rw[VJ hr hs,List.map_map]
 refine Ar fun a ha=>?_
 obtain⟨a1,a2,_⟩:=gM.1 ha
 show _=AG P ((a+1)%P.length) ((a+1)%P.length+qL e ((a+1)%P.length) P.length)
 by_cases g:a+1<P.length
 ·rw[sN g]
 ·obtain⟨b,hb⟩: ∃b,a+1=b+P.length:=⟨a+1-P.length,by omega⟩
  rw[hb,Aq,sN (show b<P.length by omega),Mx hr.per,show b+P.length+qL e b P.length=b+qL e b P.length+P.length from by omega,Vc]
end
end Go.Proofs.YtegpmhlfjkhjmaaGreat
namespace Go.Proofs.YtegpmhlfjkhjmaaGreat
open Go Go.RowKit
variable {d:Ci}{lm:Int}{rs:List CellD}{L:List Ci}{l:Ln}{N c9 i m n:Nat}{e:Nat→Bool}{a' b' p q:Pt}{a a1 a2 b b1 b2 c w x y z:Rat}
def dj (a b:Cv):Int:=cP a.p b.p
def Jq (p:Cv):List Cv→Nat
 |[]=>0
 |x::l=>if dj x p<0 then Jq p l+1 else 0
def Ha (o:List Cv) (p:Cv):List Cv:=o.take (Jq p o)++p::o.drop (Jq p o)
def sI (R:List Cv) (e:Nat→Bool) (i:Nat):Cv:=AG R i (i+qL e i R.length)
def rfC (R:List Cv) (e:Nat→Bool) (i:Nat):List Cv:=(((List.range i).filter fun i=>e i&& !e (i+R.length-1)).map (sI R e)).foldl Ha []
theorem EC (x:Cv) (l:List Cv) (p:Cv):Ha (x::l) p=if dj x p<0 then x::Ha l p else p::x::l:=by
 unfold Ha
 show(x::l).take (if dj x p<0 then Jq p l+1 else 0)++p::(x::l).drop (if dj x p<0 then Jq p l+1 else 0)=_
 split<;>rfl
theorem sM: ∀(l:List Cv) (p:Cv),(Ha l p).Perm (p::l)
 |[],p=>List.Perm.refl _
 |x::l,p=>by
  rw[EC]
  split
  ·exact(List.Perm.cons x (sM l p)).trans (List.Perm.swap p x l)
  ·exact List.Perm.refl _
theorem yr: ∀(L o:List Cv),(L.foldl Ha o).Perm (o++L)
 |[],o=>by simp
 |x::L,o=>by
  rw[vk]
  exact(yr L _).trans (((sM o x).append_right L).trans List.perm_middle.symm)
section
variable {G:Cv→Prop}(anti: ∀x y,G x→G y→dj y x= -dj x y) (tr: ∀x y z,G x→G y→G z→dj x y≤0→dj y z≤0→dj x z≤0)
include anti tr
theorem It: ∀ {l:List Cv}{p:Cv},G p→(∀x∈l,G x)→(∀x∈l,dj x p≠0)→l.Pairwise (fun a b=>dj a b<0)→(Ha l p).Pairwise fun a b=>dj a b<0
 |[],p,_,_,_,_=>CT _ _
 |x::l,p,hp,hl,hn,h=>by
  obtain⟨h1,h2⟩:=lj.1 h
  have hx:=hl x io
  have hl2: ∀y∈l,G y:=fun y hy=>hl y (jd _ hy)
  rw[EC]
  split
  ·rename_i e
   refine lj.2 ⟨fun y hy=>?_,It hp hl2 (fun y hy=>hn y (jd _ hy)) h2⟩
   rcases d8.1 ((sM l p).mem_iff.1 hy) with rfl|hy
   ·exact e
   ·exact h1 y hy
  ·rename_i e
   have e2:dj p x<0:=by
    have:=anti p x hp hx
    have:=hn x io
    omega
   refine lj.2 ⟨fun y hy=>?_,h⟩
   rcases d8.1 hy with rfl|hy
   ·exact e2
   ·exact To anti tr hp hx (hl2 y hy) e2 (qw (h1 y hy))
theorem EZ: ∀(L:List Cv) {o:List Cv},(∀x∈L,G x)→(∀x∈o,G x)→(∀x∈o,∀y∈L,dj x y≠0)→L.Pairwise (fun a b=>dj a b≠0)→o.Pairwise (fun a b=>dj a b<0)→(L.foldl Ha o).Pairwise fun a b=>dj a b<0
 |[],o,_,_,_,_,h=>h
 |x::L,o,hL,ho,hn,hp,h=>by
  obtain⟨p1,p2⟩:=lj.1 hp
  have gx:=hL x io
  rw[vk]
  refine EZ L (fun y hy=>hL y (jd _ hy)) (fun y hy=>?_) (fun y hy z hz=>?_) p2 (It anti tr gx ho (fun y hy=>hn y hy x io) h)
  ·rcases d8.1 ((sM o x).mem_iff.1 hy) with rfl|hy
   ·exact gx
   ·exact ho y hy
  ·rcases d8.1 ((sM o x).mem_iff.1 hy) with rfl|hy
   ·exact p1 z hz
   ·exact hn y hy z (jd _ hz)
end
theorem EL {e:Nat→Bool}{s:Nat}: ∀n,2*(mI e s n).length≤n+1
 |0=>by show 2*0≤1;omega
 |1=>by
  rw[s7]
  show 2*(if _ then[s+0] else[]).length≤2
  split<;>simp
 |n+2=>by
  have ih:=EL (e:=e) (s:=s) n
  rw[s7,s7,d6,d6]
  cases h:e (s+n+1) with
  |true=>
   rw[show Nv e (s+(n+1))=false from by unfold Nv;rw[show s+(n+1)=s+n+1 from by omega,h];simp,if_neg (show ¬false=true by decide)]
   split<;>simp<;>omega
  |false=>
   rw[show Nv e (s+n)=false from by unfold Nv;rw[h];rfl,if_neg (show ¬false=true by decide)]
   split<;>simp<;>omega
theorem Q7 {P:List Cv}{s:Nat}:2*(mr P e s n).length≤n+1:=by unfold mr;rw[List.length_map];exact EL n
theorem Gz {a b:Pt}(ha:0≤a.c) (hb:0≤b.c) (ha':0≤a'.c) (hb':0≤b'.c) (h:cP a a'=0) (g:cP b b'=0):cP a b=cP a' b':=by
 have x1:=xl ha ha' h hb
 have x2:=xl hb hb' g ha'
 have y1:=Cg ha ha' h hb
 have y2:=Cg hb hb' g ha'
 have c1:=dd ha' hb
 have c2:=dd ha' hb'
 have d1:cy b a'= -cy a' b:=by rw[rW hb ha',rW ha' hb,vJ]
 have d2:cy b' a'= -cy a' b':=by rw[rW hb' ha',rW ha' hb',vJ]
 show(if cx a b≠0 then cx a b else cy a b)=(if cx a' b'≠0 then cx a' b' else cy a' b')
 rw[show cx a b=cx a' b' from by omega,show cy a b=cy a' b' from by omega]
section
variable {k:Ci}(hk:GK k) (h0:0<k.q) {P R:List Cv}(S:Sim k P R) {e:Nat→Bool}(hr:Rnd e P.length)
theorem Rnd.mod {e:Nat→Bool}(h:Rnd e n) (x:Nat):e (x%n)=e x:=by
 have key: ∀q r,e (r+n*q)=e r:=fun q r=>by
  induction q with
  |zero=>rw[Nat.mul_zero,rZ]
  |succ q ih=>rw[Nat.mul_succ,←Nat.add_assoc,h.per,ih]
 have:=key (x/n) (x%n)
 rw[Nat.mod_add_div] at this
 exact this.symm
include hk h0 S hr
theorem UA (hi:i<P.length) (he:e i=true) (hb:e (i+P.length-1)=false): ∃a b a' b':Pt,sI P e i=.arc k false a b∧sI R e i=.arc k false a' b'∧a=(P.getD i bY).p∧a'=(R.getD i bY).p∧CvV (.arc k false a b)∧CvV (.arc k false a' b')∧cP a a'=0∧cP b b'=0∧qL e i P.length≤P.length∧e (i+1+qL e i P.length)=false:=by
 have hn:=S.two
 have hpos:0<P.length:=by omega
 have hm:=CI (e:=e) P.length i
 have hlt:qL e i P.length≠P.length:=fun q=>by
  have:=vu (e:=e) P.length i (P.length-2) (by omega)
  rw[show i+1+(P.length-2)=i+P.length-1 from by omega,hb] at this;cases this
 have hs:=sO _ _ hlt
 generalize hm9:qL e i P.length=m at hm hlt hs
 have hj:(i+m)%P.length<P.length:=Nat.mod_lt _ hpos
 have hj2:(i+m+1)%P.length<P.length:=Nat.mod_lt _ hpos
 obtain⟨a,b,a',b',p1,p2,⟨o1,o2⟩,⟨o3,o4⟩,z1,z2,z3,_⟩:=S.at_ i hi
 obtain⟨c,d,c',d',q1,q2,⟨u1,u2⟩,⟨u3,u4⟩,w1,w2,w3,_⟩:=S.at_ _ hj
 have nx:=S.nxt _ hj
 rw[q1,show((i+m)%P.length+1)%P.length=(i+m+1)%P.length from by rw[Nat.mod_add_mod]] at nx
 have nx:d=(P.getD ((i+m+1)%P.length) bY).p:=nx
 have hne:(i+m+1)%P.length≠i:=fun q=>by
  have:=hr.mod (i+m+1)
  rw[q,he,show i+m+1=i+1+m from by omega,hs] at this;cases this
 obtain⟨c2,d2,_,_,r1,_,⟨v1,_⟩,_⟩:=S.at_ _ hj2
 have dne:cP a d≠0:=by
  rw[nx]
  rcases jY i ((i+m+1)%P.length) with g|g
  ·have:=S.dis i _ g hj2
   rw[p1] at this;exact this
  ·have:=S.dis ((i+m+1)%P.length) i (by omega) hi
   rw[p1,r1] at this
   rw[r1]
   exact fun q=>this (mZ (aU o1) (aU v1) q)
 have e1:sI P e i=.arc k false a d:=by
  unfold sI AG
  rw[hm9,sN hi,p1,q1];rfl
 have e2:sI R e i=.arc k false a' d':=by
  unfold sI AG
  rw[←S.len,hm9,sN hi,p2,q2];rfl
 have cv: ∀ {x y:Pt},OnK k x→OnK k y→cP x y≠0→CvV (.arc k false x y):=fun ox oy h=>⟨⟨hk,ox.1,oy.1⟩,h0,bK.2 ox.2,bK.2 oy.2,h⟩
 refine⟨a,d,a',d',e1,e2,by rw[p1];rfl,by rw[p2];rfl,cv o1 u2 dne,cv o3 u4 ?_,z1,w2,hm,hs⟩
 rw[←Gz (aU o1) (aU u2) (aU o3) (aU u4) z1 w2];exact dne
end
theorem yY:i∈qi e n↔i<n∧e i=true∧e (i+n-1)=false:=by
 unfold qi
 rw[mG,ko,di,qg]
theorem M8 {k:Ci}{v w:Bool}{a b c d:Pt}:WY (.arc k v a b) (.arc k w c d)=true:=by
 have: ∀x:Rat,Cx x x=true:=fun x=>by unfold Cx;rw[show aX x x=0 from by unfold aX;grind];rfl
 show(Cx k.x k.x&&Cx k.y k.y&&Cx k.q k.q)=true
 rw[this,this,this];rfl
section
variable {k:Ci}(hk:GK k) (h0:0<k.q) {P R:List Cv}(S:Sim k P R) {e:Nat→Bool}(hr:Rnd e P.length) {s:Nat}(hs:s<P.length) (es:e s=false)
include hk h0 S hr hs es
theorem Jv:(bp bY dj (mr P e s P.length)).length=(rfC R e R.length).length∧(∀x∈bp bY dj (mr P e s P.length),CvV x∧x.cw=false∧x.isArc=true)∧(∀x∈rfC R e R.length,CvV x)∧
 ∀i,i<(bp bY dj (mr P e s P.length)).length→eqC ((bp bY dj (mr P e s P.length)).getD i bY) ((rfC R e R.length).getD i bY)=true:=by
 have hb:=QW hr hs
 rw[Up hr es hs]
 have c0: ∀ {x:Cv},CvV x→0≤x.p.c:=fun v=>cg (kO v.g)
 have anti: ∀x y,CvV x→CvV y→dj y x= -dj x y:=fun x y hx hy=>fS (c0 hx) (c0 hy)
 have tr: ∀x y z,CvV x→CvV y→CvV z→dj x y≤0→dj y z≤0→dj x z≤0:=fun x y z hx hy hz h1 h2=>(PP (c0 hx) (c0 hy) (c0 hz)).1 h1 h2
 have run:=fun i (h:i∈qi e P.length)=>UA hk h0 S hr (yY.1 h).1 (yY.1 h).2.1 (yY.1 h).2.2
 have vP: ∀i∈qi e P.length,CvV (sI P e i)∧(sI P e i).cw=false∧(sI P e i).isArc=true∧(sI P e i).p=(P.getD i bY).p:=fun i h=>by
  obtain⟨a,b,a',b',e1,e2,e3,e4,v1,v2,_⟩:=run i h
  rw[e1];exact⟨v1,rfl,rfl,e3⟩
 have vR: ∀i∈qi e P.length,CvV (sI R e i):=fun i h=>by
  obtain⟨a,b,a',b',e1,e2,e3,e4,v1,v2,_⟩:=run i h
  rw[e2];exact v2
 have same: ∀i∈qi e P.length,∀j∈qi e P.length,dj (sI R e i) (sI R e j)=dj (sI P e i) (sI P e j):=fun i hi j hj=>by
  obtain⟨a,b,a',b',e1,e2,_,_,v1,v2,z1,_⟩:=run i hi
  obtain⟨c,d,c',d',f1,f2,_,_,w1,w2,z2,_⟩:=run j hj
  rw[e1,e2,f1,f2]
  exact(Gz (cg (kO v1.g)) (cg (kO w1.g)) (cg (kO v2.g)) (cg (kO w2.g)) z1 z2).symm
 have dis: ∀i∈qi e P.length,∀j∈qi e P.length,i≠j→dj (sI P e i) (sI P e j)≠0:=fun i hi j hj hij=>by
  show cP _ _≠0
  rw[(vP i hi).2.2.2,(vP j hj).2.2.2]
  rcases jY i j with g|g
  ·exact S.dis i j g (yY.1 hj).1
  ·intro q
   have q2:=anti _ _ (vP i hi).1 (vP j hj).1
   have:dj (sI P e j) (sI P e i)=cP (P.getD j bY).p (P.getD i bY).p:=by unfold dj;rw[(vP i hi).2.2.2,(vP j hj).2.2.2]
   have q3:dj (sI P e i) (sI P e j)=cP (P.getD i bY).p (P.getD j bY).p:=by unfold dj;rw[(vP i hi).2.2.2,(vP j hj).2.2.2]
   exact S.dis j i (by omega) (yY.1 hi).1 (by omega)
 have ndB:(qi e P.length).Nodup:=List.Pairwise.filter _ List.nodup_range
 have hJ:(bp 0 (fun i j=>dj (sI P e i) (sI P e j)) (qi e P.length)).Perm (qi e P.length):=jl _
 have sJ:(bp 0 (fun i j=>dj (sI P e i) (sI P e j)) (qi e P.length)).Pairwise fun i j=>dj (sI P e i) (sI P e j)≤0:=
  wU (e:=0) (C:=fun i j=>dj (sI P e i) (sI P e j)) (G:=fun i=>i∈qi e P.length) (fun x y hx hy=>anti _ _ (vP x hx).1 (vP y hy).1) (fun x y z hx hy hz h1 h2=>tr _ _ _ (vP x hx).1 (vP y hy).1 (vP z hz).1 h1 h2) (qi e P.length) (O:=[]) (fun y hy=>hy) (fun y hy=>by cases hy) .nil
 generalize bp 0 (fun i j=>dj (sI P e i) (sI P e j)) (qi e P.length)=J at hJ sJ
 have mJ: ∀i∈J,i∈qi e P.length:=fun i h=>hJ.mem_iff.1 h
 have ndJ:J.Nodup:=hJ.symm.nodup ndB
 have sJ2:J.Pairwise fun i j=>dj (sI P e i) (sI P e j)<0:=uE (fun{a b} ha hb g=>by
  have:=dis a (mJ a ha) b (mJ b hb) g.2
  omega) (sJ.and ndJ)
 have lt9: ∀ {Q:List Cv}{A B:List Cv},(∀x∈A,CvV x)→A.Perm B→A.Pairwise (fun a b=>dj a b<0)→B.Pairwise (fun a b=>dj a b<0)→A=B:=fun{Q A B} hA hp h1 h2=>CH (fun a ha b hb g g2=>by
  have:=anti a b (hA a ha) (hA b hb)
  omega) hp h1 h2
 have eX:bp bY dj ((((mI e s P.length).map fun a=>(a+1)%P.length)).map fun i=>AG P i (i+qL e i P.length))=J.map (sI P e):=by
  have pm:=(jl (e:=bY) (C:=dj) ((((mI e s P.length).map fun a=>(a+1)%P.length)).map fun i=>AG P i (i+qL e i P.length))).trans ((hb.trans hJ.symm).map (sI P e))
  have hv: ∀x∈J.map (sI P e),CvV x:=fun x hx=>by
   obtain⟨i,hi,rfl⟩:=pp.1 hx
   exact(vP i (mJ i hi)).1
  have hv2: ∀x∈bp bY dj ((((mI e s P.length).map fun a=>(a+1)%P.length)).map fun i=>AG P i (i+qL e i P.length)),CvV x:=fun x hx=>hv x (pm.mem_iff.1 hx)
  have h2:(J.map (sI P e)).Pairwise fun a b=>dj a b<0:=List.pairwise_map.2 sJ2
  refine lt9 (Q:=[]) hv2 pm ?_ h2
  have s1:=wU (e:=bY) (C:=dj) (G:=CvV) anti tr ((((mI e s P.length).map fun a=>(a+1)%P.length)).map fun i=>AG P i (i+qL e i P.length)) (O:=[]) (fun x hx=>hv2 x ((jl _).mem_iff.2 hx)) (fun y hy=>by cases hy) .nil
  have s2:(bp bY dj ((((mI e s P.length).map fun a=>(a+1)%P.length)).map fun i=>AG P i (i+qL e i P.length))).Pairwise fun a b=>dj a b≠0∧CvV a∧CvV b:=by
   refine pm.symm.pairwise (uE (fun{a b} ha hb g=>⟨by omega,hv a ha,hv b hb⟩) h2) (fun{a b} g=>⟨fun q=>g.1 ?_,g.2.2,g.2.1⟩)
   have:=anti a b g.2.1 g.2.2
   omega
  refine List.Pairwise.imp (fun{a b} g=>?_) (List.Pairwise.and s1 s2)
  have:=g.1
  have:=g.2.1
  omega
 have eY:rfC R e R.length=J.map (sI R e):=by
  have bR:((List.range R.length).filter fun i=>e i&& !e (i+R.length-1))=qi e P.length:=by unfold qi;rw[S.len]
  unfold rfC
  rw[bR]
  have pm:=(yr ((qi e P.length).map (sI R e)) []).trans ((hJ.symm.map (sI R e)))
  have hv: ∀x∈(qi e P.length).map (sI R e),CvV x:=fun x hx=>by
   obtain⟨i,hi,rfl⟩:=pp.1 hx
   exact vR i hi
  refine lt9 (Q:=[]) (fun x hx=>hv x ((yr _ []).mem_iff.1 hx)) pm ?_ (List.pairwise_map.2 (uE (fun{a b} ha hb g=>by rw[same a (mJ a ha) b (mJ b hb)];exact g) sJ2))
  refine EZ (G:=CvV) anti tr _ hv (fun x hx=>by cases hx) (fun x hx=>by cases hx) (List.pairwise_map.2 (uE (fun{a b} ha hb g=>?_) ndB)) .nil
  rw[same a ha b hb];exact dis a ha b hb g
 rw[eX,eY]
 refine⟨by simp,fun x hx=>?_,fun x hx=>?_,fun i hi=>?_⟩
 ·obtain⟨i,hi,rfl⟩:=pp.1 hx
  have:=vP i (mJ i hi)
  exact⟨this.1,this.2.1,this.2.2.1⟩
 ·obtain⟨i,hi,rfl⟩:=pp.1 hx
  exact vR i (mJ i hi)
 ·have hi2:i<J.length:=by simpa using hi
  have a1: ∀(f:Nat→Cv),(J.map f).getD i bY=f (J[i]):=fun f=>by simp[List.getD,hi2]
  rw[a1,a1]
  obtain⟨a,b,a',b',e1,e2,_,_,v1,v2,z1,z2,_⟩:=run _ (mJ _ (wv hi2))
  rw[e1,e2]
  unfold eqC
  rw[M8]
  show(true&&((false==false)&&((cP a a'==0)&&(cP b b'==0))))=true
  rw[z1,z2];rfl
end
theorem KL {p q r s:Int}(hq:0<q) (hs:0<s) (h:p*s≤r*q):fr p q≤fr r s:=by
 apply fe
 intro hn
 have h0:fr r s<fr p q:=by grind
 have hqs:=o5 (sZ hq hs)
 have h1:=wn h0 hqs
 have e1:=ij (p:=p) hq
 have e2:=ij (p:=r) hs
 rw[dD] at h1
 have h2:((r*q:Int):Rat)<((p*s:Int):Rat):=by
  rw[dD,dD,←e1,←e2]
  grind
 have:=iF.1 h2
 omega
theorem XZ (h:z<w) (e:z.den=w.den):z.num<w.num:=by
 apply fe
 intro hn
 have hz:=yj z
 have hw:=yj w
 have hd:(0:Int)<z.den:=by have:=z.den_pos;omega
 have:fr w.num (w.den:Int)≤fr z.num (z.den:Int):=KL (by omega) hd (by rw[←e];exact vv (by omega) (by omega))
 rw[hz,hw] at this
 grind
section
variable {S:Rat→Prop}(cv: ∀x y z,S x→S z→x≤y→y≤z→S y)
include cv
theorem Sr (hz:S z) (hw:S w) (dz: ∀p q:Int,0<q→S (fr p q)→(z.den:Int)≤q) (dw: ∀p q:Int,0<q→S (fr p q)→(w.den:Int)≤q)
 (nz:z.den=1→z≠0→ ¬S (z-((aX z 0:Int):Rat))) (nw:w.den=1→w≠0→ ¬S (w-((aX w 0:Int):Rat))) (h:z<w):False:=by
 have pz:=z.den_pos
 have pw:=w.den_pos
 have d1:=dz w.num w.den (by omega) (by rw[yj];exact hw)
 have d2:=dw z.num z.den (by omega) (by rw[yj];exact hz)
 have e:z.den=w.den:=by omega
 have hn:=XZ h e
 have fz:=yj z
 have fw:=yj w
 by_cases g:z.den=1
 ·have iz:((z.num:Int):Rat)=z:=by
   have:=ij (p:=z.num) (q:=(z.den:Int)) (by omega)
   rw[fz,g] at this;grind
  have iw:((w.num:Int):Rat)=w:=by
   have:=ij (p:=w.num) (q:=(w.den:Int)) (by omega)
   rw[fw,←e,g] at this;grind
  have step: ∀ {a b:Int},a≤b→(a:Rat)≤(b:Rat):=fun h=>fm.2 h
  by_cases k:0≤z.num
  ·have w0:0<w:=by rw[←iw];exact o5 (by omega)
   have c1:aX w 0=1:=by unfold aX;rw[if_neg (by grind),if_pos w0]
   refine nw (by omega) (by grind) (cv z _ w hz hw ?_ ?_)
   ·rw[c1,←iw,←iz]
    have:=step (show z.num+1≤w.num by omega)
    rw[gz] at this
    grind
   ·rw[c1];grind
  ·have z0:z<0:=by
    rw[←iz];exact iF.2 (show z.num<(0:Int) by omega)
   have c1:aX z 0= -1:=by unfold aX;rw[if_pos z0]
   refine nz g (by grind) (cv z _ w hz hw ?_ ?_)
   ·rw[c1];grind
   ·rw[c1,←iw,←iz]
    have:=step (show z.num+1≤w.num by omega)
    rw[gz] at this
    grind
 ·have q2:(0:Int)<(z.den:Int)-1:=by omega
  have hq:(0:Int)<(z.den:Int):=by omega
  have f1:z.num.fdiv z.den*z.den≤z.num:=by
   rw[rA];exact Int.mul_fdiv_self_le hq
  have f2:z.num<(z.num.fdiv z.den+1)*z.den:=by
   have:=Int.lt_mul_fdiv_self_add (x:=z.num) (k:=(z.den:Int)) hq
   grind
  generalize z.num.fdiv z.den=f at f1 f2
  have key:=dz (z.num-f) ((z.den:Int)-1) q2 (cv z _ w hz hw ?_ ?_)
  ·omega
  ·have h9:=KL (p:=z.num) (r:=z.num-f) hq q2 (by grind)
   rw[fz] at h9;exact h9
  ·have h8:(z.num+1)*((z.den:Int)-1)≤w.num*((z.den:Int)-1):=vv (by omega) (by omega)
   have h9:=KL (p:=z.num-f) (r:=w.num) q2 (show(0:Int)<(w.den:Int) by omega) (by rw[←e];grind)
   rw[fw] at h9;exact h9
end
theorem OF {a b:Re}(hx:uR a b x) (hz:uR a b z) (h1:x≤y) (h2:y≤z):uR a b y:=by
 have nn: ∀ {p q:Rat},p≤q→0≤aB (Re.of q-Re.of p):=fun{p q} h=>by
  rw[yo,bQ]
  unfold aX;grind
 refine⟨?_,?_⟩
 ·rw[show Re.of y-a=(Re.of y-Re.of x)+(Re.of x-a) from aM fun k=>by simp only[aj,aD];grind]
  exact jW (nn h1) hx.1
 ·rw[show b-Re.of y=(Re.of z-Re.of y)+(b-Re.of z) from aM fun k=>by simp only[aj,aD];grind]
  exact jW (nn h2) hz.2
theorem Simp.uniq {a b:Re}(hz:Simp a b z) (hw:Simp a b w):z=w:=by
 have cv: ∀x y z,uR a b x→uR a b z→x≤y→y≤z→uR a b y:=fun x y z hx hz h1 h2=>OF hx hz h1 h2
 apply fe
 intro hn
 rcases(show z<w∨w<z by grind) with h|h
 ·exact(Sr cv hz.mem hw.mem hz.den hw.den hz.near hw.near h).elim
 ·exact(Sr cv hw.mem hz.mem hw.den hz.den hw.near hz.near h).elim
theorem Simp.congr {a b c d:Re}(h:Simp a b z) (e: ∀x,uR a b x↔uR c d x):Simp c d z:=
 ⟨(e z).1 h.mem,fun p q hq hm=>h.den p q hq ((e _).2 hm),fun h1 h2 hm=>h.near h1 h2 ((e _).2 hm)⟩
theorem Nl (h:cP p q=0):cx p q=0:=fe fun g=>g ((ZB g).symm.trans h)
theorem Ft (gp:GP p) (gq:GP q) :uR (pX p) (pX q) x↔lu p x<0∧0<lu q x:=by
 unfold uR
 rw[nG (cg gp),nG (cg gq),eJ (pX p)]
 have h1:=bg (Re.of x-pX p)
 have h2:=bg (pX q-Re.of x)
 omega
theorem Uu {p' q':Pt}(gp:GP p) (gq:GP q) (gp':GP p') (gq':GP q') (e1:cP p p'=0) (e2:cP q q'=0) (x:Rat):uR (pX p) (pX q) x↔uR (pX p') (pX q') x:=by
 rw[Ft gp gq,Ft gp' gq']
 have a1:=Nl e1
 have a2:=Nl e2
 have b1:=WJ gp gp'
 have b2:=WJ gq gq'
 exact⟨fun h=>⟨RE gp' gp (by omega) h.1,SM gq gq' (by omega) h.2⟩,fun h=>⟨RE gp gp' (by omega) h.1,SM gq' gq (by omega) h.2⟩⟩
theorem Lt (gp:GP p) (gq:GP q) (h:cx p q<0): ∃x:Rat,Rz 13681 x∧Ok Tryz.prog 126 [.a (cR p.a1++cR p.b1++cR (zc p.b1 p.c)),.a (cR q.a1++cR q.b1++cR (zc q.b1 q.c))] [dR x,.c (.i .i64 0)]∧Ok Tryz.prog 269 [.a (cR p.a1++cR p.b1++cR (zc p.b1 p.c)),.a (cR q.a1++cR q.b1++cR (zc q.b1 q.c))] [dR x]∧Simp (pX p) (pX q) x:=by
 have ab:aB (pX q-pX p)=1:=by
  rw[nT (cg gp) (cg gq),eJ] at h
  have:=bg (pX q-pX p)
  omega
 exact PN gp.a1 gp.b1 (Rz.zc gp.c (by decide)) gq.a1 gq.b1 (Rz.zc gq.c (by decide)) (acx gp) (acx gq) ab
theorem Bh {k:Ci}{f t:Pt}(vc:CvV (.arc k false f t)) (ea:(Cv.arc k false f t).inner (mi k)=false) (eb:(Cv.arc k false f t).inner (lX k)=false):(Cv.arc k false f t).fwd.mono=true:=by
 have h1:(Cv.arc k false f t)∈Rb (.arc k false f t):=by
  have h:nh (Cv.arc k false f t) []=[.arc k false f t]:=(xZ (L:=[]) vc (fun p hp=>by cases hp)).symm
  show _∈nh _ (zh _)
  rw[Vw ea eb,h]
  exact nC.2 rfl
 exact Ny vc _ h1
section
variable {k:Ci}{a b a' b':Pt}(vP:CvV (.arc k false a b)) (vR:CvV (.arc k false a' b')) (e1:cP a a'=0) (e2:cP b b'=0)
 (iP: ∀x,x=mi k∨x=lX k→(Cv.arc k false a b).inner x=false∧(Cv.arc k false a' b').inner x=false)
include vP vR e1 e2 iP
theorem aaL: ∃x:Rat,Rz 13681 x∧
 Ok Tryz.prog 126 [.a (cR (Cv.arc k false a b).fwd.p.a1++cR (Cv.arc k false a b).fwd.p.b1++cR (zc (Cv.arc k false a b).fwd.p.b1 (Cv.arc k false a b).fwd.p.c)),.a (cR (Cv.arc k false a b).fwd.q.a1++cR (Cv.arc k false a b).fwd.q.b1++cR (zc (Cv.arc k false a b).fwd.q.b1 (Cv.arc k false a b).fwd.q.c))] [dR x,.c (.i .i64 0)]∧
 Ok Tryz.prog 269 [.a (cR (Cv.arc k false a' b').fwd.p.a1++cR (Cv.arc k false a' b').fwd.p.b1++cR (zc (Cv.arc k false a' b').fwd.p.b1 (Cv.arc k false a' b').fwd.p.c)),.a (cR (Cv.arc k false a' b').fwd.q.a1++cR (Cv.arc k false a' b').fwd.q.b1++cR (zc (Cv.arc k false a' b').fwd.q.b1 (Cv.arc k false a' b').fwd.q.c))] [dR x]∧
 yn (Cv.arc k false a b).fwd x=true∧yn (Cv.arc k false a' b').fwd x=true∧(Cv.arc k false a' b').fwd.vert=false∧uP (Cv.arc k false a b).fwd x=uP (Cv.arc k false a' b').fwd x∧lu (Cv.arc k false a b).fwd.p x<0∧0<lu (Cv.arc k false a b).fwd.q x:=by
 have wP:=HM vP
 have wR:=HM vR
 have mP:=Bh vP (iP _ (.inl rfl)).1 (iP _ (.inr rfl)).1
 have mR:=Bh vR (iP _ (.inl rfl)).2 (iP _ (.inr rfl)).2
 have ee:cP a b=cP a' b':=Gz (cg vP.g.2.1) (cg vP.g.2.2) (cg vR.g.2.1) (cg vR.g.2.2) e1 e2
 have same: ∃w s t s' t',(Cv.arc k false a b).fwd=.arc k w s t∧(Cv.arc k false a' b').fwd=.arc k w s' t'∧cP s s'=0∧cP t t'=0:=by
  cases h:decide (cP a b>0) with
  |true=>exact⟨_,_,_,_,_,In h,In (ee▸h),e2,e1⟩
  |false=>exact⟨_,_,_,_,_,Jw h,Jw (ee▸h),e1,e2⟩
 obtain⟨w,s,t,s',t',q1,q2,q3,q4⟩:=same
 rw[q1] at wP mP⊢
 rw[q2] at wR mR⊢
 have cPx:=Li wP mP rfl
 have cRx:=Li wR mR rfl
 obtain⟨x,x1,x2,_,x4⟩:=Lt wP.g.2.1 wP.g.2.2 cPx
 obtain⟨y,_,_,y3,y4⟩:=Lt wR.g.2.1 wR.g.2.2 cRx
 have hI:=Uu wP.g.2.1 wP.g.2.2 wR.g.2.1 wR.g.2.2 q3 q4
 have hxy:x=y:=(x4.congr hI).uniq y4
 subst hxy
 obtain⟨i1,i2⟩:=(Ft wP.g.2.1 wP.g.2.2).1 x4.mem
 obtain⟨j1,j2⟩:=(Ft wR.g.2.1 wR.g.2.2).1 y4.mem
 exact⟨x,x1,x2,y3,Xh rfl i1 i2,Xh rfl j1 j2,rfl,rfl,i1,i2⟩
end
structure Bz (b:Nat) (x:Rat):Prop where
 n:x.num.natAbs<2^b
 d:x.den<2^b
theorem Hg {a b:Int}(ha:a.natAbs<2^n) (hb:b.natAbs<2^n) (h0:b≠0):Bz n (Rat.divInt a b):=by
 refine⟨Nat.lt_of_le_of_lt ?_ ha,Nat.lt_of_le_of_lt ?_ hb⟩
 ·rw[Rat.num_divInt]
  refine nF (qY _ _) ?_
  rw[pS,Int.natAbs_sign_of_ne_zero h0];omega
 ·rw[Rat.den_divInt,if_neg h0]
  exact Nat.div_le_self _ _
theorem t9 {a b:Nat}(h:a<2^n) (g:b<2^m):a*b<2^(n+m):=by
 rw[Nat.pow_add]
 exact Nat.mul_lt_mul'' h g
theorem Bz.mono (h:Bz n x) (hl:n≤m):Bz m x:=⟨Nat.lt_of_lt_of_le h.n (Nat.pow_le_pow_right (by decide) hl),oO h.d (Nat.pow_le_pow_right (by decide) hl)⟩
theorem Bz.neg (h:Bz n x):Bz n (-x):=⟨by rw[Rat.neg_num,Int.natAbs_neg];exact h.n,by rw[Rat.neg_den];exact h.d⟩
theorem Bz.mul (hx:Bz n x) (hy:Bz m y):Bz (n+m) (x*y):=by
 rw[←UE]
 exact Hg (by rw[pS];exact t9 hx.n hy.n) (by rw[pS];exact t9 hx.d hy.d) (by have:=sZ (den_pos x) (den_pos y);omega)
theorem Bz.add (hx:Bz n x) (hy:Bz m y):Bz (n+m+1) (x+y):=by
 rw[←O3]
 have h1:=t9 hx.n hy.d
 have h2:=t9 hy.n hx.d
 have h3:=t9 hx.d hy.d
 rw[Nat.add_comm m n] at h2
 have h4:2^(n+m+1)=2^(n+m)+2^(n+m):=by rw[Nat.pow_succ];omega
 refine Hg ?_ ?_ (by have:=sZ (den_pos x) (den_pos y);omega)
 ·refine Nat.lt_of_le_of_lt (Int.natAbs_add_le _ _) ?_
  rw[pS,pS,yO,yO,h4];omega
 ·rw[pS,yO,yO,h4];omega
theorem Bz.sub (hx:Bz n x) (hy:Bz m y):Bz (n+m+1) (x-y):=by rw[Rat.sub_eq_add_neg];exact hx.add hy.neg
theorem Bz.div (hx:Bz n x) (hy:Bz m y) (h0:y≠0):Bz (n+m) (x/y):=by
 rw[←Uj]
 refine Hg (by rw[pS];exact t9 hx.n hy.d) (by rw[pS];exact t9 hx.d hy.n) fun e=>?_
 rcases pV.1 e with h|h
 ·exact jO x h
 ·exact h0 (Rat.num_eq_zero.1 h)
theorem Z9 (k:Nat):((2^(29*k):Nat):Int)≤pw k:=by
 have h:(2^(29*k):Nat)≤1000000000^k:=by rw[Nat.pow_mul];exact Nat.pow_le_pow_left (by decide) k
 unfold pw
 have h2:((1000000000^k:Nat):Int)=1000000000^k:=Int.natCast_pow ..
 omega
theorem Bz.rz {k:Nat}(h:Bz n x) (hk:n≤29*k):Rz k x:=by
 have h1:=oO h.n (Nat.pow_le_pow_right (show 0<2 by decide) hk)
 have h2:=oO h.d (Nat.pow_le_pow_right (show 0<2 by decide) hk)
 have h3:=Z9 k
 exact⟨⟨by omega,by omega⟩,⟨by omega,by omega⟩⟩
def Al (l:Ln) (k:Ci):Rat:=cV l k/(cZ l*cZ l)
def VR (l:Ln):Bool:=decide (aX l.b 0<0)||(aX l.b 0==0&&decide (aX (-l.a) 0<0))
def PX (l:Ln):Rat:=if VR l then-l.b else l.b
def SB (l:Ln):Rat:=if VR l then- -l.a else-l.a
def G2 (l:Ln) (k:Ci):Pt:=gg (l7 l k) (-PX l) (lF l k) (-SB l) (Al l k)
def Fs (l:Ln) (k:Ci):Pt:=gg (l7 l k) (PX l) (lF l k) (SB l) (Al l k)
def zH (l:Ln) (k:Ci):List Pt:=if aX (Al l k) 0= -1 then[] else if aX (Al l k) 0=0 then[⟨l7 l k,0,lF l k,0,0⟩] else[G2 l k,Fs l k]
def iZ (k d:Ci):List Pt:=if qD k d then[] else if tx k d then[] else zH (ca k d) k
theorem n8 (h:0<x):aX x 0=1:=by unfold aX;rw[if_neg (by grind),if_pos h]
theorem acE {n:Rat}(hc:0≤c) (hn:0<n):aB (Re.rt (c*(n*n))-Re.of n*Re.rt c)=0:=by
 have h9:0≤c*(n*n):=fl hc (fl (uU hn) (uU hn))
 refine Lj ?_ (u9 _) ?_
 ·rw[aY,bQ,n8 hn]
  have:=u9 c
  omega
 ·rw[dm (x:=Re.rt (c*(n*n))*Re.rt (c*(n*n))-Re.of n*Re.rt c*(Re.of n*Re.rt c)) (y:=Re.rt (c*(n*n))*Re.rt (c*(n*n))-Re.of (c*(n*n))) (z:= -(Re.of (n*n)*(Re.rt c*Re.rt c-Re.of c))) (aM fun j=>by simp only[aj,aE,aK,aV];grind) (my (dA _ (lh hc)))]
  exact lh h9
theorem v7 (h0:0<c):0≤(gg a1 b1 a2 b2 c).c:=by
 unfold gg
 split
 ·exact tQ
 ·exact uU h0
theorem xz {d1 d2 n:Rat}(h0:0<c) (hn:0<n) (e1:b1=d1*n) (e2:b2=d2*n):cP (gg a1 b1 a2 b2 c) (gg a1 d1 a2 d2 (c*(n*n)))=0:=by
 have h9:0<c*(n*n):=jh h0 (jh hn hn)
 obtain⟨x1,y1⟩:=BR (a1:=a1) (b1:=b1) (a2:=a2) (b2:=b2) h0
 obtain⟨x2,y2⟩:=BR (a1:=a1) (b1:=d1) (a2:=a2) (b2:=d2) h9
 have hr:=acE (uU h0) hn
 refine eH.2 ⟨?_,?_⟩
 ·rw[nT (v7 h0) (v7 h9),dm (y:=(pX (gg a1 b1 a2 b2 c)-(Re.of a1+Re.of b1*Re.rt c))+ -(pX (gg a1 d1 a2 d2 (c*(n*n)))-(Re.of a1+Re.of d1*Re.rt (c*(n*n))))) (z:= -(Re.of d1*(Re.rt (c*(n*n))-Re.of n*Re.rt c))) (aM fun j=>by simp only[aD,aj,aE,aK,aV];grind) (my (dA _ hr))]
  exact nB x1 (my x2)
 ·rw[rW (v7 h0) (v7 h9),dm (y:=(pY (gg a1 b1 a2 b2 c)-(Re.of a2+Re.of b2*Re.rt c))+ -(pY (gg a1 d1 a2 d2 (c*(n*n)))-(Re.of a2+Re.of d2*Re.rt (c*(n*n))))) (z:= -(Re.of d2*(Re.rt (c*(n*n))-Re.of n*Re.rt c))) (aM fun j=>by simp only[aD,aj,aE,aK,aV];grind) (my (dA _ hr))]
  exact nB y1 (my y2)
section
variable {l:Ln}{k:Ci}(hn:0<cZ l)
include hn
theorem IV:Al l k*(cZ l*cZ l)=cV l k:=by
 unfold Al
 have:cZ l*cZ l≠0:=by have:=jh hn hn;grind
 exact rK this
theorem YD:aX (Al l k) 0=aX (cV l k) 0:=by
 rw[←IV hn,←bQ,←bQ,←dO,aY,bQ (cZ l*cZ l),n8 (jh hn hn),sv]
theorem nd (x:Rat):x=x/cZ l*cZ l:=(rK (by grind)).symm
theorem Pk (h:0<Al l k):(cP (G2 l k) (N6 l k)=0∧cP (Fs l k) (J1 l k)=0)∨(cP (G2 l k) (J1 l k)=0∧cP (Fs l k) (N6 l k)=0):=by
 have e:=IV (k:=k) hn
 have a1:=nd hn l.b
 have a2:=nd hn (-l.a)
 unfold G2 Fs N6 J1 PX SB
 rw[←e]
 cases VR l with
 |false=>exact .inl ⟨xz h hn (by simp;grind) (by simp;grind),xz h hn (by simp;grind) (by simp;grind)⟩
 |true=>exact .inr ⟨xz h hn (by simp;grind) (by simp;grind),xz h hn (by simp;grind) (by simp;grind)⟩
theorem On (g1: ∀p∈zH l k,0≤p.c) (_g2: ∀p∈nP l k,0≤p.c):(∀x∈zH l k,∃y∈nP l k,cP x y=0)∧ ∀y∈nP l k,∃x∈zH l k,cP y x=0:=by
 have hs:=YD (k:=k) hn
 unfold zH nP at*
 rw[hs] at g1⊢
 by_cases h1:aX (cV l k) 0= -1
 ·rw[if_pos h1]
  rw[if_pos (show aX (cV l k) 0<0 by omega)]
  exact⟨fun x hx=>(by cases hx),fun x hx=>(by cases hx)⟩
 ·rw[if_neg h1] at g1⊢
  have h2: ¬aX (cV l k) 0<0:=fun h=>h1 (by have:=dU (cV l k) 0;omega)
  rw[if_neg h2]
  by_cases h3:aX (cV l k) 0=0
  ·rw[if_pos h3] at g1⊢
   rw[if_pos h3]
   have: ∀x∈ [(⟨l7 l k,0,lF l k,0,0⟩:Pt)],∃y∈ [(⟨l7 l k,0,lF l k,0,0⟩:Pt)],cP x y=0:=fun x hx=>⟨x,hx,mh (g1 x hx)⟩
   exact⟨this,this⟩
  ·rw[if_neg h3] at g1⊢
   rw[if_neg h3]
   have hp:0<Al l k:=s5 (by rw[hs];exact h2) (by rw[hs];exact h3)
   have cP1:0≤(G2 l k).c:=v7 hp
   have cQ1:0≤(Fs l k).c:=v7 hp
   have hr:0<cV l k:=s5 h2 h3
   have cP2:0≤(N6 l k).c:=v7 hr
   have cQ2:0≤(J1 l k).c:=v7 hr
   have two: ∀ {a b c d:Pt},0≤a.c→0≤b.c→0≤c.c→0≤d.c→(cP a c=0∧cP b d=0)∨(cP a d=0∧cP b c=0)→ ∀ {M:List Pt},(c∈M∧d∈M∧ ∀y∈M,y=c∨y=d)→(∀x∈ [a,b],∃y∈M,cP x y=0)∧ ∀y∈M,∃x∈ [a,b],cP y x=0:=by
    intro a b c d ha hb hc hd h M hM
    obtain⟨m1,m2,m3⟩:=hM
    refine⟨fun x hx=>?_,fun y hy=>?_⟩
    ·simp only[d8,rO,or_false] at hx
     rcases hx with rfl|rfl<;>rcases h with h|h
     ·exact⟨c,m1,h.1⟩
     ·exact⟨d,m2,h.1⟩
     ·exact⟨d,m2,h.2⟩
     ·exact⟨c,m1,h.2⟩
    ·rcases m3 y hy with rfl|rfl<;>rcases h with h|h
     ·exact⟨a,by simp,mZ ha hc h.1⟩
     ·exact⟨b,by simp,mZ hb hc h.2⟩
     ·exact⟨b,by simp,mZ hb hd h.2⟩
     ·exact⟨a,by simp,mZ ha hd h.1⟩
   refine two cP1 cQ1 cP2 cQ2 (Pk hn hp) ?_
   split
   ·exact⟨by simp,by simp,fun y hy=>by simp only[d8,rO,or_false] at hy;exact hy.symm⟩
   ·exact⟨by simp,by simp,fun y hy=>by simp only[d8,rO,or_false] at hy;exact hy⟩
end
section
variable {l:Ln}{k:Ci}(hl:GL l) (hk:GK k)
include hl
theorem Xm: ¬(l.b=0∧l.a=0):=fun e=>hl.n (by unfold cZ;rw[e.1,e.2];grind)
include hk
theorem aaz:Rz 400 (Al l k):=((GX hl hk).div ((qV hl).mul (qV hl)) (by
 have h:=hl.n
 intro e
 rcases AZ.1 e with e|e<;>exact h e)).mono (by decide)
end
theorem ZV {k:Ci}(h:cZ l≠0):Al l k=(k.q-((l7 l k-k.x)*(l7 l k-k.x)+(lF l k-k.y)*(lF l k-k.y)))/cZ l:=by
 have e1:l7 l k-k.x= -(iU l k.x k.y/cZ l*l.a):=by unfold l7;grind
 have e2:lF l k-k.y= -(iU l k.x k.y/cZ l*l.b):=by unfold lF;grind
 unfold Al cV
 have hn:cZ l=l.a*l.a+l.b*l.b:=rfl
 grind
section
variable {l:Ln}{k:Ci}
theorem Qe (h:VR l=true):PX l= -l.b∧SB l= - -l.a:=by unfold PX SB;rw[h];exact⟨rfl,rfl⟩
theorem Sg (h:VR l=false):PX l=l.b∧SB l= -l.a:=by unfold PX SB;rw[h];exact⟨rfl,rfl⟩
theorem YY (h:aX (Al l k) 0= -1):zH l k=[]:=if_pos h
theorem Zq (h: ¬aX (Al l k) 0= -1) (g:aX (Al l k) 0=0):zH l k=[⟨l7 l k,0,lF l k,0,0⟩]:=(if_neg h).trans (if_pos g)
theorem GW (h: ¬aX (Al l k) 0= -1) (g: ¬aX (Al l k) 0=0):zH l k=[G2 l k,Fs l k]:=(if_neg h).trans (if_neg g)
end
structure RK (k:Ci):Prop where
 x:Bz 39 k.x
 y:Bz 39 k.y
 q:Bz 36 k.q
 pos:0<k.q
theorem RK.k {k:Ci}(h:RK k):GK k:=⟨h.x.rz (by decide),h.y.rz (by decide),h.q.rz (by decide)⟩
theorem Qh:Bz 2 (2:Rat):=⟨by decide+kernel,by decide+kernel⟩
section
variable {k d:Ci}(hk:RK k) (hd:RK d)
include hk hd
theorem YB:(Bz 81 (ca k d).a∧Bz 81 (ca k d).b)∧Bz 389 (ca k d).c:=by
 have f: ∀ {c:Ci},RK c→Bz 194 (CQ c):=fun h=>(((h.x.mul h.x).add (h.y.mul h.y)).sub h.q).mono (by decide)
 exact⟨⟨(Qh.mul (hd.x.sub hk.x)).mono (by decide),(Qh.mul (hd.y.sub hk.y)).mono (by decide)⟩,((f hd).sub (f hk)).mono (by decide)⟩
section
variable (hc:tx k d=false)
include hc
theorem GF:0<cZ (ca k d):=by
 have h1:=(rD hk.k hd.k hc).n
 have h2:0≤cZ (ca k d):=by
  unfold cZ
  have a:=C9 (ca k d).a
  have b:=C9 (ca k d).b
  grind
 grind
theorem aak:Rz 79 (Al (ca k d) k)∧Rz 3 (PX (ca k d))∧Rz 3 (SB (ca k d)):=by
 obtain⟨⟨a,b⟩,c⟩:=YB hk hd
 have n:Bz 325 (cZ (ca k d)):=((a.mul a).add (b.mul b)).mono (by decide)
 have v:Bz 631 (iU (ca k d) k.x k.y):=(((a.mul hk.x).add (b.mul hk.y)).sub c).mono (by decide)
 have r:Bz 1624 (cV (ca k d) k):=((n.mul hk.q).sub (v.mul v)).mono (by decide)
 have h0:cZ (ca k d)*cZ (ca k d)≠0:=by have:=jh (GF hk hd hc) (GF hk hd hc);grind
 refine⟨(r.div (n.mul n) h0).rz (by decide),?_,?_⟩
 ·unfold PX;split
  ·exact b.neg.rz (by decide)
  ·exact b.rz (by decide)
 ·unfold SB;split
  ·exact a.neg.neg.rz (by decide)
  ·exact a.neg.rz (by decide)
theorem VM: ¬(PX (ca k d)=0∧SB (ca k d)=0):=by
 have hz:=Xm (rD hk.k hd.k hc)
 unfold PX SB
 rintro⟨h1,h2⟩
 refine hz ⟨?_,?_⟩
 ·split at h1<;>grind
 ·split at h2<;>grind
theorem aah (h:0<Al (ca k d) k):GP (G2 (ca k d) k)∧GP (Fs (ca k d) k):=by
 obtain⟨h1,h2,h3⟩:=aak hk hd hc
 have g:=rD hk.k hd.k hc
 have nz:=VM hk hd hc
 exact⟨wZ (nl g hk.k) (h2.neg.mono (by decide)) (no g hk.k) (h3.neg.mono (by decide)) (h1.mono (by decide)) h (fun e=>nz ⟨by grind,by grind⟩),wZ (nl g hk.k) (h2.mono (by decide)) (no g hk.k) (h3.mono (by decide)) (h1.mono (by decide)) h nz⟩
theorem Uf: ∀p∈zH (ca k d) k,GP p:=by
 intro p hp
 have g:=rD hk.k hd.k hc
 unfold zH at hp
 split at hp
 ·cases hp
 ·rename_i h1
  split at hp
  ·rw[nC.1 hp];exact GP.rat ((nl g hk.k).mono (by decide)) ((no g hk.k).mono (by decide))
  ·rename_i h2
   have hp0:0<Al (ca k d) k:=s5 (fun h=>h1 (by have:=dU (Al (ca k d) k) 0;omega)) h2
   obtain⟨q1,q2⟩:=aah hk hd hc hp0
   simp only[d8,rO,or_false] at hp
   rcases hp with rfl|rfl
   ·exact q1
   ·exact q2
end
theorem z7: ∀p∈iZ k d,GP p:=by
 intro p hp
 unfold iZ at hp
 split at hp
 ·cases hp
 ·split at hp
  ·cases hp
  ·rename_i h;exact Uf hk hd (by simpa using h) p hp
theorem wS:(∀x∈iZ k d,∃y∈wh k d,cP x y=0)∧ ∀y∈wh k d,∃x∈iZ k d,cP y x=0:=by
 have o1:=z7 hk hd
 have o2:=te hk.k hd.k
 unfold iZ wh at*
 by_cases h:tx k d=true
 ·rw[if_pos h,if_pos h]
  split<;>exact⟨fun x hx=>(by cases hx),fun x hx=>(by cases hx)⟩
 ·have h1:qD k d=false:=by
   cases e:qD k d with
   |false=>rfl
   |true=>
    unfold qD at e
    rw[di] at e
    exact absurd e.1 h
  rw[if_neg (by rw[h1];decide),if_neg h] at o1⊢
  rw[if_neg h] at o2⊢
  exact On (GF hk hd (by simpa using h)) (fun p hp=>cg (o1 p hp)) (fun p hp=>cg (o2 p hp))
end
def J8 (k d:Ci):Int:=if qD k d then 10 else 0
section
variable {k d:Ci}
theorem SV (h:qD k d=true):iZ k d=[]∧J8 k d=10:=by unfold iZ J8;rw[h];exact⟨rfl,rfl⟩
theorem MD (h:qD k d=false) (g:tx k d=true):iZ k d=[]∧J8 k d=0:=by unfold iZ J8;rw[h,g];exact⟨rfl,rfl⟩
theorem Ms (h:qD k d=false) (g:tx k d=false):iZ k d=zH (ca k d) k∧J8 k d=0:=by unfold iZ J8;rw[h,g];exact⟨rfl,rfl⟩
end
theorem DT {k:Ci}:(iZ k d).length≤2:=by
 unfold iZ zH
 repeat' split
 all_goals simp
def dK:Ci:=⟨0,0,0⟩
theorem mV (k:Ci):(bT k).length=12:=rfl
theorem Gq (k:Ci) (r:List CellD):(bT k++r).take 12=bT k:=List.take_left' rfl
def fz (e:Nat→Bool):Nat→Int
 |0=> -1
 |n+1=>if fz e n≥0 then fz e n else if e n then-1 else n
theorem Oi {e:Nat→Bool}: ∀ {n:Nat},(∀i,i<n→e i=true)→fz e n= -1
 |0,_=>rfl
 |n+1,h=>by
  have h1:=Oi (n:=n) fun i hi=>h i (by omega)
  show(if fz e n≥0 then fz e n else if e n then-1 else n)= -1
  rw[h1,h n (by omega)];rfl
theorem I5 {e:Nat→Bool}{k:Nat}(h: ∀i,i<k→e i=true) (g:e k=false): ∀ {n:Nat},k<n→fz e n=k
 |0,hn=>absurd hn (by omega)
 |n+1,hn=>by
  show(if fz e n≥0 then fz e n else if e n then-1 else n)=k
  by_cases hk:k=n
  ·rw[←hk,Oi h,g];rfl
  ·rw[I5 h g (by omega:k<n),if_pos (by omega)]
theorem Xc {e:Nat→Bool}: ∀ {n:Nat},(fz e n= -1∧ ∀i,i<n→e i=true)∨ ∃k:Nat,k<n∧fz e n=k∧e k=false
 |0=>.inl ⟨rfl,fun i hi=>absurd hi (by omega)⟩
 |n+1=>by
  rcases Xc (e:=e) (n:=n) with⟨h1,h2⟩|⟨k,h1,h2,h3⟩
  ·cases h:e n with
   |true=>
    have hh: ∀i,i<n+1→e i=true:=fun i hi=>by
     by_cases hq:i=n
     ·rw[hq];exact h
     ·exact h2 i (by omega)
    exact .inl ⟨Oi hh,hh⟩
   |false=>exact .inr ⟨n,by omega,I5 h2 h (by omega),h⟩
  ·refine .inr ⟨k,by omega,?_,h3⟩
   show(if fz e n≥0 then fz e n else if e n then-1 else n)=k
   rw[h2,if_pos (by omega)]
def BD (L:List Ci) (m:Pt):Bool:=L.all fun d=>decide (dE d m<0)
def eO (L:List Ci) (m:Pt) (i:Nat):Bool:=decide (dE (L.getD i dK) m<0)
theorem TC {m:Pt}:decide (fz (eO L m) L.length≥0)= !BD L m:=by
 rcases Xc (e:=eO L m) (n:=L.length) with⟨h1,h2⟩|⟨k,h1,h2,h3⟩
 ·have ho:BD L m=true:=by
   unfold BD
   rw[jV]
   intro d hd
   obtain⟨i,hi,rfl⟩:=List.getElem_of_mem hd
   have:=h2 i hi
   unfold eO at this
   simpa [List.getD,hi] using this
  rw[h1,ho];rfl
 ·have ho:BD L m=false:=by
   cases ho:BD L m with
   |false=>rfl
   |true=>
    unfold BD at ho
    rw[jV] at ho
    have:=ho _ (bX (d:=dK) h1)
    unfold eO at h3
    rw[this] at h3;cases h3
  rw[h2,ho,decide_eq_true (by omega)];rfl
def qx (e:Nat→Bool) (N n:Nat):List CellD:=(List.range N).map fun i=>CellD.b (decide (i<n)&&e i)
def Dt (e:Nat→Bool) (N:Nat):List CellD:=(List.range N).map fun i=>CellD.b (e i)
theorem n6:(Dt e N).length=N*1:=by unfold Dt;simp
theorem CG:(qx e N n).length=N*1:=by unfold qx;simp
theorem R1:List.replicate N (CellD.b false)=qx e N 0++[]:=by
 apply yN<;>simp[qx]
theorem IU:qx e N N=Dt e N:=by
 apply yN
 ·simp[qx,Dt]
 ·intro i h1 h2
  have:i<N:=by simpa [Dt] using h2
  simp[qx,Dt,this]
theorem ML (h:n<N):(qx e N n++[]).take (n*1)++[CellD.b (e n)]++(qx e N n++[]).drop (n*1+1)=qx e N (n+1)++[]:=by
 rw[m9,m9,Nat.mul_one,wx]
 have h0:n<(qx e N n).length:=by rw[CG];omega
 rw[show[CellD.b (e n)]++(qx e N n).drop (n+1)=CellD.b (e n)::(qx e N n).drop (n+1) from rfl]
 have h1:(qx e N n).set n (CellD.b (e n))=(qx e N n).take n++CellD.b (e n)::(qx e N n).drop (n+1):=by rw[List.set_eq_take_append_cons_drop,if_pos h0]
 rw[←h1]
 apply yN
 ·simp[qx]
 ·intro i h1 h2
  rw[List.getElem_set]
  by_cases c:n=i
  ·subst c;simp[qx]
  ·rw[if_neg c]
   simp[qx]
   by_cases a:i<n
   ·simp[a,show i<n+1 from by omega]
   ·simp[a,show ¬i<n+1 from by omega]
theorem Gy (h:n<N):(Dt e N).drop (n*1)=[CellD.b (e n)]++(Dt e N).drop (n+1):=by
 rw[Nat.mul_one,nI (by simp[Dt];exact h)]
 simp[Dt]
def bl (x:Nat):Int:=if x=0 then 0 else if x=1 then 1 else if x≤3 then 2 else if x≤7 then 3 else 4
theorem acw (x:Nat):0≤bl x∧bl x≤4:=by unfold bl;repeat' split<;>try omega
theorem Zh {s:ByteArray}{x:Nat}(h1:x≤12) (h:((List.range 13).all fun m=>(((s[m]?).getD 0).toNat:Int)==bl m)=true):(((s[(x:Int).toNat]?).getD 0).toNat:Int)=bl x:=by
 rw[jV] at h
 rw[Int.toNat_natCast]
 exact beq_iff_eq.1 (h x (ko.2 (by omega)))
theorem ZM (ha:Rz 6000000 a) (hb:Rz 6000000 b):Ok Tryz.prog 294 [dR a,dR b] [.c (.b (aX a b==0))]:=by
 refine b9 Tryz.func294 rfl ?_
 refine ac rfl (lK (bk ha) (bk hb)) ?_
 exact ai (ak ag)
theorem ab0 {k:Ci}(hk:GK k) (hd:GK d):Ok Tryz.prog 209 [.a (bT k),.a (bT d)] [.c (.b (qD k d))]:=by
 refine b9 Tryz.func209 rfl ?_
 refine ac rfl (ZM (bk (hk.x)) (bk (hd.x))) ?_
 refine lg (bJ rfl) (fun c1 hb1=>?_)
 cases c1
 ·refine ar (bJ rfl)<|ai ?_
  rw[show qD k d=false from by unfold qD Cx;rw[hb1];rfl]
  exact ak ag
 ·refine ac rfl (ZM (bk (hk.y)) (bk (hd.y))) ?_
  refine lg (bJ rfl) (fun c2 hb2=>?_)
  cases c2
  ·refine ai ?_
   rw[show qD k d=false from by unfold qD Cx;rw[hb1,hb2];rfl]
   exact ak ag
  ·refine ac rfl (ZM (bk (hk.q)) (bk (hd.q)))<|ai ?_
   rw[show qD k d=(aX k.q d.q==0) from by unfold qD Cx;rw[hb1,hb2];rfl]
   exact ak ag
theorem WQ {k:Ci}(hk:GK k) (hd:GK d):Ok Tryz.prog 210 [.a (bT k),.a (bT d)] [.c (.b (tx k d))]:=by
 refine b9 Tryz.func210 rfl ?_
 refine ac rfl (lK (bk (hk.x)) (bk (hd.x))) ?_
 refine lg (bJ rfl) (fun c1 hb1=>?_)
 cases c1
 ·refine ai ?_
  rw[show tx k d=false from by unfold tx Cx;rw[hb1];rfl]
  exact ak ag
 ·refine ac rfl (lK (bk (hk.y)) (bk (hd.y)))<|ai ?_
  rw[show tx k d=(aX k.y d.y==0) from by unfold tx Cx;rw[hb1];rfl]
  exact ak ag
theorem XE {k:Ci}(hk:GK k):Ok Tryz.prog 295 [.a (bT k)] [dR (CQ k)]:=by
 refine b9 Tryz.func295 rfl<|dF 14 [] ?_
 refine aI rfl (oK (bk (hk.x)) (bk (hk.x))) ?_
 refine aI rfl (oK (bk (hk.y)) (bk (hk.y))) ?_
 refine aI rfl (CD (bk (a8 (hk.x) (hk.x))) (bk (a8 (hk.y) (hk.y)))) ?_
 refine aI rfl (qr (bk (ju (a8 (hk.x) (hk.x)) (a8 (hk.y) (hk.y)))) (bk (hk.q))) ?_
 exact ai (bj bU rfl ag)
theorem acR {k:Ci}(hk:GK k) (hd:GK d) (hn:tx k d=false):Ok Tryz.prog 211 [.a (bT k),.a (bT d)] [.a (oW (ca k d)),.c (.i .i64 0)]:=by
 have zt:Rz 6000000 (2:Rat):=KT.m_
 have f1:Rz 6000000 (CQ k):=(Ca hk).m_
 have f2:Rz 6000000 (CQ d):=(Ca hd).m_
 refine b9 Tryz.func211 rfl<|ac rfl (cE (WQ hk hd) hn)<|qq rfl<|ac rfl (kJ (ig (by decide) (by decide)) (show((2:Int):Rat)=2 from rfl))<|dF 22 [] ?_
 refine aI rfl (qr (bk (hd.x)) (bk (hk.x))) ?_
 refine aI rfl (oK (OA) (bk (df (hd.x) (hk.x)))) ?_
 refine aI rfl (qr (bk (hd.y)) (bk (hk.y))) ?_
 refine aI rfl (oK (OA) (bk (df (hd.y) (hk.y)))) ?_
 refine aI rfl (XE hd) ?_
 refine aI rfl (XE hk) ?_
 refine aI rfl (qr (OA) (OA)) ?_
 refine aq (aF (us:=(cR (2*(d.x-k.x))++cR (2*(d.y-k.y))++cR ((CQ d)-(CQ k)))) acK Zm rfl rfl rfl) ?_
 exact ai (bj adr rfl (ak ag))
theorem Y8 (ha:Rz 2000000 a) (hb:Rz 2000000 b) (h0:b≠0):Ok Tryz.prog 377 [dR a,dR b] [dR (a/b)]:=by
 refine b9 Tryz.func377 rfl<|ac rfl (qB (ha.m_) (hb.m_) h0)<|qq rfl ?_
 exact ai (bj bU rfl ag)
theorem acq (ha:Rz 2000000 a) (hb:Rz 2000000 b) (h0:b≠0):Ok Tryz.prog 351 [dR a,dR b] [dR (a/b)]:=by
 refine b9 Tryz.func351 rfl<|ac rfl (qB (ha.m_) (hb.m_) h0) ?_
 exact ai (bj bU rfl ag)
theorem YP {k:Ci}(hl:GL l) (hk:GK k):Ok Tryz.prog 350 [.a (oW l),.a ((cR k.x++cR k.y))] [.a ((cR (l7 l k)++cR (lF l k)))]:=by
 have v1:=zT hl hk
 have n1:=qV hl
 have n0:=hl.n
 have fx:=nl hl hk
 have fy:=no hl hk
 refine b9 Tryz.func350 rfl<|dF 15 [] ?_
 refine aI rfl (gO (bk (hl.a)) (bk (hk.x))) ?_
 refine aI rfl (gO (bk (hl.b)) (bk (hk.y))) ?_
 refine aI rfl (pR (bk (a8 (hl.a) (hk.x))) (bk (a8 (hl.b) (hk.y)))) ?_
 refine aI rfl (tk (bk (ju (a8 (hl.a) (hk.x)) (a8 (hl.b) (hk.y)))) (bk (hl.c)))<|dF 14 [] ?_
 refine aI rfl (gO (bk (hl.a)) (bk (hl.a))) ?_
 refine aI rfl (gO (bk (hl.b)) (bk (hl.b))) ?_
 refine aI rfl (pR (bk (a8 (hl.a) (hl.a))) (bk (a8 (hl.b) (hl.b)))) ?_
 refine aI rfl ((show Ok Tryz.prog 377 _ [dR (iU l k.x k.y/cZ l)] from Y8 (v1.m_) (n1.m_) hl.n))<|dF 15 [] ?_
 refine aI rfl (gO (bk (Rz.div (by assumption) (by assumption) (by assumption))) (bk (hl.a)))<|aI rfl (tk (bk (hk.x)) (bk (a8 (Rz.div (by assumption) (by assumption) (by assumption)) (hl.a)))) ?_
 refine aI rfl (gO (bk (Rz.div (by assumption) (by assumption) (by assumption))) (bk (hl.b)))<|aI rfl (tk (bk (hk.y)) (bk (a8 (Rz.div (by assumption) (by assumption) (by assumption)) (hl.b))))<|aq (aF (us:=(cR (k.x-((iU l k.x k.y/cZ l)*l.a))++cR (k.y-((iU l k.x k.y/cZ l)*l.b)))) abb Y2 rfl rfl rfl) ?_
 exact ai (bj YW rfl ag)
theorem acb {k:Ci}(hl:GL l) (hk:GK k):Ok Tryz.prog 299 [.a (oW l),.a (bT k)] [dR (Al l k),.a ((cR (l7 l k)++cR (lF l k)))]:=by
 have v1:=zT hl hk
 have n1:=qV hl
 have n0:=hl.n
 have fx:=nl hl hk
 have fy:=no hl hk
 refine b9 Tryz.func299 rfl<|ar (aF (us:=(cR k.x++cR k.y)) abb Y2 rfl rfl rfl) ?_
 refine ac rfl (YP hl hk)<|dF 12 [] ?_
 refine aI rfl (qr (OA) (bk (hk.x))) ?_
 refine aI rfl (qr (OA) (bk (hk.y)))<|dF 11 [] ?_
 refine aI rfl (oK (bk (df (by assumption) (hk.x))) (bk (df (by assumption) (hk.x)))) ?_
 refine aI rfl (oK (bk (df (by assumption) (hk.y))) (bk (df (by assumption) (hk.y)))) ?_
 refine aI rfl (CD (bk (a8 (df (by assumption) (hk.x)) (df (by assumption) (hk.x)))) (bk (a8 (df (by assumption) (hk.y)) (df (by assumption) (hk.y))))) ?_
 refine aI rfl (qr (bk (hk.q)) (bk (ju (a8 (df (by assumption) (hk.x)) (df (by assumption) (hk.x))) (a8 (df (by assumption) (hk.y)) (df (by assumption) (hk.y))))))<|dF 16 [4,5,999999] ?_
 refine aI rfl (oK (bk (hl.a)) (bk (hl.a))) ?_
 refine aI rfl (oK (bk (hl.b)) (bk (hl.b))) ?_
 refine aI rfl (CD (bk (a8 (hl.a) (hl.a))) (bk (a8 (hl.b) (hl.b)))) ?_
 refine aI rfl ((show Ok Tryz.prog 351 _ [dR (Al l k)] from by rw[ZV hl.n];exact acq ((hk.q.sub (((fx.sub hk.x).mul (fx.sub hk.x)).add ((fy.sub hk.y).mul (fy.sub hk.y)))).m_) (n1.m_) hl.n)) ?_
 refine DQ.mk<|jE (eQ bU rfl) rfl rfl rfl rfl<|dP ?_
 refine DQ.mk<|jE (eQ YW rfl) rfl rfl rfl rfl<|dP ?_
 exact ai (bj bU rfl (bj YW rfl ag))
theorem adh {k:Ci}(hl:GL l) (hk:GK k):Ok Tryz.prog 212 [.a (oW l),.a (bT k)] [.c (.s ((zH l k).length) (aW aw (zH l k)))]:=by
 have hq:Rz 400 (Al l k):=(aaz hl hk).m_
 have kz:Rz 6000000 (Al l k):=hq.m_
 have fx:=nl hl hk
 have fy:=no hl hk
 have hb0:Rz 200 l.b:=hl.b.m_
 have ha0:Rz 200 l.a:=hl.a.m_
 have nz:=Xm hl
 refine b9 Tryz.func212 rfl ?_
 refine ac rfl (acb hl hk) ?_
 refine ac rfl (cJ) ?_
 refine dS rfl (fun hc1=>?_) (fun hc1=>?_)
 ·refine ai ?_
  rw[YY (by simpa using hc1)]
  exact ak ag
 ·refine dS rfl (fun hc2=>?_) (fun hc2=>?_)
  ·refine ac rfl (VQ)<|ar (bW (n:=1) (us:=(cR (l7 l k)++cR 0++cR (lF l k)++cR 0++cR 0)) kj rfl rfl rfl (by decide) (by decide) rfl) ?_
   refine ai ?_
   rw[Zq (by simpa using hc1) (by simpa using hc2)]
   exact ak ag
  ·have g1: ¬aX (Al l k) 0= -1:=by simpa using hc1
   have g2: ¬aX (Al l k) 0=0:=by simpa using hc2
   have h0:0<Al l k:=s5 (fun h=>g1 (by have:=dU (Al l k) 0;omega)) g2
   refine dF 7 [] ?_
   refine aI rfl (dV (bk (hl.a))) ?_
   refine ac rfl (cJ) ?_
   refine lg (bJ rfl) (fun c3 hb3=>?_)
   cases c3
   ·refine lg (bJ rfl) (fun c4 hb4=>?_)
    cases c4
    ·obtain⟨eU,eV⟩:=Sg (l:=l) (by unfold VR;rw[hb3,hb4];rfl)
     refine qq rfl<|dF 20 [] ?_
     refine aI rfl (dV (bk (hl.b))) ?_
     refine aI rfl (dV (bk (Rz.neg (hl.a)))) ?_
     refine aI rfl ((show Ok Tryz.prog 301 _ [.a (aw (G2 l k))] from by unfold G2;rw[eU,eV];exact si (fx.m_) hb0.neg (fy.m_) ha0.neg.neg hq h0 (fun e=>nz ⟨by grind,by grind⟩))) ?_
     refine aI rfl ((show Ok Tryz.prog 301 _ [.a (aw (Fs l k))] from by unfold Fs;rw[eU,eV];exact si (fx.m_) hb0 (fy.m_) ha0.neg hq h0 (fun e=>nz ⟨by grind,by grind⟩))) ?_
     refine aq (bW (n:=2) (us:=aw (G2 l k)++aw (Fs l k)) kj rfl rfl rfl (by decide) (by decide) rfl) ?_
     refine ai ?_
     rw[GW g1 g2]
     exact ak ag
    ·refine ac rfl (cJ) ?_
     refine dS rfl (fun hc5=>?_) (fun hc5=>?_)
     ·obtain⟨eU,eV⟩:=Qe (l:=l) (by unfold VR;rw[hb3,hb4,hc5];rfl)
      refine dF 4 [] ?_
      refine aI rfl (dV (bk (hl.b))) ?_
      refine aI rfl (dV (bk (Rz.neg (hl.a))))<|dF 20 [] ?_
      refine aI rfl (dV (bk (Rz.neg (hl.b)))) ?_
      refine aI rfl (dV (bk (Rz.neg (Rz.neg (hl.a))))) ?_
      refine aI rfl ((show Ok Tryz.prog 301 _ [.a (aw (G2 l k))] from by unfold G2;rw[eU,eV];exact si (fx.m_) hb0.neg.neg (fy.m_) ha0.neg.neg.neg hq h0 (fun e=>nz ⟨by grind,by grind⟩))) ?_
      refine aI rfl ((show Ok Tryz.prog 301 _ [.a (aw (Fs l k))] from by unfold Fs;rw[eU,eV];exact si (fx.m_) hb0.neg (fy.m_) ha0.neg.neg hq h0 (fun e=>nz ⟨by grind,by grind⟩))) ?_
      refine aq (bW (n:=2) (us:=aw (G2 l k)++aw (Fs l k)) kj rfl rfl rfl (by decide) (by decide) rfl) ?_
      refine ai ?_
      rw[GW g1 g2]
      exact ak ag
     ·obtain⟨eU,eV⟩:=Sg (l:=l) (by unfold VR;rw[hb3,hb4,hc5];rfl)
      refine dF 20 [] ?_
      refine aI rfl (dV (bk (hl.b))) ?_
      refine aI rfl (dV (bk (Rz.neg (hl.a)))) ?_
      refine aI rfl ((show Ok Tryz.prog 301 _ [.a (aw (G2 l k))] from by unfold G2;rw[eU,eV];exact si (fx.m_) hb0.neg (fy.m_) ha0.neg.neg hq h0 (fun e=>nz ⟨by grind,by grind⟩))) ?_
      refine aI rfl ((show Ok Tryz.prog 301 _ [.a (aw (Fs l k))] from by unfold Fs;rw[eU,eV];exact si (fx.m_) hb0 (fy.m_) ha0.neg hq h0 (fun e=>nz ⟨by grind,by grind⟩))) ?_
      refine aq (bW (n:=2) (us:=aw (G2 l k)++aw (Fs l k)) kj rfl rfl rfl (by decide) (by decide) rfl) ?_
      refine ai ?_
      rw[GW g1 g2]
      exact ak ag
   ·obtain⟨eU,eV⟩:=Qe (l:=l) (by unfold VR;rw[hb3];rfl)
    refine DL.mk<|xq (tg rfl)<|fa ?_
    refine lr rfl<|dF 4 [] ?_
    refine aI rfl (dV (bk (hl.b))) ?_
    refine aI rfl (dV (bk (Rz.neg (hl.a))))<|dF 20 [] ?_
    refine aI rfl (dV (bk (Rz.neg (hl.b)))) ?_
    refine aI rfl (dV (bk (Rz.neg (Rz.neg (hl.a))))) ?_
    refine aI rfl ((show Ok Tryz.prog 301 _ [.a (aw (G2 l k))] from by unfold G2;rw[eU,eV];exact si (fx.m_) hb0.neg.neg (fy.m_) ha0.neg.neg.neg hq h0 (fun e=>nz ⟨by grind,by grind⟩))) ?_
    refine aI rfl ((show Ok Tryz.prog 301 _ [.a (aw (Fs l k))] from by unfold Fs;rw[eU,eV];exact si (fx.m_) hb0.neg (fy.m_) ha0.neg.neg hq h0 (fun e=>nz ⟨by grind,by grind⟩))) ?_
    refine aq (bW (n:=2) (us:=aw (G2 l k)++aw (Fs l k)) kj rfl rfl rfl (by decide) (by decide) rfl) ?_
    refine ai ?_
    rw[GW g1 g2]
    exact ak ag
theorem WA {k:Ci}(hk:GK k) (hd:GK d):Ok Tryz.prog 121 [.a (bT k),.a (bT d)] [.c (.s ((iZ k d).length) (aW aw (iZ k d))),.c (.i .i64 (J8 k d))]:=by
 refine b9 Tryz.func121 rfl ?_
 refine ac rfl (ab0 hk hd) ?_
 refine dS rfl (fun hc1=>?_) (fun hc1=>?_)
 ·refine ai ?_
  rw[(SV hc1).1,(SV hc1).2]
  exact ak (ak ag)
 ·refine ac rfl (WQ hk hd) ?_
  refine dS rfl (fun hc2=>?_) (fun hc2=>?_)
  ·refine ai ?_
   rw[(MD hc1 hc2).1,(MD hc1 hc2).2]
   exact ak (ak ag)
  ·refine ac rfl (acR hk hd hc2)<|ac rfl (adh (rD hk hd hc2) hk)<|ai ?_
   rw[(Ms hc1 hc2).1,(Ms hc1 hc2).2]
   exact ak (ak ag)
theorem Uv {k:Ci}{a b:Pt}(vP:CvV (.arc k false a b)) (vR:CvV (.arc k false a' b')) (e1:cP a a'=0) (e2:cP b b'=0)
 (iP: ∀x,x=mi k∨x=lX k→(Cv.arc k false a b).inner x=false∧(Cv.arc k false a' b').inner x=false):
 ∃m:Pt,GB m∧Ok Tryz.prog 43 [.a (aZ (.arc k false a b))] [.a (aw m)]∧Ok Tryz.prog 56 [.a (aZ (.arc k false a' b'))] [.a (aw m)]∧ ∃x,m=uP (Cv.arc k false a b).fwd x∧lu (Cv.arc k false a b).fwd.p x<0∧0<lu (Cv.arc k false a b).fwd.q x:=by
 obtain⟨x,hx,h1,h2,h3,h4,h5,h6,i1,i2⟩:=aaL vP vR e1 e2 iP
 obtain⟨⟨z1,z2,z3⟩,hv⟩:=Kx (HM vP) hx h3
 obtain⟨ea,eb⟩:=Rj (Cv.arc k false a b).fwd x
 refine⟨uP (Cv.arc k false a b).fwd x,⟨ea▸hx.mono (by decide),eb▸dW (by decide),z1,z2,z3,hv⟩,ab6 vP (iP _ (.inl rfl)).1 (iP _ (.inr rfl)).1 hx h3 h1,h6▸Za vR h5 hx h4 h2,x,rfl,i1,i2⟩
theorem ac8 {m:Pt}(hm:GB m) (hd:RK d):Ok Tryz.prog 45 [.a (bT d),.c (.p (aw m))] [.c (.b (decide (dE d m≥0)))]:=by
 refine b9 Tryz.func45 rfl ?_
 refine ar (mH (us:=aw m) cn rfl rfl rfl rfl) ?_
 refine ac rfl (SY hd.k hm) ?_
 exact ai (ak ag)
theorem adk (hL: ∀d∈L,RK d) (lL:L.length≤4) {m:Pt}(hm:GB m):Ok Tryz.prog 131 [.c (.s L.length (aW bT L)),.c (.k 45 [.p (aw m)])] [.c (.i .i64 (fz (eO L m) L.length))]:=by
 refine b9 Tryz.func131 rfl ?_
 refine DW.mk<|bv (ι:={n:Nat // n≤L.length∧ ∀i,i<n→eO L m i=true}) (fun i=>⟨19,[(0,.v (.c (.s L.length (aW bT L)))),(1,.v (.c (.k 45 [.p (aw m)]))),(7,.v (.c (.i .i64 (L.length:Int)))),(8,.v (.c (.i .i64 (i.1:Int))))],[]⟩) (fun i=>L.length-i.1) ⟨0,iW _,fun i hi=>absurd hi (by omega)⟩ (ap (bo rfl) trivial rfl) ?_
 rintro⟨n,h2,h3⟩
 replace h2:n≤L.length:=h2
 replace h3: ∀i,i<n→eO L m i=true:=h3
 dsimp only
 refine gZ ?_
 refine dS rfl (fun hc1=>?_) (fun hc1=>?_)
 ·have g1:n<L.length:=by have:=of_decide_eq_true hc1;omega
  refine ar (vf dK mV g1 ZG rfl)<|ar (dM (us:=bT (L.getD n dK)) AX rfl (Gq _ _) (mV _) rfl) ?_
  refine ar (pN rfl rfl (ac8 hm (hL _ (bX g1))) rfl) ?_
  refine dS rfl (fun hc2=>?_) (fun hc2=>?_)
  ·have g2:eO L m n=false:=by have:=of_decide_eq_true hc2;unfold eO;rw[decide_eq_false (by omega)]
   refine ai ?_
   rw[I5 h3 g2 g1]
   exact ak ag
  ·have g2:eO L m n=true:=by have:=of_decide_eq_false hc2;unfold eO;rw[decide_eq_true (by omega)]
   refine ar (dZ (by omega) rfl) ?_
   exact⟨⟨n+1,g1,fun i hi=>(jY i n).elim (h3 i) fun q=>(show i=n by omega)▸g2⟩,ap (bo rfl) trivial rfl,by show L.length-(n+1)<L.length-n;omega⟩
 ·have hp:n=L.length:=by have:=of_decide_eq_false hc1;omega
  refine ai ?_
  rw[Oi (hp▸h3)]
  exact ak ag
theorem aaM (hL: ∀d∈L,RK d) (lL:L.length≤4) {m:Pt}(hm:GB m):Ok Tryz.prog 44 [.c (.s L.length (aW bT L)),.c (.k 45 [.p (aw m)])] [.c (.b (!BD L m))]:=by
 refine b9 Tryz.func44 rfl<|ac rfl (adk hL lL hm)<|ai ?_
 rw[←TC]
 exact ak ag
theorem abX (hN:N≤100):Ok Tryz.prog 48 [.c (.s N (Dt e N)),.c (.b false)] [.c (.i .i64 (fz e N))]:=by
 refine b9 Tryz.func48 rfl ?_
 refine DW.mk<|bv (ι:={n:Nat // n≤N∧ ∀i,i<n→e i=true}) (fun i=>⟨19,[(0,.v (.c (.s N (Dt e N)))),(1,.v (.c (.b false))),(7,.v (.c (.i .i64 (N:Int)))),(8,.v (.c (.i .i64 (i.1:Int))))],[]⟩) (fun i=>N-i.1) ⟨0,iW _,fun i hi=>absurd hi (by omega)⟩ (ap (bo rfl) trivial rfl) ?_
 rintro⟨n,h2,h3⟩
 replace h2:n≤N:=h2
 replace h3: ∀i,i<n→e i=true:=h3
 dsimp only
 refine gZ ?_
 refine dS rfl (fun hc1=>?_) (fun hc1=>?_)
 ·have g1:n<N:=by have:=of_decide_eq_true hc1;omega
  refine ar (bc (us:=[CellD.b (e n)]++(Dt e N).drop (n+1)) PI rfl rfl (by omega) (n6) (Gy g1) rfl) ?_
  refine ar (bn sK rfl rfl rfl) ?_
  refine ar (Di rfl rfl jQ rfl) ?_
  refine dS rfl (fun hc2=>?_) (fun hc2=>?_)
  ·have g2:e n=false:=(beq_iff_eq.1 hc2).symm
   refine ai ?_
   rw[I5 h3 g2 g1]
   exact ak ag
  ·have g2:e n=true:=by have:=hc2;revert this;cases e n<;>decide
   refine ar (dZ (by omega) rfl) ?_
   exact⟨⟨n+1,g1,fun i hi=>(jY i n).elim (h3 i) fun q=>(show i=n by omega)▸g2⟩,ap (bo rfl) trivial rfl,by show N-(n+1)<N-n;omega⟩
 ·have hp:n=N:=by have:=of_decide_eq_false hc1;omega
  refine ai ?_
  rw[Oi (hp▸h3)]
  exact ak ag
theorem ab1 (hN:N≤100):Ok Tryz.prog 47 [.c (.s N (Dt e N)),.c (.b false)] [.c (.b (decide (fz e N≥0)))]:=by
 refine b9 Tryz.func47 rfl<|ac rfl (abX hN) ?_
 exact ai (ak ag)
section
variable {P:Program}{ops:Array Oper}{T:TF}{B:BF}{dst:Option Nat}{y:Operand}{t:TypeId}{ty:TypeId}{pos:String}{af:Array Edge}{g:Option (Nat×Bool)}
theorem Qg {s:ByteArray}{k:IntKind}{i n:Int}(hU:P.underlying t=some .string) (hi:cO T y=some (.v (.c (.i k i)))) (h0:0≤i∧i<s.size) (hn:(((s[i.toNat]?).getD 0).toNat:Int)=n) (hg:gd ops ⟨dst,.index t (.const (.string s)) y,ty,pos,af,g⟩ T=some true):
 Sem P ops ⟨dst,.index t (.const (.string s)) y,ty,pos,af,g⟩ T B (.r (.v (.c (.i .u8 n)))):=
 bI hg (pF rfl) (fun V β a w hs=>by
  have h2:=fO (aC hs (x:=y) (by simp[Op.operands]) hi)
  have h3:i.toNat<s.size:=by omega
  refine⟨.int .u8 n,?_,.i _ _⟩
  subst hn
  have h4:=run_index_string (P:=P) w t s k i hU
  rw[dif_pos h0] at h4
  simp only[execOp,h2]
  show(Instr.index t (.string s) (.int k i)>>=_).run P w=_
  rw[eM,h4,ByteArray.getElem?_lt' s _ h3]
  rfl)
end
theorem NP {P:Program}{σ:St}{Q:Exit→St→Prop}{x y:Code}(h:Dw P y σ Q):Dw P (.cond (.const (.bool false)) x y) σ Q:=fun av w0 β a w hr=>
 wp_cond_split (t:=false) rfl (fun e=>nomatch e) (fun _=>h av w0 β a w hr)
theorem acA {x:Int}(h0:0≤x) (h1:x≤255):IntKind.u8.wrap x=x:=by unfold IntKind.wrap;simp[IntKind.bits,IntKind.signed];omega
theorem abR {c d:Cv}(vc:CvV c) (vd:CvV d):Ok Tryz.prog 50 [.a (aZ c),.a (aZ d)] [.c (.i .i64 (dj c d))]:=by
 refine b9 Tryz.func50 rfl ?_
 refine ar (cD (us:=aw c.p) cn rfl rfl (sj _) rfl rfl) ?_
 refine ar (cD (us:=aw d.p) cn rfl rfl (sj _) rfl rfl) ?_
 refine ac rfl (S4 (kO vc.g) (kO vd.g)) ?_
 exact ai (ak ag)
theorem acU {L:List Cv}(hn1:1≤L.length) (hn:L.length≤12) (hG: ∀x∈L,CvV x):OkS Tryz.prog 243 49 L.length c9 (aW aZ L++rs) (aW aZ (bp bY dj L)++rs) [.c (.i .i64 0),.c (.i .i64 (L.length:Int)),.c (.f 50)]:=by
 refine OkS.of (K:=100000) (by kernel_rfl) Tryz.func243 rfl rfl rfl rfl ?_
 rw[show Tryz.f243.ntmps=53 from rfl]
 refine ae<|ah<|ar (er (r:=1) rfl rfl rfl rfl) ?_
 refine aG<|bv (ι:={p:Nat // 1≤p∧p≤L.length}) (fun i=>⟨53,[(0,.o 100000 L.length c9),(1,.v (.c (.i .i64 0))),(2,.v (.c (.i .i64 (L.length:Int)))),(3,.v (.c (.f 50))),(8,.v (.c (.i .i64 (i.1:Int))))],[(100000,49,aW aZ (UZ bY dj L i.1)++rs)]⟩) (fun i=>L.length-i.1) ⟨1,ck _,hn1⟩ (ap (bo rfl) ⟨congrArg (fun q=>some (49,aW aZ q++rs)) ((LA L).symm),trivial⟩ rfl) ?_
 rintro⟨p,h1,h2⟩
 replace h1:1≤p:=h1
 replace h2:p≤L.length:=h2
 dsimp only
 refine ae<|ae<|ah ?_
 refine aP rfl (fun hc1=>?_) (fun hc1=>?_)
 ·have g1:p<L.length:=by have:=of_decide_eq_true hc1;omega
  have hOl:(bp bY dj (L.take p)).length=p:=by rw[fV,gX,q5 h2]
  refine aA<|ae<|aG<|ae<|ah<|aG<|bv (ι:={j:Nat // j≤p∧pE bY dj (L.getD p bY) (bp bY dj (L.take p)) p=pE bY dj (L.getD p bY) (bp bY dj (L.take p)) j}) (fun i=>⟨53,[(0,.o 100000 L.length c9),(1,.v (.c (.i .i64 0))),(2,.v (.c (.i .i64 (L.length:Int)))),(3,.v (.c (.f 50))),(8,.v (.c (.i .i64 (p:Int)))),(9,.v (.c (.i .i64 (i.1:Int))))],[(100000,49,aW aZ (A8 (bp bY dj (L.take p)) (L.drop (p+1)) (L.getD p bY) i.1)++rs)]⟩) (fun i=>i.1) ⟨p,ck _,rfl⟩ (ap (bo rfl) ⟨congrArg (fun q=>some (49,aW aZ q++rs)) (L5 g1),trivial⟩ rfl) ?_
  rintro⟨j,h3,h4⟩
  replace h3:j≤p:=h3
  replace h4:pE bY dj (L.getD p bY) (bp bY dj (L.take p)) p=pE bY dj (L.getD p bY) (bp bY dj (L.take p)) j:=h4
  dsimp only
  refine ae<|ae<|wq 17 rfl rfl<|ji 3 ?_
  refine RO (bJ rfl) (fun c2 hb2=>?_)
  cases c2
  ·have g2:j=0:=by have:=of_decide_eq_false hb2;omega
   refine Gm<|iC<|bt<|bh rfl<|bV<|ah<|ar (dZ (by omega) rfl) ?_
   exact⟨⟨p+1,by omega,g1⟩,ap (bo rfl) ⟨congrArg (fun q=>some (49,aW aZ q++rs)) (zJ g1 (h4.trans (Fo (.inl g2)))),trivial⟩ rfl,by show L.length-(p+1)<L.length-p;omega⟩
  ·have g2:0<j:=by have:=of_decide_eq_true hb2;omega
   have hjl:j≤(bp bY dj (L.take p)).length:=by rw[hOl];exact h3
   refine ji 3<|cK (bE qN rfl rfl (by omega) rfl) ?_
   refine cK (cD (us:=aZ (L.getD p bY)) cG rfl rfl ((jX (e:=bY) (O:=(A8 (bp bY dj (L.take p)) (L.drop (p+1)) (L.getD p bY) j)) ao (by rw[iQ hjl,hOl,lZ];omega)).trans (congrArg aZ (G3 hjl))) (ao _) rfl) ?_
   refine ji 2<|cK (bF (((j-1:Nat):Int)) ((aS (by omega) (by omega)).trans (congrArg some (by omega))) rfl)<|cK (bE qN rfl rfl (by omega) rfl) ?_
   refine cK (cD (us:=aZ ((bp bY dj (L.take p)).getD (j-1) bY)) cG rfl rfl ((jX (e:=bY) (O:=(A8 (bp bY dj (L.take p)) (L.drop (p+1)) (L.getD p bY) j)) ao (by rw[iQ hjl,hOl,lZ];omega)).trans (congrArg aZ (Gp g2 hjl))) (ao _) rfl) ?_
   refine cK (dg rfl (abR (hG _ (bX g1)) (hG _ (List.mem_of_mem_take ((jl _).mem_iff.1 (bX (show j-1<(bp bY dj (L.take p)).length by rw[hOl];omega)))))))<|Gm<|iC<|bt ?_
   refine aP rfl (fun hc3=>?_) (fun hc3=>?_)
   ·have g3:dj (L.getD p bY) ((bp bY dj (L.take p)).getD (j-1) bY)<0:=of_decide_eq_true hc3
    refine aA<|ae<|aG<|xr 16 [100000,999999] jK (by kernel_rfl) rfl rfl<|ji 4<|cK (bF (((j-1:Nat):Int)) ((aS (by omega) (by omega)).trans (congrArg some (by omega))) rfl)<|ji 2<|cK (bF (((j-1:Nat):Int)) ((aS (by omega) (by omega)).trans (congrArg some (by omega))) rfl)<|cK (bE qN rfl rfl (by omega) rfl) ?_
    refine Lb (by kernel_rfl) (cD (us:=aZ ((bp bY dj (L.take p)).getD (j-1) bY)) cG rfl rfl ((jX (e:=bY) (O:=(A8 (bp bY dj (L.take p)) (L.drop (p+1)) (L.getD p bY) j)) ao (by rw[iQ hjl,hOl,lZ];omega)).trans (congrArg aZ (Gp g2 hjl))) (ao _) rfl) ?_
    refine ji 2<|cK (bE qN rfl rfl (by omega) rfl) ?_
    refine Lb (by kernel_rfl) (cD (us:=aZ (L.getD p bY)) cG rfl rfl ((jX (e:=bY) (O:=(A8 (bp bY dj (L.take p)) (L.drop (p+1)) (L.getD p bY) j)) ao (by rw[iQ hjl,hOl,lZ];omega)).trans (congrArg aZ (G3 hjl))) (ao _) rfl) ?_
    refine cK (bE qN rfl rfl (by omega) rfl) ?_
    refine jE (br (us:=aW aZ ((A8 (bp bY dj (L.take p)) (L.drop (p+1)) (L.getD p bY) j).set j ((bp bY dj (L.take p)).getD (j-1) bY))++rs) cG rfl rfl rfl (ao _) (by rw[d6,a7 ao,iQ hjl,hOl,lZ];omega) (xc ao (by rw[iQ hjl,hOl,lZ];omega) _) rfl) rfl rfl rfl rfl ?_
    refine wd<|At<|aO (bE qN rfl rfl (by omega) rfl) ?_
    refine jk (br (us:=aW aZ (((A8 (bp bY dj (L.take p)) (L.drop (p+1)) (L.getD p bY) j).set j ((bp bY dj (L.take p)).getD (j-1) bY)).set (j-1) (L.getD p bY))++rs) cG rfl rfl rfl (ao _) (by rw[d6,a7 ao,yG,iQ hjl,hOl,lZ];omega) (xc ao (by rw[yG,iQ hjl,hOl,lZ];omega) _) rfl) ?_
    refine bt<|ah<|ar (bF (((j-1:Nat):Int)) ((aS (by omega) (by omega)).trans (congrArg some (by omega))) rfl) ?_
    exact⟨⟨j-1,by omega,h4.trans (Pu g2 g3)⟩,ap (bo rfl) ⟨congrArg (fun q=>some (49,aW aZ q++rs)) (Rg g2 hjl),trivial⟩ rfl,by show j-1<j;omega⟩
   ·have g3: ¬dj (L.getD p bY) ((bp bY dj (L.take p)).getD (j-1) bY)<0:=of_decide_eq_false hc3
    refine bV<|ah<|ar (dZ (by omega) rfl) ?_
    exact⟨⟨p+1,by omega,g1⟩,ap (bo rfl) ⟨congrArg (fun q=>some (49,aW aZ q++rs)) (zJ g1 (h4.trans (Fo (.inr g3)))),trivial⟩ rfl,by show L.length-(p+1)<L.length-p;omega⟩
 ·have hp:p=L.length:=by have:=of_decide_eq_false hc1;omega
  refine bV ?_
  exact⟨.inl rfl,congrArg (fun q=>some (49,aW aZ q++rs)) (by rw[hp,Lp])⟩
theorem Zg:Ok Tryz.prog 243 [.c (.s 0 []),.c (.i .i64 0),.c (.i .i64 0),.c (.f 50)] []:=by
 refine b9 Tryz.func243 rfl<|ar (er (r:=1) rfl rfl rfl rfl) ?_
 refine DW.mk<|bv (ι:=Nat) (fun i=>match i with|_=>⟨53,[(0,.v (.c (.s 0 []))),(1,.v (.c (.i .i64 0))),(2,.v (.c (.i .i64 0))),(3,.v (.c (.f 50))),(8,.v (.c (.i .i64 1)))],[]⟩) (fun i=>0-i) 0 (ap (bo rfl) trivial rfl) ?_
 intro i
 match i with
 |_=>
  show Dw _ _ ⟨53,[(0,.v (.c (.s 0 []))),(1,.v (.c (.i .i64 0))),(2,.v (.c (.i .i64 0))),(3,.v (.c (.f 50))),(8,.v (.c (.i .i64 1)))],[]⟩ _
  refine gZ<|qq rfl ?_
  exact Ji ag
theorem TR {x:Nat}(hx:x≤12):Ok Tryz.prog 252 [.c (.i .u64 (x:Int))] [.c (.i .i64 (bl x))]:=by
 have b1:=acw x
 refine eo Tryz.func252 25 [.tmp 2] rfl<|ae<|ah<|ae<|ae<|bq<|bH 1<|aO (aJ (c:=false) (dG rfl) (decide_eq_false (by omega))) ?_
 refine bt<|bh rfl<|aA<|ae<|ae<|bq<|bH 1<|aO (aJ (c:=false) (dG rfl) (decide_eq_false (by omega))) ?_
 refine bt<|bh rfl<|aA<|ae<|ae<|bq<|bH 1<|aO (aJ (c:=false) (dG rfl) (decide_eq_false (by omega))) ?_
 refine bt<|bh rfl<|aA<|ae<|ah<|ar (b6 (r:=(x:Int)) fX abF rfl (acA (by omega) (by omega)) rfl) ?_
 refine ar (Qg (n:=bl x) (by kernel_rfl) rfl ⟨by omega,Int.lt_of_le_of_lt (b:=12) (by omega) (by decide+kernel)⟩ (Zh hx (by decide+kernel)) rfl) ?_
 refine ar (b6 (r:=bl x) abF Ta rfl (qO (by omega) (by omega)) rfl) ?_
 refine ar (bF (bl x) ((aT (by omega) (by omega)).trans (congrArg some (by omega))) rfl)<|ba ?_
 exact ai (ak ag)
theorem WZ {x:Nat}(hx:x≤12):Ok Tryz.prog 138 [.c (.i .u64 (x:Int))] [.c (.i .i64 (bl x))]:=by
 refine eo Tryz.func138 8 [.tmp 2] rfl<|ae<|bq<|gi<|ae<|NP<|aA<|ae<|bq<|bH 1<|aO (dg rfl (TR hx))<|gi<|ba ?_
 exact ai (ak ag)
theorem ac2 {L:List Cv}(hn1:1≤L.length) (hn:L.length≤12) (hG: ∀x∈L,CvV x) :OkS Tryz.prog 137 49 L.length c9 (aW aZ L++rs) (aW aZ (bp bY dj L)++rs) [.c (.i .i64 0),.c (.i .i64 (L.length:Int)),.c (.i .i64 lm),.c (.f 50)]:=by
 refine OkS.of (K:=100000) (by kernel_rfl) Tryz.func137 rfl rfl rfl rfl ?_
 rw[show Tryz.f137.ntmps=148 from rfl]
 refine ae<|ah<|ae<|ah<|aG ?_
 refine bv (ι:=Nat) (fun i=>match i with|_=>⟨148,[(0,.o 100000 L.length c9),(1,.v (.c (.i .i64 0))),(2,.v (.c (.i .i64 (L.length:Int)))),(3,.v (.c (.i .i64 lm))),(4,.v (.c (.f 50))),(10,.v (.c (.b true))),(11,.v (.c (.b true)))],[(100000,49,aW aZ L++rs)]⟩) (fun i=>0-i) 0 (ap (bo rfl) ⟨rfl,trivial⟩ rfl) ?_
 intro i
 match i with
 |_=>
  show Dw _ _ ⟨148,[(0,.o 100000 L.length c9),(1,.v (.c (.i .i64 0))),(2,.v (.c (.i .i64 (L.length:Int)))),(3,.v (.c (.i .i64 lm))),(4,.v (.c (.f 50))),(10,.v (.c (.b true))),(11,.v (.c (.b true)))],[(100000,49,aW aZ L++rs)]⟩ _
  refine aG<|ae<|ah<|ar (bF ((L.length:Int)) ((aS (by omega) (by omega)).trans (congrArg some (by omega))) rfl)<|ae<|ae<|bq<|bH 1<|aO (aJ (c:=true) (dG rfl) (decide_eq_true (by omega))) ?_
  refine bt<|cz rfl<|ae<|ah ?_
  refine DL.mk<|tE (kU rfl rfl rfl rfl rfl (acU hn1 hn hG) rfl)<|fa ?_
  refine ba ?_
  exact⟨.inr rfl,rfl⟩
theorem YM:Ok Tryz.prog 137 [.c (.s 0 []),.c (.i .i64 0),.c (.i .i64 0),.c (.i .i64 lm),.c (.f 50)] []:=by
 refine b9 Tryz.func137 rfl ?_
 refine DW.mk<|bv (ι:=Nat) (fun i=>match i with|_=>⟨148,[(0,.v (.c (.s 0 []))),(1,.v (.c (.i .i64 0))),(2,.v (.c (.i .i64 0))),(3,.v (.c (.i .i64 lm))),(4,.v (.c (.f 50))),(10,.v (.c (.b true))),(11,.v (.c (.b true)))],[]⟩) (fun i=>0-i) 0 (ap (bo rfl) trivial rfl) ?_
 intro i
 match i with
 |_=>
  show Dw _ _ ⟨148,[(0,.v (.c (.s 0 []))),(1,.v (.c (.i .i64 0))),(2,.v (.c (.i .i64 0))),(3,.v (.c (.i .i64 lm))),(4,.v (.c (.f 50))),(10,.v (.c (.b true))),(11,.v (.c (.b true)))],[]⟩ _
  refine gZ<|ar (er (r:=0) rfl rfl rfl rfl) ?_
  refine lr rfl<|ac rfl (Zg) ?_
  exact ai ag
theorem adN {L:List Cv}(hn1:1≤L.length) (hn:L.length≤12) (hG: ∀x∈L,CvV x):OkS Tryz.prog 49 49 L.length c9 (aW aZ L++rs) (aW aZ (bp bY dj L)++rs) [.c (.f 50)]:=by
 refine OkS.of (K:=100000) (by kernel_rfl) Tryz.func49 rfl rfl rfl rfl ?_
 rw[show Tryz.f49.ntmps=14 from rfl]
 refine ae<|ah<|ar (jm qN rfl rfl) ?_
 refine ah<|ar (b6 (r:=(L.length:Int)) Ta FF rfl (iE (by omega) (by omega)) rfl) ?_
 refine ac rfl (WZ hn) ?_
 refine DL.mk<|tE (kU rfl rfl rfl rfl rfl (ac2 hn1 hn hG) rfl)<|fa ?_
 exact⟨.inl rfl,rfl⟩
theorem aci:Ok Tryz.prog 49 [.c (.s 0 []),.c (.f 50)] []:=by
 refine b9 Tryz.func49 rfl ?_
 refine ar (b6 (r:=0) Ta FF rfl (rfl) rfl) ?_
 refine ac rfl ((show Ok _ _ [.c (.i .u64 0)] [.c (.i .i64 0)] from WZ (x:=0) (by decide)))<|ac rfl (YM) ?_
 exact Ji ag
end Go.Proofs.YtegpmhlfjkhjmaaGreat
