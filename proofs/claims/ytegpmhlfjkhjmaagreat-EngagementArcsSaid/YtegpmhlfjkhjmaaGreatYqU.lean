/-The middle of a piece:the program and the reference. -/
import Derived.Test.YtegpmhlfjkhjmaaGreatYqT
namespace Go.Proofs.YtegpmhlfjkhjmaaGreat
open Go Go.RowKit
variable {c d:Cv}{L L':List Pt}{i j:Nat}{f t:Pt}{x:Rat}
theorem rV:type_of% @Nat.mod_lt:=@Nat.mod_lt
theorem Da:type_of% @List.map_congr_left:=@List.map_congr_left
theorem aal (vc:CvV c) (hx:Rz 6841 x) (hb:xJ c x=true):Ok Tryz.prog 129 [.a ((cR x++cR 0++cR 0)),.a (VH c x)] [.a (aj (wZ c x)),.c (.i .i64 0)]:=by
 obtain⟨⟨_,_,h3⟩,hv⟩:=Jt vc hx hb
 obtain⟨ea,eb⟩:=OC c x
 rw[UZ]
 exact F3 (xl (dH (by decide)) ((il h3 (by decide)).mono (by decide)) (fun h=>h.1 rfl)) ea eb rfl rfl (Rk hv eb)
theorem X3 (vc:CvV c) (hx:Rz 6841 x) (hb:xJ c x=true):Ok Tryz.prog 270 [.a ((cR x++cR 0++cR 0)),.a (VH c x)] [.a (aj (wZ c x)),.c (.i .i64 0)]:=by
 obtain⟨⟨_,_,h3⟩,hv⟩:=Jt vc hx hb
 obtain⟨ea,eb⟩:=OC c x
 rw[UZ]
 exact F3 (Ja (dH (by decide)) ((il h3 (by decide)).mono (by decide)) (fun h=>h.1 rfl)) ea eb rfl rfl (Rk hv eb)
theorem Y6 {k:Ci}(vc:CvV (.arc k false f t)) (ea:(Cv.arc k false f t).inner (jS k)=false) (eb:(Cv.arc k false f t).inner (jI k)=false) (hx:Rz 6841 x) (bb:xJ (Cv.arc k false f t).fwd x=true) (hB:Ok Tryz.prog 126 [.a ((cR (((Cv.arc k false f t).fwd.p).a1)++cR (((Cv.arc k false f t).fwd.p).b1)++cR (zc ((Cv.arc k false f t).fwd.p).b1 ((Cv.arc k false f t).fwd.p).c))),.a ((cR (((Cv.arc k false f t).fwd.q).a1)++cR (((Cv.arc k false f t).fwd.q).b1)++cR (zc ((Cv.arc k false f t).fwd.q).b1 ((Cv.arc k false f t).fwd.q).c)))] [dR x,.c (.i .i64 0)]):Ok Tryz.prog 43 [.a (([.b true]++np++aX k++[.b false]++aj f++aj t))] [.a (aj (((wZ (Cv.arc k false f t).fwd x))))]:=by
 have vc9:CvV (Cv.arc k false f t).fwd:=Ii vc
 refine eH Tryz.func43 48 [.cell 2 47] rfl<|aa<|ag<|aa<|ag ?_
 refine ar (gT bW rfl) ?_
 refine ac rfl (ZY vc ea eb) ?_
 refine ar (bH (us:=aD (Cv.arc k false f t).fwd++[]) gF rfl rfl (by simp) (am ai _) (jf ai (j:=0) (ew (d:=aY) (show 0<([(Cv.arc k false f t).fwd]:List Cv).length from Nat.one_pos))) rfl) ?_
 refine ar (ip ai bW rfl)<|re (de bW rfl rfl rfl (ai _) rfl rfl) ?_
 refine aa<|dJ 13 [4,999999] ?_
 refine aq (bZ (us:=aj ((Cv.arc k false f t).fwd).p) bv rfl rfl (lr _) rfl rfl) ?_
 refine aK rfl (p6) ?_
 refine aq (bZ (us:=aj ((Cv.arc k false f t).fwd).q) bv rfl rfl (qt _) rfl rfl) ?_
 refine aK rfl (p6)<|aK rfl (hB) ?_
 refine DQ.mk<|iQ (fg bF rfl) rfl rfl rfl rfl<|d7 ?_
 refine aa<|aa<|ag<|a8 rfl<|aA<|aa<|bg<|aR (j9 (ai _) bW rfl)<|bK 1<|aR (cj rfl ((by have h9:=Wa vc9 (hx.m_);rw[if_pos bb] at h9;exact h9))) ?_
 refine bK 3<|tO (jG lh rfl) rfl<|f8 (de dh rfl rfl rfl (Bp _ _) rfl rfl) ?_
 refine ex<|aa<|aa<|ag<|a8 rfl<|aA<|aa<|pJ 10 [7,999999] dM (by kernel_rfl) rfl rfl<|dt 1<|bD (cj rfl (gJ))<|bD (j9 (Bp _ _) dh rfl)<|bD (cj rfl (aal vc9 hx bb))<|dt 3<|zX (jG yY rfl) rfl ?_
 refine iQ (fg bv rfl) rfl rfl rfl rfl<|yo<|zq<|ba<|aa<|aa<|ag<|a8 rfl<|aA<|aa<|ag ?_
 refine aZ ?_
 exact ah (aV bv rfl ae)
theorem XX (vd:CvV d) (hv:d.vert=false) (hx:Rz 6841 x) (bb:xJ d x=true) (hB:Ok Tryz.prog 269 [.a ((cR d.p.a1++cR d.p.b1++cR (zc d.p.b1 d.p.c))),.a ((cR d.q.a1++cR d.q.b1++cR (zc d.q.b1 d.q.c)))] [dR x]):Ok Tryz.prog 148 [.a (aD d)] [.a (aj (wZ d x))]:=by
 refine eH Tryz.func148 51 [.cell 2 47] rfl<|aa<|ag<|aa<|aa<|ag ?_
 refine ar (j9 (ai _) bW rfl) ?_
 refine ac rfl ((by have h9:=XD vd;rw[hv] at h9;exact h9)) ?_
 refine a8 rfl<|aA<|aa<|dJ 8 [] ?_
 refine aq (bZ (us:=aj d.p) bv rfl rfl (lr _) rfl rfl) ?_
 refine aK rfl (pc) ?_
 refine aq (bZ (us:=aj d.q) bv rfl rfl (qt _) rfl rfl) ?_
 refine aK rfl (pc)<|aK rfl (hB)<|aa<|bg<|aR (j9 (ai _) bW rfl)<|bK 1<|aR (cj rfl ((by have h9:=Yd vd (hx.m_);rw[if_pos bb] at h9;exact h9))) ?_
 refine bK 3<|tO (jG lh rfl) rfl<|f8 (de dh rfl rfl rfl (Bp _ _) rfl rfl) ?_
 refine ex<|aa<|pJ 10 [9,999999] dM (by kernel_rfl) rfl rfl<|dt 1<|bD (cj rfl (fh))<|bD (j9 (Bp _ _) dh rfl)<|bD (cj rfl (X3 vd hx bb))<|dt 3<|zX (jG yY rfl) rfl<|iQ (fg bv rfl) rfl rfl rfl rfl<|yo<|zq<|ba<|aa ?_
 refine ag ?_
 refine aZ ?_
 exact ah (aV bv rfl ae)
theorem XZ (vc:CvV c) (hv:c.fwd.vert=false) (hx:Rz 6841 x) (bb:xJ c.fwd x=true) (hB:Ok Tryz.prog 269 [.a ((cR c.fwd.p.a1++cR c.fwd.p.b1++cR (zc c.fwd.p.b1 c.fwd.p.c))),.a ((cR c.fwd.q.a1++cR c.fwd.q.b1++cR (zc c.fwd.q.b1 c.fwd.q.c)))] [dR x]):Ok Tryz.prog 56 [.a (aD c)] [.a (aj (wZ c.fwd x))]:=by
 have v9:CvV c.fwd:=Ii vc
 have h16:=XX v9 hv hx bb hB
 refine ca Tryz.func56 rfl<|ar (bZ (us:=aj c.p) bv rfl rfl (lr _) rfl rfl) ?_
 refine ar (bZ (us:=aj c.q) bv rfl rfl (qt _) rfl rfl) ?_
 refine ac rfl (Ax (iq vc.g) (o7 vc.g)) ?_
 refine dD rfl (fun hc1=>?_) (fun hc1=>?_)
 ·have g0:=LA hc1
  refine ar (j9 (ai _) bW rfl)<|ac rfl (YC vc) ?_
  refine re (de bW rfl rfl rfl (ai _) (ai _) rfl) ?_
  refine ar (j9 (ai _) bW rfl)<|ac rfl ((Eq.subst (motive:=fun z=>Ok _ _ [.a z] _) (congrArg aD g0) h16)) ?_
  exact ah (aV bv rfl ae)
 ·have g0:=K7 hc1
  refine ar (j9 (ai _) bW rfl)<|ac rfl ((Eq.subst (motive:=fun z=>Ok _ _ [.a z] _) (congrArg aD g0) h16)) ?_
  exact ah (aV bv rfl ae)
def hvA (k:Ci):Cv:=.arc k false (jS k) (jI k)
def hvB (k:Ci):Cv:=.arc k false (jI k) (jS k)
structure Sim (k:Ci) (P R:List Cv):Prop where
 len:P.length=R.length
 two:2≤P.length
 at_: ∀i,i<P.length→ ∃a b a' b':Pt,P.getD i aY=.arc k false a b∧R.getD i aY=.arc k false a' b'∧(OnK k a∧OnK k b)∧(OnK k a'∧OnK k b')∧cP a a'=0∧cP b b'=0∧cP a b≠0∧
  (∀x,x=jS k∨x=jI k→(Cv.arc k false a b).inner x=false∧(Cv.arc k false a' b').inner x=false)
 nxt: ∀i,i<P.length→(P.getD i aY).q=(P.getD ((i+1)%P.length) aY).p
 dis: ∀i j,i<j→j<P.length→cP (P.getD i aY).p (P.getD j aY).p≠0
section
variable {k:Ci}(hk:GK k) (h0:0<k.q)
include hk h0
theorem Ve:CvV (hvA k):=⟨⟨hk,rN hk h0,rS hk h0⟩,h0,b7.2 (Ft hk h0),b7.2 (EM hk h0),UK hk h0⟩
theorem Vm:CvV (hvB k):=⟨⟨hk,rS hk h0,rN hk h0⟩,h0,b7.2 (EM hk h0),b7.2 (Ft hk h0),fun e=>UK hk h0 (nP (co (rS hk h0)) (co (rN hk h0)) e)⟩
theorem Yg {x:Pt}(ox:OnK k x) (h:(hvA k).ord x (jI k)<0):ll k x=false:=by
 have hx:r9 k (jS k) x (jI k)<0:=h
 have a1:=vj hk h0 ox
 have a2:=vN hk h0 ox
 have a3:=vN hk h0 (vJ hk h0)
 have b1:=d9 (bn ox) (bn (vJ hk h0))
 have b2:=d9 (bn ox) (bn (uS hk h0))
 rw[iH,fL,fL,fL,Aj h0,Af h0,a3,Aj h0,show cx x (jS k)= -(cx (jS k) x) from by omega,show cx x (jI k)= -(cx (jI k) x) from by omega,a1,a2] at hx
 rw[fL]
 revert hx
 generalize kd k x=j
 revert j
 decide
theorem Xb {x:Pt}(ox:OnK k x) (h:(hvB k).ord x (jS k)<0):ll k x=true:=by
 have hx:r9 k (jI k) x (jS k)<0:=h
 have a1:=vj hk h0 ox
 have a2:=vN hk h0 ox
 have a3:=vj hk h0 (uS hk h0)
 have b1:=d9 (bn ox) (bn (vJ hk h0))
 have b2:=d9 (bn ox) (bn (uS hk h0))
 rw[iH,fL,fL,fL,Aj h0,Af h0,a3,Af h0,show cx x (jS k)= -(cx (jS k) x) from by omega,show cx x (jI k)= -(cx (jI k) x) from by omega,a1,a2] at hx
 rw[fL]
 revert hx
 generalize kd k x=j
 revert j
 decide
end
theorem uJ {α:Type}{d:α}{A B:List α}(h:i<A.length):(A++B).getD i d=A.getD i d:=by simp[List.getD,CA h]
theorem PT {α:Type}{d:α}{A B:List α}:(A++B).getD (A.length+i) d=B.getD i d:=by simp[List.getD,Co]
theorem Gy (vc:CvV c) (hL: ∀y∈L,GP y∧c.on y=true) (hd:d∈je c L) {x:Pt}(gx:GP x) (hx:cP c.p x=0∨cP c.q x=0):d.inner x=false:=by
 cases h:d.inner x with
 |false=>rfl
 |true=>
  obtain⟨h1,_⟩:=QV vc hL hd gx h
  obtain⟨_,h2,h3⟩:=pS.1 h1
  omega
structure Hlf (k:Ci) (f t:Pt) (P R:List Cv) (T T':List Pt):Prop where
 p:P=gC (.arc k false f t) T
 r:R=gC (.arc k false f t) T'
 len:T.length=T'.length
 two:2≤T.length
 eq: ∀i,i<T.length→cP (T.getD i dPt) (T'.getD i dPt)=0
 o: ∀x∈T,OnK k x
 o': ∀x∈T',OnK k x
 s:T.Pairwise fun p q=>(Cv.arc k false f t).ord p q<0
 fst:T.getD 0 dPt=f
 lst:T.getD (T.length-1) dPt=t
 v:CvV (.arc k false f t)
 inn: ∀d,d∈P∨d∈R→ ∀x,x=jS k∨x=jI k→d.inner x=false
section
variable {k:Ci}{f t:Pt}{P R:List Cv}{T T':List Pt}
theorem Hlf.lenP (h:Hlf k f t P R T T'):P.length+1=T.length:=by rw[h.p,iW];have:=h.two;omega
theorem Hlf.lenR (h:Hlf k f t P R T T'):R.length+1=T.length:=by rw[h.r,iW];have:=h.two;have:=h.len;omega
theorem Hlf.P_at (h:Hlf k f t P R T T') (hi:i<P.length):P.getD i aY=.arc k false (T.getD i dPt) (T.getD (i+1) dPt):=by
 have:=h.lenP
 have e:=I2 (.arc k false f t) (T:=T) (i:=i) (by omega)
 rw[←h.p] at e;exact e
theorem Hlf.R_at (h:Hlf k f t P R T T') (hi:i<P.length):R.getD i aY=.arc k false (T'.getD i dPt) (T'.getD (i+1) dPt):=by
 have:=h.lenP
 have e:=I2 (.arc k false f t) (T:=T') (i:=i) (by have:=h.len;omega)
 rw[←h.r] at e;exact e
theorem Hlf.lt (h:Hlf k f t P R T T') (hij:i<j) (hj:j<T.length):(Cv.arc k false f t).ord (T.getD i dPt) (T.getD j dPt)<0:=by
 have:=(List.pairwise_iff_getElem.1 h.s) i j (by omega) hj hij
 rw[List.getD,f9 (by omega),List.getD,f9 hj];exact this
theorem Hlf.ne (h:Hlf k f t P R T T') (hij:i<j) (hj:j<T.length):cP (T.getD i dPt) (T.getD j dPt)≠0:=
 r5 h.v.g (h.o _ (bj (by omega))).1 (h.o _ (bj hj)).1 (h.lt hij hj)
theorem Hlf.at_ (h:Hlf k f t P R T T') (hi:i<P.length): ∃a b a' b':Pt,P.getD i aY=.arc k false a b∧R.getD i aY=.arc k false a' b'∧(OnK k a∧OnK k b)∧(OnK k a'∧OnK k b')∧cP a a'=0∧cP b b'=0∧cP a b≠0∧
 (∀x,x=jS k∨x=jI k→(Cv.arc k false a b).inner x=false∧(Cv.arc k false a' b').inner x=false):=by
 have l1:=h.lenP
 have l2:=h.lenR
 have l3:=h.len
 refine⟨_,_,_,_,h.P_at hi,h.R_at hi,⟨h.o _ (bj (by omega)),h.o _ (bj (by omega))⟩,⟨h.o' _ (bj (by omega)),h.o' _ (bj (by omega))⟩,h.eq i (by omega),h.eq (i+1) (by omega),h.ne (by omega) (by omega),fun x hx=>⟨?_,?_⟩⟩
 ·rw[←h.P_at hi];exact h.inn _ (.inl (bj hi)) x hx
 ·rw[←h.R_at hi];exact h.inn _ (.inr (bj (by omega))) x hx
end
theorem QJ {k:Ci}(hk:GK k) (h0:0<k.q) (v:CvV (.arc k false f t)) (hx: ∀x,x=jS k∨x=jI k→cP f x=0∨cP t x=0) (hL: ∀p∈L,GP p∧(Cv.arc k false f t).on p=true) (hL': ∀p∈L',GP p∧(Cv.arc k false f t).on p=true) (h12: ∀x∈L,∃y∈L',cP x y=0) (h21: ∀y∈L',∃x∈L,cP y x=0):
 ∃T T':List Pt,Hlf k f t (t6 (.arc k false f t) (mi (.arc k false f t) L)) (je (.arc k false f t) L') T T'∧T.length≤L.length+2:=by
 obtain⟨T,T',e1,e2,e3,e4,e5,e6,e7,e8,e9,_,e10,e11⟩:=Sc v hL hL' h12 h21
 refine⟨T,T',⟨e1,e2,e3,e4,e6,e7,e8,e9,e10,e11,v,fun d hd x hx2=>?_⟩,e5⟩
 have gx:GP x:=by rcases hx2 with rfl|rfl;exact rN hk h0;exact rS hk h0
 rcases hd with hd|hd
 ·rw[CE v hL] at hd
  exact Gy v (fun y hy=>hL y ((EW v hL).2.1 y hy).2) hd gx (hx x hx2)
 ·exact Gy v hL' hd gx (hx x hx2)
theorem Xl {k:Ci}(hk:GK k) (h0:0<k.q) {P R P2 R2:List Cv}{T T' T2 T2':List Pt}(h:Hlf k (jS k) (jI k) P R T T') (g:Hlf k (jI k) (jS k) P2 R2 T2 T2'):Sim k (P++P2) (R++R2):=by
 have l1:=h.lenP
 have l2:=g.lenP
 have m1:=h.lenR
 have m2:=g.lenR
 have n1:=h.two
 have n2:=g.two
 have lR:P.length=R.length:=by omega
 have at2: ∀i,¬i<P.length→(P++P2).getD i aY=P2.getD (i-P.length) aY:=fun i hi=>by rw[show i=P.length+(i-P.length) from by omega,PT,Nat.add_sub_cancel_left]
 have at3: ∀i,¬i<P.length→(R++R2).getD i aY=R2.getD (i-P.length) aY:=fun i hi=>by rw[show i=R.length+(i-R.length) from by omega,PT,←lR];congr 1;omega
 have kA: ∀ {i:Nat},i<P.length→ll k (T.getD i dPt)=false:=fun{i} hi=>Yg hk h0 (h.o _ (bj (by omega))) (by have:=h.lt (i:=i) (j:=T.length-1) (by omega) (by omega);rw[h.lst] at this;exact this)
 have kB: ∀ {i:Nat},i<P2.length→ll k (T2.getD i dPt)=true:=fun{i} hi=>Xb hk h0 (g.o _ (bj (by omega))) (by have:=g.lt (i:=i) (j:=T2.length-1) (by omega) (by omega);rw[g.lst] at this;exact this)
 refine⟨by rw[dm,dm];omega,by rw[dm];omega,fun i hi=>?_,fun i hi=>?_,fun i j hij hj=>?_⟩
 ·rw[dm] at hi
  by_cases q:i<P.length
  ·rw[uJ q,uJ (by omega)];exact h.at_ q
  ·rw[at2 i q,at3 i q];exact g.at_ (by omega)
 ·rw[dm] at hi⊢
  by_cases q:i<P.length
  ·rw[uJ q,h.P_at q]
   show T.getD (i+1) dPt=_
   rw[rc (by omega)]
   by_cases q2:i+1<P.length
   ·rw[uJ q2,h.P_at q2];rfl
   ·rw[at2 _ q2,g.P_at (by omega)]
    show _=T2.getD (i+1-P.length) dPt
    rw[show i+1-P.length=0 from by omega,g.fst,←h.lst];congr 1;omega
  ·rw[at2 i q,g.P_at (by omega)]
   show T2.getD (i-P.length+1) dPt=_
   by_cases q2:i+1<P.length+P2.length
   ·rw[rc q2,at2 _ (by omega),g.P_at (by omega)]
    show _=T2.getD (i+1-P.length) dPt
    congr 1;omega
   ·rw[show i+1=P.length+P2.length from by omega,Nat.mod_self,uJ (by omega),h.P_at (by omega)]
    show _=T.getD 0 dPt
    rw[h.fst,←g.lst];congr 1;omega
 ·rw[dm] at hj
  by_cases q:j<P.length
  ·rw[uJ q,uJ (by omega),h.P_at q,h.P_at (by omega)]
   exact h.ne hij (by omega)
  ·rw[at2 j q,g.P_at (by omega)]
   by_cases q2:i<P.length
   ·rw[uJ q2,h.P_at q2]
    intro e
    have u1:=kA q2
    have u2:=kB (i:=j-P.length) (by omega)
    have:=CU (co (h.o _ (bj (by omega))).1) (co (g.o _ (bj (by omega))).1) (show cP (T.getD i dPt) (T2.getD (j-P.length) dPt)=0 from e) k
    rw[u1,u2] at this;cases this
   ·rw[at2 i q2,g.P_at (by omega)]
    exact g.ne (by omega) (by omega)
end Go.Proofs.YtegpmhlfjkhjmaaGreat
namespace Go.Proofs.YtegpmhlfjkhjmaaGreat
variable {a f i n s:Nat}
def r7 (e:Nat→Bool) (i:Nat):Nat→Nat
 |0=>0
 |f+1=>if e (i+1) then r7 e (i+1) f+1 else 0
def MQ (e:Nat→Bool) (a:Nat):Bool:=e (a+1)&& !e a
def mZ (e:Nat→Bool) (s n:Nat):List Nat:=((List.range n).map (s+ ·)).filter (MQ e)
section
variable {e:Nat→Bool}
theorem BK: ∀(f i:Nat),r7 e i f≤f
 |0,_=>ce _
 |f+1,i=>by
  unfold r7
  have:=BK f (i+1)
  split<;>omega
theorem xP: ∀(f i j:Nat),j<r7 e i f→e (i+1+j)=true
 |0,i,j,h=>absurd h (Nat.not_lt_zero _)
 |f+1,i,j,h=>by
  unfold r7 at h
  split at h
  ·rename_i g
   cases j with
   |zero=>exact g
   |succ j=>rw[show i+1+(j+1)=(i+1)+1+j from by omega];exact xP f (i+1) j (by omega)
  ·omega
theorem vx: ∀(f i:Nat),r7 e i f≠f→e (i+1+r7 e i f)=false
 |0,i,h=>absurd rfl h
 |f+1,i,h=>by
  unfold r7 at h⊢
  by_cases g:e (i+1)=true
  ·rw[if_pos g] at h⊢
   rw[show i+1+(r7 e (i+1) f+1)=(i+1)+1+r7 e (i+1) f from by omega]
   exact vx f (i+1) (by omega)
  ·rw[if_neg g]
   simpa using g
theorem B4 {m:Nat}(h:m≤f) (h1: ∀j,j<m→e (i+1+j)=true) (h2:m=f∨e (i+1+m)=false):r7 e i f=m:=by
 rcases Nat.lt_trichotomy (r7 e i f) m with g|g|g
 ·have a:=vx (e:=e) f i (by omega)
  rw[h1 _ g] at a;cases a
 ·exact g
 ·have a:=xP (e:=e) f i m g
  have b:=BK (e:=e) f i
  rcases h2 with h2|h2
  ·omega
  ·rw[h2] at a;cases a
theorem IE (h:r7 e i f≠f∨e (i+1+f)=false):r7 e i (f+1)=r7 e i f:=by
 refine B4 (by have:=BK (e:=e) f i;omega) (fun j hj=>xP f i j hj) (.inr ?_)
 by_cases g:r7 e i f=f
 ·rw[g];exact h.resolve_left (fun k=>k g)
 ·exact vx f i g
theorem KD (h:r7 e i f=f) (g:e (i+1+f)=true):r7 e i (f+1)=f+1:=by
 refine B4 (ce _) (fun j hj=>?_) (.inl rfl)
 by_cases k:j=f
 ·rw[k];exact g
 ·exact xP f i j (by omega)
theorem s5 (s n:Nat):mZ e s (n+1)=mZ e s n++(if MQ e (s+n) then[s+n] else[]):=by
 unfold mZ
 rw[List.range_succ,o5,uZ]
 congr 1
 rw[List.map_singleton,List.filter_cons]
 split<;>rfl
theorem JT (s n:Nat) (h:MQ e (s+n)=false):mZ e s (n+1)=mZ e s n:=by rw[s5,h];simp
theorem Nu (s n:Nat) (h:MQ e (s+n)=true):mZ e s (n+1)=mZ e s n++[s+n]:=by rw[s5,h];simp
theorem Fq:MQ e a=true↔e (a+1)=true∧e a=false:=by unfold MQ;simp
theorem iI:a∈mZ e s n↔s≤a∧a<s+n∧e (a+1)=true∧e a=false:=by
 unfold mZ
 rw[my,Fq,ny]
 constructor
 ·rintro⟨⟨j,hj,rfl⟩,h2⟩
  have:=lP.1 hj
  exact⟨by omega,by omega,h2⟩
 ·rintro⟨h1,h2,h3⟩
  exact⟨⟨a-s,lP.2 (by omega),by omega⟩,h3⟩
theorem EX (s:Nat): ∀n,(mZ e s n).Pairwise (· < ·)
 |0=>List.Pairwise.nil
 |n+1=>by
  rw[s5]
  refine xW.2 ⟨EX s n,?_,fun a ha b hb=>?_⟩
  ·split
   ·exact C8 _ _
   ·exact List.Pairwise.nil
  ·split at hb
   ·rw[nE.1 hb];exact(iI.1 ha).2.1
   ·cases hb
theorem zp {s:Nat}(h0:e s=false): ∀n,e (s+n)=true→ ∃L a,mZ e s n=L++[a]∧r7 e (a+1) (s+n-(a+1))=s+n-(a+1)
 |0,h=>by rw[r8,h0] at h;cases h
 |n+1,h=>by
  cases g:e (s+n) with
  |false=>
   refine⟨mZ e s n,s+n,Nu s n (Fq.2 ⟨h,g⟩),?_⟩
   rw[show s+(n+1)-(s+n+1)=0 from by omega];rfl
  |true=>
   obtain⟨L,a,h1,h2⟩:=zp h0 n g
   refine⟨L,a,by rw[JT s n (by unfold MQ;rw[g];simp)];exact h1,?_⟩
   have ha:a∈mZ e s n:=by rw[h1];simp
   have hb:=(iI.1 ha).2.1
   rw[show s+(n+1)-(a+1)=s+n-(a+1)+1 from by omega]
   exact KD h2 (by rw[show a+1+1+(s+n-(a+1))=s+(n+1) from by omega];exact h)
theorem zH {b:Nat}(ha:a∈mZ e s n) (hab:a<b) (hb:b≤s+n) (h:e b=false):r7 e (a+1) (s+n-(a+1))≠s+n-(a+1):=fun q=>by
 obtain⟨_,h2,h3,_⟩:=iI.1 ha
 by_cases g:b=a+1
 ·rw[g,h3] at h;cases h
 ·have:=xP (e:=e) _ _ (b-(a+2)) (by rw[q];omega)
  rw[show a+1+1+(b-(a+2))=b from by omega,h] at this;cases this
end
def uu (P:List Cv) (u v:Nat):Cv:=(P.getD (u%P.length) aY).ends (P.getD (u%P.length) aY).p (P.getD (v%P.length) aY).q
def ni (P:List Cv) (e:Nat→Bool) (s n:Nat):List Cv:=(mZ e s n).map fun a=>uu P (a+1) (a+1+r7 e (a+1) (s+n-(a+1)))
theorem LV (c:Cv):c.ends c.p c.q=c:=by cases c<;>rfl
theorem Gp (c:Cv) (a b x:Pt):(c.ends a b).ends (c.ends a b).p x=c.ends a x:=by cases c<;>rfl
section
variable {P:List Cv}{e:Nat→Bool}{s n:Nat}
theorem Tv:(ni P e s n).length≤n:=by
 unfold ni mZ
 rw[oJ]
 exact iK (sB _ _) (by simp)
theorem zW (h:e (s+n+1)=false):ni P e s (n+1)=ni P e s n:=by
 unfold ni
 rw[JT s n (by unfold MQ;rw[h];rfl)]
 refine Da fun a ha=>?_
 have:=(iI.1 ha).2.1
 rw[show s+(n+1)-(a+1)=s+n-(a+1)+1 from by omega,IE (.inr (by rw[show a+1+1+(s+n-(a+1))=s+n+1 from by omega];exact h))]
theorem n7 (h:e (s+n+1)=true) (g:e (s+n)=false):ni P e s (n+1)=ni P e s n++[P.getD ((s+n+1)%P.length) aY]:=by
 unfold ni
 rw[Nu s n (Fq.2 ⟨h,g⟩),o5]
 congr 1
 ·refine Da fun a ha=>?_
  have:=(iI.1 ha).2.1
  rw[show s+(n+1)-(a+1)=s+n-(a+1)+1 from by omega,IE (.inl (zH ha (b:=s+n) (by omega) (ce _) g))]
 ·rw[List.map_singleton,show s+(n+1)-(s+n+1)=0 from by omega]
  show[uu P (s+n+1) (s+n+1)]=_
  unfold uu
  rw[LV]
theorem PO (h0:e s=false) (h:e (s+n+1)=true) (g:e (s+n)=true): ∃L c,ni P e s n=L++[c]∧ni P e s (n+1)=L++[c.ends c.p (P.getD ((s+n+1)%P.length) aY).q]:=by
 obtain⟨L,a,h1,h2⟩:=zp h0 n g
 have ha:a∈mZ e s n:=by rw[h1];simp
 have hb:=(iI.1 ha).2
 refine⟨L.map fun a=>uu P (a+1) (a+1+r7 e (a+1) (s+n-(a+1))),uu P (a+1) (s+n),?_,?_⟩
 ·unfold ni
  rw[h1,o5,List.map_singleton,h2,show a+1+(s+n-(a+1))=s+n from by omega]
 ·unfold ni
  rw[JT s n (by unfold MQ;rw[g];simp),h1,o5,List.map_singleton]
  congr 1
  ·refine Da fun b hb2=>?_
   have hm:b∈mZ e s n:=by rw[h1];exact zM _ hb2
   have hlt:b<a:=(xW.1 (h1▸EX (e:=e) s n)).2.2 b hb2 a (by simp)
   have:=(iI.1 hm).2.1
   rw[show s+(n+1)-(b+1)=s+n-(b+1)+1 from by omega,IE (.inl (zH hm hlt (by omega) hb.2.2))]
  ·rw[show s+(n+1)-(a+1)=s+n-(a+1)+1 from by omega,KD h2 (by rw[show a+1+1+(s+n-(a+1))=s+n+1 from by omega];exact h),show a+1+(s+n-(a+1)+1)=s+n+1 from by omega]
   unfold uu
   rw[Gp]
end
structure Rnd (e:Nat→Bool) (n:Nat):Prop where
 pos:0<n
 per: ∀x,e (x+n)=e x
def qJ (e:Nat→Bool) (n:Nat):List Nat:=(List.range n).filter fun i=>e i&& !e (i+n-1)
section
variable {P:List Cv}{e:Nat→Bool}{s n:Nat}
theorem Tc {u v:Nat}:uu P (u+P.length) (v+P.length)=uu P u v:=by unfold uu;rw[Nat.add_mod_right,Nat.add_mod_right]
theorem JY (h: ∀x,e (x+n)=e x): ∀(f i:Nat),r7 e (i+n) f=r7 e i f
 |0,i=>rfl
 |f+1,i=>by
  unfold r7
  rw[show i+n+1=i+1+n from by omega,h,JY h f (i+1)]
theorem Uz (hr:Rnd e P.length) (hs:e s=false):ni P e s P.length=(mZ e s P.length).map fun a=>uu P (a+1) (a+1+r7 e (a+1) P.length):=by
 unfold ni
 refine Da fun a ha=>?_
 obtain⟨h1,h2,h3,_⟩:=iI.1 ha
 have hd:=zH ha (b:=s+P.length) (by omega) (ce _) (by rw[hr.per];exact hs)
 rw[B4 (e:=e) (f:=P.length) (i:=a+1) (m:=r7 e (a+1) (s+P.length-(a+1))) (iK (BK _ _) (by omega)) (fun j hj=>xP _ _ j hj) (.inr (vx _ _ hd))]
theorem QT (hr:Rnd e n) (hs:s<n):((mZ e s n).map fun a=>(a+1)%n).Perm (qJ e n):=by
 have md: ∀x,x<n→(x+n)%n=x:=fun x hx=>by rw[Nat.add_mod_right];exact rc hx
 have ml: ∀a,s≤a→a<s+n→(a+1)%n=if a+1<n then a+1 else if a+1<n+n then a+1-n else 0:=fun a h1 h2=>by
  by_cases g:a+1<n
  ·rw[if_pos g];exact rc g
  ·rw[if_neg g]
   by_cases g2:a+1<n+n
   ·rw[if_pos g2,show a+1=(a+1-n)+n from by omega,md _ (by omega)];omega
   ·omega
 refine(List.perm_ext_iff_of_nodup ?_ ?_).2 fun i=>?_
 ·refine List.Pairwise.map _ (R:=fun a b=>a∈mZ e s n∧b∈mZ e s n∧a<b) (fun a b ⟨ha,hb,h⟩ q=>?_) (uc (fun{a b} ha hb h=>⟨ha,hb,h⟩) (EX s n))
  obtain⟨a1,a2,_⟩:=iI.1 ha
  obtain⟨b1,b2,_⟩:=iI.1 hb
  rw[ml a a1 a2,ml b b1 b2] at q
  grind
 ·exact List.Pairwise.filter _ List.nodup_range
 ·unfold qJ
  rw[ny,my,lP]
  constructor
  ·rintro⟨a,ha,rfl⟩
   obtain⟨a1,a2,a3,a4⟩:=iI.1 ha
   have hl:=ml a a1 a2
   refine⟨Nat.mod_lt _ hr.pos,?_⟩
   by_cases g:a+1<n
   ·rw[if_pos g] at hl
    rw[hl,a3,show a+1+n-1=a+n from by omega,hr.per,a4];rfl
   ·rw[if_neg g,if_pos (by omega)] at hl
    rw[hl,show a+1-n+n-1=a from by omega,a4,←hr.per,show a+1-n+n=a+1 from by omega,a3];rfl
  ·rintro⟨h1,h2⟩
   rw[dN] at h2
   have h3:e (i+n-1)=false:=by simpa using h2.2
   by_cases g:s+1≤i
   ·refine⟨i-1,iI.2 ⟨by omega,by omega,by rw[show i-1+1=i from by omega];exact h2.1,?_⟩,?_⟩
    ·rw[show i+n-1=i-1+n from by omega,hr.per] at h3;exact h3
    ·show(i-1+1)%n=i
     rw[show i-1+1=i from by omega];exact rc h1
   ·refine⟨i+n-1,iI.2 ⟨by omega,by omega,by rw[show i+n-1+1=i+n from by omega,hr.per];exact h2.1,h3⟩,?_⟩
    show(i+n-1+1)%n=i
    rw[show i+n-1+1=i+n from by omega,md _ h1]
theorem Sw (hr:Rnd e P.length) (hs:e s=false) (hl:s<P.length):ni P e s P.length=((mZ e s P.length).map fun a=>(a+1)%P.length).map fun i=>uu P i (i+r7 e i P.length):=by
 rw[Uz hr hs,List.map_map]
 refine Da fun a ha=>?_
 obtain⟨a1,a2,_⟩:=iI.1 ha
 show _=uu P ((a+1)%P.length) ((a+1)%P.length+r7 e ((a+1)%P.length) P.length)
 by_cases g:a+1<P.length
 ·rw[rc g]
 ·obtain⟨b,hb⟩: ∃b,a+1=b+P.length:=⟨a+1-P.length,by omega⟩
  rw[hb,Nat.add_mod_right,rc (show b<P.length by omega),JY hr.per,show b+P.length+r7 e b P.length=b+r7 e b P.length+P.length from by omega,Tc]
end
end Go.Proofs.YtegpmhlfjkhjmaaGreat
namespace Go.Proofs.YtegpmhlfjkhjmaaGreat
open Go Go.RowKit
variable {d:Ci}{lm:Int}{rs:List CellD}{L:List Ci}{l:Ln}{N c9 i m n:Nat}{e:Nat→Bool}{a' b' p q:Pt}{a a1 a2 b b1 b2 c w x y z:Rat}
def cY (a b:Cv):Int:=cP a.p b.p
def uW (p:Cv):List Cv→Nat
 |[]=>0
 |x::l=>if cY x p<0 then uW p l+1 else 0
def tH (o:List Cv) (p:Cv):List Cv:=o.take (uW p o)++p::o.drop (uW p o)
def jU (R:List Cv) (e:Nat→Bool) (i:Nat):Cv:=uu R i (i+r7 e i R.length)
def jl (R:List Cv) (e:Nat→Bool) (i:Nat):List Cv:=(((List.range i).filter fun i=>e i&& !e (i+R.length-1)).map (jU R e)).foldl tH []
theorem Cg (p:Cv): ∀ {l:List Cv}{k:Nat},k≤l.length→(∀j,j<k→cY (l.getD j aY) p<0)→(k=l.length∨ ¬cY (l.getD k aY) p<0)→uW p l=k
 |[],k,h,_,_=>by simp at h;subst h;rfl
 |x::l,0,_,_,h=>by
  rcases h with h|h
  ·simp at h
  ·unfold uW;rw[if_neg (by simpa using h)]
 |x::l,k+1,h,hj,h2=>by
  unfold uW
  rw[if_pos (by simpa using hj 0 (by omega)),Cg p (l:=l) (k:=k) (by simpa using h) (fun j q=>by simpa using hj (j+1) (by omega)) (by simpa using h2)]
theorem s8 (o:List Cv) (p:Cv):(tH o p).length=o.length+1:=by
 unfold tH;rw[dm,dE,tC,fO];omega
theorem Er (x:Cv) (l:List Cv) (p:Cv):tH (x::l) p=if cY x p<0 then x::tH l p else p::x::l:=by
 unfold tH
 show(x::l).take (if cY x p<0 then uW p l+1 else 0)++p::(x::l).drop (if cY x p<0 then uW p l+1 else 0)=_
 split<;>rfl
theorem sC: ∀(l:List Cv) (p:Cv),(tH l p).Perm (p::l)
 |[],p=>List.Perm.refl _
 |x::l,p=>by
  rw[Er]
  split
  ·exact(List.Perm.cons x (sC l p)).trans (List.Perm.swap p x l)
  ·exact List.Perm.refl _
theorem qc: ∀(L o:List Cv),(L.foldl tH o).Perm (o++L)
 |[],o=>by simp
 |x::L,o=>by
  rw[uI]
  exact(qc L _).trans (((sC o x).append_right L).trans List.perm_middle.symm)
section
variable {G:Cv→Prop}(anti: ∀x y,G x→G y→cY y x= -cY x y) (tr: ∀x y z,G x→G y→G z→cY x y≤0→cY y z≤0→cY x z≤0)
include anti tr
theorem G7: ∀ {l:List Cv}{p:Cv},G p→(∀x∈l,G x)→(∀x∈l,cY x p≠0)→l.Pairwise (fun a b=>cY a b<0)→(tH l p).Pairwise fun a b=>cY a b<0
 |[],p,_,_,_,_=>C8 _ _
 |x::l,p,hp,hl,hn,h=>by
  obtain⟨h1,h2⟩:=lp.1 h
  have hx:=hl x fJ
  have hl2: ∀y∈l,G y:=fun y hy=>hl y (fB _ hy)
  rw[Er]
  split
  ·rename_i e
   refine lp.2 ⟨fun y hy=>?_,G7 hp hl2 (fun y hy=>hn y (fB _ hy)) h2⟩
   rcases dA.1 ((sC l p).mem_iff.1 hy) with rfl|hy
   ·exact e
   ·exact h1 y hy
  ·rename_i e
   have e2:cY p x<0:=by
    have:=anti p x hp hx
    have:=hn x fJ
    omega
   refine lp.2 ⟨fun y hy=>?_,h⟩
   rcases dA.1 hy with rfl|hy
   ·exact e2
   ·exact SM anti tr hp hx (hl2 y hy) e2 (sw (h1 y hy))
theorem Ew: ∀(L:List Cv) {o:List Cv},(∀x∈L,G x)→(∀x∈o,G x)→(∀x∈o,∀y∈L,cY x y≠0)→L.Pairwise (fun a b=>cY a b≠0)→o.Pairwise (fun a b=>cY a b<0)→(L.foldl tH o).Pairwise fun a b=>cY a b<0
 |[],o,_,_,_,_,h=>h
 |x::L,o,hL,ho,hn,hp,h=>by
  obtain⟨p1,p2⟩:=lp.1 hp
  have gx:=hL x fJ
  rw[uI]
  refine Ew L (fun y hy=>hL y (fB _ hy)) (fun y hy=>?_) (fun y hy z hz=>?_) p2 (G7 anti tr gx ho (fun y hy=>hn y hy x fJ) h)
  ·rcases dA.1 ((sC o x).mem_iff.1 hy) with rfl|hy
   ·exact gx
   ·exact ho y hy
  ·rcases dA.1 ((sC o x).mem_iff.1 hy) with rfl|hy
   ·exact p1 z hz
   ·exact hn y hy z (fB _ hz)
end
theorem Ec {e:Nat→Bool}{s:Nat}: ∀n,2*(mZ e s n).length≤n+1
 |0=>by show 2*0≤1;omega
 |1=>by
  rw[s5]
  show 2*(if _ then[s+0] else[]).length≤2
  split<;>simp
 |n+2=>by
  have ih:=Ec (e:=e) (s:=s) n
  rw[s5,s5,dm,dm]
  cases h:e (s+n+1) with
  |true=>
   rw[show MQ e (s+(n+1))=false from by unfold MQ;rw[show s+(n+1)=s+n+1 from by omega,h];simp,if_neg (show ¬false=true by decide)]
   split<;>simp<;>omega
  |false=>
   rw[show MQ e (s+n)=false from by unfold MQ;rw[h];rfl,if_neg (show ¬false=true by decide)]
   split<;>simp<;>omega
theorem HN {P:List Cv}{s:Nat}:2*(ni P e s n).length≤n+1:=by unfold ni;rw[oJ];exact Ec n
theorem ED {a b:Pt}(ha:0≤a.c) (hb:0≤b.c) (ha':0≤a'.c) (hb':0≤b'.c) (h:cP a a'=0) (g:cP b b'=0):cP a b=cP a' b':=by
 have x1:=ww ha ha' h hb
 have x2:=ww hb hb' g ha'
 have y1:=Bg ha ha' h hb
 have y2:=Bg hb hb' g ha'
 have c1:=d9 ha' hb
 have c2:=d9 ha' hb'
 have d1:cy b a'= -cy a' b:=by rw[tw hb ha',tw ha' hb,u6]
 have d2:cy b' a'= -cy a' b':=by rw[tw hb' ha',tw ha' hb',u6]
 show(if cx a b≠0 then cx a b else cy a b)=(if cx a' b'≠0 then cx a' b' else cy a' b')
 rw[show cx a b=cx a' b' from by omega,show cy a b=cy a' b' from by omega]
section
variable {k:Ci}(hk:GK k) (h0:0<k.q) {P R:List Cv}(S:Sim k P R) {e:Nat→Bool}(hr:Rnd e P.length)
theorem Rnd.mod {e:Nat→Bool}(h:Rnd e n) (x:Nat):e (x%n)=e x:=by
 have key: ∀q r,e (r+n*q)=e r:=fun q r=>by
  induction q with
  |zero=>rw[Nat.mul_zero,r8]
  |succ q ih=>rw[Nat.mul_succ,←Nat.add_assoc,h.per,ih]
 have:=key (x/n) (x%n)
 rw[Nat.mod_add_div] at this
 exact this.symm
include hk h0 S hr
theorem Lt (hi:i<P.length) (he:e i=true) (hb:e (i+P.length-1)=false): ∃a b a' b':Pt,jU P e i=.arc k false a b∧jU R e i=.arc k false a' b'∧a=(P.getD i aY).p∧a'=(R.getD i aY).p∧CvV (.arc k false a b)∧CvV (.arc k false a' b')∧cP a a'=0∧cP b b'=0∧r7 e i P.length≤P.length∧e (i+1+r7 e i P.length)=false:=by
 have hn:=S.two
 have hpos:0<P.length:=by omega
 have hm:=BK (e:=e) P.length i
 have hlt:r7 e i P.length≠P.length:=fun q=>by
  have:=xP (e:=e) P.length i (P.length-2) (by omega)
  rw[show i+1+(P.length-2)=i+P.length-1 from by omega,hb] at this;cases this
 have hs:=vx _ _ hlt
 generalize hm9:r7 e i P.length=m at hm hlt hs
 have hj:(i+m)%P.length<P.length:=rV _ hpos
 have hj2:(i+m+1)%P.length<P.length:=rV _ hpos
 obtain⟨a,b,a',b',p1,p2,⟨o1,o2⟩,⟨o3,o4⟩,z1,z2,z3,_⟩:=S.at_ i hi
 obtain⟨c,d,c',d',q1,q2,⟨u1,u2⟩,⟨u3,u4⟩,w1,w2,w3,_⟩:=S.at_ _ hj
 have nx:=S.nxt _ hj
 rw[q1,show((i+m)%P.length+1)%P.length=(i+m+1)%P.length from by rw[Nat.mod_add_mod]] at nx
 have nx:d=(P.getD ((i+m+1)%P.length) aY).p:=nx
 have hne:(i+m+1)%P.length≠i:=fun q=>by
  have:=hr.mod (i+m+1)
  rw[q,he,show i+m+1=i+1+m from by omega,hs] at this;cases this
 obtain⟨c2,d2,_,_,r1,_,⟨v1,_⟩,_⟩:=S.at_ _ hj2
 have dne:cP a d≠0:=by
  rw[nx]
  rcases io i ((i+m+1)%P.length) with g|g
  ·have:=S.dis i _ g hj2
   rw[p1] at this;exact this
  ·have:=S.dis ((i+m+1)%P.length) i (by omega) hi
   rw[p1,r1] at this
   rw[r1]
   exact fun q=>this (nP (bn o1) (bn v1) q)
 have e1:jU P e i=.arc k false a d:=by
  unfold jU uu
  rw[hm9,rc hi,p1,q1];rfl
 have e2:jU R e i=.arc k false a' d':=by
  unfold jU uu
  rw[←S.len,hm9,rc hi,p2,q2];rfl
 have cv: ∀ {x y:Pt},OnK k x→OnK k y→cP x y≠0→CvV (.arc k false x y):=fun ox oy h=>⟨⟨hk,ox.1,oy.1⟩,h0,b7.2 ox.2,b7.2 oy.2,h⟩
 refine⟨a,d,a',d',e1,e2,by rw[p1];rfl,by rw[p2];rfl,cv o1 u2 dne,cv o3 u4 ?_,z1,w2,hm,hs⟩
 rw[←ED (bn o1) (bn u2) (bn o3) (bn u4) z1 w2];exact dne
end
theorem zg:i∈qJ e n↔i<n∧e i=true∧e (i+n-1)=false:=by
 unfold qJ
 rw[my,lP,dN,qf]
theorem M1 {k:Ci}{v w:Bool}{a b c d:Pt}:B5 (.arc k v a b) (.arc k w c d)=true:=by
 have: ∀x:Rat,wV x x=true:=fun x=>by unfold wV;rw[show aJ x x=0 from by unfold aJ;grind];rfl
 show(wV k.x k.x&&wV k.y k.y&&wV k.q k.q)=true
 rw[this,this,this];rfl
section
variable {k:Ci}(hk:GK k) (h0:0<k.q) {P R:List Cv}(S:Sim k P R) {e:Nat→Bool}(hr:Rnd e P.length) {s:Nat}(hs:s<P.length) (es:e s=false)
include hk h0 S hr hs es
theorem Ge:(bp aY cY (ni P e s P.length)).length=(jl R e R.length).length∧(∀x∈bp aY cY (ni P e s P.length),CvV x∧x.cw=false∧x.isArc=true)∧(∀x∈jl R e R.length,CvV x)∧
 ∀i,i<(bp aY cY (ni P e s P.length)).length→Mu ((bp aY cY (ni P e s P.length)).getD i aY) ((jl R e R.length).getD i aY)=true:=by
 have hb:=QT hr hs
 rw[Sw hr es hs]
 have c0: ∀ {x:Cv},CvV x→0≤x.p.c:=fun v=>co (iq v.g)
 have anti: ∀x y,CvV x→CvV y→cY y x= -cY x y:=fun x y hx hy=>fD (c0 hx) (c0 hy)
 have tr: ∀x y z,CvV x→CvV y→CvV z→cY x y≤0→cY y z≤0→cY x z≤0:=fun x y z hx hy hz h1 h2=>(Of (c0 hx) (c0 hy) (c0 hz)).1 h1 h2
 have run:=fun i (h:i∈qJ e P.length)=>Lt hk h0 S hr (zg.1 h).1 (zg.1 h).2.1 (zg.1 h).2.2
 have vP: ∀i∈qJ e P.length,CvV (jU P e i)∧(jU P e i).cw=false∧(jU P e i).isArc=true∧(jU P e i).p=(P.getD i aY).p:=fun i h=>by
  obtain⟨a,b,a',b',e1,e2,e3,e4,v1,v2,_⟩:=run i h
  rw[e1];exact⟨v1,rfl,rfl,e3⟩
 have vR: ∀i∈qJ e P.length,CvV (jU R e i):=fun i h=>by
  obtain⟨a,b,a',b',e1,e2,e3,e4,v1,v2,_⟩:=run i h
  rw[e2];exact v2
 have same: ∀i∈qJ e P.length,∀j∈qJ e P.length,cY (jU R e i) (jU R e j)=cY (jU P e i) (jU P e j):=fun i hi j hj=>by
  obtain⟨a,b,a',b',e1,e2,_,_,v1,v2,z1,_⟩:=run i hi
  obtain⟨c,d,c',d',f1,f2,_,_,w1,w2,z2,_⟩:=run j hj
  rw[e1,e2,f1,f2]
  exact(ED (co (iq v1.g)) (co (iq w1.g)) (co (iq v2.g)) (co (iq w2.g)) z1 z2).symm
 have dis: ∀i∈qJ e P.length,∀j∈qJ e P.length,i≠j→cY (jU P e i) (jU P e j)≠0:=fun i hi j hj hij=>by
  show cP _ _≠0
  rw[(vP i hi).2.2.2,(vP j hj).2.2.2]
  rcases io i j with g|g
  ·exact S.dis i j g (zg.1 hj).1
  ·intro q
   have q2:=anti _ _ (vP i hi).1 (vP j hj).1
   have:cY (jU P e j) (jU P e i)=cP (P.getD j aY).p (P.getD i aY).p:=by unfold cY;rw[(vP i hi).2.2.2,(vP j hj).2.2.2]
   have q3:cY (jU P e i) (jU P e j)=cP (P.getD i aY).p (P.getD j aY).p:=by unfold cY;rw[(vP i hi).2.2.2,(vP j hj).2.2.2]
   exact S.dis j i (by omega) (zg.1 hi).1 (by omega)
 have ndB:(qJ e P.length).Nodup:=List.Pairwise.filter _ List.nodup_range
 have hJ:(bp 0 (fun i j=>cY (jU P e i) (jU P e j)) (qJ e P.length)).Perm (qJ e P.length):=kT _
 have sJ:(bp 0 (fun i j=>cY (jU P e i) (jU P e j)) (qJ e P.length)).Pairwise fun i j=>cY (jU P e i) (jU P e j)≤0:=
  wg (e:=0) (C:=fun i j=>cY (jU P e i) (jU P e j)) (G:=fun i=>i∈qJ e P.length) (fun x y hx hy=>anti _ _ (vP x hx).1 (vP y hy).1) (fun x y z hx hy hz h1 h2=>tr _ _ _ (vP x hx).1 (vP y hy).1 (vP z hz).1 h1 h2) (qJ e P.length) (O:=[]) (fun y hy=>hy) (fun y hy=>by cases hy) .nil
 generalize bp 0 (fun i j=>cY (jU P e i) (jU P e j)) (qJ e P.length)=J at hJ sJ
 have mJ: ∀i∈J,i∈qJ e P.length:=fun i h=>hJ.mem_iff.1 h
 have ndJ:J.Nodup:=hJ.symm.nodup ndB
 have sJ2:J.Pairwise fun i j=>cY (jU P e i) (jU P e j)<0:=uc (fun{a b} ha hb g=>by
  have:=dis a (mJ a ha) b (mJ b hb) g.2
  omega) (sJ.and ndJ)
 have lt9: ∀ {Q:List Cv}{A B:List Cv},(∀x∈A,CvV x)→A.Perm B→A.Pairwise (fun a b=>cY a b<0)→B.Pairwise (fun a b=>cY a b<0)→A=B:=fun{Q A B} hA hp h1 h2=>Cj (fun a ha b hb g g2=>by
  have:=anti a b (hA a ha) (hA b hb)
  omega) hp h1 h2
 have eX:bp aY cY ((((mZ e s P.length).map fun a=>(a+1)%P.length)).map fun i=>uu P i (i+r7 e i P.length))=J.map (jU P e):=by
  have pm:=(kT (e:=aY) (C:=cY) ((((mZ e s P.length).map fun a=>(a+1)%P.length)).map fun i=>uu P i (i+r7 e i P.length))).trans ((hb.trans hJ.symm).map (jU P e))
  have hv: ∀x∈J.map (jU P e),CvV x:=fun x hx=>by
   obtain⟨i,hi,rfl⟩:=ny.1 hx
   exact(vP i (mJ i hi)).1
  have hv2: ∀x∈bp aY cY ((((mZ e s P.length).map fun a=>(a+1)%P.length)).map fun i=>uu P i (i+r7 e i P.length)),CvV x:=fun x hx=>hv x (pm.mem_iff.1 hx)
  have h2:(J.map (jU P e)).Pairwise fun a b=>cY a b<0:=List.pairwise_map.2 sJ2
  refine lt9 (Q:=[]) hv2 pm ?_ h2
  have s1:=wg (e:=aY) (C:=cY) (G:=CvV) anti tr ((((mZ e s P.length).map fun a=>(a+1)%P.length)).map fun i=>uu P i (i+r7 e i P.length)) (O:=[]) (fun x hx=>hv2 x ((kT _).mem_iff.2 hx)) (fun y hy=>by cases hy) .nil
  have s2:(bp aY cY ((((mZ e s P.length).map fun a=>(a+1)%P.length)).map fun i=>uu P i (i+r7 e i P.length))).Pairwise fun a b=>cY a b≠0∧CvV a∧CvV b:=by
   refine pm.symm.pairwise (uc (fun{a b} ha hb g=>⟨by omega,hv a ha,hv b hb⟩) h2) (fun{a b} g=>⟨fun q=>g.1 ?_,g.2.2,g.2.1⟩)
   have:=anti a b g.2.1 g.2.2
   omega
  refine List.Pairwise.imp (fun{a b} g=>?_) (List.Pairwise.and s1 s2)
  have:=g.1
  have:=g.2.1
  omega
 have eY:jl R e R.length=J.map (jU R e):=by
  have bR:((List.range R.length).filter fun i=>e i&& !e (i+R.length-1))=qJ e P.length:=by unfold qJ;rw[S.len]
  unfold jl
  rw[bR]
  have pm:=(qc ((qJ e P.length).map (jU R e)) []).trans ((hJ.symm.map (jU R e)))
  have hv: ∀x∈(qJ e P.length).map (jU R e),CvV x:=fun x hx=>by
   obtain⟨i,hi,rfl⟩:=ny.1 hx
   exact vR i hi
  refine lt9 (Q:=[]) (fun x hx=>hv x ((qc _ []).mem_iff.1 hx)) pm ?_ (List.pairwise_map.2 (uc (fun{a b} ha hb g=>by rw[same a (mJ a ha) b (mJ b hb)];exact g) sJ2))
  refine Ew (G:=CvV) anti tr _ hv (fun x hx=>by cases hx) (fun x hx=>by cases hx) (List.pairwise_map.2 (uc (fun{a b} ha hb g=>?_) ndB)) .nil
  rw[same a ha b hb];exact dis a ha b hb g
 rw[eX,eY]
 refine⟨by simp,fun x hx=>?_,fun x hx=>?_,fun i hi=>?_⟩
 ·obtain⟨i,hi,rfl⟩:=ny.1 hx
  have:=vP i (mJ i hi)
  exact⟨this.1,this.2.1,this.2.2.1⟩
 ·obtain⟨i,hi,rfl⟩:=ny.1 hx
  exact vR i (mJ i hi)
 ·have hi2:i<J.length:=by simpa using hi
  have a1: ∀(f:Nat→Cv),(J.map f).getD i aY=f (J[i]):=fun f=>by simp[List.getD,hi2]
  rw[a1,a1]
  obtain⟨a,b,a',b',e1,e2,_,_,v1,v2,z1,z2,_⟩:=run _ (mJ _ (ub hi2))
  rw[e1,e2]
  unfold Mu
  rw[M1]
  show(true&&((false==false)&&((cP a a'==0)&&(cP b b'==0))))=true
  rw[z1,z2];rfl
end
theorem IU {p q r s:Int}(hq:0<q) (hs:0<s) (h:p*s≤r*q):fr p q≤fr r s:=by
 apply f7
 intro hn
 have h0:fr r s<fr p q:=by grind
 have hqs:=oZ (qP hq hs)
 have h1:=xZ h0 hqs
 have e1:=gU (p:=p) hq
 have e2:=gU (p:=r) hs
 rw[fZ] at h1
 have h2:((r*q:Int):Rat)<((p*s:Int):Rat):=by
  rw[fZ,fZ,←e1,←e2]
  grind
 have:=iN.1 h2
 omega
theorem Xc (h:z<w) (e:z.den=w.den):z.num<w.num:=by
 apply f7
 intro hn
 have hz:=xY z
 have hw:=xY w
 have hd:(0:Int)<z.den:=by have:=z.den_pos;omega
 have:fr w.num (w.den:Int)≤fr z.num (z.den:Int):=IU (by omega) hd (by rw[←e];exact zL (by omega) (by omega))
 rw[hz,hw] at this
 grind
section
variable {S:Rat→Prop}(cv: ∀x y z,S x→S z→x≤y→y≤z→S y)
include cv
theorem QL (hz:S z) (hw:S w) (dz: ∀p q:Int,0<q→S (fr p q)→(z.den:Int)≤q) (dw: ∀p q:Int,0<q→S (fr p q)→(w.den:Int)≤q)
 (nz:z.den=1→z≠0→ ¬S (z-((aJ z 0:Int):Rat))) (nw:w.den=1→w≠0→ ¬S (w-((aJ w 0:Int):Rat))) (h:z<w):False:=by
 have pz:=z.den_pos
 have pw:=w.den_pos
 have d1:=dz w.num w.den (by omega) (by rw[xY];exact hw)
 have d2:=dw z.num z.den (by omega) (by rw[xY];exact hz)
 have e:z.den=w.den:=by omega
 have hn:=Xc h e
 have fz:=xY z
 have fw:=xY w
 by_cases g:z.den=1
 ·have iz:((z.num:Int):Rat)=z:=by
   have:=gU (p:=z.num) (q:=(z.den:Int)) (by omega)
   rw[fz,g] at this;grind
  have iw:((w.num:Int):Rat)=w:=by
   have:=gU (p:=w.num) (q:=(w.den:Int)) (by omega)
   rw[fw,←e,g] at this;grind
  have step: ∀ {a b:Int},a≤b→(a:Rat)≤(b:Rat):=fun h=>fH.2 h
  by_cases k:0≤z.num
  ·have w0:0<w:=by rw[←iw];exact oZ (by omega)
   have c1:aJ w 0=1:=by unfold aJ;rw[if_neg (by grind),if_pos w0]
   refine nw (by omega) (by grind) (cv z _ w hz hw ?_ ?_)
   ·rw[c1,←iw,←iz]
    have:=step (show z.num+1≤w.num by omega)
    rw[jw] at this
    grind
   ·rw[c1];grind
  ·have z0:z<0:=by
    rw[←iz];exact iN.2 (show z.num<(0:Int) by omega)
   have c1:aJ z 0= -1:=by unfold aJ;rw[if_pos z0]
   refine nz g (by grind) (cv z _ w hz hw ?_ ?_)
   ·rw[c1];grind
   ·rw[c1,←iw,←iz]
    have:=step (show z.num+1≤w.num by omega)
    rw[jw] at this
    grind
 ·have q2:(0:Int)<(z.den:Int)-1:=by omega
  have hq:(0:Int)<(z.den:Int):=by omega
  have f1:z.num.fdiv z.den*z.den≤z.num:=by
   rw[sG];exact Int.mul_fdiv_self_le hq
  have f2:z.num<(z.num.fdiv z.den+1)*z.den:=by
   have:=Int.lt_mul_fdiv_self_add (x:=z.num) (k:=(z.den:Int)) hq
   grind
  generalize z.num.fdiv z.den=f at f1 f2
  have key:=dz (z.num-f) ((z.den:Int)-1) q2 (cv z _ w hz hw ?_ ?_)
  ·omega
  ·have h9:=IU (p:=z.num) (r:=z.num-f) hq q2 (by grind)
   rw[fz] at h9;exact h9
  ·have h8:(z.num+1)*((z.den:Int)-1)≤w.num*((z.den:Int)-1):=zL (by omega) (by omega)
   have h9:=IU (p:=z.num-f) (r:=w.num) q2 (show(0:Int)<(w.den:Int) by omega) (by rw[←e];grind)
   rw[fw] at h9;exact h9
end
theorem Pi {a b:Re}(hx:uj a b x) (hz:uj a b z) (h1:x≤y) (h2:y≤z):uj a b y:=by
 have nn: ∀ {p q:Rat},p≤q→0≤aS (Re.of q-Re.of p):=fun{p q} h=>by
  rw[xO,cO]
  unfold aJ;grind
 refine⟨?_,?_⟩
 ·rw[show Re.of y-a=(Re.of y-Re.of x)+(Re.of x-a) from bt fun k=>by simp only[aG,aU];grind]
  exact jQ (nn h1) hx.1
 ·rw[show b-Re.of y=(Re.of z-Re.of y)+(b-Re.of z) from bt fun k=>by simp only[aG,aU];grind]
  exact jQ (nn h2) hz.2
theorem Simp.uniq {a b:Re}(hz:Simp a b z) (hw:Simp a b w):z=w:=by
 have cv: ∀x y z,uj a b x→uj a b z→x≤y→y≤z→uj a b y:=fun x y z hx hz h1 h2=>Pi hx hz h1 h2
 apply f7
 intro hn
 rcases(show z<w∨w<z by grind) with h|h
 ·exact(QL cv hz.mem hw.mem hz.den hw.den hz.near hw.near h).elim
 ·exact(QL cv hw.mem hz.mem hw.den hz.den hw.near hz.near h).elim
theorem Simp.congr {a b c d:Re}(h:Simp a b z) (e: ∀x,uj a b x↔uj c d x):Simp c d z:=
 ⟨(e z).1 h.mem,fun p q hq hm=>h.den p q hq ((e _).2 hm),fun h1 h2 hm=>h.near h1 h2 ((e _).2 hm)⟩
theorem aao (h:cP p q=0):cx p q=0:=f7 fun g=>g ((Xu g).symm.trans h)
theorem Fe (gp:GP p) (gq:GP q) :uj (pX p) (pX q) x↔mS p x<0∧0<mS q x:=by
 unfold uj
 rw[od (co gp),od (co gq),eJ (pX p)]
 have h1:=bL (Re.of x-pX p)
 have h2:=bL (pX q-Re.of x)
 omega
theorem Uy {p' q':Pt}(gp:GP p) (gq:GP q) (gp':GP p') (gq':GP q') (e1:cP p p'=0) (e2:cP q q'=0) (x:Rat):uj (pX p) (pX q) x↔uj (pX p') (pX q') x:=by
 rw[Fe gp gq,Fe gp' gq']
 have a1:=aao e1
 have a2:=aao e2
 have b1:=VO gp gp'
 have b2:=VO gq gq'
 exact⟨fun h=>⟨PA gp' gp (by omega) h.1,Rq gq gq' (by omega) h.2⟩,fun h=>⟨PA gp gp' (by omega) h.1,Rq gq' gq (by omega) h.2⟩⟩
theorem Lb (gp:GP p) (gq:GP q) (h:cx p q<0): ∃x:Rat,Rz 6841 x∧Ok Tryz.prog 126 [.a (cR p.a1++cR p.b1++cR (zc p.b1 p.c)),.a (cR q.a1++cR q.b1++cR (zc q.b1 q.c))] [dR x,.c (.i .i64 0)]∧Ok Tryz.prog 269 [.a (cR p.a1++cR p.b1++cR (zc p.b1 p.c)),.a (cR q.a1++cR q.b1++cR (zc q.b1 q.c))] [dR x]∧Simp (pX p) (pX q) x:=by
 have ab:aS (pX q-pX p)=1:=by
  rw[pN (co gp) (co gq),eJ] at h
  have:=bL (pX q-pX p)
  omega
 exact Qg gp.a1 gp.b1 (il gp.c (by decide)) gq.a1 gq.b1 (il gq.c (by decide)) (abg gp) (abg gq) ab
theorem D9 {k:Ci}{f t:Pt}(vc:CvV (.arc k false f t)) (ea:(Cv.arc k false f t).inner (jS k)=false) (eb:(Cv.arc k false f t).inner (jI k)=false):(Cv.arc k false f t).fwd.mono=true:=by
 have h1:(Cv.arc k false f t)∈P6 (.arc k false f t):=by
  have h:je (Cv.arc k false f t) []=[.arc k false f t]:=(CE (L:=[]) vc (fun p hp=>by cases hp)).symm
  show _∈je _ (yj _)
  rw[UB ea eb,h]
  exact nE.2 rfl
 exact M4 vc _ h1
section
variable {k:Ci}{a b a' b':Pt}(vP:CvV (.arc k false a b)) (vR:CvV (.arc k false a' b')) (e1:cP a a'=0) (e2:cP b b'=0)
 (iP: ∀x,x=jS k∨x=jI k→(Cv.arc k false a b).inner x=false∧(Cv.arc k false a' b').inner x=false)
include vP vR e1 e2 iP
theorem Z3: ∃x:Rat,Rz 6841 x∧
 Ok Tryz.prog 126 [.a (cR (Cv.arc k false a b).fwd.p.a1++cR (Cv.arc k false a b).fwd.p.b1++cR (zc (Cv.arc k false a b).fwd.p.b1 (Cv.arc k false a b).fwd.p.c)),.a (cR (Cv.arc k false a b).fwd.q.a1++cR (Cv.arc k false a b).fwd.q.b1++cR (zc (Cv.arc k false a b).fwd.q.b1 (Cv.arc k false a b).fwd.q.c))] [dR x,.c (.i .i64 0)]∧
 Ok Tryz.prog 269 [.a (cR (Cv.arc k false a' b').fwd.p.a1++cR (Cv.arc k false a' b').fwd.p.b1++cR (zc (Cv.arc k false a' b').fwd.p.b1 (Cv.arc k false a' b').fwd.p.c)),.a (cR (Cv.arc k false a' b').fwd.q.a1++cR (Cv.arc k false a' b').fwd.q.b1++cR (zc (Cv.arc k false a' b').fwd.q.b1 (Cv.arc k false a' b').fwd.q.c))] [dR x]∧
 xJ (Cv.arc k false a b).fwd x=true∧xJ (Cv.arc k false a' b').fwd x=true∧(Cv.arc k false a' b').fwd.vert=false∧wZ (Cv.arc k false a b).fwd x=wZ (Cv.arc k false a' b').fwd x∧mS (Cv.arc k false a b).fwd.p x<0∧0<mS (Cv.arc k false a b).fwd.q x:=by
 have wP:=Ii vP
 have wR:=Ii vR
 have mP:=D9 vP (iP _ (.inl rfl)).1 (iP _ (.inr rfl)).1
 have mR:=D9 vR (iP _ (.inl rfl)).2 (iP _ (.inr rfl)).2
 have ee:cP a b=cP a' b':=ED (co vP.g.2.1) (co vP.g.2.2) (co vR.g.2.1) (co vR.g.2.2) e1 e2
 have same: ∃w s t s' t',(Cv.arc k false a b).fwd=.arc k w s t∧(Cv.arc k false a' b').fwd=.arc k w s' t'∧cP s s'=0∧cP t t'=0:=by
  cases h:decide (cP a b>0) with
  |true=>exact⟨_,_,_,_,_,LA h,LA (ee▸h),e2,e1⟩
  |false=>exact⟨_,_,_,_,_,K7 h,K7 (ee▸h),e1,e2⟩
 obtain⟨w,s,t,s',t',q1,q2,q3,q4⟩:=same
 rw[q1] at wP mP⊢
 rw[q2] at wR mR⊢
 have cPx:=KQ wP mP rfl
 have cRx:=KQ wR mR rfl
 obtain⟨x,x1,x2,_,x4⟩:=Lb wP.g.2.1 wP.g.2.2 cPx
 obtain⟨y,_,_,y3,y4⟩:=Lb wR.g.2.1 wR.g.2.2 cRx
 have hI:=Uy wP.g.2.1 wP.g.2.2 wR.g.2.1 wR.g.2.2 q3 q4
 have hxy:x=y:=(x4.congr hI).uniq y4
 subst hxy
 obtain⟨i1,i2⟩:=(Fe wP.g.2.1 wP.g.2.2).1 x4.mem
 obtain⟨j1,j2⟩:=(Fe wR.g.2.1 wR.g.2.2).1 y4.mem
 exact⟨x,x1,x2,y3,VC rfl i1 i2,VC rfl j1 j2,rfl,rfl,i1,i2⟩
end
structure Bz (b:Nat) (x:Rat):Prop where
 n:x.num.natAbs<2^b
 d:x.den<2^b
theorem Eo {a b:Int}(ha:a.natAbs<2^n) (hb:b.natAbs<2^n) (h0:b≠0):Bz n (Rat.divInt a b):=by
 refine⟨Nat.lt_of_le_of_lt ?_ ha,Nat.lt_of_le_of_lt ?_ hb⟩
 ·rw[Rat.num_divInt]
  refine iK (rJ _ _) ?_
  rw[sV,Int.natAbs_sign_of_ne_zero h0];omega
 ·rw[Rat.den_divInt,if_neg h0]
  exact Nat.div_le_self _ _
theorem tF {a b:Nat}(h:a<2^n) (g:b<2^m):a*b<2^(n+m):=by
 rw[Nat.pow_add]
 exact Nat.mul_lt_mul'' h g
theorem Bz.mono (h:Bz n x) (hl:n≤m):Bz m x:=⟨Nat.lt_of_lt_of_le h.n (Nat.pow_le_pow_right (by decide) hl),pp h.d (Nat.pow_le_pow_right (by decide) hl)⟩
theorem Bz.neg (h:Bz n x):Bz n (-x):=⟨by rw[Rat.neg_num,Int.natAbs_neg];exact h.n,by rw[Rat.neg_den];exact h.d⟩
theorem Bz.mul (hx:Bz n x) (hy:Bz m y):Bz (n+m) (x*y):=by
 rw[←SB]
 exact Eo (by rw[sV];exact tF hx.n hy.n) (by rw[sV];exact tF hx.d hy.d) (by have:=qP (den_pos x) (den_pos y);omega)
theorem Bz.add (hx:Bz n x) (hy:Bz m y):Bz (n+m+1) (x+y):=by
 rw[←O3]
 have h1:=tF hx.n hy.d
 have h2:=tF hy.n hx.d
 have h3:=tF hx.d hy.d
 rw[Nat.add_comm m n] at h2
 have h4:2^(n+m+1)=2^(n+m)+2^(n+m):=by rw[Nat.pow_succ];omega
 refine Eo ?_ ?_ (by have:=qP (den_pos x) (den_pos y);omega)
 ·refine Nat.lt_of_le_of_lt (Int.natAbs_add_le _ _) ?_
  rw[sV,sV,xS,xS,h4];omega
 ·rw[sV,xS,xS,h4];omega
theorem Bz.sub (hx:Bz n x) (hy:Bz m y):Bz (n+m+1) (x-y):=by rw[Rat.sub_eq_add_neg];exact hx.add hy.neg
theorem Bz.div (hx:Bz n x) (hy:Bz m y) (h0:y≠0):Bz (n+m) (x/y):=by
 rw[←SP]
 refine Eo (by rw[sV];exact tF hx.n hy.d) (by rw[sV];exact tF hx.d hy.n) fun e=>?_
 rcases u9.1 e with h|h
 ·exact jL x h
 ·exact h0 (Rat.num_eq_zero.1 h)
theorem XB (k:Nat):((2^(29*k):Nat):Int)≤pw k:=by
 have h:(2^(29*k):Nat)≤1000000000^k:=by rw[Nat.pow_mul];exact Nat.pow_le_pow_left (by decide) k
 unfold pw
 have h2:((1000000000^k:Nat):Int)=1000000000^k:=Int.natCast_pow ..
 omega
theorem Bz.rz {k:Nat}(h:Bz n x) (hk:n≤29*k):Rz k x:=by
 have h1:=pp h.n (Nat.pow_le_pow_right (show 0<2 by decide) hk)
 have h2:=pp h.d (Nat.pow_le_pow_right (show 0<2 by decide) hk)
 have h3:=XB k
 exact⟨⟨by omega,by omega⟩,⟨by omega,by omega⟩⟩
def yz (l:Ln) (k:Ci):Rat:=mu l k/(fa l*fa l)
def S3 (l:Ln):Bool:=decide (aJ l.b 0<0)||(aJ l.b 0==0&&decide (aJ (-l.a) 0<0))
def Q5 (l:Ln):Rat:=if S3 l then-l.b else l.b
def P4 (l:Ln):Rat:=if S3 l then- -l.a else-l.a
def FU (l:Ln) (k:Ci):Pt:=fS (nt l k) (-Q5 l) (nF l k) (-P4 l) (yz l k)
def FZ (l:Ln) (k:Ci):Pt:=fS (nt l k) (Q5 l) (nF l k) (P4 l) (yz l k)
def ym (l:Ln) (k:Ci):List Pt:=if aJ (yz l k) 0= -1 then[] else if aJ (yz l k) 0=0 then[⟨nt l k,0,nF l k,0,0⟩] else[FU l k,FZ l k]
def lI (k d:Ci):List Pt:=if lq k d then[] else if pM k d then[] else ym (mQ k d) k
theorem KF (h:0<x):aJ x 0=1:=by unfold aJ;rw[if_neg (by grind),if_pos h]
theorem aa5 {n:Rat}(hc:0≤c) (hn:0<n):aS (Re.rt (c*(n*n))-Re.of n*Re.rt c)=0:=by
 have h9:0≤c*(n*n):=jq hc (jq (Rat.le_of_lt hn) (Rat.le_of_lt hn))
 refine KS ?_ (xd _) ?_
 ·rw[bJ,cO,KF hn]
  have:=xd c
  omega
 ·rw[Bv (x:=Re.rt (c*(n*n))*Re.rt (c*(n*n))-Re.of n*Re.rt c*(Re.of n*Re.rt c)) (y:=Re.rt (c*(n*n))*Re.rt (c*(n*n))-Re.of (c*(n*n))) (z:= -(Re.of (n*n)*(Re.rt c*Re.rt c-Re.of c))) (bt fun j=>by simp only[aG,aT,bi,bE];grind) (CR (GO _ (ow hc)))]
  exact ow h9
theorem u5 (h0:0<c):0≤(fS a1 b1 a2 b2 c).c:=by
 unfold fS
 split
 ·exact tD
 ·exact Rat.le_of_lt h0
theorem wy {d1 d2 n:Rat}(h0:0<c) (hn:0<n) (e1:b1=d1*n) (e2:b2=d2*n):cP (fS a1 b1 a2 b2 c) (fS a1 d1 a2 d2 (c*(n*n)))=0:=by
 have h9:0<c*(n*n):=kG h0 (kG hn hn)
 obtain⟨x1,y1⟩:=Lp (a1:=a1) (b1:=b1) (a2:=a2) (b2:=b2) h0
 obtain⟨x2,y2⟩:=Lp (a1:=a1) (b1:=d1) (a2:=a2) (b2:=d2) h9
 have hr:=aa5 (Rat.le_of_lt h0) hn
 refine fj.2 ⟨?_,?_⟩
 ·rw[pN (u5 h0) (u5 h9),Bv (y:=(pX (fS a1 b1 a2 b2 c)-(Re.of a1+Re.of b1*Re.rt c))+ -(pX (fS a1 d1 a2 d2 (c*(n*n)))-(Re.of a1+Re.of d1*Re.rt (c*(n*n))))) (z:= -(Re.of d1*(Re.rt (c*(n*n))-Re.of n*Re.rt c))) (bt fun j=>by simp only[aU,aG,aT,bi,bE];grind) (CR (GO _ hr))]
  exact Qq x1 (CR x2)
 ·rw[tw (u5 h0) (u5 h9),Bv (y:=(pY (fS a1 b1 a2 b2 c)-(Re.of a2+Re.of b2*Re.rt c))+ -(pY (fS a1 d1 a2 d2 (c*(n*n)))-(Re.of a2+Re.of d2*Re.rt (c*(n*n))))) (z:= -(Re.of d2*(Re.rt (c*(n*n))-Re.of n*Re.rt c))) (bt fun j=>by simp only[aU,aG,aT,bi,bE];grind) (CR (GO _ hr))]
  exact Qq y1 (CR y2)
section
variable {l:Ln}{k:Ci}(hn:0<fa l)
include hn
theorem Ig:yz l k*(fa l*fa l)=mu l k:=by
 unfold yz
 have:fa l*fa l≠0:=by have:=kG hn hn;grind
 exact o8 this
theorem XF:aJ (yz l k) 0=aJ (mu l k) 0:=by
 rw[←Ig hn,←cO,←cO,←gZ,bJ,cO (fa l*fa l),KF (kG hn hn),Int.mul_one]
theorem nd (x:Rat):x=x/fa l*fa l:=(o8 (by grind)).symm
theorem Nx (h:0<yz l k):(cP (FU l k) (J4 l k)=0∧cP (FZ l k) (Kb l k)=0)∨(cP (FU l k) (Kb l k)=0∧cP (FZ l k) (J4 l k)=0):=by
 have e:=Ig (k:=k) hn
 have a1:=nd hn l.b
 have a2:=nd hn (-l.a)
 unfold FU FZ J4 Kb Q5 P4
 rw[←e]
 cases S3 l with
 |false=>exact .inl ⟨wy h hn (by simp;grind) (by simp;grind),wy h hn (by simp;grind) (by simp;grind)⟩
 |true=>exact .inr ⟨wy h hn (by simp;grind) (by simp;grind),wy h hn (by simp;grind) (by simp;grind)⟩
theorem My (g1: ∀p∈ym l k,0≤p.c) (_g2: ∀p∈jg l k,0≤p.c):(∀x∈ym l k,∃y∈jg l k,cP x y=0)∧ ∀y∈jg l k,∃x∈ym l k,cP y x=0:=by
 have hs:=XF (k:=k) hn
 unfold ym jg at*
 rw[hs] at g1⊢
 by_cases h1:aJ (mu l k) 0= -1
 ·rw[if_pos h1]
  rw[if_pos (show aJ (mu l k) 0<0 by omega)]
  exact⟨fun x hx=>(by cases hx),fun x hx=>(by cases hx)⟩
 ·rw[if_neg h1] at g1⊢
  have h2: ¬aJ (mu l k) 0<0:=fun h=>h1 (by have:=dZ (mu l k) 0;omega)
  rw[if_neg h2]
  by_cases h3:aJ (mu l k) 0=0
  ·rw[if_pos h3] at g1⊢
   rw[if_pos h3]
   have: ∀x∈ [(⟨nt l k,0,nF l k,0,0⟩:Pt)],∃y∈ [(⟨nt l k,0,nF l k,0,0⟩:Pt)],cP x y=0:=fun x hx=>⟨x,hx,l5 (g1 x hx)⟩
   exact⟨this,this⟩
  ·rw[if_neg h3] at g1⊢
   rw[if_neg h3]
   have hp:0<yz l k:=s6 (by rw[hs];exact h2) (by rw[hs];exact h3)
   have cP1:0≤(FU l k).c:=u5 hp
   have cQ1:0≤(FZ l k).c:=u5 hp
   have hr:0<mu l k:=s6 h2 h3
   have cP2:0≤(J4 l k).c:=u5 hr
   have cQ2:0≤(Kb l k).c:=u5 hr
   have two: ∀ {a b c d:Pt},0≤a.c→0≤b.c→0≤c.c→0≤d.c→(cP a c=0∧cP b d=0)∨(cP a d=0∧cP b c=0)→ ∀ {M:List Pt},(c∈M∧d∈M∧ ∀y∈M,y=c∨y=d)→(∀x∈ [a,b],∃y∈M,cP x y=0)∧ ∀y∈M,∃x∈ [a,b],cP y x=0:=by
    intro a b c d ha hb hc hd h M hM
    obtain⟨m1,m2,m3⟩:=hM
    refine⟨fun x hx=>?_,fun y hy=>?_⟩
    ·simp only[dA,qF,or_false] at hx
     rcases hx with rfl|rfl<;>rcases h with h|h
     ·exact⟨c,m1,h.1⟩
     ·exact⟨d,m2,h.1⟩
     ·exact⟨d,m2,h.2⟩
     ·exact⟨c,m1,h.2⟩
    ·rcases m3 y hy with rfl|rfl<;>rcases h with h|h
     ·exact⟨a,by simp,nP ha hc h.1⟩
     ·exact⟨b,by simp,nP hb hc h.2⟩
     ·exact⟨b,by simp,nP hb hd h.2⟩
     ·exact⟨a,by simp,nP ha hd h.1⟩
   refine two cP1 cQ1 cP2 cQ2 (Nx hn hp) ?_
   split
   ·exact⟨by simp,by simp,fun y hy=>by simp only[dA,qF,or_false] at hy;exact hy.symm⟩
   ·exact⟨by simp,by simp,fun y hy=>by simp only[dA,qF,or_false] at hy;exact hy⟩
end
section
variable {l:Ln}{k:Ci}(hl:GL l) (hk:GK k)
include hl
theorem Vt: ¬(l.b=0∧l.a=0):=fun e=>hl.n (by unfold fa;rw[e.1,e.2];grind)
include hk
theorem Xo:Rz 200 (yz l k):=((yq hl hk).div ((nl hl).mul (nl hl)) (by
 have h:=hl.n
 intro e
 rcases zJ.1 e with e|e<;>exact h e)).mono (by decide)
end
theorem V7 {k:Ci}(h:fa l≠0):yz l k=(k.q-((nt l k-k.x)*(nt l k-k.x)+(nF l k-k.y)*(nF l k-k.y)))/fa l:=by
 have h1:=o8 (a:=nN l k.x k.y) h
 have e1:nt l k-k.x= -(nN l k.x k.y/fa l*l.a):=by unfold nt;grind
 have e2:nF l k-k.y= -(nN l k.x k.y/fa l*l.b):=by unfold nF;grind
 rw[e1,e2]
 unfold yz mu
 generalize nN l k.x k.y/fa l=t at h1
 generalize nN l k.x k.y=v at h1
 have hn:fa l=l.a*l.a+l.b*l.b:=rfl
 generalize fa l=n at h h1 hn
 rw[show n*k.q-v*v=(k.q-(-(t*l.a)* -(t*l.a)+ -(t*l.b)* -(t*l.b)))*n from by grind]
 generalize k.q-(-(t*l.a)* -(t*l.a)+ -(t*l.b)* -(t*l.b))=r
 have h2:n*n≠0:=fun e=>(zJ.1 e).elim h h
 have h3:=o8 (a:=r*n) h2
 have h4:=o8 (a:=r) h
 generalize r*n/(n*n)=x at h3
 generalize r/n=y at h4
 have h5:(x-y)*(n*n)=0:=by grind
 rcases zJ.1 h5 with h6|h6
 ·grind
 ·exact absurd h6 h2
section
variable {l:Ln}{k:Ci}
theorem OY (h:S3 l=true):Q5 l= -l.b∧P4 l= - -l.a:=by unfold Q5 P4;rw[h];exact⟨rfl,rfl⟩
theorem PP (h:S3 l=false):Q5 l=l.b∧P4 l= -l.a:=by unfold Q5 P4;rw[h];exact⟨rfl,rfl⟩
theorem Xv (h:aJ (yz l k) 0= -1):ym l k=[]:=if_pos h
theorem WL (h: ¬aJ (yz l k) 0= -1) (g:aJ (yz l k) 0=0):ym l k=[⟨nt l k,0,nF l k,0,0⟩]:=(if_neg h).trans (if_pos g)
theorem FA (h: ¬aJ (yz l k) 0= -1) (g: ¬aJ (yz l k) 0=0):ym l k=[FU l k,FZ l k]:=(if_neg h).trans (if_neg g)
end
structure RK (k:Ci):Prop where
 x:Bz 16 k.x
 y:Bz 16 k.y
 q:Bz 17 k.q
 pos:0<k.q
theorem RK.k {k:Ci}(h:RK k):GK k:=⟨h.x.rz (by decide),h.y.rz (by decide),h.q.rz (by decide)⟩
theorem OQ:Bz 2 (2:Rat):=⟨by decide+kernel,by decide+kernel⟩
section
variable {k d:Ci}(hk:RK k) (hd:RK d)
include hk hd
theorem Yw:(Bz 35 (mQ k d).a∧Bz 35 (mQ k d).b)∧Bz 167 (mQ k d).c:=by
 have f: ∀ {c:Ci},RK c→Bz 83 (B9 c):=fun h=>(((h.x.mul h.x).add (h.y.mul h.y)).sub h.q).mono (by decide)
 exact⟨⟨(OQ.mul (hd.x.sub hk.x)).mono (by decide),(OQ.mul (hd.y.sub hk.y)).mono (by decide)⟩,((f hd).sub (f hk)).mono (by decide)⟩
section
variable (hc:pM k d=false)
include hc
theorem EE:0<fa (mQ k d):=by
 have h1:=(tK hk.k hd.k hc).n
 have h2:0≤fa (mQ k d):=by
  unfold fa
  have a:=SO (mQ k d).a
  have b:=SO (mQ k d).b
  grind
 grind
theorem YM:Rz 34 (yz (mQ k d) k)∧Rz 2 (Q5 (mQ k d))∧Rz 2 (P4 (mQ k d)):=by
 obtain⟨⟨a,b⟩,c⟩:=Yw hk hd
 have n:Bz 141 (fa (mQ k d)):=((a.mul a).add (b.mul b)).mono (by decide)
 have v:Bz 271 (nN (mQ k d) k.x k.y):=(((a.mul hk.x).add (b.mul hk.y)).sub c).mono (by decide)
 have r:Bz 701 (mu (mQ k d) k):=((n.mul hk.q).sub (v.mul v)).mono (by decide)
 have h0:fa (mQ k d)*fa (mQ k d)≠0:=by have:=kG (EE hk hd hc) (EE hk hd hc);grind
 refine⟨(r.div (n.mul n) h0).rz (by decide),?_,?_⟩
 ·unfold Q5;split
  ·exact b.neg.rz (by decide)
  ·exact b.rz (by decide)
 ·unfold P4;split
  ·exact a.neg.neg.rz (by decide)
  ·exact a.neg.rz (by decide)
theorem Sh: ¬(Q5 (mQ k d)=0∧P4 (mQ k d)=0):=by
 have hz:=Vt (tK hk.k hd.k hc)
 unfold Q5 P4
 rintro⟨h1,h2⟩
 refine hz ⟨?_,?_⟩
 ·split at h1<;>grind
 ·split at h2<;>grind
theorem XA (h:0<yz (mQ k d) k):GP (FU (mQ k d) k)∧GP (FZ (mQ k d) k):=by
 obtain⟨h1,h2,h3⟩:=YM hk hd hc
 have g:=tK hk.k hd.k hc
 have nz:=Sh hk hd hc
 exact⟨wG (j8 g hk.k) (h2.neg.mono (by decide)) (jX g hk.k) (h3.neg.mono (by decide)) (h1.mono (by decide)) h (fun e=>nz ⟨by grind,by grind⟩),wG (j8 g hk.k) (h2.mono (by decide)) (jX g hk.k) (h3.mono (by decide)) (h1.mono (by decide)) h nz⟩
theorem Ua: ∀p∈ym (mQ k d) k,GP p:=by
 intro p hp
 have g:=tK hk.k hd.k hc
 unfold ym at hp
 split at hp
 ·cases hp
 ·rename_i h1
  split at hp
  ·rw[nE.1 hp];exact GP.rat ((j8 g hk.k).mono (by decide)) ((jX g hk.k).mono (by decide))
  ·rename_i h2
   have hp0:0<yz (mQ k d) k:=s6 (fun h=>h1 (by have:=dZ (yz (mQ k d) k) 0;omega)) h2
   obtain⟨q1,q2⟩:=XA hk hd hc hp0
   simp only[dA,qF,or_false] at hp
   rcases hp with rfl|rfl
   ·exact q1
   ·exact q2
end
theorem Bj: ∀p∈lI k d,GP p:=by
 intro p hp
 unfold lI at hp
 split at hp
 ·cases hp
 ·split at hp
  ·cases hp
  ·rename_i h;exact Ua hk hd (by simpa using h) p hp
theorem D5:(∀x∈lI k d,∃y∈bG k d,cP x y=0)∧ ∀y∈bG k d,∃x∈lI k d,cP y x=0:=by
 have o1:=Bj hk hd
 have o2:=lG hk.k hd.k
 unfold lI bG at*
 by_cases h:pM k d=true
 ·rw[if_pos h,if_pos h]
  split<;>exact⟨fun x hx=>(by cases hx),fun x hx=>(by cases hx)⟩
 ·have h1:lq k d=false:=by
   cases e:lq k d with
   |false=>rfl
   |true=>
    unfold lq at e
    rw[dN] at e
    exact absurd e.1 h
  rw[if_neg (by rw[h1];decide),if_neg h] at o1⊢
  rw[if_neg h] at o2⊢
  exact My (EE hk hd (by simpa using h)) (fun p hp=>co (o1 p hp)) (fun p hp=>co (o2 p hp))
end
def JA (k d:Ci):Int:=if lq k d then 10 else 0
section
variable {k d:Ci}
theorem NS (h:lq k d=true):lI k d=[]∧JA k d=10:=by unfold lI JA;rw[h];exact⟨rfl,rfl⟩
theorem LD (h:lq k d=false) (g:pM k d=true):lI k d=[]∧JA k d=0:=by unfold lI JA;rw[h,g];exact⟨rfl,rfl⟩
theorem Lo (h:lq k d=false) (g:pM k d=false):lI k d=ym (mQ k d) k∧JA k d=0:=by unfold lI JA;rw[h,g];exact⟨rfl,rfl⟩
end
theorem Cl {k:Ci}:(lI k d).length≤2:=by
 unfold lI ym
 repeat' split
 all_goals simp
def dK:Ci:=⟨0,0,0⟩
theorem dW (k:Ci):(aX k).length=12:=rfl
theorem rn (k:Ci) (r:List CellD):(aX k++r).take 12=aX k:=List.take_left' rfl
def fz (e:Nat→Bool):Nat→Int
 |0=> -1
 |n+1=>if fz e n≥0 then fz e n else if e n then-1 else n
theorem L4 {e:Nat→Bool}: ∀ {n:Nat},(∀i,i<n→e i=true)→fz e n= -1
 |0,_=>rfl
 |n+1,h=>by
  have h1:=L4 (n:=n) fun i hi=>h i (by omega)
  show(if fz e n≥0 then fz e n else if e n then-1 else n)= -1
  rw[h1,h n (by omega)];rfl
theorem G6 {e:Nat→Bool}{k:Nat}(h: ∀i,i<k→e i=true) (g:e k=false): ∀ {n:Nat},k<n→fz e n=k
 |0,hn=>absurd hn (by omega)
 |n+1,hn=>by
  show(if fz e n≥0 then fz e n else if e n then-1 else n)=k
  by_cases hk:k=n
  ·rw[←hk,L4 h,g];rfl
  ·rw[G6 h g (by omega:k<n),if_pos (by omega)]
theorem VY {e:Nat→Bool}: ∀ {n:Nat},(fz e n= -1∧ ∀i,i<n→e i=true)∨ ∃k:Nat,k<n∧fz e n=k∧e k=false
 |0=>.inl ⟨rfl,fun i hi=>absurd hi (by omega)⟩
 |n+1=>by
  rcases VY (e:=e) (n:=n) with⟨h1,h2⟩|⟨k,h1,h2,h3⟩
  ·cases h:e n with
   |true=>
    have hh: ∀i,i<n+1→e i=true:=fun i hi=>by
     by_cases hq:i=n
     ·rw[hq];exact h
     ·exact h2 i (by omega)
    exact .inl ⟨L4 hh,hh⟩
   |false=>exact .inr ⟨n,by omega,G6 h2 h (by omega),h⟩
  ·refine .inr ⟨k,by omega,?_,h3⟩
   show(if fz e n≥0 then fz e n else if e n then-1 else n)=k
   rw[h2,if_pos (by omega)]
def qd (L:List Ci) (m:Pt):Bool:=L.all fun d=>decide (mp d m<0)
def eO (L:List Ci) (m:Pt) (i:Nat):Bool:=decide (mp (L.getD i dK) m<0)
theorem Ti {m:Pt}:decide (fz (eO L m) L.length≥0)= !qd L m:=by
 rcases VY (e:=eO L m) (n:=L.length) with⟨h1,h2⟩|⟨k,h1,h2,h3⟩
 ·have ho:qd L m=true:=by
   unfold qd
   rw[lE]
   intro d hd
   obtain⟨i,hi,rfl⟩:=List.getElem_of_mem hd
   have:=h2 i hi
   unfold eO at this
   simpa [List.getD,hi] using this
  rw[h1,ho];rfl
 ·have ho:qd L m=false:=by
   cases ho:qd L m with
   |false=>rfl
   |true=>
    unfold qd at ho
    rw[lE] at ho
    have:=ho _ (bj (d:=dK) h1)
    unfold eO at h3
    rw[this] at h3;cases h3
  rw[h2,ho,decide_eq_true (by omega)];rfl
def nL (e:Nat→Bool) (N n:Nat):List CellD:=(List.range N).map fun i=>CellD.b (decide (i<n)&&e i)
def te (e:Nat→Bool) (N:Nat):List CellD:=(List.range N).map fun i=>CellD.b (e i)
theorem dL:(te e N).length=N*1:=by unfold te;simp
theorem yB:(nL e N n).length=N*1:=by unfold nL;simp
theorem JB:List.replicate N (CellD.b false)=nL e N 0++[]:=by
 apply vh<;>simp[nL]
theorem CY:nL e N N=te e N:=by
 apply vh
 ·simp[nL,te]
 ·intro i h1 h2
  have:i<N:=by simpa [te] using h2
  simp[nL,te,this]
theorem F5 (h:n<N):(nL e N n++[]).take (n*1)++[CellD.b (e n)]++(nL e N n++[]).drop (n*1+1)=nL e N (n+1)++[]:=by
 rw[jc,jc,vH,mV]
 have h0:n<(nL e N n).length:=by rw[yB];omega
 rw[show[CellD.b (e n)]++(nL e N n).drop (n+1)=CellD.b (e n)::(nL e N n).drop (n+1) from rfl]
 have h1:(nL e N n).set n (CellD.b (e n))=(nL e N n).take n++CellD.b (e n)::(nL e N n).drop (n+1):=by rw[List.set_eq_take_append_cons_drop,if_pos h0]
 rw[←h1]
 apply vh
 ·simp[nL]
 ·intro i h1 h2
  rw[List.getElem_set]
  by_cases c:n=i
  ·subst c;simp[nL]
  ·rw[if_neg c]
   simp[nL]
   by_cases a:i<n
   ·simp[a,show i<n+1 from by omega]
   ·simp[a,show ¬i<n+1 from by omega]
theorem pG (h:n<N):(te e N).drop (n*1)=[CellD.b (e n)]++(te e N).drop (n+1):=by
 rw[vH,pj (by simp[te];exact h)]
 simp[te]
def bl (x:Nat):Int:=if x=0 then 0 else if x=1 then 1 else if x≤3 then 2 else if x≤7 then 3 else 4
theorem Y5 (x:Nat):0≤bl x∧bl x≤4:=by unfold bl;repeat' split<;>try omega
theorem YX {s:ByteArray}{x:Nat}(h1:x≤12) (h:((List.range 13).all fun m=>(((s[m]?).getD 0).toNat:Int)==bl m)=true):(((s[(x:Int).toNat]?).getD 0).toNat:Int)=bl x:=by
 rw[lE] at h
 rw[Int.toNat_natCast]
 exact beq_iff_eq.1 (h x (lP.2 (by omega)))
theorem XW (ha:Rz 6000000 a) (hb:Rz 6000000 b):Ok Tryz.prog 294 [dR a,dR b] [.c (.b (aJ a b==0))]:=by
 refine ca Tryz.func294 rfl ?_
 refine ac rfl (lF (aQ ha) (aQ hb)) ?_
 exact ah (az ae)
theorem abd {k:Ci}(hk:GK k) (hd:GK d):Ok Tryz.prog 209 [.a (aX k),.a (aX d)] [.c (.b (lq k d))]:=by
 refine ca Tryz.func209 rfl ?_
 refine ac rfl (XW (aQ (hk.x)) (aQ (hd.x))) ?_
 refine jT (bz rfl) (fun c1 hb1=>?_)
 cases c1
 ·refine ar (bz rfl)<|ah ?_
  rw[show lq k d=false from by unfold lq wV;rw[hb1];rfl]
  exact az ae
 ·refine ac rfl (XW (aQ (hk.y)) (aQ (hd.y))) ?_
  refine jT (bz rfl) (fun c2 hb2=>?_)
  cases c2
  ·refine ah ?_
   rw[show lq k d=false from by unfold lq wV;rw[hb1,hb2];rfl]
   exact az ae
  ·refine ac rfl (XW (aQ (hk.q)) (aQ (hd.q)))<|ah ?_
   rw[show lq k d=(aJ k.q d.q==0) from by unfold lq wV;rw[hb1,hb2];rfl]
   exact az ae
theorem U7 {k:Ci}(hk:GK k) (hd:GK d):Ok Tryz.prog 210 [.a (aX k),.a (aX d)] [.c (.b (pM k d))]:=by
 refine ca Tryz.func210 rfl ?_
 refine ac rfl (lF (aQ (hk.x)) (aQ (hd.x))) ?_
 refine jT (bz rfl) (fun c1 hb1=>?_)
 cases c1
 ·refine ah ?_
  rw[show pM k d=false from by unfold pM wV;rw[hb1];rfl]
  exact az ae
 ·refine ac rfl (lF (aQ (hk.y)) (aQ (hd.y)))<|ah ?_
  rw[show pM k d=(aJ k.y d.y==0) from by unfold pM wV;rw[hb1];rfl]
  exact az ae
theorem Vx {k:Ci}(hk:GK k):Ok Tryz.prog 295 [.a (aX k)] [dR (B9 k)]:=by
 refine ca Tryz.func295 rfl<|cT 14 [] ?_
 refine aK rfl (oR (aQ (hk.x)) (aQ (hk.x))) ?_
 refine aK rfl (oR (aQ (hk.y)) (aQ (hk.y))) ?_
 refine aK rfl (CN (aQ (aO (hk.x) (hk.x))) (aQ (aO (hk.y) (hk.y)))) ?_
 refine aK rfl (qx (aQ (gD (aO (hk.x) (hk.x)) (aO (hk.y) (hk.y)))) (aQ (hk.q))) ?_
 exact ah (aV bF rfl ae)
theorem ZP {k:Ci}(hk:GK k) (hd:GK d) (hn:pM k d=false):Ok Tryz.prog 211 [.a (aX k),.a (aX d)] [.a (gK (mQ k d)),.c (.i .i64 0)]:=by
 have zt:Rz 6000000 (2:Rat):=FQ.m_
 have f1:Rz 6000000 (B9 k):=(wn hk).m_
 have f2:Rz 6000000 (B9 d):=(wn hd).m_
 refine ca Tryz.func211 rfl<|ac rfl (ez (U7 hk hd) hn)<|qQ rfl<|ac rfl (gM (iY (by decide) (by decide)) (show((2:Int):Rat)=2 from rfl))<|cT 22 [] ?_
 refine aK rfl (qx (aQ (hd.x)) (aQ (hk.x))) ?_
 refine aK rfl (oR (Ix) (aQ (dd (hd.x) (hk.x)))) ?_
 refine aK rfl (qx (aQ (hd.y)) (aQ (hk.y))) ?_
 refine aK rfl (oR (Ix) (aQ (dd (hd.y) (hk.y)))) ?_
 refine aK rfl (Vx hd) ?_
 refine aK rfl (Vx hk) ?_
 refine aK rfl (qx (Ix) (Ix)) ?_
 refine aq (aM (us:=(cR (2*(d.x-k.x))++cR (2*(d.y-k.y))++cR ((B9 d)-(B9 k)))) WF R5 rfl rfl rfl) ?_
 exact ah (aV Nd rfl (az ae))
theorem WV (ha:Rz 2000000 a) (hb:Rz 2000000 b) (h0:b≠0):Ok Tryz.prog 377 [dR a,dR b] [dR (a/b)]:=by
 refine ca Tryz.func377 rfl<|ac rfl (qy (ha.m_) (hb.m_) h0)<|qQ rfl ?_
 exact ah (aV bF rfl ae)
theorem aax (ha:Rz 2000000 a) (hb:Rz 2000000 b) (h0:b≠0):Ok Tryz.prog 351 [dR a,dR b] [dR (a/b)]:=by
 refine ca Tryz.func351 rfl<|ac rfl (qy (ha.m_) (hb.m_) h0) ?_
 exact ah (aV bF rfl ae)
theorem W3 {k:Ci}(hl:GL l) (hk:GK k):Ok Tryz.prog 350 [.a (gK l),.a ((cR k.x++cR k.y))] [.a ((cR (nt l k)++cR (nF l k)))]:=by
 have v1:=pK hl hk
 have n1:=nl hl
 have n0:=hl.n
 have fx:=j8 hl hk
 have fy:=jX hl hk
 refine ca Tryz.func350 rfl<|cT 15 [] ?_
 refine aK rfl (gi (aQ (hl.a)) (aQ (hk.x))) ?_
 refine aK rfl (gi (aQ (hl.b)) (aQ (hk.y))) ?_
 refine aK rfl (qG (aQ (aO (hl.a) (hk.x))) (aQ (aO (hl.b) (hk.y)))) ?_
 refine aK rfl (sy (aQ (gD (aO (hl.a) (hk.x)) (aO (hl.b) (hk.y)))) (aQ (hl.c)))<|cT 14 [] ?_
 refine aK rfl (gi (aQ (hl.a)) (aQ (hl.a))) ?_
 refine aK rfl (gi (aQ (hl.b)) (aQ (hl.b))) ?_
 refine aK rfl (qG (aQ (aO (hl.a) (hl.a))) (aQ (aO (hl.b) (hl.b)))) ?_
 refine aK rfl ((show Ok Tryz.prog 377 _ [dR (nN l k.x k.y/fa l)] from WV (v1.m_) (n1.m_) hl.n))<|cT 15 [] ?_
 refine aK rfl (gi (aQ (nu (by assumption) (by assumption) (by assumption))) (aQ (hl.a)))<|aK rfl (sy (aQ (hk.x)) (aQ (aO (nu (by assumption) (by assumption) (by assumption)) (hl.a)))) ?_
 refine aK rfl (gi (aQ (nu (by assumption) (by assumption) (by assumption))) (aQ (hl.b)))<|aK rfl (sy (aQ (hk.y)) (aQ (aO (nu (by assumption) (by assumption) (by assumption)) (hl.b))))<|aq (aM (us:=(cR (k.x-((nN l k.x k.y/fa l)*l.a))++cR (k.y-((nN l k.x k.y/fa l)*l.b)))) IL G8 rfl rfl rfl) ?_
 exact ah (aV P5 rfl ae)
theorem Z4 {k:Ci}(hl:GL l) (hk:GK k):Ok Tryz.prog 299 [.a (gK l),.a (aX k)] [dR (yz l k),.a ((cR (nt l k)++cR (nF l k)))]:=by
 have v1:=pK hl hk
 have n1:=nl hl
 have n0:=hl.n
 have fx:=j8 hl hk
 have fy:=jX hl hk
 refine ca Tryz.func299 rfl<|ar (aM (us:=(cR k.x++cR k.y)) IL G8 rfl rfl rfl) ?_
 refine ac rfl (W3 hl hk)<|cT 12 [] ?_
 refine aK rfl (qx (Ix) (aQ (hk.x))) ?_
 refine aK rfl (qx (Ix) (aQ (hk.y)))<|cT 11 [] ?_
 refine aK rfl (oR (aQ (dd (by assumption) (hk.x))) (aQ (dd (by assumption) (hk.x)))) ?_
 refine aK rfl (oR (aQ (dd (by assumption) (hk.y))) (aQ (dd (by assumption) (hk.y)))) ?_
 refine aK rfl (CN (aQ (aO (dd (by assumption) (hk.x)) (dd (by assumption) (hk.x)))) (aQ (aO (dd (by assumption) (hk.y)) (dd (by assumption) (hk.y))))) ?_
 refine aK rfl (qx (aQ (hk.q)) (aQ (gD (aO (dd (by assumption) (hk.x)) (dd (by assumption) (hk.x))) (aO (dd (by assumption) (hk.y)) (dd (by assumption) (hk.y))))))<|cT 16 [4,5,999999] ?_
 refine aK rfl (oR (aQ (hl.a)) (aQ (hl.a))) ?_
 refine aK rfl (oR (aQ (hl.b)) (aQ (hl.b))) ?_
 refine aK rfl (CN (aQ (aO (hl.a) (hl.a))) (aQ (aO (hl.b) (hl.b)))) ?_
 refine aK rfl ((show Ok Tryz.prog 351 _ [dR (yz l k)] from by rw[V7 hl.n];exact aax ((hk.q.sub (((fx.sub hk.x).mul (fx.sub hk.x)).add ((fy.sub hk.y).mul (fy.sub hk.y)))).m_) (n1.m_) hl.n)) ?_
 refine DQ.mk<|jb (fg bF rfl) rfl rfl rfl rfl<|d7 ?_
 refine DQ.mk<|jb (fg P5 rfl) rfl rfl rfl rfl<|d7 ?_
 exact ah (aV bF rfl (aV P5 rfl ae))
theorem ab3 {k:Ci}(hl:GL l) (hk:GK k):Ok Tryz.prog 212 [.a (gK l),.a (aX k)] [.c (.s ((ym l k).length) (aw aj (ym l k)))]:=by
 have hq:Rz 200 (yz l k):=Xo hl hk
 have kz:Rz 6000000 (yz l k):=hq.m_
 have fx:=j8 hl hk
 have fy:=jX hl hk
 have hb0:Rz 100 l.b:=hl.b.m_
 have ha0:Rz 100 l.a:=hl.a.m_
 have nz:=Vt hl
 refine ca Tryz.func212 rfl ?_
 refine ac rfl (Z4 hl hk) ?_
 refine ac rfl (cH) ?_
 refine dD rfl (fun hc1=>?_) (fun hc1=>?_)
 ·refine ah ?_
  rw[Xv (by simpa using hc1)]
  exact az ae
 ·refine dD rfl (fun hc2=>?_) (fun hc2=>?_)
  ·refine ac rfl (SU)<|ar (bX (n:=1) (us:=(cR (nt l k)++cR 0++cR (nF l k)++cR 0++cR 0)) dr rfl rfl rfl (by decide) (by decide) rfl) ?_
   refine ah ?_
   rw[WL (by simpa using hc1) (by simpa using hc2)]
   exact az ae
  ·have g1: ¬aJ (yz l k) 0= -1:=by simpa using hc1
   have g2: ¬aJ (yz l k) 0=0:=by simpa using hc2
   have h0:0<yz l k:=s6 (fun h=>g1 (by have:=dZ (yz l k) 0;omega)) g2
   refine cT 7 [] ?_
   refine aK rfl (dS (aQ (hl.a))) ?_
   refine ac rfl (cH) ?_
   refine jT (bz rfl) (fun c3 hb3=>?_)
   cases c3
   ·refine jT (bz rfl) (fun c4 hb4=>?_)
    cases c4
    ·obtain⟨eU,eV⟩:=PP (l:=l) (by unfold S3;rw[hb3,hb4];rfl)
     refine qQ rfl<|cT 20 [] ?_
     refine aK rfl (dS (aQ (hl.b))) ?_
     refine aK rfl (dS (aQ (oC (hl.a)))) ?_
     refine aK rfl ((show Ok Tryz.prog 301 _ [.a (aj (FU l k))] from by unfold FU;rw[eU,eV];exact rM (fx.m_) hb0.neg (fy.m_) ha0.neg.neg hq h0 (fun e=>nz ⟨by grind,by grind⟩))) ?_
     refine aK rfl ((show Ok Tryz.prog 301 _ [.a (aj (FZ l k))] from by unfold FZ;rw[eU,eV];exact rM (fx.m_) hb0 (fy.m_) ha0.neg hq h0 (fun e=>nz ⟨by grind,by grind⟩))) ?_
     refine aq (bX (n:=2) (us:=aj (FU l k)++aj (FZ l k)) dr rfl rfl rfl (by decide) (by decide) rfl) ?_
     refine ah ?_
     rw[FA g1 g2]
     exact az ae
    ·refine ac rfl (cH) ?_
     refine dD rfl (fun hc5=>?_) (fun hc5=>?_)
     ·obtain⟨eU,eV⟩:=OY (l:=l) (by unfold S3;rw[hb3,hb4,hc5];rfl)
      refine cT 4 [] ?_
      refine aK rfl (dS (aQ (hl.b))) ?_
      refine aK rfl (dS (aQ (oC (hl.a))))<|cT 20 [] ?_
      refine aK rfl (dS (aQ (oC (hl.b)))) ?_
      refine aK rfl (dS (aQ (oC (oC (hl.a))))) ?_
      refine aK rfl ((show Ok Tryz.prog 301 _ [.a (aj (FU l k))] from by unfold FU;rw[eU,eV];exact rM (fx.m_) hb0.neg.neg (fy.m_) ha0.neg.neg.neg hq h0 (fun e=>nz ⟨by grind,by grind⟩))) ?_
      refine aK rfl ((show Ok Tryz.prog 301 _ [.a (aj (FZ l k))] from by unfold FZ;rw[eU,eV];exact rM (fx.m_) hb0.neg (fy.m_) ha0.neg.neg hq h0 (fun e=>nz ⟨by grind,by grind⟩))) ?_
      refine aq (bX (n:=2) (us:=aj (FU l k)++aj (FZ l k)) dr rfl rfl rfl (by decide) (by decide) rfl) ?_
      refine ah ?_
      rw[FA g1 g2]
      exact az ae
     ·obtain⟨eU,eV⟩:=PP (l:=l) (by unfold S3;rw[hb3,hb4,hc5];rfl)
      refine cT 20 [] ?_
      refine aK rfl (dS (aQ (hl.b))) ?_
      refine aK rfl (dS (aQ (oC (hl.a)))) ?_
      refine aK rfl ((show Ok Tryz.prog 301 _ [.a (aj (FU l k))] from by unfold FU;rw[eU,eV];exact rM (fx.m_) hb0.neg (fy.m_) ha0.neg.neg hq h0 (fun e=>nz ⟨by grind,by grind⟩))) ?_
      refine aK rfl ((show Ok Tryz.prog 301 _ [.a (aj (FZ l k))] from by unfold FZ;rw[eU,eV];exact rM (fx.m_) hb0 (fy.m_) ha0.neg hq h0 (fun e=>nz ⟨by grind,by grind⟩))) ?_
      refine aq (bX (n:=2) (us:=aj (FU l k)++aj (FZ l k)) dr rfl rfl rfl (by decide) (by decide) rfl) ?_
      refine ah ?_
      rw[FA g1 g2]
      exact az ae
   ·obtain⟨eU,eV⟩:=OY (l:=l) (by unfold S3;rw[hb3];rfl)
    refine DL.mk<|wF (oE rfl)<|dX ?_
    refine tg rfl<|cT 4 [] ?_
    refine aK rfl (dS (aQ (hl.b))) ?_
    refine aK rfl (dS (aQ (oC (hl.a))))<|cT 20 [] ?_
    refine aK rfl (dS (aQ (oC (hl.b)))) ?_
    refine aK rfl (dS (aQ (oC (oC (hl.a))))) ?_
    refine aK rfl ((show Ok Tryz.prog 301 _ [.a (aj (FU l k))] from by unfold FU;rw[eU,eV];exact rM (fx.m_) hb0.neg.neg (fy.m_) ha0.neg.neg.neg hq h0 (fun e=>nz ⟨by grind,by grind⟩))) ?_
    refine aK rfl ((show Ok Tryz.prog 301 _ [.a (aj (FZ l k))] from by unfold FZ;rw[eU,eV];exact rM (fx.m_) hb0.neg (fy.m_) ha0.neg.neg hq h0 (fun e=>nz ⟨by grind,by grind⟩))) ?_
    refine aq (bX (n:=2) (us:=aj (FU l k)++aj (FZ l k)) dr rfl rfl rfl (by decide) (by decide) rfl) ?_
    refine ah ?_
    rw[FA g1 g2]
    exact az ae
theorem U6 {k:Ci}(hk:GK k) (hd:GK d):Ok Tryz.prog 121 [.a (aX k),.a (aX d)] [.c (.s ((lI k d).length) (aw aj (lI k d))),.c (.i .i64 (JA k d))]:=by
 refine ca Tryz.func121 rfl ?_
 refine ac rfl (abd hk hd) ?_
 refine dD rfl (fun hc1=>?_) (fun hc1=>?_)
 ·refine ah ?_
  rw[(NS hc1).1,(NS hc1).2]
  exact az (az ae)
 ·refine ac rfl (U7 hk hd) ?_
  refine dD rfl (fun hc2=>?_) (fun hc2=>?_)
  ·refine ah ?_
   rw[(LD hc1 hc2).1,(LD hc1 hc2).2]
   exact az (az ae)
  ·refine ac rfl (ZP hk hd hc2)<|ac rfl (ab3 (tK hk hd hc2) hk)<|ah ?_
   rw[(Lo hc1 hc2).1,(Lo hc1 hc2).2]
   exact az (az ae)
theorem Ub {k:Ci}{a b:Pt}(vP:CvV (.arc k false a b)) (vR:CvV (.arc k false a' b')) (e1:cP a a'=0) (e2:cP b b'=0)
 (iP: ∀x,x=jS k∨x=jI k→(Cv.arc k false a b).inner x=false∧(Cv.arc k false a' b').inner x=false):
 ∃m:Pt,GB m∧Ok Tryz.prog 43 [.a (aD (.arc k false a b))] [.a (aj m)]∧Ok Tryz.prog 56 [.a (aD (.arc k false a' b'))] [.a (aj m)]∧ ∃x,m=wZ (Cv.arc k false a b).fwd x∧mS (Cv.arc k false a b).fwd.p x<0∧0<mS (Cv.arc k false a b).fwd.q x:=by
 obtain⟨x,hx,h1,h2,h3,h4,h5,h6,i1,i2⟩:=Z3 vP vR e1 e2 iP
 obtain⟨⟨z1,z2,z3⟩,hv⟩:=Jt (Ii vP) hx h3
 obtain⟨ea,eb⟩:=OC (Cv.arc k false a b).fwd x
 refine⟨wZ (Cv.arc k false a b).fwd x,⟨ea▸hx.mono (by decide),eb▸dH (by decide),z1,z2,z3,hv⟩,Y6 vP (iP _ (.inl rfl)).1 (iP _ (.inr rfl)).1 hx h3 h1,h6▸XZ vR h5 hx h4 h2,x,rfl,i1,i2⟩
theorem acE {m:Pt}(hm:GB m) (hd:RK d):Ok Tryz.prog 45 [.a (aX d),.c (.p (aj m))] [.c (.b (decide (mp d m≥0)))]:=by
 refine ca Tryz.func45 rfl ?_
 refine ar (mM (us:=aj m) bv rfl rfl rfl rfl) ?_
 refine ac rfl (RA hd.k hm) ?_
 exact ah (az ae)
theorem acD (hL: ∀d∈L,RK d) (lL:L.length≤4) {m:Pt}(hm:GB m):Ok Tryz.prog 131 [.c (.s L.length (aw aX L)),.c (.k 45 [.p (aj m)])] [.c (.i .i64 (fz (eO L m) L.length))]:=by
 refine ca Tryz.func131 rfl ?_
 refine DW.mk<|bh (ι:={n:Nat // n≤L.length∧ ∀i,i<n→eO L m i=true}) (fun i=>⟨19,[(0,.v (.c (.s L.length (aw aX L)))),(1,.v (.c (.k 45 [.p (aj m)]))),(7,.v (.c (.i .i64 (L.length:Int)))),(8,.v (.c (.i .i64 (i.1:Int))))],[]⟩) (fun i=>L.length-i.1) ⟨0,eK _,fun i hi=>absurd hi (by omega)⟩ (ao ⟨rfl,rfl,rfl,rfl,trivial⟩ trivial rfl) ?_
 rintro⟨n,h2,h3⟩
 replace h2:n≤L.length:=h2
 replace h3: ∀i,i<n→eO L m i=true:=h3
 dsimp only
 refine no ?_
 refine dD rfl (fun hc1=>?_) (fun hc1=>?_)
 ·have g1:n<L.length:=by have:=of_decide_eq_true hc1;omega
  refine ar (eM dK dW g1 Dv rfl)<|ar (cg (us:=aX (L.getD n dK)) qV rfl (rn _ _) (dW _) rfl) ?_
  refine ar (mx rfl rfl (acE hm (hL _ (bj g1))) rfl) ?_
  refine dD rfl (fun hc2=>?_) (fun hc2=>?_)
  ·have g2:eO L m n=false:=by have:=of_decide_eq_true hc2;unfold eO;rw[decide_eq_false (by omega)]
   refine ah ?_
   rw[G6 h3 g2 g1]
   exact az ae
  ·have g2:eO L m n=true:=by have:=of_decide_eq_false hc2;unfold eO;rw[decide_eq_true (by omega)]
   refine ar (cb (by omega) rfl) ?_
   exact⟨⟨n+1,g1,fun i hi=>(io i n).elim (h3 i) fun q=>(show i=n by omega)▸g2⟩,ao ⟨rfl,rfl,rfl,rfl,trivial⟩ trivial rfl,by show L.length-(n+1)<L.length-n;omega⟩
 ·have hp:n=L.length:=by have:=of_decide_eq_false hc1;omega
  refine ah ?_
  rw[L4 (hp▸h3)]
  exact az ae
theorem Z2 (hL: ∀d∈L,RK d) (lL:L.length≤4) {m:Pt}(hm:GB m):Ok Tryz.prog 44 [.c (.s L.length (aw aX L)),.c (.k 45 [.p (aj m)])] [.c (.b (!qd L m))]:=by
 refine ca Tryz.func44 rfl<|ac rfl (acD hL lL hm)<|ah ?_
 rw[←Ti]
 exact az ae
theorem abm (hN:N≤100):Ok Tryz.prog 48 [.c (.s N (te e N)),.c (.b false)] [.c (.i .i64 (fz e N))]:=by
 refine ca Tryz.func48 rfl ?_
 refine DW.mk<|bh (ι:={n:Nat // n≤N∧ ∀i,i<n→e i=true}) (fun i=>⟨19,[(0,.v (.c (.s N (te e N)))),(1,.v (.c (.b false))),(7,.v (.c (.i .i64 (N:Int)))),(8,.v (.c (.i .i64 (i.1:Int))))],[]⟩) (fun i=>N-i.1) ⟨0,eK _,fun i hi=>absurd hi (by omega)⟩ (ao ⟨rfl,rfl,rfl,rfl,trivial⟩ trivial rfl) ?_
 rintro⟨n,h2,h3⟩
 replace h2:n≤N:=h2
 replace h3: ∀i,i<n→e i=true:=h3
 dsimp only
 refine no ?_
 refine dD rfl (fun hc1=>?_) (fun hc1=>?_)
 ·have g1:n<N:=by have:=of_decide_eq_true hc1;omega
  refine ar (bH (us:=[CellD.b (e n)]++(te e N).drop (n+1)) zG rfl rfl (by omega) (dL) (pG g1) rfl) ?_
  refine ar (b5 kP rfl rfl rfl) ?_
  refine ar (yh rfl rfl gO rfl) ?_
  refine dD rfl (fun hc2=>?_) (fun hc2=>?_)
  ·have g2:e n=false:=(beq_iff_eq.1 hc2).symm
   refine ah ?_
   rw[G6 h3 g2 g1]
   exact az ae
  ·have g2:e n=true:=by have:=hc2;revert this;cases e n<;>decide
   refine ar (cb (by omega) rfl) ?_
   exact⟨⟨n+1,g1,fun i hi=>(io i n).elim (h3 i) fun q=>(show i=n by omega)▸g2⟩,ao ⟨rfl,rfl,rfl,rfl,trivial⟩ trivial rfl,by show N-(n+1)<N-n;omega⟩
 ·have hp:n=N:=by have:=of_decide_eq_false hc1;omega
  refine ah ?_
  rw[L4 (hp▸h3)]
  exact az ae
theorem abz (hN:N≤100):Ok Tryz.prog 47 [.c (.s N (te e N)),.c (.b false)] [.c (.b (decide (fz e N≥0)))]:=by
 refine ca Tryz.func47 rfl<|ac rfl (abm hN) ?_
 exact ah (az ae)
section
variable {P:Program}{ops:Array Oper}{T:TF}{B:BF}{dst:Option Nat}{y:Operand}{t:TypeId}{ty:TypeId}{pos:String}{af:Array Edge}{g:Option (Nat×Bool)}
theorem Qn {s:ByteArray}{k:IntKind}{i n:Int}(hU:P.underlying t=some .string) (hi:cE T y=some (.v (.c (.i k i)))) (h0:0≤i∧i<s.size) (hn:(((s[i.toNat]?).getD 0).toNat:Int)=n) (hg:gd ops ⟨dst,.index t (.const (.string s)) y,ty,pos,af,g⟩ T=some true):
 Sem P ops ⟨dst,.index t (.const (.string s)) y,ty,pos,af,g⟩ T B (.r (.v (.c (.i .u8 n)))):=
 bQ hg (pP rfl) (fun V β a w hs=>by
  have h2:=fQ (aE hs (x:=y) (by simp[Op.operands]) hi)
  have h3:i.toNat<s.size:=by omega
  refine⟨.int .u8 n,?_,.i _ _⟩
  subst hn
  have h4:=run_index_string (P:=P) w t s k i hU
  rw[dif_pos h0] at h4
  simp only[execOp,h2]
  show(Instr.index t (.string s) (.int k i)>>=_).run P w=_
  rw[eQ,h4,ByteArray.getElem?_lt' s _ h3]
  rfl)
end
theorem ML {P:Program}{σ:St}{Q:Exit→St→Prop}{x y:Code}(h:Dw P y σ Q):Dw P (.cond (.const (.bool false)) x y) σ Q:=fun av w0 β a w hr=>
 wp_cond_split (t:=false) rfl (fun e=>nomatch e) (fun _=>h av w0 β a w hr)
theorem aaa {x:Int}(h0:0≤x) (h1:x≤255):IntKind.u8.wrap x=x:=by unfold IntKind.wrap;simp[IntKind.bits,IntKind.signed];omega
theorem aav {c d:Cv}(vc:CvV c) (vd:CvV d):Ok Tryz.prog 50 [.a (aD c),.a (aD d)] [.c (.i .i64 (cY c d))]:=by
 refine ca Tryz.func50 rfl ?_
 refine ar (bZ (us:=aj c.p) bv rfl rfl (lr _) rfl rfl) ?_
 refine ar (bZ (us:=aj d.p) bv rfl rfl (lr _) rfl rfl) ?_
 refine ac rfl (N5 (iq vc.g) (iq vd.g)) ?_
 exact ah (az ae)
theorem ZD {L:List Cv}(hn1:1≤L.length) (hn:L.length≤12) (hG: ∀x∈L,CvV x):OkS Tryz.prog 243 49 L.length c9 (aw aD L++rs) (aw aD (bp aY cY L)++rs) [.c (.i .i64 0),.c (.i .i64 (L.length:Int)),.c (.f 50)]:=by
 refine OkS.of (K:=100000) (by kernel_rfl) Tryz.func243 rfl rfl rfl rfl ?_
 rw[show Tryz.f243.ntmps=53 from rfl]
 refine aa<|ag<|ar (iU (r:=1) rfl rfl rfl rfl) ?_
 refine aB<|bh (ι:={p:Nat // 1≤p∧p≤L.length}) (fun i=>⟨53,[(0,.o 100000 L.length c9),(1,.v (.c (.i .i64 0))),(2,.v (.c (.i .i64 (L.length:Int)))),(3,.v (.c (.f 50))),(8,.v (.c (.i .i64 (i.1:Int))))],[(100000,49,aw aD (TV aY cY L i.1)++rs)]⟩) (fun i=>L.length-i.1) ⟨1,ce _,hn1⟩ (ao ⟨rfl,rfl,rfl,rfl,rfl,trivial⟩ ⟨congrArg (fun q=>some (49,aw aD q++rs)) ((J5 L).symm),trivial⟩ rfl) ?_
 rintro⟨p,h1,h2⟩
 replace h1:1≤p:=h1
 replace h2:p≤L.length:=h2
 dsimp only
 refine aa<|aa<|ag ?_
 refine aI rfl (fun hc1=>?_) (fun hc1=>?_)
 ·have g1:p<L.length:=by have:=of_decide_eq_true hc1;omega
  have hOl:(bp aY cY (L.take p)).length=p:=by rw[fE,dE,ij h2]
  refine aA<|aa<|aB<|aa<|ag<|aB<|bh (ι:={j:Nat // j≤p∧pE aY cY (L.getD p aY) (bp aY cY (L.take p)) p=pE aY cY (L.getD p aY) (bp aY cY (L.take p)) j}) (fun i=>⟨53,[(0,.o 100000 L.length c9),(1,.v (.c (.i .i64 0))),(2,.v (.c (.i .i64 (L.length:Int)))),(3,.v (.c (.f 50))),(8,.v (.c (.i .i64 (p:Int)))),(9,.v (.c (.i .i64 (i.1:Int))))],[(100000,49,aw aD (Ae (bp aY cY (L.take p)) (L.drop (p+1)) (L.getD p aY) i.1)++rs)]⟩) (fun i=>i.1) ⟨p,ce _,rfl⟩ (ao ⟨rfl,rfl,rfl,rfl,rfl,rfl,trivial⟩ ⟨congrArg (fun q=>some (49,aw aD q++rs)) (Kk g1),trivial⟩ rfl) ?_
  rintro⟨j,h3,h4⟩
  replace h3:j≤p:=h3
  replace h4:pE aY cY (L.getD p aY) (bp aY cY (L.take p)) p=pE aY cY (L.getD p aY) (bp aY cY (L.take p)) j:=h4
  dsimp only
  refine aa<|aa<|ln 17 rfl rfl<|dt 3 ?_
  refine PM (bz rfl) (fun c2 hb2=>?_)
  cases c2
  ·have g2:j=0:=by have:=of_decide_eq_false hb2;omega
   refine yo<|dk<|ba<|a8 rfl<|a7<|ag<|ar (cb (by omega) rfl) ?_
   exact⟨⟨p+1,by omega,g1⟩,ao ⟨rfl,rfl,rfl,rfl,rfl,trivial⟩ ⟨congrArg (fun q=>some (49,aw aD q++rs)) (zi g1 (h4.trans (FK (.inl g2)))),trivial⟩ rfl,by show L.length-(p+1)<L.length-p;omega⟩
  ·have g2:0<j:=by have:=of_decide_eq_true hb2;omega
   have hjl:j≤(bp aY cY (L.take p)).length:=by rw[hOl];exact h3
   refine dt 3<|bD (bq gF rfl rfl (by omega) rfl) ?_
   refine bD (bZ (us:=aD (L.getD p aY)) bW rfl rfl ((jM (e:=aY) (O:=(Ae (bp aY cY (L.take p)) (L.drop (p+1)) (L.getD p aY) j)) ai (by rw[iD hjl,hOl,fO];omega)).trans (congrArg aD (EI hjl))) (ai _) rfl) ?_
   refine dt 2<|bD (ci (((j-1:Nat):Int)) ((bO (by omega) (by omega)).trans (congrArg some (by omega))) rfl)<|bD (bq gF rfl rfl (by omega) rfl) ?_
   refine bD (bZ (us:=aD ((bp aY cY (L.take p)).getD (j-1) aY)) bW rfl rfl ((jM (e:=aY) (O:=(Ae (bp aY cY (L.take p)) (L.drop (p+1)) (L.getD p aY) j)) ai (by rw[iD hjl,hOl,fO];omega)).trans (congrArg aD (EZ g2 hjl))) (ai _) rfl) ?_
   refine bD (cj rfl (aav (hG _ (bj g1)) (hG _ (BZ ((kT _).mem_iff.1 (bj (show j-1<(bp aY cY (L.take p)).length by rw[hOl];omega)))))))<|yo<|dk<|ba ?_
   refine aI rfl (fun hc3=>?_) (fun hc3=>?_)
   ·have g3:cY (L.getD p aY) ((bp aY cY (L.take p)).getD (j-1) aY)<0:=of_decide_eq_true hc3
    refine aA<|aa<|aB<|pJ 16 [100000,999999] dM (by kernel_rfl) rfl rfl<|dt 4<|bD (ci (((j-1:Nat):Int)) ((bO (by omega) (by omega)).trans (congrArg some (by omega))) rfl)<|dt 2<|bD (ci (((j-1:Nat):Int)) ((bO (by omega) (by omega)).trans (congrArg some (by omega))) rfl)<|bD (bq gF rfl rfl (by omega) rfl) ?_
    refine CZ (by kernel_rfl) (bZ (us:=aD ((bp aY cY (L.take p)).getD (j-1) aY)) bW rfl rfl ((jM (e:=aY) (O:=(Ae (bp aY cY (L.take p)) (L.drop (p+1)) (L.getD p aY) j)) ai (by rw[iD hjl,hOl,fO];omega)).trans (congrArg aD (EZ g2 hjl))) (ai _) rfl) ?_
    refine dt 2<|bD (bq gF rfl rfl (by omega) rfl) ?_
    refine CZ (by kernel_rfl) (bZ (us:=aD (L.getD p aY)) bW rfl rfl ((jM (e:=aY) (O:=(Ae (bp aY cY (L.take p)) (L.drop (p+1)) (L.getD p aY) j)) ai (by rw[iD hjl,hOl,fO];omega)).trans (congrArg aD (EI hjl))) (ai _) rfl) ?_
    refine bD (bq gF rfl rfl (by omega) rfl) ?_
    refine jb (bd (us:=aw aD ((Ae (bp aY cY (L.take p)) (L.drop (p+1)) (L.getD p aY) j).set j ((bp aY cY (L.take p)).getD (j-1) aY))++rs) bW rfl rfl rfl (ai _) (by rw[dm,am ai,iD hjl,hOl,fO];omega) (v8 ai (by rw[iD hjl,hOl,fO];omega) _) rfl) rfl rfl rfl rfl ?_
    refine jY<|sE<|aR (bq gF rfl rfl (by omega) rfl) ?_
    refine f8 (bd (us:=aw aD (((Ae (bp aY cY (L.take p)) (L.drop (p+1)) (L.getD p aY) j).set j ((bp aY cY (L.take p)).getD (j-1) aY)).set (j-1) (L.getD p aY))++rs) bW rfl rfl rfl (ai _) (by rw[dm,am ai,xT,iD hjl,hOl,fO];omega) (v8 ai (by rw[xT,iD hjl,hOl,fO];omega) _) rfl) ?_
    refine ba<|ag<|ar (ci (((j-1:Nat):Int)) ((bO (by omega) (by omega)).trans (congrArg some (by omega))) rfl) ?_
    exact⟨⟨j-1,by omega,h4.trans (RL g2 g3)⟩,ao ⟨rfl,rfl,rfl,rfl,rfl,rfl,trivial⟩ ⟨congrArg (fun q=>some (49,aw aD q++rs)) (O2 g2 hjl),trivial⟩ rfl,by show j-1<j;omega⟩
   ·have g3: ¬cY (L.getD p aY) ((bp aY cY (L.take p)).getD (j-1) aY)<0:=of_decide_eq_false hc3
    refine a7<|ag<|ar (cb (by omega) rfl) ?_
    exact⟨⟨p+1,by omega,g1⟩,ao ⟨rfl,rfl,rfl,rfl,rfl,trivial⟩ ⟨congrArg (fun q=>some (49,aw aD q++rs)) (zi g1 (h4.trans (FK (.inr g3)))),trivial⟩ rfl,by show L.length-(p+1)<L.length-p;omega⟩
 ·have hp:p=L.length:=by have:=of_decide_eq_false hc1;omega
  refine a7 ?_
  exact⟨.inl rfl,congrArg (fun q=>some (49,aw aD q++rs)) (by rw[hp,Ld])⟩
theorem YK:Ok Tryz.prog 243 [.c (.s 0 []),.c (.i .i64 0),.c (.i .i64 0),.c (.f 50)] []:=by
 refine ca Tryz.func243 rfl<|ar (iU (r:=1) rfl rfl rfl rfl) ?_
 refine DW.mk<|bh (ι:=Nat) (fun i=>match i with|_=>⟨53,[(0,.v (.c (.s 0 []))),(1,.v (.c (.i .i64 0))),(2,.v (.c (.i .i64 0))),(3,.v (.c (.f 50))),(8,.v (.c (.i .i64 1)))],[]⟩) (fun i=>0-i) 0 (ao ⟨rfl,rfl,rfl,rfl,rfl,trivial⟩ trivial rfl) ?_
 intro i
 match i with
 |_=>
  show Dw _ _ ⟨53,[(0,.v (.c (.s 0 []))),(1,.v (.c (.i .i64 0))),(2,.v (.c (.i .i64 0))),(3,.v (.c (.f 50))),(8,.v (.c (.i .i64 1)))],[]⟩ _
  refine no<|qQ rfl ?_
  exact HS ae
theorem TW {x:Nat}(hx:x≤12):Ok Tryz.prog 252 [.c (.i .u64 (x:Int))] [.c (.i .i64 (bl x))]:=by
 have b1:=Y5 x
 refine eH Tryz.func252 25 [.tmp 2] rfl<|aa<|ag<|aa<|aa<|bg<|bK 1<|aR (aP (c:=false) (dF rfl) (decide_eq_false (by omega))) ?_
 refine ba<|a8 rfl<|aA<|aa<|aa<|bg<|bK 1<|aR (aP (c:=false) (dF rfl) (decide_eq_false (by omega))) ?_
 refine ba<|a8 rfl<|aA<|aa<|aa<|bg<|bK 1<|aR (aP (c:=false) (dF rfl) (decide_eq_false (by omega))) ?_
 refine ba<|a8 rfl<|aA<|aa<|ag<|ar (b6 (r:=(x:Int)) fM Ym rfl (aaa (by omega) (by omega)) rfl) ?_
 refine ar (Qn (n:=bl x) (by kernel_rfl) rfl ⟨by omega,Int.lt_of_le_of_lt (b:=12) (by omega) (by decide+kernel)⟩ (YX hx (by decide+kernel)) rfl) ?_
 refine ar (b6 (r:=bl x) Ym Ps rfl (qN (by omega) (by omega)) rfl) ?_
 refine ar (ci (bl x) ((bk (by omega) (by omega)).trans (congrArg some (by omega))) rfl)<|aZ ?_
 exact ah (az ae)
theorem UP {x:Nat}(hx:x≤12):Ok Tryz.prog 138 [.c (.i .u64 (x:Int))] [.c (.i .i64 (bl x))]:=by
 refine eH Tryz.func138 8 [.tmp 2] rfl<|aa<|bg<|ex<|aa<|ML<|aA<|aa<|bg<|bK 1<|aR (cj rfl (TW hx))<|ex<|aZ ?_
 exact ah (az ae)
theorem abk {L:List Cv}(hn1:1≤L.length) (hn:L.length≤12) (hG: ∀x∈L,CvV x) :OkS Tryz.prog 137 49 L.length c9 (aw aD L++rs) (aw aD (bp aY cY L)++rs) [.c (.i .i64 0),.c (.i .i64 (L.length:Int)),.c (.i .i64 lm),.c (.f 50)]:=by
 refine OkS.of (K:=100000) (by kernel_rfl) Tryz.func137 rfl rfl rfl rfl ?_
 rw[show Tryz.f137.ntmps=148 from rfl]
 refine aa<|ag<|aa<|ag<|aB ?_
 refine bh (ι:=Nat) (fun i=>match i with|_=>⟨148,[(0,.o 100000 L.length c9),(1,.v (.c (.i .i64 0))),(2,.v (.c (.i .i64 (L.length:Int)))),(3,.v (.c (.i .i64 lm))),(4,.v (.c (.f 50))),(10,.v (.c (.b true))),(11,.v (.c (.b true)))],[(100000,49,aw aD L++rs)]⟩) (fun i=>0-i) 0 (ao ⟨rfl,rfl,rfl,rfl,rfl,rfl,rfl,trivial⟩ ⟨rfl,trivial⟩ rfl) ?_
 intro i
 match i with
 |_=>
  show Dw _ _ ⟨148,[(0,.o 100000 L.length c9),(1,.v (.c (.i .i64 0))),(2,.v (.c (.i .i64 (L.length:Int)))),(3,.v (.c (.i .i64 lm))),(4,.v (.c (.f 50))),(10,.v (.c (.b true))),(11,.v (.c (.b true)))],[(100000,49,aw aD L++rs)]⟩ _
  refine aB<|aa<|ag<|ar (ci ((L.length:Int)) ((bO (by omega) (by omega)).trans (congrArg some (by omega))) rfl)<|aa<|aa<|bg<|bK 1<|aR (aP (c:=true) (dF rfl) (decide_eq_true (by omega))) ?_
  refine ba<|df rfl<|aa<|ag ?_
  refine DL.mk<|sN (kY rfl rfl rfl rfl rfl (ZD hn1 hn hG) rfl)<|dX ?_
  refine aZ ?_
  exact⟨.inr rfl,rfl⟩
theorem Yu:Ok Tryz.prog 137 [.c (.s 0 []),.c (.i .i64 0),.c (.i .i64 0),.c (.i .i64 lm),.c (.f 50)] []:=by
 refine ca Tryz.func137 rfl ?_
 refine DW.mk<|bh (ι:=Nat) (fun i=>match i with|_=>⟨148,[(0,.v (.c (.s 0 []))),(1,.v (.c (.i .i64 0))),(2,.v (.c (.i .i64 0))),(3,.v (.c (.i .i64 lm))),(4,.v (.c (.f 50))),(10,.v (.c (.b true))),(11,.v (.c (.b true)))],[]⟩) (fun i=>0-i) 0 (ao ⟨rfl,rfl,rfl,rfl,rfl,rfl,rfl,trivial⟩ trivial rfl) ?_
 intro i
 match i with
 |_=>
  show Dw _ _ ⟨148,[(0,.v (.c (.s 0 []))),(1,.v (.c (.i .i64 0))),(2,.v (.c (.i .i64 0))),(3,.v (.c (.i .i64 lm))),(4,.v (.c (.f 50))),(10,.v (.c (.b true))),(11,.v (.c (.b true)))],[]⟩ _
  refine no<|ar (iU (r:=0) rfl rfl rfl rfl) ?_
  refine tg rfl<|ac rfl (YK) ?_
  exact ah ae
theorem abJ {L:List Cv}(hn1:1≤L.length) (hn:L.length≤12) (hG: ∀x∈L,CvV x):OkS Tryz.prog 49 49 L.length c9 (aw aD L++rs) (aw aD (bp aY cY L)++rs) [.c (.f 50)]:=by
 refine OkS.of (K:=100000) (by kernel_rfl) Tryz.func49 rfl rfl rfl rfl ?_
 rw[show Tryz.f49.ntmps=14 from rfl]
 refine aa<|ag<|ar (iv gF rfl rfl) ?_
 refine ag<|ar (b6 (r:=(L.length:Int)) Ps EQ rfl (iB (by omega) (by omega)) rfl) ?_
 refine ac rfl (UP hn) ?_
 refine DL.mk<|sN (kY rfl rfl rfl rfl rfl (abk hn1 hn hG) rfl)<|dX ?_
 exact⟨.inl rfl,rfl⟩
theorem Zu:Ok Tryz.prog 49 [.c (.s 0 []),.c (.f 50)] []:=by
 refine ca Tryz.func49 rfl ?_
 refine ar (b6 (r:=0) Ps EQ rfl (rfl) rfl) ?_
 refine ac rfl ((show Ok _ _ [.c (.i .u64 0)] [.c (.i .i64 0)] from UP (x:=0) (by decide)))<|ac rfl (Yu) ?_
 exact HS ae
end Go.Proofs.YtegpmhlfjkhjmaaGreat
