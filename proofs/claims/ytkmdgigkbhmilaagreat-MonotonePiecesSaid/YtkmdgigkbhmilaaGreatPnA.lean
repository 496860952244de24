/-Plain:numbers as they may come in (limbs as they are),and when they are numbers in reduced form. -/
import Derived.Test.YtkmdgigkbhmilaaGreatNbV
namespace Go.Proofs.YtkmdgigkbhmilaaGreat
open Go Go.RowKit
def U32s (xs:List Int):Prop:= ∀x∈xs,0≤x∧x≤4294967295
theorem u32_getD {xs:List Int}(h:U32s xs) (i:Nat):0≤xs.getD i 0∧xs.getD i 0≤4294967295:=by
 by_cases hi:i<xs.length
 ·have:xs.getD i 0=xs[i]:=by simp[List.getD,hi]
  rw[this];exact h _ (List.getElem_mem hi)
 ·have:xs.getD i 0=0:=by rw[List.getD,List.getElem?_eq_none (by omega)];rfl
  rw[this];omega
def vI (neg:Bool) (xs:List Int):Bool:=xs.all (fun x=>decide (x<1000000000))&&((trm xs).length==xs.length)&&(!neg||decide (0<xs.length))
theorem vI_bad {neg:Bool}{xs:List Int}{k:Nat}(hk:k<xs.length) (h:xs.getD k 0≥1000000000):vI neg xs=false:=by
 have h1:xs.all (fun x=>decide (x<1000000000))=false:=by
  rw[Bool.eq_false_iff]
  intro hall
  have h2:=List.all_eq_true.1 hall xs[k] (List.getElem_mem hk)
  have h3:xs.getD k 0=xs[k]:=by simp[List.getD,hk]
  simp only[decide_eq_true_eq] at h2
  omega
 unfold vI
 rw[h1];rfl
theorem lim_of_all {xs:List Int}(hb:U32s xs) (h: ∀k,k<xs.length→xs.getD k 0<1000000000):Lim xs:=by
 intro x hx
 obtain⟨i,hi,rfl⟩:=List.getElem_of_mem hx
 have h1:=h i hi
 have h3:xs.getD i 0=xs[i]:=by simp[List.getD,hi]
 have:=hb xs[i] (List.getElem_mem hi)
 omega
theorem all_of_lim {xs:List Int}(h:Lim xs):xs.all (fun x=>decide (x<1000000000))=true:=List.all_eq_true.2 fun x hx=>by have:=h x hx;simp;omega
theorem vI_lim {neg:Bool}{xs:List Int}(h:Lim xs):vI neg xs=(((trm xs).length==xs.length)&&(!neg||decide (0<xs.length))):=by
 unfold vI;rw[all_of_lim h];rfl
theorem vI_ref {neg:Bool}{xs:List Int}(h:Lim xs):vI neg xs=((((du (val xs).natAbs).length:Int)==(xs.length:Int))&&(!neg||decide ((xs.length:Int)>0))):=by
 rw[vI_lim h,E1 h]
 congr 1
 ·rw[Bool.eq_iff_iff,beq_iff_eq,beq_iff_eq];omega
 ·simp
theorem sSqrt_ok {x:Rat}(hx:Rz 300 x):Ok Tryz.prog 71 [dR x] [dQ (if go x then bP x.num else 0) (if go x then bP (x.den:Int) else 0),.c (.b (go x))]:=nJ (hx.mono (by decide))
theorem nValid_ok {neg:Bool}{xs:List Int}(hb:U32s xs) (hn:xs.length≤1000):Ok Tryz.prog 136 [.a (([.b neg]++[cM xs]))] [.c (.b (vI neg xs))]:=by
 refine Ok.fn Tryz.func136 36 [.tmp 2] rfl<|aa<|ab<|ag<|aa<|aa<|ab<|ag<|aJ<|bD (ι:={k:Nat // k≤xs.length∧ ∀j,j<k→xs.getD j 0<1000000000}) (fun i=>⟨36,[(1,.p 1 0),(3,.v (.c (.i .i64 (i.1:Int))))],[(1,33,([.b neg]++[cM xs]))]⟩) (fun i=>xs.length-i.1) ⟨0,Nat.zero_le _,fun j hj=>by omega⟩ (aM ⟨rfl,rfl,trivial⟩ ⟨rfl,trivial⟩ rfl) ?_
 rintro⟨k,hk0,hall⟩
 replace hk0:k≤xs.length:=hk0
 replace hall: ∀j,j<k→xs.getD j 0<1000000000:=hall
 have hg:=u32_getD hb k
 show Dw _ _ ⟨36,[(1,.p 1 0),(3,.v (.c (.i .i64 (k:Int))))],[(1,33,([.b neg]++[cM xs]))]⟩ _
 refine aa<|aa<|ab<|ag ?_
 refine aw rfl (fun hc1=>?_) (fun hc1=>?_)
 ·have hk:k<xs.length:=by simp only[decide_eq_true_eq] at hc1;omega
  refine ao<|aa<|aJ<|aa<|ab<|al 3<|ah (aW gX rfl rfl (by omega) (ig _) rfl rfl) ?_
  refine ah (cU eQ rfl (iW (i:=k) (by omega)) rfl) ?_
  refine ag ?_
  refine aw rfl (fun hc2=>?_) (fun hc2=>?_)
  ·have hbad:xs.getD k 0≥1000000000:=by simpa using hc2
   refine aa<|ab<|ag<|an ?_
   rw[vI_bad hk hbad]
   exact aq (aE ae)
  ·have hok: ¬xs.getD k 0≥1000000000:=by simpa using hc2
   have hstep: ∀j,j<k+1→xs.getD j 0<1000000000:=fun j hj=>by
    rcases Nat.lt_or_ge j k with h1|h1
    ·exact hall j h1
    ·rw[show j=k from by omega];omega
   refine ao<|ab<|al 1<|ah (aK (r:=(k:Int)+1) rfl rfl (aQ (by omega) (by omega)) rfl) ?_
   refine ag ?_
   exact⟨⟨k+1,hk,hstep⟩,aM ⟨rfl,by rw[show((k+1:Nat):Int)=(k:Int)+1 from by omega];rfl,trivial⟩ ⟨rfl,trivial⟩ rfl,by show xs.length-(k+1)<xs.length-k;omega⟩
 ·have hk:k=xs.length:=by simp only[decide_eq_false_iff_not] at hc1;omega
  have hL:Lim xs:=lim_of_all hb (by rw[←hk];exact hall)
  refine bj<|aa<|aR 20 rfl rfl<|ap 2<|aj (am rfl (jj hL (by omega)))<|ap 5 ?_
  refine fb (bN rfl) (fun c3 hb3=>?_)
  cases c3
  ·refine bk<|az<|ar<|an ?_
   rw[vI_ref hL,hb3,Bool.false_and]
   exact aq (aE ae)
  ·refine ap 3 ?_
   refine fb (bN rfl) (fun c4 hb4=>?_)
   cases c4
   ·refine bk<|az<|ar<|an ?_
    rw[vI_ref hL,hb3,hb4,Bool.false_or,Bool.true_and]
    exact aq (aE ae)
   ·refine bk<|az<|ar<|an ?_
    rw[vI_ref hL,hb3,hb4,Bool.true_or,Bool.true_and]
    exact aq (aE ae)
theorem vI_I {x:Int}:vI (decide (x<0)) (du x.natAbs)=true:=by
 unfold vI
 rw[all_of_lim (bW _),show trm (du x.natAbs)=du x.natAbs from gY _]
 by_cases h:x<0
 ·have:du x.natAbs≠ []:=fun e=>by have:=dZ.1 e;omega
  have:=List.length_pos_iff.2 this
  simp[h,this]
 ·simp[h]
theorem u32_lim (v:Nat):U32s (du v):=fun x hx=>by have:=bW v x hx;omega
theorem nValid_I {x:Int}(hx:Sz 1000 x):Ok Tryz.prog 136 [dI x] [.c (.b true)]:=by
 have:=nValid_ok (neg:=decide (x<0)) (xs:=du x.natAbs) (u32_lim _) (fR hx)
 rw[vI_I] at this;exact this
theorem vQ_of (x:Rat):vQ x.num (x.den:Int)=true:=by
 unfold vQ
 simp only[Bool.and_eq_true,decide_eq_true_eq,beq_iff_eq]
 refine⟨den_pos x,?_⟩
 have:Int.gcd x.num (x.den:Int)=1:=x.reduced
 rw[this];rfl
theorem vQ_n1 {x y:Int}(h:(dS y 0 !=1)=true):vQ x y=false:=by
 unfold vQ
 have h1: ¬0<y:=fun e=>by rw[eA e] at h;cases h
 rw[show decide (0<y)=false from by simpa using h1];rfl
theorem n1_ne {y:Int}(h:(dS y 0 !=1)=false):y≠0:=fun e=>by rw[hJ e] at h;cases h
theorem vQ_e1 {x y:Int}(h:(dS y 0 !=1)=false):vQ x y=(((Int.gcd x y:Nat):Int)==1):=by
 unfold vQ
 have h1:0<y:=by
  rcases Int.lt_trichotomy y 0 with e|e|e
  ·rw[ew e] at h;cases h
  ·rw[hJ e] at h;cases h
  ·exact e
 rw[show decide (0<y)=true from by simpa using h1,Bool.true_and]
theorem r_eqb {x:Rat}:(aV x 0==0)=decide (x=0):=by rw[Bool.eq_iff_iff,beq_iff_eq,decide_eq_true_eq,lP]
theorem r_gtb {x:Rat}:decide (aV x 0>0)=decide (0<x):=by rw[Bool.eq_iff_iff,decide_eq_true_eq,decide_eq_true_eq];exact vW
theorem vPt_z {b1 b2 c:Rat}(h:(aV b1 0==0)=true) (h2:(aV b2 0==0)=true):sI b1 b2 c=(aV c 0==0):=by
 unfold sI;rw[if_pos ⟨mC h,mC h2⟩,r_eqb]
theorem vPt_1 {b1 b2 c:Rat}(h:(aV b1 0==0)=false):sI b1 b2 c=(decide (aV c 0>0)&& !go c):=by
 unfold sI;rw[if_neg (fun e=>jT h e.1),r_gtb]
theorem vPt_2 {b1 b2 c:Rat}(h:(aV b2 0==0)=false):sI b1 b2 c=(decide (aV c 0>0)&& !go c):=by
 unfold sI;rw[if_neg (fun e=>jT h e.2),r_gtb]
theorem sValidB {x y:Int}(hx:Sz 999 x) (hy:Sz 999 y):Ok Tryz.prog 70 [dQ x y] [.c (.b (vQ x y))]:=by
 have hx1:Sz 1000 x:=hx.m_
 have hy1:Sz 1000 y:=hy.m_
 refine Ok.fn Tryz.func70 26 [.tmp 2] rfl<|aa<|ab<|ag<|aa<|aa<|ab<|al 1<|ah (aF (cI x) bU rfl)<|ah (am rfl (nValid_I (by assumption)))<|al 3<|ah (aF (cI y) bU rfl)<|ah (am rfl (nValid_I (by assumption)))<|al 4 ?_
 refine ah (aF (cI y) bU rfl)<|ah (am rfl (sm))<|ag ?_
 refine aw rfl (fun hc1=>?_) (fun hc1=>?_)
 ·refine aa<|ab<|ag<|an ?_
  rw[vQ_n1 hc1]
  exact aq (aE ae)
 ·have hgc:Sz 1000000 ((Int.gcd x y:Nat):Int):=(Sz.gcd (x:=x) hy (n1_ne hc1)).m_
  refine ao<|aa<|ab<|al 1<|ah (aF (cI x) bU rfl)<|al 1<|ah (aF (cI y) bU rfl)<|ah (am rfl (zO (fm hx) (fm hy)))<|ah (am rfl (CC))<|ah (am rfl (pr (JE) (fm (Sz.small (k:=3) (by decide) (by decide) (by decide)))))<|ag<|an ?_
  rw[vQ_e1 hc1]
  exact aq (aE ae)
theorem sValid_R {x:Rat}(hx:Rz 999 x):Ok Tryz.prog 70 [dR x] [.c (.b true)]:=by
 have:=sValidB hx.n hx.d
 rw[vQ_of] at this;exact this
theorem rpValid_R {a1 b1 a2 b2 c:Rat}(ha1:Rz 300 a1) (hb1:Rz 300 b1) (ha2:Rz 300 a2) (hb2:Rz 300 b2) (hc:Rz 300 c):Ok Tryz.prog 186 [.a ((cR a1++cR b1++cR a2++cR b2++cR c))] [.c (.b (sI b1 b2 c))]:=by
 refine Ok.fn Tryz.func186 61 [.tmp 2] rfl<|aa<|ab<|ag<|aa<|aa<|ab<|al 1<|ah (aF (cR a1) aD rfl)<|ah (am rfl (sValid_R (aX ha1)))<|al 3<|ah (aF (cR a2) aD rfl)<|ah (am rfl (sValid_R (aX ha2)))<|al 4 ?_
 refine ah (aF (cR b1) aD rfl)<|ah (am rfl (sValid_R (aX hb1)))<|al 4<|ah (aF (cR b2) aD rfl)<|ah (am rfl (sValid_R (aX hb2)))<|al 4<|ah (aF (cR c) aD rfl)<|ah (am rfl (sValid_R (aX hc)))<|ag<|aP rfl<|ao<|aa<|aa<|ab ?_
 refine al 1<|ah (aF (cR b1) aD rfl)<|ah (am rfl (fl))<|al 1 ?_
 refine cg (bN rfl) (fun c1 hb1=>?_)
 cases c1
 ·refine ag<|aP rfl<|ao<|aa<|ab<|al 1<|ah (aF (cR c) aD rfl)<|ah (am rfl (sSqrt_ok (aX hc)))<|al 3<|aC (ai bJ rfl) rfl<|ag<|aa<|ab<|al 1 ?_
  refine ah (aF (cR c) aD rfl)<|ah (am rfl (fl))<|al 1 ?_
  refine cg (bN rfl) (fun c2 hb2=>?_)
  cases c2
  ·refine ag<|an ?_
   rw[vPt_1 hb1,hb2,Bool.false_and]
   exact aq (aE ae)
  ·refine ag<|an ?_
   rw[vPt_1 hb1,hb2,Bool.true_and]
   exact aq (aE ae)
 ·refine al 1<|ah (aF (cR b2) aD rfl)<|ah (am rfl (fl))<|ag ?_
  refine aw rfl (fun hc3=>?_) (fun hc3=>?_)
  ·refine aa<|ab<|al 1<|ah (aF (cR c) aD rfl)<|ah (am rfl (fl))<|ag<|an ?_
   rw[vPt_z hb1 hc3]
   exact aq (aE ae)
  ·refine ao<|aa<|ab<|al 1<|ah (aF (cR c) aD rfl)<|ah (am rfl (sSqrt_ok (aX hc)))<|al 3<|aC (ai bJ rfl) rfl<|ag<|aa<|ab<|al 1<|ah (aF (cR c) aD rfl)<|ah (am rfl (fl)) ?_
   refine al 1 ?_
   refine cg (bN rfl) (fun c4 hb4=>?_)
   cases c4
   ·refine ag<|an ?_
    rw[vPt_2 hc3,hb4,Bool.false_and]
    exact aq (aE ae)
   ·refine ag<|an ?_
    rw[vPt_2 hc3,hb4,Bool.true_and]
    exact aq (aE ae)
end Go.Proofs.YtkmdgigkbhmilaaGreat
namespace Go.Proofs.YtkmdgigkbhmilaaGreat
set_option maxRecDepth 100000 in
theorem cyc_turn: ∀(uf up uq:Bool) (i j l:Fin 3),C3 (i3 i) (i3 j) (i3 l)=true→
 Di (Cp up uf (i3 i)) (Cp uq uf (i3 j)) (Cp up uq (i3 l))=vJ (GA up uf (i3 i)) (GA uq uf (i3 j)) (GA up uq (i3 l)):=by decide+kernel
end Go.Proofs.YtkmdgigkbhmilaaGreat
namespace Go.Proofs.YtkmdgigkbhmilaaGreat
open Go Go.RowKit
theorem ord_ccw {k:Ci}{f t p q:Pt}(hf:GP f) (hp:GP p) (hq:GP q):(Cv.arc k false f t).ord p q=xb k f p q:=by
 show qE k f p q=_
 have ht:=jS (b9 hf) (b9 hp) (b9 hq)
 obtain⟨i,hi⟩:=fP (fC p f)
 obtain⟨j,hj⟩:=fP (fC q f)
 obtain⟨l,hl⟩:=fP (fC p q)
 have h:=cyc_turn (ji k f) (ji k p) (ji k q) i j l (by rw[←hi,←hj,←hl];exact ht)
 rw[←hi,←hj,←hl] at h
 exact h
theorem monS_T {l:Ln}{p q:Pt}(h:decide (cP p q≥0)=true):(Cv.seg l p q).mono=false:=by show(!_)=false;rw[h];rfl
theorem monS_F {l:Ln}{p q:Pt}(h:decide (cP p q≥0)=false):(Cv.seg l p q).mono=true:=by show(!_)=true;rw[h];rfl
theorem monA_T {k:Ci}{w:Bool}{p q:Pt}(h:decide (cP p q≥0)=true):(Cv.arc k w p q).mono=false:=by show(!_&&_)=false;rw[h];rfl
theorem monA_Ff {k:Ci}{w:Bool}{p q:Pt}(h:decide (cP p q≥0)=false) (g:(!(Cv.arc k w p q).inner (jt k))=false):(Cv.arc k w p q).mono=false:=by show(!_&&(_&&_))=false;rw[h,g];rfl
theorem monA_Ft {k:Ci}{w:Bool}{p q:Pt}(h:decide (cP p q≥0)=false) (g:(!(Cv.arc k w p q).inner (jt k))=true):(Cv.arc k w p q).mono= !(Cv.arc k w p q).inner (i9 k):=by show(!_&&(_&&_))=_;rw[h,g];rfl
theorem mnIsS {l:Ln}(_hl:GL l) {f t:Pt}(hf:GP f) (ht:GP t):Ok Tryz.prog 42 [.a (([.b false]++dV l++cS++[.b false]++au f++au t))] [.c (.b ((Cv.seg l f t).mono))]:=by
 refine Ok.fn Tryz.func42 30 [.tmp 2] rfl<|aa<|ab<|ag<|aa<|aa<|ab<|al 1<|ah (cD (au f) bo rfl (by kernel_rfl))<|al 1<|ah (cD (au t) bo rfl (by kernel_rfl))<|ah (am rfl (yS hf ht))<|ag ?_
 refine aw rfl (fun hc1=>?_) (fun hc1=>?_)
 ·refine aa<|ab<|ag<|an ?_
  rw[monS_T (l:=l) hc1]
  exact aq (aE ae)
 ·refine ao<|aa<|aa<|ab<|ag<|bg rfl<|aa<|ab<|ag<|an ?_
  rw[monS_F (l:=l) hc1]
  exact aq (aE ae)
theorem mnIsA {w:Bool}{k:Ci}(hk:GK k) (h0:0<k.q) {f t:Pt}(of:OnK k f) (ot:OnK k t):Ok Tryz.prog 42 [.a (([.b true]++cS++ca k++[.b w]++au f++au t))] [.c (.b ((Cv.arc k w f t).mono))]:=by
 have hf:=of.1
 have ht:=ot.1
 have gL:=qY hk h0
 have gR:=q6 hk h0
 refine Ok.fn Tryz.func42 30 [.tmp 2] rfl<|aa<|ab<|ag<|aa<|aa<|ab<|al 1<|ah (cD (au f) bo rfl (by kernel_rfl))<|al 1<|ah (cD (au t) bo rfl (by kernel_rfl))<|ah (am rfl (yS hf ht))<|ag ?_
 refine aw rfl (fun hc1=>?_) (fun hc1=>?_)
 ·refine aa<|ab<|ag<|an ?_
  rw[monA_T (k:=k) (w:=w) hc1]
  exact aq (aE ae)
 ·refine ao<|aa<|aa<|ab<|ag<|aP rfl<|ao<|aa<|ab<|al 1<|ah (cD (ca k) mJ rfl (by kernel_rfl))<|ah (am rfl (Pm hk h0))<|al 3<|aC (ai fO rfl) rfl ?_
  refine aC (ai fO rfl) rfl<|ag<|aa<|ab<|al 2<|ah (am rfl (J9 hk h0 of ot gL))<|al 1 ?_
  refine cg (bN rfl) (fun c2 hb2=>?_)
  cases c2
  ·refine ag<|an ?_
   rw[monA_Ff hc1 hb2]
   exact aq (aE ae)
  ·refine al 2<|ah (am rfl (J9 hk h0 of ot gR))<|ag<|an ?_
   rw[monA_Ft hc1 hb2]
   exact aq (aE ae)
theorem mnIs {c:Cv}(hc:CvV c):Ok Tryz.prog 42 [.a (aB c)] [.c (.b c.mono)]:=by
 cases c with
 |seg l f t=>exact mnIsS hc.g.1 hc.g.2.1 hc.g.2.2
 |arc k w f t=>exact mnIsA hc.g.1 hc.pos ⟨hc.g.2.1,cb.1 hc.sp⟩ ⟨hc.g.2.2,cb.1 hc.sq⟩
section
variable {k:Ci}{p:Pt}(hk:GK k) (hp:GP p)
include hk hp
omit hk in
omit hk in
omit hk in
omit hk hp in
omit hk hp in
omit hk in
omit hk in
omit hk in
omit hk hp in
omit hk in
omit hk in
end
theorem curv_ss {l m:Ln}{p q r s:Pt}:i6 (.seg l p q) (.seg m r s)=0:=by
 rw[um (c:=.seg l p q) (d:=.seg m r s) (decide_eq_false (Int.lt_irrefl 0)) (decide_eq_false (Int.lt_irrefl 0))]
 show-0*aV 0 0=0
 rw[Int.neg_zero,Int.zero_mul]
section
variable {c d:Cv}{s t:Slp}{side:Int}(gs:SlG s) (gt:SlG t)
include gs
include gt
set_option linter.unusedSectionVars false
variable (hs:side=1∨side= -1) (q1:decide (rk s side<rk t side)=false) (q2:decide (rk s side>rk t side)=false)
include hs q1 q2
set_option linter.unusedSectionVars true
end
theorem tr_le {a b c:Int}(h:RA a b c=true) (h1:a≤0) (h2:b≤0):c≤0:=by
 unfold RA at h
 rw[decide_eq_true h1,decide_eq_true h2,Bool.and_eq_true,Bool.and_eq_true] at h
 simpa using h.1.1
section
variable {k:Ci}{w:Bool}{f t:Pt}(h0:0<k.q) (of:OnK k f)
include h0 of
omit h0 of in
end
def T3 (a b c:Int):Prop:=(a≤0→b≤0→c≤0)∧(a<0→b≤0→c<0)∧(a≤0→b<0→c<0)
theorem sg_tr (x y z:Re):T3 (bR (x-y)) (bR (y-z)) (bR (x-z)):=by
 have e:x-z=(x-y)+(y-z):=Re.ext fun n=>by simp only[bt,bp]<;>grind
 rw[e]
 generalize x-y=X
 generalize y-z=Y
 have h1:=cF X
 have h2:=cF Y
 unfold T3
 by_cases a:bR X=0
 ·rw[gN a];omega
 ·by_cases b:bR Y=0
  ·rw[dy _ b];omega
  ·by_cases c:bR X=bR Y
   ·rw[gJ c];omega
   ·omega
theorem cmpR_tr (x y z:Rat):T3 (aV x y) (aV y z) (aV x z):=by
 rw[lG,lG,lG];exact sg_tr _ _ _
theorem cmpR_rt (x y z:Rat):T3 (-aV x y) (-aV y z) (-aV x z):=by
 have h:=cmpR_tr z y x
 rw[n7 y z,n7 x y,n7 x z] at h
 unfold T3 at h⊢
 omega
section
variable {p q r:Pt}(hp:0≤p.c) (hq:0≤q.c) (hr:0≤r.c)
include hp hq hr
theorem cP_tr:T3 (cP p q) (cP q r) (cP p r):=by
 have h1:T3 (cx p q) (cx q r) (cx p r):=by rw[iQ hp hq,iQ hq hr,iQ hp hr];exact sg_tr _ _ _
 have h2:T3 (cy p q) (cy q r) (cy p r):=by rw[tZ hp hq,tZ hq hr,tZ hp hr];exact sg_tr _ _ _
 have h3:T3 (cx r q) (cx q p) (cx r p):=by rw[iQ hr hq,iQ hq hp,iQ hr hp];exact sg_tr _ _ _
 rw[fe hq hr,fe hp hq,fe hp hr] at h3
 have e: ∀(a b:Pt),cP a b=if cx a b≠0 then cx a b else cy a b:=fun _ _=>rfl
 rw[e,e,e]
 unfold T3 at*
 by_cases a:cx p q=0
 ·by_cases b:cx q r=0
  ·have c:cx p r=0:=by omega
   rw[if_neg (by omega),if_neg (by omega),if_neg (by omega)];exact h2
  ·rw[if_neg (by omega),if_pos b,if_pos (by omega)];omega
 ·by_cases b:cx q r=0
  ·rw[if_pos a,if_neg (by omega),if_pos (by omega)];omega
  ·rw[if_pos a,if_pos b]
   by_cases c:cx p r=0
   ·rw[if_neg (by omega)];omega
   ·rw[if_pos c];exact h1
end
theorem bnd_cs (c:Cv):c.bnd=0∨c.bnd=1∨c.bnd= -1:=by have:=th c;omega
theorem curv_tr (c d e:Cv):T3 (i6 c d) (i6 d e) (i6 c e):=by
 have h1:=cmpR_tr c.qq d.qq e.qq
 have h2:=cmpR_rt c.qq d.qq e.qq
 have hc:=bnd_cs c
 have hd:=bnd_cs d
 have he:=bnd_cs e
 unfold i6
 by_cases a:c.bnd=d.bnd
 ·by_cases b:d.bnd=e.bnd
  ·rw[if_neg (by omega),if_neg (by omega),if_neg (by omega),if_neg (by omega),if_neg (by omega),if_neg (by omega),←a]
   rcases hc with g|g|g<;>rw[g]
   ·unfold T3;omega
   ·unfold T3 at h2⊢;omega
   ·unfold T3 at h1⊢;omega
  ·rw[if_neg (show ¬c.bnd<d.bnd by omega),if_neg (show ¬c.bnd>d.bnd by omega),←a]
   rw[←a] at b
   unfold T3
   split<;>(try split)<;>omega
 ·by_cases b:d.bnd=e.bnd
  ·rw[if_neg (show ¬d.bnd<e.bnd by omega),if_neg (show ¬d.bnd>e.bnd by omega),←b]
   unfold T3
   split<;>(try split)<;>omega
  ·unfold T3
   split<;>(try split)<;>(try split)<;>(try split)<;>(try split)<;>(try split)<;>omega
def Slp.val:Slp→Re
 | .vl a b e=>dX a b e
 |_=>Re.of 0
theorem vcmp_val {s t:Slp}(gs:SlG s) (gt:SlG t) (h1:s.n=0) (h2:t.n=0):s.vcmp t=bR (s.val-t.val):=by
 obtain⟨a,b,e,rfl⟩:=tU gs h1
 obtain⟨x,y,z,rfl⟩:=tU gt h2
 exact jH (gs.sz _ _ _ rfl).c0 (gt.sz _ _ _ rfl).c0
def bsdE (c d:Cv) (s t:Slp):Int:=
 match s with
 | .vt=>0
 | .st n=>n*aV c.qq d.qq
 | .vl _ _ _=>if s.vcmp t=0 then i6 c d else 1*s.vcmp t
theorem bsd_E (c d:Cv) (s t:Slp):o6 c d s t 1=if rk s 1<rk t 1 then-1 else if rk s 1>rk t 1 then 1 else bsdE c d s t:=rfl
theorem bsdE_tr {c d e:Cv}{s t u:Slp}(gs:SlG s) (gt:SlG t) (gu:SlG u) (h1:s.n=t.n) (h2:t.n=u.n):T3 (bsdE c d s t) (bsdE d e t u) (bsdE c e s u):=by
 cases s with
 |vt=>
  have:t=.vt:=by cases t with
   |vt=>rfl
   |st n=>have:=gt.st n rfl;simp only[Slp.n] at h1;omega
   |vl a b e=>simp only[Slp.n] at h1;omega
  subst this
  show T3 0 0 0
  unfold T3;omega
 |st n=>
  have hn:=gs.st n rfl
  have:t=.st n:=by cases t with
   |vt=>simp only[Slp.n] at h1;omega
   |st m=>simp only[Slp.n] at h1;rw[h1]
   |vl a b e=>simp only[Slp.n] at h1;omega
  subst this
  show T3 (n*aV c.qq d.qq) (n*aV d.qq e.qq) (n*aV c.qq e.qq)
  rcases hn with g|g<;>subst g
  ·have:=cmpR_tr c.qq d.qq e.qq
   rw[Int.one_mul,Int.one_mul,Int.one_mul];exact this
  ·have:=cmpR_rt c.qq d.qq e.qq
   unfold T3 at this⊢;omega
 |vl a b x=>
  have e1:=vcmp_val gs gt rfl h1.symm
  have e2:=vcmp_val gt gu h1.symm (h2.symm.trans h1.symm)
  have e3:=vcmp_val gs gu rfl (h2.symm.trans h1.symm)
  obtain⟨a',b',x',rfl⟩:=tU gt h1.symm
  have h:=sg_tr (Slp.vl a b x).val (Slp.vl a' b' x').val u.val
  have hr:=sg_tr u.val (Slp.vl a' b' x').val (Slp.vl a b x).val
  rw[j8 (Slp.vl a' b' x').val u.val,j8 (Slp.vl a b x).val (Slp.vl a' b' x').val,j8 (Slp.vl a b x).val u.val] at hr
  rw[←e1,←e2,←e3] at h hr
  have hc:=curv_tr c d e
  show T3 (if (Slp.vl a b x).vcmp (.vl a' b' x')=0 then i6 c d else 1*(Slp.vl a b x).vcmp (.vl a' b' x')) (if (Slp.vl a' b' x').vcmp u=0 then i6 d e else 1*(Slp.vl a' b' x').vcmp u) (if (Slp.vl a b x).vcmp u=0 then i6 c e else 1*(Slp.vl a b x).vcmp u)
  generalize (Slp.vl a b x).vcmp (.vl a' b' x')=v1 at*
  generalize (Slp.vl a' b' x').vcmp u=v2 at*
  generalize (Slp.vl a b x).vcmp u=v3 at*
  unfold T3 at*
  by_cases z1:v1=0
  ·by_cases z2:v2=0
   ·have z3:v3=0:=by omega
    rw[if_pos z1,if_pos z2,if_pos z3];exact hc
   ·rw[if_pos z1,if_neg z2,if_neg (by omega)];omega
  ·by_cases z2:v2=0
   ·rw[if_neg z1,if_pos z2,if_neg (by omega)];omega
   ·rw[if_neg z1,if_neg z2]
    by_cases z3:v3=0
    ·rw[if_pos z3];omega
    ·rw[if_neg z3];omega
theorem rk_n {s:Slp}:rk s 1=s.n:=by cases s<;>rfl
theorem bsd_tr {c d e:Cv}{s t u:Slp}(gs:SlG s) (gt:SlG t) (gu:SlG u):T3 (o6 c d s t 1) (o6 d e t u 1) (o6 c e s u 1):=by
 rw[bsd_E,bsd_E,bsd_E,rk_n,rk_n,rk_n]
 by_cases a:s.n=t.n
 ·by_cases b:t.n=u.n
  ·rw[if_neg (by omega),if_neg (by omega),if_neg (by omega),if_neg (by omega),if_neg (by omega),if_neg (by omega)]
   exact bsdE_tr gs gt gu a b
  ·rw[if_neg (show ¬s.n<t.n by omega),if_neg (show ¬s.n>t.n by omega),a]
   unfold T3
   split<;>(try split)<;>omega
 ·by_cases b:t.n=u.n
  ·rw[if_neg (show ¬t.n<u.n by omega),if_neg (show ¬t.n>u.n by omega),←b]
   unfold T3
   split<;>(try split)<;>omega
  ·unfold T3
   split<;>(try split)<;>(try split)<;>(try split)<;>(try split)<;>(try split)<;>omega
section
variable {c d e:Cv}(hc:CvV c) (hd:CvV d) (he:CvV e)
include hc hd
theorem cmpV_anti:dK d c= -dK c d:=by
 have h1:=fQ (b9 (cn hc.g)) (b9 (cn hd.g))
 have h2:=fQ (b9 (cH hc.g)) (b9 (cH hd.g))
 have h3:=(wj hc.g hd.g).1
 unfold dK
 by_cases a:cP c.p d.p=0
 ·rw[if_neg (show ¬cP d.p c.p≠0 by omega),if_neg (show ¬cP c.p d.p≠0 by omega)]
  by_cases b:jl c d=0
  ·rw[if_neg (show ¬jl d c≠0 by omega),if_neg (show ¬jl c d≠0 by omega)];exact h2
  ·rw[if_pos (show jl d c≠0 by omega),if_pos b];exact h3
 ·rw[if_pos (show cP d.p c.p≠0 by omega),if_pos a];exact h1
include he
theorem cmpV_tr (h1:dK c d≤0) (h2:dK d e≤0):dK c e≤0:=by
 have p1:=b9 (cn hc.g)
 have p2:=b9 (cn hd.g)
 have p3:=b9 (cn he.g)
 have hP:=cP_tr p1 p2 p3
 have hQ:=cP_tr (b9 (cH hc.g)) (b9 (cH hd.g)) (b9 (cH he.g))
 have hB:=bsd_tr (c:=c) (d:=d) (e:=e) (kE hc.g (cn hc.g)) (kE hd.g (cn hd.g)) (kE he.g (cn he.g))
 unfold dK jl at*
 by_cases a:cP c.p d.p=0
 ·by_cases b:cP d.p e.p=0
  ·rw[if_neg (by omega),if_pos a] at h1
   rw[if_neg (by omega),if_pos b] at h2
   by_cases g:cP c.p e.p=0
   ·rw[if_neg (by omega),if_pos g]
    generalize o6 c d (c.slp c.p) (d.slp d.p) 1=r1 at*
    generalize o6 d e (d.slp d.p) (e.slp e.p) 1=r2 at*
    generalize o6 c e (c.slp c.p) (e.slp e.p) 1=r3 at*
    unfold T3 at hB hQ
    split at h1<;>split at h2<;>split<;>omega
   ·rw[if_pos g];exact hP.1 (by omega) (by omega)
  ·rw[if_pos b] at h2
   have:=hP.2.2 (by omega) (by omega)
   rw[if_pos (by omega)];omega
 ·rw[if_pos a] at h1
  have h2':cP d.p e.p≤0:=by
   by_cases b:cP d.p e.p=0
   ·omega
   ·rw[if_pos b] at h2;exact h2
  have:=hP.2.1 (by omega) h2'
  rw[if_pos (by omega)];omega
end
theorem z_add {x y:Re}(h:bR x=0) (g:bR y=0):bR (x+y)=0:=by rw[gN h,g]
theorem z_mul (y:Re) {x:Re}(h:bR x=0):bR (y*x)=0:=by rw[cj,h,Int.mul_zero]
theorem z_neg {x:Re}(h:bR x=0):bR (-x)=0:=by rw[dz,h];rfl
theorem z_of {x y:Rat}(h:bR (Re.of x-Re.of y)=0):x=y:=by
 rw[←lG] at h
 have:aV (x-y) 0=0:=by rw[mw];exact h
 have:=fu.1 this
 grind
theorem z_can {x y:Re}(h:bR (x*y)=0) (hx:bR x≠0):bR y=0:=by
 rw[cj] at h
 exact(Int.mul_eq_zero.1 h).resolve_left hx
theorem same_xy {p q:Pt}(hp:GP p) (hq:GP q) (h:cP p q=0):bR (pX p-pX q)=0∧bR (pY p-pY q)=0:=by
 obtain⟨a,b⟩:=gC.1 h
 rw[iQ (b9 hp) (b9 hq)] at a
 rw[tZ (b9 hp) (b9 hq)] at b
 exact⟨a,b⟩
theorem seg_det {l m:Ln}{f t u v:Pt}(vc:CvV (.seg l f t)) (vd:CvV (.seg m u v)) (hp:cP f u=0) (hq:cP t v=0):
 l.a*m.b=l.b*m.a∧l.a*m.c=l.c*m.a∧l.b*m.c=l.c*m.b:=by
 have hf:=vc.g.2.1
 have ht:=vc.g.2.2
 have hu:=vd.g.2.1
 have hv:=vd.g.2.2
 have s1:d9 l f=0:=by have:=vc.sp;simpa [Cv.supp,Cv.p] using this
 have s2:d9 l t=0:=by have:=vc.sq;simpa [Cv.supp,Cv.q] using this
 have s3:d9 m u=0:=by have:=vd.sp;simpa [Cv.supp,Cv.p] using this
 have s4:d9 m v=0:=by have:=vd.sq;simpa [Cv.supp,Cv.q] using this
 rw[mx hf] at s1
 rw[mx ht] at s2
 rw[mx hu] at s3
 rw[mx hv] at s4
 obtain⟨x1,y1⟩:=same_xy hf hu hp
 obtain⟨x2,y2⟩:=same_xy ht hv hq
 have hne:cP f t≠0:=vc.ne
 have eX:bR (Re.of (l.a*m.b-l.b*m.a)*(pX t-pX f))=0:=by
  rw[show Re.of (l.a*m.b-l.b*m.a)*(pX t-pX f)=(Re.of m.b*sP l t+ -(Re.of m.b*sP l f))+(-(Re.of l.b*sP m v)+(Re.of l.b*sP m u+(-(Re.of (l.b*m.a)*(pX t-pX v))+(Re.of (l.b*m.a)*(pX f-pX u)+(-(Re.of (l.b*m.b)*(pY t-pY v))+Re.of (l.b*m.b)*(pY f-pY u)))))) from
   Re.ext fun n=>by unfold sP;simp only[bt,bp,bK,cJ,bT];grind]
  exact z_add (z_add (z_mul _ s2) (z_neg (z_mul _ s1))) (z_add (z_neg (z_mul _ s4)) (z_add (z_mul _ s3) (z_add (z_neg (z_mul _ x2)) (z_add (z_mul _ x1) (z_add (z_neg (z_mul _ y2)) (z_mul _ y1))))))
 have eY:bR (Re.of (l.a*m.b-l.b*m.a)*(pY t-pY f))=0:=by
  rw[show Re.of (l.a*m.b-l.b*m.a)*(pY t-pY f)=(-(Re.of m.a*sP l t)+Re.of m.a*sP l f)+(Re.of l.a*sP m v+(-(Re.of l.a*sP m u)+(Re.of (l.a*m.a)*(pX t-pX v)+(-(Re.of (l.a*m.a)*(pX f-pX u))+(Re.of (l.a*m.b)*(pY t-pY v)+ -(Re.of (l.a*m.b)*(pY f-pY u))))))) from
   Re.ext fun n=>by unfold sP;simp only[bt,bp,bK,cJ,bT];grind]
  exact z_add (z_add (z_neg (z_mul _ s2)) (z_mul _ s1)) (z_add (z_mul _ s4) (z_add (z_neg (z_mul _ s3)) (z_add (z_mul _ x2) (z_add (z_neg (z_mul _ x1)) (z_add (z_mul _ y2) (z_neg (z_mul _ y1)))))))
 have hD:l.a*m.b-l.b*m.a=0:=by
  rw[cj,dN] at eX eY
  rcases Int.mul_eq_zero.1 eX with g|g
  ·exact fu.1 g
  ·rcases Int.mul_eq_zero.1 eY with e|e
   ·exact fu.1 e
   ·exfalso
    refine hne (gC.2 ⟨?_,?_⟩)
    ·rw[iQ (b9 hf) (b9 ht),j8,g];rfl
    ·rw[tZ (b9 hf) (b9 ht),j8,e];rfl
 refine⟨by grind,z_of ?_,z_of ?_⟩
 ·rw[show Re.of (l.a*m.c)-Re.of (l.c*m.a)=(Re.of m.a*sP l f+ -(Re.of l.a*sP m u))+(-(Re.of (l.a*m.a)*(pX f-pX u))+(-(Re.of (l.a*m.b)*(pY f-pY u))+Re.of (l.a*m.b-l.b*m.a)*pY f)) from
   Re.ext fun n=>by unfold sP;simp only[bt,bp,bK,cJ,bT];grind]
  exact z_add (z_add (z_mul _ s1) (z_neg (z_mul _ s3))) (z_add (z_neg (z_mul _ x1)) (z_add (z_neg (z_mul _ y1)) (by rw[hD,cj,dN,eG,Int.zero_mul])))
 ·rw[show Re.of (l.b*m.c)-Re.of (l.c*m.b)=(Re.of m.b*sP l f+ -(Re.of l.b*sP m u))+(-(Re.of (l.b*m.a)*(pX f-pX u))+(-(Re.of (l.b*m.b)*(pY f-pY u))+ -(Re.of (l.a*m.b-l.b*m.a)*pX f))) from
   Re.ext fun n=>by unfold sP;simp only[bt,bp,bK,cJ,bT];grind]
  exact z_add (z_add (z_mul _ s1) (z_neg (z_mul _ s3))) (z_add (z_neg (z_mul _ x1)) (z_add (z_neg (z_mul _ y1)) (z_neg (by rw[hD,cj,dN,eG,Int.zero_mul]))))
theorem eqR_t {x y:Rat}(h:x=y):pf x y=true:=by unfold pf;rw[h,eG];rfl
theorem eqR_e {x y:Rat}(h:pf x y=true):x=y:=by
 unfold pf at h
 have:=beq_iff_eq.1 h
 rw[lG] at this
 exact z_of this
theorem slp_val {k:Ci}{p:Pt}(hp:GP p) (h:fT p k.y≠0):bR (dX (nG k p) (gF k p) (zc (gF k p) p.c)*(pY p-Re.of k.y)+(pX p-Re.of k.x))=0:=by
 have hn:=AB hp h
 have hz:p.b2*p.b2*zc p.b2 p.c=p.b2*p.b2*p.c:=by
  by_cases e:p.b2=0
  ·rw[e];grind
  ·rw[fS e]
 have hN:nf k p*((p.a2-k.y)*(p.a2-k.y)-p.b2*p.b2*p.c)=1:=by
  rw[hz] at hn
  unfold nf qV
  rw[hz]
  exact Rat.div_mul_cancel hn
 have h1:nG k p*(p.a2-k.y)+gF k p*p.b2*p.c+(p.a1-k.x)=0:=by
  unfold nG gF
  generalize nf k p=N at hN
  grind
 have h2:nG k p*p.b2+gF k p*(p.a2-k.y)+p.b1=0:=by
  unfold nG gF
  generalize nf k p=N at hN
  grind
 have hr:=ry (b9 hp)
 rw[show dX (nG k p) (gF k p) (zc (gF k p) p.c)=qu (nG k p) (gF k p) p.c from rfl,og]
 unfold pX pY
 rw[og,og]
 generalize nG k p=A at*
 generalize gF k p=B at*
 rw[show(Re.of A+Re.of B*Re.rt p.c)*(Re.of p.a2+Re.of p.b2*Re.rt p.c-Re.of k.y)+(Re.of p.a1+Re.of p.b1*Re.rt p.c-Re.of k.x)=Re.of (B*p.b2)*(Re.rt p.c*Re.rt p.c-Re.of p.c) from
  Re.ext fun n=>by
   simp only[bt,bp,bK,cJ]
   generalize (Re.rt p.c).s n=r
   have h3:(A*p.b2+B*(p.a2-k.y)+p.b1)*r=0:=by rw[h2];grind
   grind]
 exact z_mul _ hr
theorem pw_z {k:Ci}{p:Pt}(op:OnK k p):bR ((pX p-Re.of k.x)*(pX p-Re.of k.x)+(pY p-Re.of k.y)*(pY p-Re.of k.y)-Re.of k.q)=0:=pq op
theorem ci_same {k d:Ci}{p u:Pt}(op:OnK k p) (ou:OnK d u) (hpu:cP p u=0) (hq:k.q=d.q) (S T:Re) (hST:bR (S-T)=0)
 (h1:bR (S*(pY p-Re.of k.y)+(pX p-Re.of k.x))=0) (h2:bR (T*(pY u-Re.of d.y)+(pX u-Re.of d.x))=0) (hs:bR (pY p-Re.of k.y)=bR (pY u-Re.of d.y)) (hn:bR (pY p-Re.of k.y)≠0):k.x=d.x∧k.y=d.y:=by
 obtain⟨x1,y1⟩:=same_xy op.1 ou.1 hpu
 have w1:=pw_z op
 have w2:=pw_z ou
 have eX:pX p-Re.of k.x-(pX u-Re.of d.x)=(pX p-pX u)+ -(Re.of k.x-Re.of d.x):=Re.ext fun n=>by simp only[bt,bp,bT];grind
 have eY:pY p-Re.of k.y-(pY u-Re.of d.y)=(pY p-pY u)+ -(Re.of k.y-Re.of d.y):=Re.ext fun n=>by simp only[bt,bp,bT];grind
 generalize hX1:pX p-Re.of k.x=X1 at*
 generalize hX2:pX u-Re.of d.x=X2 at*
 generalize hY1:pY p-Re.of k.y=Y1 at*
 generalize hY2:pY u-Re.of d.y=Y2 at*
 have e1:bR ((Re.of 1+S*S)*((Y1-Y2)*(Y1+Y2)))=0:=by
  rw[show(Re.of 1+S*S)*((Y1-Y2)*(Y1+Y2))=((S*Y1-X1)*(S*Y1+X1)+(X1*X1+Y1*Y1-Re.of k.q))+(-((T*Y2-X2)*(T*Y2+X2))+(-(X2*X2+Y2*Y2-Re.of d.q)+(-(Y2*Y2*(S+T))*(S-T)))) from
   Re.ext fun n=>by rw[hq];simp only[bt,bp,bK,cJ,bT];grind]
  exact z_add (z_add (z_mul _ h1) w1) (z_add (z_neg (z_mul _ h2)) (z_add (z_neg w2) (z_mul _ hST)))
 have e2:bR (Re.of 1+S*S)≠0:=by
  have h3:bR (Re.of 1)=1:=by rw[dN];decide+kernel
  have h4:0≤bR (S*S):=by rw[cj];rcases cF S with g|g|g<;>rw[g]<;>decide
  have:=wy (x:=Re.of 1) (y:=S*S) (by omega) h4
  omega
 have e3:=z_can e1 e2
 have e4:bR (Y1+Y2)=bR Y1:=gJ hs
 have e5:bR (Y1-Y2)=0:=by
  rw[cj,e4] at e3
  exact(Int.mul_eq_zero.1 e3).resolve_right hn
 have ky:k.y=d.y:=by
  have:bR (-(Re.of k.y-Re.of d.y))=0:=by rw[eY,gN y1] at e5;exact e5
  rw[dz] at this
  exact z_of (by omega)
 refine⟨?_,ky⟩
 have e6:bR (X1-X2)=0:=by
  rw[show X1-X2=(S*Y1+X1)+(-(T*Y2+X2)+(-(S*(Y1-Y2))+ -(Y2*(S-T)))) from Re.ext fun n=>by simp only[bt,bp,bK,bT];grind]
  exact z_add h1 (z_add (z_neg h2) (z_add (z_neg (z_mul _ e5)) (z_neg (z_mul _ hST))))
 have:bR (-(Re.of k.x-Re.of d.x))=0:=by rw[eX,gN x1] at e6;exact e6
 rw[dz] at this
 exact z_of (by omega)
theorem ci_left {k d:Ci}{p u:Pt}(op:OnK k p) (ou:OnK d u) (hpu:cP p u=0) (hq:k.q=d.q) (h1:fT p k.y=0) (h2:fT u d.y=0) (n1:lH p k.x<0) (n2:lH u d.x<0):k.x=d.x∧k.y=d.y:=by
 obtain⟨x1,y1⟩:=same_xy op.1 ou.1 hpu
 rw[lT (ck op)] at h1
 rw[lT (ck ou)] at h2
 rw[kQ (ck op)] at n1
 rw[kQ (ck ou)] at n2
 have w1:=pw_z op
 have w2:=pw_z ou
 have eX:pX p-Re.of k.x-(pX u-Re.of d.x)=(pX p-pX u)+ -(Re.of k.x-Re.of d.x):=Re.ext fun n=>by simp only[bt,bp,bT];grind
 have eY:pY p-Re.of k.y-(pY u-Re.of d.y)=(pY p-pY u)+ -(Re.of k.y-Re.of d.y):=Re.ext fun n=>by simp only[bt,bp,bT];grind
 generalize hX1:pX p-Re.of k.x=X1 at*
 generalize hX2:pX u-Re.of d.x=X2 at*
 generalize hY1:pY p-Re.of k.y=Y1 at*
 generalize hY2:pY u-Re.of d.y=Y2 at*
 have e1:bR ((X1-X2)*(X1+X2))=0:=by
  rw[show(X1-X2)*(X1+X2)=(X1*X1+Y1*Y1-Re.of k.q)+(-(X2*X2+Y2*Y2-Re.of d.q)+(-(Y1*Y1)+Y2*Y2)) from Re.ext fun n=>by rw[hq];simp only[bt,bp,bK,cJ,bT];grind]
  exact z_add w1 (z_add (z_neg w2) (z_add (z_neg (z_mul _ h1)) (z_mul _ h2)))
 have c1:=cF X1
 have c2:=cF X2
 have e4:bR (X1+X2)=bR X1:=gJ (by omega)
 have e5:bR (X1-X2)=0:=by
  rw[cj,e4] at e1
  exact(Int.mul_eq_zero.1 e1).resolve_right (by omega)
 constructor
 ·have:bR (-(Re.of k.x-Re.of d.x))=0:=by rw[eX,gN x1] at e5;exact e5
  rw[dz] at this
  exact z_of (by omega)
 ·have e6:bR (Y1-Y2)=0:=by
   rw[show Y1-Y2=Y1+ -Y2 from Re.ext fun n=>by simp only[bt,bp,bT]<;>grind]
   exact z_add h1 (z_neg h2)
  have:bR (-(Re.of k.y-Re.of d.y))=0:=by rw[eY,gN y1] at e6;exact e6
  rw[dz] at this
  exact z_of (by omega)
def eqC (c d:Cv):Bool:=fV c d&&((c.cw==d.cw)&&(cP c.p d.p==0&&cP c.q d.q==0))
theorem rgt_same {c d:Cv}(vc:CvV c) (vd:CvV d) (mc:c.mono=true) (md:d.mono=true) (hp:cP c.p d.p=0) (hq:cP c.q d.q=0) (h:jl c d=0):fV c d=true∧c.cw=d.cw:=by
 unfold jl at h
 rw[if_pos hp,bsd_E,rk_n,rk_n] at h
 have hr:(c.slp c.p).n=(d.slp d.p).n:=by
  by_cases a:(c.slp c.p).n=(d.slp d.p).n
  ·exact a
  ·exfalso
   split at h
   ·omega
   ·split at h<;>omega
 rw[if_neg (by omega),if_neg (by omega)] at h
 cases c with
 |seg l f t=>
  cases d with
  |seg m u v=>
   obtain⟨a,b,e⟩:=seg_det vc vd hp hq
   exact⟨by show(pf _ _&&pf _ _&&pf _ _)=true;rw[eqR_t a,eqR_t b,eqR_t e];rfl,rfl⟩
  |arc d x u v=>
   exfalso
   have e1:(Cv.seg l f t).slp f=if l.b=0 then Slp.vt else .vl (-l.a/l.b) 0 0:=rfl
   have e2:(Cv.arc d x u v).slp u=if fT u d.y=0 then Slp.st (if x then 1 else-1) else .vl (nG d u) (gF d u) (zc (gF d u) u.c):=rfl
   have h:bsdE (.seg l f t) (.arc d x u v) ((Cv.seg l f t).slp f) ((Cv.arc d x u v).slp u)=0:=h
   have hr:((Cv.seg l f t).slp f).n=((Cv.arc d x u v).slp u).n:=hr
   rw[e1,e2] at h hr
   have hx:(if x=true then(1:Int) else-1)=1∨(if x=true then(1:Int) else-1)= -1:=by cases x<;>simp
   by_cases a:l.b=0
   ·rw[if_pos a] at hr
    by_cases b:fT u d.y=0
    ·rw[if_pos b] at hr;simp only[Slp.n] at hr;omega
    ·rw[if_neg b] at hr;simp only[Slp.n] at hr;omega
   ·rw[if_neg a] at hr h
    by_cases b:fT u d.y=0
    ·rw[if_pos b] at hr;simp only[Slp.n] at hr;omega
    ·rw[if_neg b] at h
     unfold bsdE at h
     dsimp only at h
     split at h
     ·unfold i6 at h
      have:=p8 (k:=d) (w:=x) (p:=u) (q:=v)
      have h0:(Cv.seg l f t).bnd=0:=rfl
      rw[h0] at h
      split at h
      ·omega
      ·split at h<;>omega
     ·omega
 |arc k w f t=>
  cases d with
  |seg m u v=>
   exfalso
   have e1:(Cv.seg m u v).slp u=if m.b=0 then Slp.vt else .vl (-m.a/m.b) 0 0:=rfl
   have e2:(Cv.arc k w f t).slp f=if fT f k.y=0 then Slp.st (if w then 1 else-1) else .vl (nG k f) (gF k f) (zc (gF k f) f.c):=rfl
   have h:bsdE (.arc k w f t) (.seg m u v) ((Cv.arc k w f t).slp f) ((Cv.seg m u v).slp u)=0:=h
   have hr:((Cv.arc k w f t).slp f).n=((Cv.seg m u v).slp u).n:=hr
   rw[e1,e2] at h hr
   have hx:(if w=true then(1:Int) else-1)=1∨(if w=true then(1:Int) else-1)= -1:=by cases w<;>simp
   by_cases b:fT f k.y=0
   ·rw[if_pos b] at hr
    by_cases a:m.b=0
    ·rw[if_pos a] at hr;simp only[Slp.n] at hr;omega
    ·rw[if_neg a] at hr;simp only[Slp.n] at hr;omega
   ·rw[if_neg b] at hr h
    by_cases a:m.b=0
    ·rw[if_pos a] at hr;simp only[Slp.n] at hr;omega
    ·rw[if_neg a] at h
     unfold bsdE at h
     dsimp only at h
     split at h
     ·unfold i6 at h
      have:=p8 (k:=k) (w:=w) (p:=f) (q:=t)
      have h0:(Cv.seg m u v).bnd=0:=rfl
      rw[h0] at h
      split at h
      ·omega
      ·split at h<;>omega
     ·omega
  |arc d x u v=>
   have h0:0<k.q:=vc.pos
   have h0':0<d.q:=vd.pos
   have of:OnK k f:=⟨vc.g.2.1,cb.1 vc.sp⟩
   have ot:OnK k t:=⟨vc.g.2.2,cb.1 vc.sq⟩
   have ou:OnK d u:=⟨vd.g.2.1,cb.1 vd.sp⟩
   have ov:OnK d v:=⟨vd.g.2.2,cb.1 vd.sq⟩
   have m1:=tw vc.g.1 h0 of ot mc
   have m2:=tw vd.g.1 h0' ou ov md
   have k1:=kK h0 of
   have k2:=kK h0' ou
   have e1:(Cv.arc k w f t).slp f=if fT f k.y=0 then Slp.st (if w then 1 else-1) else .vl (nG k f) (gF k f) (zc (gF k f) f.c):=rfl
   have e2:(Cv.arc d x u v).slp u=if fT u d.y=0 then Slp.st (if x then 1 else-1) else .vl (nG d u) (gF d u) (zc (gF d u) u.c):=rfl
   have h:bsdE (.arc k w f t) (.arc d x u v) ((Cv.arc k w f t).slp f) ((Cv.arc d x u v).slp u)=0:=h
   have hr:((Cv.arc k w f t).slp f).n=((Cv.arc d x u v).slp u).n:=hr
   have hpu:cP f u=0:=hp
   have gs:=kE vc.g of.1
   have gt:=kE vd.g ou.1
   have fin:k.x=d.x∧k.y=d.y→k.q=d.q→w=x→fV (.arc k w f t) (.arc d x u v)=true∧(Cv.arc k w f t).cw=(Cv.arc d x u v).cw:=fun a b e=>
    ⟨by show(pf _ _&&pf _ _&&pf _ _)=true;rw[eqR_t a.1,eqR_t a.2,eqR_t b];rfl,e⟩
   by_cases a:fT f k.y=0
   ·by_cases b:fT u d.y=0
    ·rw[e1,e2,if_pos a,if_pos b] at hr h
     have hwx:w=x:=by cases w<;>cases x<;>first|rfl|(simp[Slp.n] at hr)
     subst hwx
     have hq:aV k.q d.q=0:=by
      have h:(if w=true then(1:Int) else-1)*aV k.q d.q=0:=h
      rcases Int.mul_eq_zero.1 h with g|g
      ·cases w<;>simp at g
      ·exact g
     have hq:k.q=d.q:=by rw[lG] at hq;exact z_of hq
     refine fin (ci_left of ou hpu hq a b ?_ ?_) hq rfl
     ·cases w with
      |false=>
       rw[if_neg (by decide)] at m1
       rcases k1 with⟨c1,c2,c3⟩|⟨c1,c2⟩|⟨c1,c2,c3⟩|⟨c1,c2⟩
       ·rw[c1] at m1;exact absurd m1.1 (by decide)
       ·omega
       ·exact c3
       ·omega
      |true=>
       rw[if_pos rfl] at m1
       rcases k1 with⟨c1,c2,c3⟩|⟨c1,c2⟩|⟨c1,c2,c3⟩|⟨c1,c2⟩
       ·rw[c1] at m1;exact absurd m1.2.1 (by decide)
       ·omega
       ·exact c3
       ·omega
     ·cases w with
      |false=>
       rw[if_neg (by decide)] at m2
       rcases k2 with⟨c1,c2,c3⟩|⟨c1,c2⟩|⟨c1,c2,c3⟩|⟨c1,c2⟩
       ·rw[c1] at m2;exact absurd m2.1 (by decide)
       ·omega
       ·exact c3
       ·omega
      |true=>
       rw[if_pos rfl] at m2
       rcases k2 with⟨c1,c2,c3⟩|⟨c1,c2⟩|⟨c1,c2,c3⟩|⟨c1,c2⟩
       ·rw[c1] at m2;exact absurd m2.2.1 (by decide)
       ·omega
       ·exact c3
       ·omega
    ·exfalso
     rw[e1,e2,if_pos a,if_neg b] at hr
     cases w<;>simp[Slp.n] at hr
   ·by_cases b:fT u d.y=0
    ·exfalso
     rw[e1,e2,if_neg a,if_pos b] at hr
     cases x<;>simp[Slp.n] at hr
    ·rw[e1,if_neg a] at gs
     rw[e2,if_neg b] at gt
     rw[e1,e2,if_neg a,if_neg b] at h
     have hv:=vcmp_val gs gt rfl rfl
     unfold bsdE at h
     dsimp only at h
     split at h
     ·rename_i hz
      rw[hv] at hz
      have hcv:=h
      unfold i6 at hcv
      have b1:=p8 (k:=k) (w:=w) (p:=f) (q:=t)
      have b2:=p8 (k:=d) (w:=x) (p:=u) (q:=v)
      have hb:(Cv.arc k w f t).bnd=(Cv.arc d x u v).bnd:=by
       split at hcv
       ·omega
       ·split at hcv<;>omega
      rw[if_neg (by omega),if_neg (by omega)] at hcv
      have hQ:aV k.q d.q=0:=(Int.mul_eq_zero.1 hcv).resolve_left (by omega)
      have hQ:k.q=d.q:=by rw[lG] at hQ;exact z_of hQ
      have hwx:w=x:=by
       have hb:(if w=true then(-1:Int) else 1)=(if x=true then(-1:Int) else 1):=hb
       cases w<;>cases x<;>first|rfl|(simp at hb)
      subst hwx
      have s1:=slp_val of.1 a
      have s2:=slp_val ou.1 b
      rw[lT (ck of)] at a
      refine fin (ci_same of ou hpu hQ _ _ hz s1 s2 ?_ a) hQ rfl
      rw[←lT (ck of)] at a
      rw[←lT (ck of),←lT (ck ou)]
      have q1:=fq (f.a2-k.y) f.b2 (zc f.b2 f.c)
      have q2:=fq (u.a2-d.y) u.b2 (zc u.b2 u.c)
      unfold fT at a b k1 k2⊢
      cases w with
      |false=>
       rw[if_neg (by decide)] at m1 m2
       rcases k1 with⟨c1,c2,c3⟩|⟨c1,c2⟩|⟨c1,c2,c3⟩|⟨c1,c2⟩
       ·exact absurd c2 a
       ·rw[c1] at m1;exact absurd m1.1 (by decide)
       ·exact absurd c2 a
       ·rcases k2 with⟨d1,d2,d3⟩|⟨d1,d2⟩|⟨d1,d2,d3⟩|⟨d1,d2⟩
        ·exact absurd d2 b
        ·rw[d1] at m2;exact absurd m2.1 (by decide)
        ·exact absurd d2 b
        ·omega
      |true=>
       rw[if_pos rfl] at m1 m2
       rcases k1 with⟨c1,c2,c3⟩|⟨c1,c2⟩|⟨c1,c2,c3⟩|⟨c1,c2⟩
       ·exact absurd c2 a
       ·rcases k2 with⟨d1,d2,d3⟩|⟨d1,d2⟩|⟨d1,d2,d3⟩|⟨d1,d2⟩
        ·exact absurd d2 b
        ·omega
        ·exact absurd d2 b
        ·rw[d1] at m2;exact absurd m2.2.1 (by decide)
       ·exact absurd c2 a
       ·rw[c1] at m1;exact absurd m1.2.1 (by decide)
     ·rename_i hz
      omega
theorem same_rgt {c d:Cv}(vc:CvV c) (vd:CvV d) (hs:fV c d=true) (hw:c.cw=d.cw) (hp:cP c.p d.p=0) (hq:cP c.q d.q=0):jl c d=0:=by
 unfold jl
 rw[if_pos hp,bsd_E,rk_n,rk_n]
 cases c with
 |seg l f t=>
  cases d with
  |arc d x u v=>cases hs
  |seg m u v=>
   obtain⟨g1,g2,g3⟩:=seg_det vc vd hp hq
   have s1:d9 l f=0:=by have:=vc.sp;simpa [Cv.supp,Cv.p] using this
   have s2:d9 l t=0:=by have:=vc.sq;simpa [Cv.supp,Cv.q] using this
   have s3:d9 m u=0:=by have:=vd.sp;simpa [Cv.supp,Cv.p] using this
   have s4:d9 m v=0:=by have:=vd.sq;simpa [Cv.supp,Cv.q] using this
   have v1:=oK vc.g.1 vc.g.2.1 vc.g.2.2 s1 s2 vc.ne
   have v2:=oK vd.g.1 vd.g.2.1 vd.g.2.2 s3 s4 vd.ne
   have hf:=b9 vc.g.2.1
   have ht:=b9 vc.g.2.2
   have hu:=b9 vd.g.2.1
   have hv:=b9 vd.g.2.2
   have hx:cx f t=cx u v:=by
    have e1:=zj hf hu hp (f:=t) ht
    have e2:=zj ht hv hq (f:=u) hu
    have e3:=fe hu ht
    have e4:=fe hu hv
    omega
   have hb:l.b=0↔m.b=0:=by rw[←v1,←v2,hx]
   have e1:(Cv.seg l f t).slp f=if l.b=0 then Slp.vt else .vl (-l.a/l.b) 0 0:=rfl
   have e2:(Cv.seg m u v).slp u=if m.b=0 then Slp.vt else .vl (-m.a/m.b) 0 0:=rfl
   show(if ((Cv.seg l f t).slp f).n<((Cv.seg m u v).slp u).n then(-1:Int) else if ((Cv.seg l f t).slp f).n>((Cv.seg m u v).slp u).n then 1 else bsdE (.seg l f t) (.seg m u v) ((Cv.seg l f t).slp f) ((Cv.seg m u v).slp u))=0
   rw[e1,e2]
   by_cases a:l.b=0
   ·rw[if_pos a,if_pos (hb.1 a)];rfl
   ·have b:m.b≠0:=fun e=>a (hb.2 e)
    rw[if_neg a,if_neg b]
    have e3: -l.a/l.b= -m.a/m.b:=by
     have q1: -l.a/l.b*l.b= -l.a:=Rat.div_mul_cancel a
     have q2: -m.a/m.b*m.b= -m.a:=Rat.div_mul_cancel b
     generalize-l.a/l.b=x at*
     generalize-m.a/m.b=y at*
     have q3:(x-y)*(l.b*m.b)=0:=by grind
     rcases Rat.mul_eq_zero.1 q3 with g|g
     ·grind
     ·rcases Rat.mul_eq_zero.1 g with g|g
      ·exact absurd g a
      ·exact absurd g b
    rw[e3]
    have gs:SlG (.vl (-m.a/m.b) 0 0):=⟨fun n h=>(by cases h),fun _ _ _ h=>(by cases h;exact JT vd.g.1 b)⟩
    have hv0:=vcmp_val gs gs rfl rfl
    rw[pS] at hv0
    show(if (0:Int)<0 then(-1:Int) else if (0:Int)>0 then 1 else if (Slp.vl (-m.a/m.b) 0 0).vcmp (.vl (-m.a/m.b) 0 0)=0 then i6 (.seg l f t) (.seg m u v) else 1*(Slp.vl (-m.a/m.b) 0 0).vcmp (.vl (-m.a/m.b) 0 0))=0
    rw[if_neg (by decide),if_neg (by decide),if_pos hv0,curv_ss]
 |arc k w f t=>
  cases d with
  |seg m u v=>cases hs
  |arc d x u v=>
   have hs:(pf k.x d.x&&pf k.y d.y&&pf k.q d.q)=true:=hs
   rw[Bool.and_eq_true,Bool.and_eq_true] at hs
   have hk:k=d:=by
    obtain⟨x1,y1,q1⟩:=k
    obtain⟨x2,y2,q2⟩:=d
    have a:=eqR_e hs.1.1
    have b:=eqR_e hs.1.2
    have e:=eqR_e hs.2
    dsimp only at a b e
    rw[a,b,e]
   subst hk
   cases (show w=x from hw)
   have of:OnK k f:=⟨vc.g.2.1,cb.1 vc.sp⟩
   have ou:OnK k u:=⟨vd.g.2.1,cb.1 vd.sp⟩
   have hpu:cP f u=0:=hp
   have hyy:=Bi (ck of) (ck ou) hpu k.y
   have e1:(Cv.arc k w f t).slp f=if fT f k.y=0 then Slp.st (if w then 1 else-1) else .vl (nG k f) (gF k f) (zc (gF k f) f.c):=rfl
   have e2:(Cv.arc k w u v).slp u=if fT u k.y=0 then Slp.st (if w then 1 else-1) else .vl (nG k u) (gF k u) (zc (gF k u) u.c):=rfl
   have gs:=kE vc.g of.1
   have gt:=kE vd.g ou.1
   show(if ((Cv.arc k w f t).slp f).n<((Cv.arc k w u v).slp u).n then(-1:Int) else if ((Cv.arc k w f t).slp f).n>((Cv.arc k w u v).slp u).n then 1 else bsdE (.arc k w f t) (.arc k w u v) ((Cv.arc k w f t).slp f) ((Cv.arc k w u v).slp u))=0
   have hcv:i6 (.arc k w f t) (.arc k w u v)=0:=by
    have hb:(Cv.arc k w f t).bnd=(Cv.arc k w u v).bnd:=rfl
    unfold i6
    rw[if_neg (by omega),if_neg (by omega)]
    show-(Cv.arc k w f t).bnd*aV k.q k.q=0
    rw[eG,Int.mul_zero]
   by_cases a:fT f k.y=0
   ·have b:fT u k.y=0:=by omega
    rw[e1,e2,if_pos a,if_pos b,if_neg (Int.lt_irrefl _),if_neg (Int.lt_irrefl _)]
    show(if w=true then(1:Int) else-1)*aV k.q k.q=0
    rw[eG,Int.mul_zero]
   ·have b:fT u k.y≠0:=by omega
    have s1:=slp_val of.1 a
    have s2:=slp_val ou.1 b
    rw[e1,if_neg a] at gs
    rw[e2,if_neg b] at gt
    have hv:=vcmp_val gs gt rfl rfl
    have hz:(Slp.vl (nG k f) (gF k f) (zc (gF k f) f.c)).vcmp (.vl (nG k u) (gF k u) (zc (gF k u) u.c))=0:=by
     rw[hv]
     show bR (dX (nG k f) (gF k f) (zc (gF k f) f.c)-dX (nG k u) (gF k u) (zc (gF k u) u.c))=0
     obtain⟨x1,y1⟩:=same_xy of.1 ou.1 hpu
     rw[lT (ck of)] at a
     generalize dX (nG k f) (gF k f) (zc (gF k f) f.c)=S at*
     generalize dX (nG k u) (gF k u) (zc (gF k u) u.c)=T at*
     refine z_can (x:=pY f-Re.of k.y) ?_ a
     rw[show(pY f-Re.of k.y)*(S-T)=(S*(pY f-Re.of k.y)+(pX f-Re.of k.x))+(-(T*(pY u-Re.of k.y)+(pX u-Re.of k.x))+(-(T*(pY f-pY u))+ -(pX f-pX u))) from
      Re.ext fun n=>by simp only[bt,bp,bK,cJ,bT];grind]
     exact z_add s1 (z_add (z_neg s2) (z_add (z_neg (z_mul _ y1)) (z_neg x1)))
    rw[e1,e2,if_neg a,if_neg b]
    show(if (0:Int)<0 then(-1:Int) else if (0:Int)>0 then 1 else if (Slp.vl (nG k f) (gF k f) (zc (gF k f) f.c)).vcmp (.vl (nG k u) (gF k u) (zc (gF k u) u.c))=0 then i6 (.arc k w f t) (.arc k w u v) else 1*(Slp.vl (nG k f) (gF k f) (zc (gF k f) f.c)).vcmp (.vl (nG k u) (gF k u) (zc (gF k u) u.c)))=0
    rw[if_neg (by decide),if_neg (by decide),if_pos hz,hcv]
theorem cmpV_eq {c d:Cv}(vc:CvV c) (vd:CvV d) (mc:c.mono=true) (md:d.mono=true):(dK c d==0)=eqC c d:=by
 cases h:eqC c d with
 |true=>
  unfold eqC at h
  rw[Bool.and_eq_true,Bool.and_eq_true,Bool.and_eq_true] at h
  obtain⟨h1,h2,h3,h4⟩:=h
  have a:=beq_iff_eq.1 h3
  have b:=beq_iff_eq.1 h4
  unfold dK
  rw[if_neg (by omega),if_neg (by rw[same_rgt vc vd h1 (beq_iff_eq.1 h2) a b];decide),b];rfl
 |false=>
  cases g:(dK c d==0) with
  |false=>rfl
  |true=>
   exfalso
   have g:=beq_iff_eq.1 g
   unfold dK at g
   by_cases a:cP c.p d.p=0
   ·rw[if_neg (by omega)] at g
    by_cases b:jl c d=0
    ·rw[if_neg (by omega)] at g
     obtain⟨e1,e2⟩:=rgt_same vc vd mc md a g b
     unfold eqC at h
     rw[e1,e2,a,g] at h
     simp at h
    ·rw[if_pos b] at g;exact b g
   ·rw[if_pos a] at g;exact a g
theorem cvEqC {c d:Cv}(hc:c.good) (hd:d.good):Ok Tryz.prog 28 [.a (aB c),.a (aB d)] [.c (.b (eqC c d))]:=by
 refine Ok.fn Tryz.func28 29 [.tmp 4] rfl<|aa<|ab<|ag<|aa<|ab<|ah (aA (us:=aB c) bd rfl rfl (bv _) (ak _) rfl) ?_
 refine ah (aA (us:=aB d) bd rfl rfl (bv _) (ak _) rfl) ?_
 refine ah (am rfl (Ft hc hd)) ?_
 refine cg (bN rfl) (fun c1 hb1=>?_)
 cases c1
 ·refine ag<|an ?_
  rw[show eqC c d=false from by unfold eqC;rw[hb1];rfl]
  exact aq (aE ae)
 ·refine al 1<|ah (bE xf rfl rfl (qA _) rfl) ?_
  refine al 1<|ah (bE xf rfl rfl (qA _) rfl) ?_
  refine ah (wU rfl rfl fp rfl) ?_
  refine al 1 ?_
  refine cg (bN rfl) (fun c2 hb2=>?_)
  cases c2
  ·refine ag<|an ?_
   rw[show eqC c d=false from by unfold eqC;rw[hb1,hb2];rfl]
   exact aq (aE ae)
  ·refine al 1<|ah (aA (us:=au c.p) bo rfl rfl (dW _) rfl rfl) ?_
   refine al 1<|ah (aA (us:=au d.p) bo rfl rfl (dW _) rfl rfl) ?_
   refine ah (am rfl (vD (cn hc) (cn hd)))<|al 1 ?_
   refine cg (bN rfl) (fun c3 hb3=>?_)
   cases c3
   ·refine ag<|an ?_
    rw[show eqC c d=false from by unfold eqC;rw[hb1,hb2,hb3];rfl]
    exact aq (aE ae)
   ·refine al 1<|ah (aA (us:=au c.q) bo rfl rfl (dY _) rfl rfl) ?_
    refine al 1<|ah (aA (us:=au d.q) bo rfl rfl (dY _) rfl rfl) ?_
    refine ah (am rfl (vD (cH hc) (cH hd)))<|ag<|an ?_
    rw[show eqC c d=(cP c.q d.q==0) from by unfold eqC;rw[hb1,hb2,hb3];rfl]
    exact aq (aE ae)
section
variable {α:Type}(e:α) (C:α→α→Int)
variable {e C}
theorem posE_up {x:α}{out:List α}: ∀ {k r:Nat},pk e C x out k≤r→r<k→C x (out.getD r e)<0
 |0,r,_,h=>by omega
 |k+1,r,h1,h2=>by
  unfold pk at h1
  split at h1
  ·rename_i g
   rcases Nat.lt_or_ge r k with h|h
   ·exact posE_up h1 h
   ·rw[show r=k from by omega];exact g
  ·omega
theorem posE_dn {x:α}{out:List α}: ∀ {k:Nat},0<pk e C x out k→ ¬C x (out.getD (pk e C x out k-1) e)<0
 |0,h=>absurd h (Nat.lt_irrefl 0)
 |k+1,h=>by
  unfold pk at h⊢
  by_cases g:C x (out.getD k e)<0
  ·rw[if_pos g] at h⊢;exact posE_dn h
  ·rw[if_neg g] at h⊢;exact g
theorem insE_srt {G:α→Prop}(anti: ∀x y,G x→G y→C y x= -C x y) (trq9: ∀x y z,G x→G y→G z→C x y≤0→C y z≤0→C x z≤0) {out:List α}{x:α}(hx:G x) (hO: ∀y∈out,G y) (h:out.Pairwise fun a b=>C a b≤0):
 (zo e C out x).Pairwise fun a b=>C a b≤0:=by
 have hp:=FL (e:=e) (C:=C) x out out.length
 have up: ∀r,pk e C x out out.length≤r→r<out.length→C x (out.getD r e)<0:=fun r=>posE_up
 have dn:=posE_dn (e:=e) (C:=C) (x:=x) (out:=out) (k:=out.length)
 unfold zo
 generalize pk e C x out out.length=j at hp up dn
 have h2:=h
 rw[←List.take_append_drop j out] at h2
 obtain⟨h3,h4,h5⟩:=List.pairwise_append.1 h2
 have hgt: ∀y∈out.drop j,C x y≤0:=fun y hy=>by
  obtain⟨r,hr,rfl⟩:=List.mem_iff_getElem.1 hy
  rw[List.length_drop] at hr
  have:=up (j+r) (by omega) (by omega)
  rw[List.getD,List.getElem?_eq_getElem (by omega)] at this
  rw[List.getElem_drop]
  have t2:C x (out[j+r]'(by omega))<0:=this
  omega
 have hlt: ∀y∈out.take j,C y x≤0:=fun y hy=>by
  obtain⟨r,hr,rfl⟩:=List.mem_iff_getElem.1 hy
  rw[List.length_take] at hr
  have hj:0<j:=by omega
  have hl:(out.take j).length=j:=by rw[List.length_take];omega
  have g:=dn hj
  have hm:j-1<out.length:=by omega
  rw[List.getD,List.getElem?_eq_getElem hm] at g
  have g2: ¬C x out[j-1]<0:=g
  have g3:=anti x out[j-1] hx (hO _ (List.getElem_mem hm))
  rw[List.getElem_take]
  have hr2:r<out.length:=by omega
  rcases Nat.lt_or_ge r (j-1) with hlt|hge
  ·have g4:C out[r] out[j-1]≤0:=(List.pairwise_iff_getElem.1 h) r (j-1) hr2 hm hlt
   exact trq9 _ _ _ (hO _ (List.getElem_mem hr2)) (hO _ (List.getElem_mem hm)) hx g4 (by omega)
  ·have:r=j-1:=by omega
   subst this;omega
 refine List.pairwise_append.2 ⟨h3,List.pairwise_cons.2 ⟨hgt,h4⟩,fun a ha b hb=>?_⟩
 rcases List.mem_cons.1 hb with rfl|hb
 ·exact hlt a ha
 ·exact h5 a ha b hb
theorem foldE_srt {G:α→Prop}(anti: ∀x y,G x→G y→C y x= -C x y) (trq9: ∀x y z,G x→G y→G z→C x y≤0→C y z≤0→C x z≤0): ∀(L:List α) {O:List α},(∀y∈L,G y)→(∀y∈O,G y)→(O.Pairwise fun a b=>C a b≤0)→
 (L.foldl (zo e C) O).Pairwise fun a b=>C a b≤0
 |[],O,_,_,h=>h
 |x::L,O,hL,hO,h=>by
  rw[List.foldl_cons]
  refine foldE_srt anti trq9 L (fun y hy=>hL y (List.mem_cons_of_mem _ hy)) (fun y hy=>?_) (insE_srt anti trq9 (hL x List.mem_cons_self) hO h)
  rcases List.mem_cons.1 ((Gv O x).mem_iff.1 hy) with rfl|hy
  ·exact hL y List.mem_cons_self
  ·exact hO y hy
theorem perm_eqv {G:α→Prop}(anti: ∀x y,G x→G y→C y x= -C x y) (trq9: ∀x y z,G x→G y→G z→C x y≤0→C y z≤0→C x z≤0): ∀ {A B:List α},A.Perm B→(∀y∈A,G y)→(A.Pairwise fun a b=>C a b≤0)→(B.Pairwise fun a b=>C a b≤0)→
 ∀i,i<A.length→C (A.getD i e) (B.getD i e)=0:=by
 have half: ∀ {A B:List α},A.Perm B→(∀y∈A,G y)→(A.Pairwise fun a b=>C a b≤0)→(B.Pairwise fun a b=>C a b≤0)→ ∀i,i<A.length→C (A.getD i e) (B.getD i e)≤0:=by
  intro A B hp hG hA hB i hi
  have hlen:=hp.length_eq
  have hi2:i<B.length:=by omega
  apply Classical.byContradiction
  intro hn
  have gaq9:G (A.getD i e):=hG _ (b8 (d:=e) hi)
  have hGB: ∀y∈B,G y:=fun y hy=>hG y (hp.mem_iff.2 hy)
  have gb:G (B.getD i e):=hGB _ (b8 (d:=e) hi2)
  have hb: ∀r,r≤i→C (B.getD r e) (A.getD i e)<0:=fun r hr=>by
   have hr2:r<B.length:=by omega
   have g1:C (B.getD r e) (B.getD i e)≤0:=by
    rcases Nat.lt_or_ge r i with h|h
    ·have:=(List.pairwise_iff_getElem.1 hB) r i hr2 hi2 h
     rw[List.getD,List.getElem?_eq_getElem hr2,List.getD,List.getElem?_eq_getElem hi2];exact this
    ·have:r=i:=by omega
     subst this
     have:=anti _ _ gb gb
     omega
   have g2:=anti _ _ gaq9 gb
   apply Classical.byContradiction
   intro g3
   have g4:=anti _ _ (hGB _ (b8 (d:=e) hr2)) gaq9
   have g5:=trq9 _ _ _ gaq9 (hGB _ (b8 (d:=e) hr2)) gb (by omega) g1
   omega
  have hcnt:=hp.countP_eq (fun y=>decide (C y (A.getD i e)<0))
  have h1:A.countP (fun y=>decide (C y (A.getD i e)<0))≤i:=by
   rw[←List.take_append_drop i A,List.countP_append]
   have z:(A.drop i).countP (fun y=>decide (C y ((A.take i++A.drop i).getD i e)<0))=0:=by
    rw[List.take_append_drop]
    refine List.countP_eq_zero.2 fun y hy=>?_
    obtain⟨r,hr,rfl⟩:=List.mem_iff_getElem.1 hy
    rw[List.length_drop] at hr
    rw[List.getElem_drop]
    have hr2:i+r<A.length:=by omega
    have g1:C (A.getD i e) (A[i+r])≤0:=by
     rcases Nat.eq_zero_or_pos r with h|h
     ·subst h
      have:=anti _ _ gaq9 gaq9
      rw[show A.getD i e=A[i] from by rw[List.getD,List.getElem?_eq_getElem hi];rfl] at this⊢
      show C A[i] A[i]≤0
      omega
     ·have:=(List.pairwise_iff_getElem.1 hA) i (i+r) hi hr2 (by omega)
      rw[List.getD,List.getElem?_eq_getElem hi];exact this
    have g2:=anti _ _ gaq9 (hG _ (List.getElem_mem hr2))
    have g3: ¬C (A[i+r]) (A.getD i e)<0:=by omega
    simpa using g3
   rw[z]
   have:=List.countP_le_length (p:=fun y=>decide (C y ((A.take i++A.drop i).getD i e)<0)) (l:=A.take i)
   rw[List.length_take] at this
   omega
  have h2:i+1≤B.countP (fun y=>decide (C y (A.getD i e)<0)):=by
   rw[←List.take_append_drop (i+1) B,List.countP_append]
   have z:(B.take (i+1)).countP (fun y=>decide (C y (A.getD i e)<0))=(B.take (i+1)).length:=by
    refine List.countP_eq_length.2 fun y hy=>?_
    obtain⟨r,hr,rfl⟩:=List.mem_iff_getElem.1 hy
    rw[List.length_take] at hr
    rw[List.getElem_take]
    have hr2:r<B.length:=by omega
    have:=hb r (by omega)
    rw[List.getD,List.getElem?_eq_getElem hr2] at this
    exact decide_eq_true this
   rw[z,List.length_take];omega
  omega
 intro A B hp hG hA hB i hi
 have hlen:=hp.length_eq
 have h1:=half hp hG hA hB i hi
 have h2:=half hp.symm (fun y hy=>hG y (hp.mem_iff.2 hy)) hB hA i (by omega)
 have h3:=anti _ _ (hG _ (b8 (d:=e) hi)) (hG _ (hp.mem_iff.2 (b8 (d:=e) (show i<B.length by omega))))
 omega
variable {enc:α→List CellD}{m:Nat}
end
def pAq9 (kf kt:Fin 4) (i:Int):Bool:=o5 kt kf i&& !(uK kt==uK kf&&i==0)
def pBq9 (kf kt kx:Fin 4) (i j d:Int):Bool:=o5 kx kf j&&(o5 kx kt d&&(C3 j i d&&VZ kf kx kt j i d))
def pCq9 (kx ky:Fin 4) (j l d e g:Int):Bool:=o5 kx ky g&&(C3 j l g&&C3 d e g)
set_option maxRecDepth 1000000 in
theorem ordcw_fin: ∀(kf kt:Fin 4) (i:Fin 3),pAq9 kf kt (i3 i)=true→ ∀(kx:Fin 4) (j d:Fin 3),pBq9 kf kt kx (i3 i) (i3 j) (i3 d)=true→ ∀(ky:Fin 4) (l e:Fin 3),pBq9 kf kt ky (i3 i) (i3 l) (i3 e)=true→ ∀g:Fin 3,pCq9 kx ky (i3 j) (i3 l) (i3 d) (i3 e) (i3 g)=true→
 Di (Cp (uF kx) (uF kf) (-(i3 j))) (Cp (uF ky) (uF kf) (-(i3 l))) (Cp (uF kx) (uF ky) (-(i3 g)))= -vJ (GA (uK kx) (uK kt) (i3 d)) (GA (uK ky) (uK kt) (i3 e)) (GA (uK kx) (uK ky) (i3 g)):=by decide+kernel
theorem ord_cw {k:Ci}{f t x y:Pt}(h0:0<k.q) (of:OnK k f) (ot:OnK k t) (ox:OnK k x) (oy:OnK k y) (hne:cP f t≠0) (hx:(Cv.arc k true f t).on x=true) (hy:(Cv.arc k true f t).on y=true):(Cv.arc k true f t).ord x y= -xb k t x y:=by
 have cf:=ck of
 have ct:=ck ot
 have cx':=ck ox
 have cy':=ck oy
 rw[yy (cb.2 ox.2)] at hx
 rw[yy (cb.2 oy.2)] at hy
 have hx:(decide ((Cv.arc k true f t).ord f x≤0)&&decide ((Cv.arc k true f t).ord x t≤0))=true:=hx
 have hy:(decide ((Cv.arc k true f t).ord f y≤0)&&decide ((Cv.arc k true f t).ord y t≤0))=true:=hy
 rw[AU h0 of ot ox] at hx
 rw[AU h0 of ot oy] at hy
 have t1:=jS cf cx' ct
 have t2:=jS cf cy' ct
 have t3:=jS cf cx' cy'
 have t4:=jS ct cx' cy'
 have m1:=jn h0 ot of
 have m2:=jn h0 ox of
 have m3:=jn h0 ox ot
 have m4:=jn h0 oy of
 have m5:=jn h0 oy ot
 have m6:=jn h0 ox oy
 have hn:(uK (kd k t)==uK (kd k f)&&cx t f==0)=false:=by
  rw[←pK,←pK]
  cases h:(ji k t==ji k f&&cx t f==0) with
  |false=>rfl
  |true=>exact absurd (vn h0 ot of h) (fun e=>hne (by rw[fQ ct cf,e];rfl))
 have e1:xb k t x f=vJ (GA (uK (kd k x)) (uK (kd k t)) (cx x t)) (GA (uK (kd k f)) (uK (kd k t)) (-cx t f)) (GA (uK (kd k x)) (uK (kd k f)) (cx x f)):=by
  unfold xb mk;rw[pK,pK,pK,fe ct cf]
 have e2:xb k t y f=vJ (GA (uK (kd k y)) (uK (kd k t)) (cx y t)) (GA (uK (kd k f)) (uK (kd k t)) (-cx t f)) (GA (uK (kd k y)) (uK (kd k f)) (cx y f)):=by
  unfold xb mk;rw[pK,pK,pK,fe ct cf]
 rw[e1] at hx
 rw[e2] at hy
 show qE k.mir f.flip x.flip y.flip=_
 rw[pn,fL,fL,fL,nd cx' cf,nd cy' cf,nd cx' cy',wi h0 of,wi h0 ox,wi h0 oy]
 unfold xb mk
 rw[pK,pK,pK]
 obtain⟨i,hi⟩:=fP (fC t f)
 obtain⟨j,hj⟩:=fP (fC x f)
 obtain⟨l,hl⟩:=fP (fC y f)
 obtain⟨d,hd⟩:=fP (fC x t)
 obtain⟨e,he⟩:=fP (fC y t)
 obtain⟨g,hg⟩:=fP (fC x y)
 rw[hi] at t1 t2 m1 hn hx hy
 rw[hj] at t1 t3 m2 hx⊢
 rw[hl] at t2 t3 m4 hy⊢
 rw[hd] at t1 t4 m3 hx⊢
 rw[he] at t2 t4 m5 hy⊢
 rw[hg] at t3 t4 m6⊢
 exact ordcw_fin _ _ i (by unfold pAq9;rw[m1,hn];rfl) _ j d (by unfold pBq9 VZ;rw[m2,m3,t1,hx];rfl) _ l e (by unfold pBq9 VZ;rw[m4,m5,t2,hy];rfl) g (by unfold pCq9;rw[m6,t3,t4];rfl)
theorem on_OnK {k:Ci}{w:Bool}{f t x:Pt}(gx:GP x) (h:(Cv.arc k w f t).on x=true):OnK k x:=⟨gx,cb.1 (p9 h)⟩
theorem ordX_eq {c:Cv}(vc:CvV c) (ha:c.isArc=true) {x y:Pt}(gx:GP x) (gyq9:GP y) (hx:c.on x=true) (hy:c.on y=true):ci c x y=c.ord x y:=by
 cases c with
 |seg l f t=>cases ha
 |arc k w f t=>
  cases w with
  |true=>exact(ord_cw vc.pos ⟨vc.g.2.1,cb.1 vc.sp⟩ ⟨vc.g.2.2,cb.1 vc.sq⟩ (on_OnK gx hx) (on_OnK gyq9 hy) vc.ne hx hy).symm
  |false=>exact(ord_ccw vc.g.2.1 gx gyq9).symm
theorem srt_uniq {α:Type}{r:α→α→Prop}: ∀ {A B:List α},(∀a∈A,∀b∈A,r a b→ ¬r b a)→A.Perm B→A.Pairwise r→B.Pairwise r→A=B
 |[],B,_,h,_,_=>h.nil_eq
 |a::A,[],_,h,_,_=>absurd h.length_eq (by simp)
 |a::A,b::B,hs9,h,hA,hB=>by
  have hab:a=b:=by
   apply Classical.byContradiction
   intro hn
   have h1:a∈B:=(List.mem_cons.1 (h.mem_iff.1 List.mem_cons_self)).resolve_left hn
   have h2:b∈A:=(List.mem_cons.1 (h.mem_iff.2 List.mem_cons_self)).resolve_left (Ne.symm hn)
   exact hs9 a List.mem_cons_self b (List.mem_cons_of_mem _ h2) ((List.pairwise_cons.1 hA).1 b h2) ((List.pairwise_cons.1 hB).1 a h1)
  subst hab
  rw[srt_uniq (fun x hx y hy=>hs9 x (List.mem_cons_of_mem _ hx) y (List.mem_cons_of_mem _ hy)) h.cons_inv (List.pairwise_cons.1 hA).2 (List.pairwise_cons.1 hB).2]
section
variable {k:Ci}{w:Bool}{f t:Pt}(vc:CvV (.arc k w f t))
include vc
theorem a_on:OnK k f∧OnK k t:=⟨⟨vc.g.2.1,cb.1 vc.sp⟩,⟨vc.g.2.2,cb.1 vc.sq⟩⟩
theorem ord_lt {x y:Pt}(ox:OnK k x) (oy:OnK k y) (h:(Cv.arc k w f t).ord x y≤0) (hne:cP x y≠0):(Cv.arc k w f t).ord x y<0:=by
 have:(Cv.arc k w f t).ord x y≠0:=fun e=>hne (HU vc.pos (a_on vc).1 ox oy e)
 omega
theorem cut_srt:(f::(bH dPt (ci (.arc k w f t)) (f8 (.arc k w f t))++[t])).Pairwise (fun p q=>(Cv.arc k w f t).ord p q<0)∧ ∀p∈f::(bH dPt (ci (.arc k w f t)) (f8 (.arc k w f t))++[t]),OnK k p:=by
 have of:=(a_on vc).1
 have ot:=(a_on vc).2
 have hp:=jG (e:=dPt) (C:=ci (.arc k w f t)) (f8 (.arc k w f t))
 have hin: ∀p∈f8 (.arc k w f t),OnK k p∧(Cv.arc k w f t).inner p=true:=fun p h=>⟨on_OnK (en vc p h).1 (en vc p h).2,nH p h⟩
 have hS: ∀p∈bH dPt (ci (.arc k w f t)) (f8 (.arc k w f t)),OnK k p∧(Cv.arc k w f t).inner p=true:=fun p h=>hin p (hp.mem_iff.1 h)
 have heq: ∀x∈f8 (.arc k w f t),∀y∈f8 (.arc k w f t),ci (.arc k w f t) x y=(Cv.arc k w f t).ord x y:=fun x hx y hy=>ordX_eq vc rfl (hin x hx).1.1 (hin y hy).1.1 (en vc x hx).2 (en vc y hy).2
 have hs:=foldE_srt (e:=dPt) (C:=ci (.arc k w f t)) (G:=fun p=>p∈f8 (.arc k w f t)) (fun x y hx hy=>by
  rw[heq x hx y hy,heq y hy x hx];exact nQ of (hin x hx).1 (hin y hy).1) (fun x y z hx hy hz h1 h2=>by
  rw[heq x hx y hy] at h1
  rw[heq y hy z hz] at h2
  rw[heq x hx z hz]
  exact tr_le (vY of (hin x hx).1 (hin y hy).1 (hin z hz).1) h1 h2) (f8 (.arc k w f t)) (O:=[]) (fun y hy=>hy) (fun y hy=>by cases hy) .nil
 have hs:(bH dPt (ci (.arc k w f t)) (f8 (.arc k w f t))).Pairwise fun a b=>ci (.arc k w f t) a b≤0:=hs
 have hpw:(bH dPt (ci (.arc k w f t)) (f8 (.arc k w f t))).Pairwise fun a b=>cP a b≠0:=by
  have h3:(f8 (.arc k w f t)).Pairwise fun a b=>cP a b≠0∧GP a∧GP b:=List.Pairwise.imp_of_mem (fun{a b} ha hb g=>⟨g,(en vc a ha).1,(en vc b hb).1⟩) (pG vc)
  have h4:=hp.symm.pairwise h3 (fun{a b} g=>⟨fun e=>g.1 (by rw[fQ (b9 g.2.2) (b9 g.2.1),e];rfl),g.2.2,g.2.1⟩)
  exact h4.imp fun g=>g.1
 have hlt:(bH dPt (ci (.arc k w f t)) (f8 (.arc k w f t))).Pairwise fun p q=>(Cv.arc k w f t).ord p q<0:=
  List.Pairwise.imp_of_mem (fun{a b} ha hb g=>ord_lt vc (hS a ha).1 (hS b hb).1 (by rw[←heq a (hp.mem_iff.1 ha) b (hp.mem_iff.1 hb)];exact g.1) g.2) (hs.and hpw)
 have hon: ∀x,(Cv.arc k w f t).on x=true→OnK k x→(Cv.arc k w f t).ord x t≤0:=fun x hx ox=>by
  rw[yy (cb.2 ox.2),Bool.and_eq_true] at hx;exact of_decide_eq_true hx.2
 refine⟨List.pairwise_cons.2 ⟨fun x hx=>?_,List.pairwise_append.2 ⟨hlt,List.pairwise_singleton _ _,fun x hx y hy=>?_⟩⟩,fun x hx=>?_⟩
 ·rcases List.mem_append.1 hx with hx|hx
  ·exact ord_lt vc of (hS x hx).1 (FN of (hS x hx).1) (fun e=>(nK vc.g (hS x hx).1.1 (hS x hx).2).1 (by show cP x f=0;rw[fQ (ck of) (ck (hS x hx).1),e];rfl))
  ·rw[List.mem_singleton.1 hx];exact ord_lt vc of ot (FN of ot) vc.ne
 ·rw[List.mem_singleton.1 hy]
  exact ord_lt vc (hS x hx).1 ot (hon x (AQ (hS x hx).2) (hS x hx).1) (nK vc.g (hS x hx).1.1 (hS x hx).2).2
 ·rcases List.mem_cons.1 hx with rfl|hx
  ·exact of
  ·rcases List.mem_append.1 hx with hx|hx
   ·exact(hS x hx).1
   ·rw[List.mem_singleton.1 hx];exact ot
theorem srt_is {T:List Pt}(hp:T.Perm (f::(bH dPt (ci (.arc k w f t)) (f8 (.arc k w f t))++[t]))) (hT:T.Pairwise fun p q=>(Cv.arc k w f t).ord p q<0):T=f::(bH dPt (ci (.arc k w f t)) (f8 (.arc k w f t))++[t]):=by
 obtain⟨h1,h2⟩:=cut_srt vc
 refine srt_uniq (fun a ha b hb g g2=>?_) hp hT h1
 have:=nQ (w:=w) (t:=t) (a_on vc).1 (h2 a (hp.mem_iff.1 ha)) (h2 b (hp.mem_iff.1 hb))
 omega
end
theorem pw_same: ∀ {L:List Pt},(∀a∈L,∀b∈L,cP a b=0→cP b a=0)→L.Pairwise (fun a b=>cP a b≠0)→ ∀a∈L,∀b∈L,cP a b=0→a=b
 |[],_,_,_,h,_,_,_=>by cases h
 |x::L,hs,h,a,ha,b,hb,e=>by
  obtain⟨h1,h2⟩:=List.pairwise_cons.1 h
  rcases List.mem_cons.1 ha with rfl|ha'
  ·rcases List.mem_cons.1 hb with rfl|hb'
   ·rfl
   ·exact absurd e (h1 b hb')
  ·rcases List.mem_cons.1 hb with rfl|hb'
   ·exact absurd (hs a ha b hb e) (h1 a ha')
   ·exact pw_same (fun a ha b hb=>hs a (List.mem_cons_of_mem _ ha) b (List.mem_cons_of_mem _ hb)) h2 a ha' b hb' e
theorem rawX_eq {c:Cv}(vc:CvV c):cG c=bc c:=by
 cases c with
 |seg l f t=>rfl
 |arc k w f t=>
  have of:=(a_on vc).1
  have ot:=(a_on vc).2
  obtain⟨h1,h2⟩:=cut_srt vc
  have hp:=jG (e:=dPt) (C:=ci (.arc k w f t)) (f8 (.arc k w f t))
  have hTL:(f::(bH dPt (ci (.arc k w f t)) (f8 (.arc k w f t))++[t])).Perm ([f,t]++f8 (.arc k w f t)):=List.Perm.cons f (List.perm_append_comm.trans (List.Perm.cons t hp))
  have hLon: ∀y∈ [f,t]++f8 (.arc k w f t),OnK k y:=fun y hy=>h2 y (hTL.mem_iff.2 hy)
  obtain⟨g1,g2⟩:=HA (k:=k) (w:=w) (f:=f) (t:=t) vc.pos of hLon
  have hself: ∀x,OnK k x→ ¬(Cv.arc k w f t).ord x x<0:=fun x ox h=>by
   have:=nQ (w:=w) (t:=t) of ox ox
   omega
  have hin: ∀p∈f8 (.arc k w f t),OnK k p∧(Cv.arc k w f t).inner p=true:=fun p h=>⟨on_OnK (en vc p h).1 (en vc p h).2,nH p h⟩
  have pw:([f,t]++f8 (.arc k w f t)).Pairwise fun a b=>cP a b≠0:=by
   refine List.pairwise_cons.2 ⟨fun x hx=>?_,List.pairwise_cons.2 ⟨fun x hx=>?_,pG vc⟩⟩
   ·rcases List.mem_cons.1 hx with rfl|hx
    ·exact vc.ne
    ·exact fun e=>(nK vc.g (hin x hx).1.1 (hin x hx).2).1 (by show cP x f=0;rw[fQ (ck of) (ck (hin x hx).1),e];rfl)
   ·exact fun e=>(nK vc.g (hin x hx).1.1 (hin x hx).2).2 (by show cP x t=0;rw[fQ (ck ot) (ck (hin x hx).1),e];rfl)
  have same:=pw_same (fun a ha b hb e=>by rw[fQ (ck (hLon a ha)) (ck (hLon b hb)),e];rfl) pw
  have ndq9: ∀ {L:List Pt},(∀y∈L,OnK k y)→L.Pairwise (fun p q=>(Cv.arc k w f t).ord p q<0)→L.Nodup:=fun ho hs=>List.Pairwise.imp_of_mem (fun{a b} ha _ hab e=>by subst e;exact hself a (ho a ha) hab) hs
  have hm: ∀z∈cr (.arc k w f t) ([f,t]++f8 (.arc k w f t)),z∈ [f,t]++f8 (.arc k w f t):=fun z hz=>j7 hz
  have key:=srt_is vc ((List.perm_ext_iff_of_nodup (ndq9 (fun y hy=>hLon y (hm y hy)) g1) (ndq9 h2 h1)).2 fun z=>⟨fun hz=>hTL.mem_iff.2 (hm z hz),fun hz=>by
   obtain⟨y,hy,e⟩:=g2 z (hTL.mem_iff.1 hz)
   rw[←same y (hm y hy) z (hTL.mem_iff.1 hz) e];exact hy⟩) g1
  show gT (.arc k w f t) (f::(bH dPt (ci (.arc k w f t)) (f8 (.arc k w f t))++[t]))=gT (.arc k w f t) (cr (.arc k w f t) ([f,t]++f8 (.arc k w f t)))
  rw[key]
theorem rev_rev (c:Cv):c.rev.rev=c:=by
 cases c with
 |seg l p q=>rfl
 |arc k w p q=>cases w<;>rfl
theorem rev_p (c:Cv):c.rev.p=c.q:=by cases c<;>rfl
theorem rev_q (c:Cv):c.rev.q=c.p:=by cases c<;>rfl
theorem ends_rev (c:Cv) (a b:Pt):c.rev.ends b a=(c.ends a b).rev:=by cases c<;>rfl
theorem fwd_rev {c:Cv}(vc:CvV c):c.rev.fwd=c.fwd:=by
 have h:=fQ (b9 (cn vc.g)) (b9 (cH vc.g))
 have hn:=vc.ne
 cases e:decide (cP c.p c.q>0) with
 |true=>
  have e1:=of_decide_eq_true e
  rw[xF e,x8 (c:=c.rev) (by rw[rev_p,rev_q];exact decide_eq_false (by omega))]
 |false=>
  have e1:=of_decide_eq_false e
  rw[x8 e,xF (c:=c.rev) (by rw[rev_p,rev_q];exact decide_eq_true (by omega)),rev_rev]
theorem chain_app (c:Cv): ∀(l:List Pt) (a b:Pt),gT c ((l++[a])++[b])=gT c (l++[a])++[c.ends a b]
 |[],a,b=>rfl
 |[x],a,b=>rfl
 |x::y::l,a,b=>by
  show c.ends x y::gT c (((y::l)++[a])++[b])=c.ends x y::gT c ((y::l)++[a])++_
  rw[chain_app c (y::l) a b];rfl
theorem chain_rev (c:Cv): ∀l:List Pt,gT c.rev l.reverse=((gT c l).map Cv.rev).reverse
 |[]=>rfl
 |[a]=>rfl
 |a::b::l=>by
  have ih:=chain_rev c (b::l)
  rw[List.reverse_cons] at ih
  have e:((gT c (a::b::l)).map Cv.rev).reverse=((gT c (b::l)).map Cv.rev).reverse++[(c.ends a b).rev]:=List.reverse_cons
  rw[e,List.reverse_cons,List.reverse_cons,chain_app,ih,ends_rev]
section
variable {k:Ci}{w:Bool}{f t:Pt}(vc:CvV (.arc k w f t))
include vc
theorem on_rev {x:Pt}(ox:OnK k x) (h:(Cv.arc k w f t).on x=true):(Cv.arc k (!w) t f).on x=true:=by
 have h0:0<k.q:=vc.pos
 have op:=(a_on vc).1
 have oq:=(a_on vc).2
 rw[yy (cb.2 ox.2)] at h⊢
 cases w with
 |true=>
  have h1:=wN (k:=k) oq.1 op.1 ox.1
  have h2:=AU h0 op oq ox
  exact(h1.trans h2.symm).trans h
 |false=>
  have h1:=AU h0 oq op ox
  have h2:=wN (k:=k) op.1 oq.1 ox.1
  exact(h1.trans h2.symm).trans h
theorem ord_rev {x y:Pt}(ox:OnK k x) (oy:OnK k y) (hx:(Cv.arc k w f t).on x=true) (hy:(Cv.arc k w f t).on y=true):(Cv.arc k (!w) t f).ord x y=(Cv.arc k w f t).ord y x:=by
 have of:=(a_on vc).1
 have ot:=(a_on vc).2
 rw[nQ of ox oy]
 cases w with
 |true=>
  rw[ord_cw vc.pos of ot ox oy vc.ne hx hy]
  show(Cv.arc k false t f).ord x y=_
  rw[ord_ccw ot.1 ox.1 oy.1];omega
 |false=>
  have hn:cP t f≠0:=fun e=>vc.ne (by show cP f t=0;rw[fQ (ck ot) (ck of),e];rfl)
  rw[ord_ccw of.1 ox.1 oy.1]
  show(Cv.arc k true t f).ord x y=_
  rw[ord_cw vc.pos ot of ox oy hn (on_rev vc ox hx) (on_rev vc oy hy)]
theorem cuts_rev:f8 (.arc k (!w) t f)=f8 (.arc k w f t):=by
 have hk:=vc.g.1
 have h0:0<k.q:=vc.pos
 have hL:OnK k (jt k):=⟨qY hk h0,Ar hk h0⟩
 have hR:OnK k (i9 k):=⟨q6 hk h0,zw hk h0⟩
 show(if (Cv.arc k (!w) t f).inner (jt k) then[jt k] else[])++(if (Cv.arc k (!w) t f).inner (i9 k) then[i9 k] else[])=_
 rw[yA h0 (a_on vc).1 (a_on vc).2 hL,yA h0 (a_on vc).1 (a_on vc).2 hR];rfl
theorem cut_on: ∀p∈f::(bH dPt (ci (.arc k w f t)) (f8 (.arc k w f t))++[t]),(Cv.arc k w f t).on p=true:=by
 have of:=(a_on vc).1
 have ot:=(a_on vc).2
 have self: ∀ {x:Pt},OnK k x→(Cv.arc k w f t).ord x x≤0:=fun ox=>by
  have:=nQ (w:=w) (t:=t) of ox ox
  omega
 intro p hp
 rcases List.mem_cons.1 hp with rfl|hp
 ·rw[yy (cb.2 of.2)]
  exact Bool.and_eq_true_iff.2 ⟨decide_eq_true (self of),decide_eq_true (FN of ot)⟩
 ·rcases List.mem_append.1 hp with hp|hp
  ·exact(en vc p ((jG _).mem_iff.1 hp)).2
  ·rw[List.mem_singleton.1 hp,yy (cb.2 ot.2)]
   exact Bool.and_eq_true_iff.2 ⟨decide_eq_true (FN of ot),decide_eq_true (self ot)⟩
end
theorem rawX_rev {c:Cv}(vc:CvV c):cG c.rev=((cG c).map Cv.rev).reverse:=by
 cases c with
 |seg l f t=>rfl
 |arc k w f t=>
  obtain⟨h1,h2⟩:=cut_srt vc
  have hon:=cut_on vc
  have vrq9:CvV (.arc k (!w) t f):=vc.rev
  have key:=srt_is vrq9 (T:=(f::(bH dPt (ci (.arc k w f t)) (f8 (.arc k w f t))++[t])).reverse) ?_ ?_
  ·show gT (Cv.arc k w f t).rev (t::(bH dPt (ci (.arc k (!w) t f)) (f8 (.arc k (!w) t f))++[f]))=((gT (.arc k w f t) (f::(bH dPt (ci (.arc k w f t)) (f8 (.arc k w f t))++[t]))).map Cv.rev).reverse
   rw[←key,chain_rev]
  ·have p1:=jG (e:=dPt) (C:=ci (.arc k w f t)) (f8 (.arc k w f t))
   have p2:=jG (e:=dPt) (C:=ci (.arc k (!w) t f)) (f8 (.arc k (!w) t f))
   rw[cuts_rev vc] at p2
   have p3:=p1.trans p2.symm
   rw[cuts_rev vc] at*
   refine(List.reverse_perm _).trans ((List.Perm.cons f (List.perm_append_comm.trans (List.Perm.cons t p3))).trans ?_)
   exact(List.Perm.swap t f _).trans (List.Perm.cons t (List.perm_append_comm (l₁:=[f])))
  ·rw[List.pairwise_reverse]
   exact List.Pairwise.imp_of_mem (fun{a b} ha hb g=>by rw[ord_rev vc (h2 b hb) (h2 a ha) (hon b hb) (hon a ha)];exact g) h1
theorem fwds_rev {c:Cv}(vc:CvV c):((cG c.rev).map Cv.fwd).Perm ((cG c).map Cv.fwd):=by
 rw[rawX_rev vc,List.map_reverse,List.map_map]
 refine(List.reverse_perm _).trans ?_
 rw[List.map_congr_left (f:=Cv.fwd∘Cv.rev) (g:=Cv.fwd) fun d hd=>fwd_rev (D3 vc d hd)]
theorem insC_cons (x:Cv) (l:List Cv) (p:Cv):xj (x::l) p=if dK x p≤0 then x::xj l p else p::x::l:=by
 unfold xj
 show(x::l).take (if dK x p≤0 then nZ p l+1 else 0)++p::(x::l).drop (if dK x p≤0 then nZ p l+1 else 0)=_
 split<;>rfl
theorem insC_perm: ∀(l:List Cv) (p:Cv),(xj l p).Perm (p::l)
 |[],p=>List.Perm.refl _
 |x::l,p=>by
  rw[insC_cons]
  split
  ·exact(List.Perm.cons x (insC_perm l p)).trans (List.Perm.swap p x l)
  ·exact List.Perm.refl _
theorem insC_srt: ∀ {l:List Cv}{p:Cv},CvV p→(∀x∈l,CvV x)→l.Pairwise (fun a b=>dK a b≤0)→(xj l p).Pairwise fun a b=>dK a b≤0
 |[],p,_,_,_=>List.pairwise_singleton _ _
 |x::l,p,hp,hl,h=>by
  obtain⟨h1,h2⟩:=List.pairwise_cons.1 h
  have hx:=hl x List.mem_cons_self
  rw[insC_cons]
  split
  ·rename_i e
   refine List.pairwise_cons.2 ⟨fun y hy=>?_,insC_srt hp (fun y hy=>hl y (List.mem_cons_of_mem _ hy)) h2⟩
   rcases List.mem_cons.1 ((insC_perm l p).mem_iff.1 hy) with rfl|hy
   ·exact e
   ·exact h1 y hy
  ·rename_i e
   have e2:dK p x≤0:=by have:=cmpV_anti hp hx;omega
   refine List.pairwise_cons.2 ⟨fun y hy=>?_,h⟩
   rcases List.mem_cons.1 hy with rfl|hy
   ·exact e2
   ·exact cmpV_tr hp hx (hl y (List.mem_cons_of_mem _ hy)) e2 (h1 y hy)
theorem insF_srt: ∀(l:List Cv) {o:List Cv},(∀x∈l,CvV x)→(∀x∈o,CvV x)→o.Pairwise (fun a b=>dK a b≤0)→(l.foldl (fun o c=>xj o c.fwd) o).Pairwise (fun a b=>dK a b≤0)∧(l.foldl (fun o c=>xj o c.fwd) o).Perm (l.map Cv.fwd++o)
 |[],o,_,_,h=>⟨h,List.Perm.refl _⟩
 |x::l,o,hl,ho,h=>by
  have hx:=tS (hl x List.mem_cons_self)
  obtain⟨g1,g2⟩:=insF_srt l (o:=xj o x.fwd) (fun y hy=>hl y (List.mem_cons_of_mem _ hy)) (fun y hy=>by
   rcases List.mem_cons.1 ((insC_perm o x.fwd).mem_iff.1 hy) with rfl|hy
   ·exact hx
   ·exact ho y hy) (insC_srt hx ho h)
  refine⟨g1,g2.trans ?_⟩
  exact(List.Perm.append_left _ (insC_perm o x.fwd)).trans List.perm_middle
theorem pcsX_srt {c:Cv}(vc:CvV c):(oG c).Pairwise fun a b=>dK a b≤0:=
 foldE_srt (e:=bn) (G:=CvV) (fun x y hx hy=>cmpV_anti hx hy) (fun x y z hx hy hz h1 h2=>cmpV_tr hx hy hz h1 h2) _ (O:=[]) (fun y hy=>by
  obtain⟨x,hx,rfl⟩:=List.mem_map.1 hy
  exact tS (D3 vc x hx)) (fun y hy=>by cases hy) .nil
theorem pcsX_mono {c:Cv}(vc:CvV c): ∀d∈oG c,d.mono=true:=fun d hd=>by
 obtain⟨x,hx,rfl⟩:=List.mem_map.1 ((Gz c).mem_iff.1 hd)
 exact Gg vc x (rawX_eq vc▸hx)
theorem eqC_of {A B:List Cv}(hp:A.Perm B) (vA: ∀d∈A,CvV d) (mAq9: ∀d∈A,d.mono=true) (sAq9:A.Pairwise fun a b=>dK a b≤0) (sBq9:B.Pairwise fun a b=>dK a b≤0):A.length=B.length∧ ∀i,i<A.length→eqC (A.getD i bn) (B.getD i bn)=true:=by
 refine⟨hp.length_eq,fun i hi=>?_⟩
 have h:=perm_eqv (e:=bn) (G:=CvV) (fun x y hx hy=>cmpV_anti hx hy) (fun x y z hx hy hz h1 h2=>cmpV_tr hx hy hz h1 h2) hp vA sAq9 sBq9 i hi
 have hA:=b8 (d:=bn) hi
 have hB:=b8 (d:=bn) (show i<B.length by rw[←hp.length_eq];exact hi)
 rw[←cmpV_eq (vA _ hA) (vA _ (hp.mem_iff.2 hB)) (mAq9 _ hA) (mAq9 _ (hp.mem_iff.2 hB)),h];rfl
theorem pcsX_ref {c:Cv}(vc:CvV c):(oG c).length=(mi c).length∧ ∀i,i<(oG c).length→eqC ((oG c).getD i bn) ((mi c).getD i bn)=true:=by
 obtain⟨g1,g2⟩:=insF_srt (bc c) (o:=[]) (po vc) (fun x hx=>by cases hx) .nil
 refine eqC_of ((Gz c).trans ?_) (Iz vc) (pcsX_mono vc) (pcsX_srt vc) g1
 rw[rawX_eq vc]
 rw[List.append_nil] at g2
 exact g2.symm
theorem pcsX_rev {c:Cv}(vc:CvV c):(oG c).length=(oG c.rev).length∧ ∀i,i<(oG c).length→eqC ((oG c).getD i bn) ((oG c.rev).getD i bn)=true:=
 eqC_of ((Gz c).trans ((fwds_rev vc).symm.trans (Gz c.rev).symm)) (Iz vc) (pcsX_mono vc) (pcsX_srt vc) (pcsX_srt vc.rev)
theorem pcsX_len {c:Cv}:(oG c).length≤3:=by unfold oG;rw[dr,List.length_map];exact CQ
def vLn (l:Ln):Bool:=(aV l.a 0 !=0)||(aV l.b 0 !=0)
theorem vLn_T {l:Ln}(h:(aV l.a 0 !=0)=true):vLn l=true:=by unfold vLn;rw[h];rfl
theorem vLn_F {l:Ln}(h:(aV l.a 0 !=0)=false):vLn l=(aV l.b 0 !=0):=by unfold vLn;rw[h];rfl
theorem vLn_g {l:Ln}(h:i7 l≠0):vLn l=true:=by
 cases e:aV l.a 0 !=0 with
 |true=>exact vLn_T e
 |false=>
  rw[vLn_F e,bne_iff_ne]
  intro e2
  have h1:=lP.1 (show aV l.a 0=0 by simpa using e)
  have h2:=lP.1 e2
  exact h (by unfold i7;rw[h1,h2];grind)
theorem cvVln0 {l:Ln}(hl:GL l):Ok Tryz.prog 188 [.a (dV l)] [.c (.b (vLn l))]:=by
 refine Ok.fn Tryz.func188 28 [.tmp 2] rfl<|aa<|ab<|ag<|aa<|ab<|al 1<|ah (aF (cR l.a) aD rfl)<|ah (am rfl (sValid_R (hl.a.m_)))<|al 2<|ah (aF (cR l.b) aD rfl)<|ah (am rfl (sValid_R (hl.b.m_)))<|al 3<|ah (aF (cR l.c) aD rfl) ?_
 refine ah (am rfl (sValid_R (hl.c.m_)))<|al 3<|ah (aF (cR l.a) aD rfl)<|ah (am rfl (db))<|al 1 ?_
 refine cg (bN rfl) (fun c1 hb1=>?_)
 cases c1
 ·refine al 1<|ah (aF (cR l.b) aD rfl)<|ah (am rfl (db))<|ag<|an ?_
  rw[vLn_F hb1]
  exact aq (aE ae)
 ·refine ag<|an ?_
  rw[vLn_T hb1]
  exact aq (aE ae)
theorem cvVln {l:Ln}(hl:GL l):Ok Tryz.prog 188 [.a (dV l)] [.c (.b true)]:=gQ (cvVln0 hl) (vLn_g hl.n)
theorem cvVci0 {k:Ci}(hk:GK k):Ok Tryz.prog 187 [.a (ca k)] [.c (.b (decide (aV k.q 0>0)))]:=by
 refine Ok.fn Tryz.func187 22 [.tmp 2] rfl<|aa<|ab<|ag<|aa<|ab<|al 1<|ah (aF (cR k.x) aD rfl)<|ah (am rfl (sValid_R (hk.x.m_)))<|al 2<|ah (aF (cR k.y) aD rfl)<|ah (am rfl (sValid_R (hk.y.m_)))<|al 3<|ah (aF (cR k.q) aD rfl) ?_
 refine ah (am rfl (sValid_R (hk.q.m_)))<|al 3<|ah (aF (cR k.q) aD rfl)<|ah (am rfl (db))<|ag<|an ?_
 exact aq (aE ae)
theorem cvVci {k:Ci}(hk:GK k) (h0:0<k.q):Ok Tryz.prog 187 [.a (ca k)] [.c (.b true)]:=gQ (cvVci0 hk) (decide_eq_true (vW.2 h0))
theorem cvValS {l:Ln}{f t:Pt}(vc:CvV (Cv.seg l f t)):Ok Tryz.prog 106 [.a (([.b false]++dV l++cS++[.b false]++au f++au t))] [.c (.b true)]:=by
 have hl:=vc.g.1
 have hf:=vc.g.2.1
 have ht:=vc.g.2.2
 refine Ok.fn Tryz.func106 54 [.tmp 2] rfl<|aa<|ab<|ag<|aa<|aa<|ab<|al 1<|ah (cD (au f) bo rfl (by kernel_rfl))<|ah (am rfl (gQ (c:=true) (rpValid_R (hf.a1.m_) (hf.b1.m_) (hf.a2.m_) (hf.b2.m_) (hf.c.m_)) hf.v))<|al 3<|ah (cD (au t) bo rfl (by kernel_rfl))<|ah (am rfl (gQ (c:=true) (rpValid_R (ht.a1.m_) (ht.b1.m_) (ht.a2.m_) (ht.b2.m_) (ht.c.m_)) ht.v))<|ag ?_
 refine aP rfl<|ao<|aa<|aa<|ab<|al 17<|ah (cD (dV l) sZ rfl (by kernel_rfl))<|ah (am rfl (cvVln hl))<|ag<|aP rfl<|ao<|aa<|ab<|al 2 ?_
 refine ah (cD (au f) bo rfl (by kernel_rfl))<|ah (am rfl (gQ (c:=true) (QF hl hf ht hf) vc.sp))<|al 3<|ah (cD (au t) bo rfl (by kernel_rfl))<|ah (am rfl (gQ (c:=true) (QF hl hf ht ht) vc.sq))<|al 3<|ah (cD (au f) bo rfl (by kernel_rfl))<|al 1<|ah (cD (au t) bo rfl (by kernel_rfl))<|ah (am rfl (gQ (c:=false) (vD hf ht) (beq_eq_false_iff_ne.2 vc.ne)))<|ag<|an ?_
 exact aq (aE ae)
theorem cvValA {k:Ci}{w:Bool}{f t:Pt}(vc:CvV (Cv.arc k w f t)):Ok Tryz.prog 106 [.a (([.b true]++cS++ca k++[.b w]++au f++au t))] [.c (.b true)]:=by
 have hk:=vc.g.1
 have hf:=vc.g.2.1
 have ht:=vc.g.2.2
 refine Ok.fn Tryz.func106 54 [.tmp 2] rfl<|aa<|ab<|ag<|aa<|aa<|ab<|al 1<|ah (cD (au f) bo rfl (by kernel_rfl))<|ah (am rfl (gQ (c:=true) (rpValid_R (hf.a1.m_) (hf.b1.m_) (hf.a2.m_) (hf.b2.m_) (hf.c.m_)) hf.v))<|al 3<|ah (cD (au t) bo rfl (by kernel_rfl))<|ah (am rfl (gQ (c:=true) (rpValid_R (ht.a1.m_) (ht.b1.m_) (ht.a2.m_) (ht.b2.m_) (ht.c.m_)) ht.v))<|ag ?_
 refine aP rfl<|ao<|aa<|aa<|ab<|al 4<|ah (cD (ca k) mJ rfl (by kernel_rfl))<|ah (am rfl (cvVci hk vc.pos))<|ag<|aP rfl<|ao<|aa<|ab<|al 2 ?_
 refine ah (cD (au f) bo rfl (by kernel_rfl))<|ah (am rfl (gQ (c:=true) (Qx hk hf ht hf) vc.sp))<|al 3<|ah (cD (au t) bo rfl (by kernel_rfl))<|ah (am rfl (gQ (c:=true) (Qx hk hf ht ht) vc.sq))<|al 3<|ah (cD (au f) bo rfl (by kernel_rfl))<|al 1<|ah (cD (au t) bo rfl (by kernel_rfl))<|ah (am rfl (gQ (c:=false) (vD hf ht) (beq_eq_false_iff_ne.2 vc.ne)))<|ag<|an ?_
 exact aq (aE ae)
theorem cvVal {c:Cv}(vc:CvV c):Ok Tryz.prog 106 [.a (aB c)] [.c (.b true)]:=by
 cases c with
 |seg l f t=>exact cvValS vc
 |arc k w f t=>exact cvValA vc
theorem rnGood {L:List Cv}(lL:L.length≤12) (vL: ∀d∈L,CvV d):Ok Tryz.prog 39 [.c (.s ((L).length) (aI aB (L)))] [.c (.b true)]:=by
 refine Ok.fn Tryz.func39 16 [.tmp 2] rfl<|aa<|ab<|ag<|aa<|aa<|ab<|ag<|aJ<|bD (ι:={n:Nat // n≤L.length}) (fun i=>⟨16,[(0,.v (.c (.s ((L).length) (aI aB (L))))),(3,.v (.c (.i .i64 (i.1:Int))))],[]⟩) (fun i=>L.length-i.1) ⟨0,Nat.zero_le _⟩ (aM ⟨rfl,rfl,trivial⟩ trivial rfl) ?_
 rintro⟨n,h2⟩
 replace h2:n≤L.length:=h2
 show Dw _ _ ⟨16,[(0,.v (.c (.s ((L).length) (aI aB (L))))),(3,.v (.c (.i .i64 (n:Int))))],[]⟩ _
 refine aa<|aa<|ab<|ag ?_
 refine aw rfl (fun hc1=>?_) (fun hc1=>?_)
 ·have g1:n<L.length:=by have:=of_decide_eq_true hc1;omega
  have vc:=vL _ (b8 (d:=bn) g1)
  refine ao<|aa<|aJ<|aa<|ab<|al 2<|ah (aW (us:=aB (L.getD n bn)++aI aB (L.drop (n+1))) eu rfl rfl (by omega) (aG ak _) (bz ak (bi g1)) rfl) ?_
  refine ah (bb (us:=aB (L.getD n bn)) bd rfl (df _ _) (ak _) rfl) ?_
  refine ah (am rfl (cvVal vc))<|ag<|aP rfl<|ao<|ab<|al 1<|ah (aK (r:=((n+1:Nat):Int)) rfl rfl ((aQ (by omega) (by omega)).trans (congrArg some (by omega))) rfl) ?_
  refine ag ?_
  exact⟨⟨n+1,g1⟩,aM ⟨rfl,rfl,trivial⟩ trivial rfl,by show L.length-(n+1)<L.length-n;omega⟩
 ·refine bj<|aa<|ab<|ag<|an ?_
  exact aq (aE ae)
theorem rnSame {L M:List Cv}(lL:L.length≤12) (lM:L.length=M.length) (vL: ∀d∈L,CvV d) (vM: ∀d∈M,CvV d) (hE: ∀i,i<L.length→eqC (L.getD i bn) (M.getD i bn)=true):Ok Tryz.prog 40 [.c (.s ((L).length) (aI aB (L))),.c (.s ((M).length) (aI aB (M)))] [.c (.b true)]:=by
 refine Ok.fn Tryz.func40 27 [.tmp 4] rfl<|aa<|ab<|ag<|aa<|aa<|ab<|al 4<|ah (bQ (c:=false) (iP rfl) (by rw[lM];simp)) ?_
 refine ar<|aP rfl<|ao<|aa<|aa<|ab<|ag<|aJ<|bD (ι:={n:Nat // n≤L.length}) (fun i=>⟨27,[(0,.v (.c (.s ((L).length) (aI aB (L))))),(1,.v (.c (.s ((M).length) (aI aB (M))))),(5,.v (.c (.i .i64 (i.1:Int))))],[]⟩) (fun i=>L.length-i.1) ⟨0,Nat.zero_le _⟩ (aM ⟨rfl,rfl,rfl,trivial⟩ trivial rfl) ?_
 rintro⟨n,h2⟩
 replace h2:n≤L.length:=h2
 show Dw _ _ ⟨27,[(0,.v (.c (.s ((L).length) (aI aB (L))))),(1,.v (.c (.s ((M).length) (aI aB (M))))),(5,.v (.c (.i .i64 (n:Int))))],[]⟩ _
 refine aa<|aa<|ab<|ag ?_
 refine aw rfl (fun hc1=>?_) (fun hc1=>?_)
 ·have g1:n<L.length:=by have:=of_decide_eq_true hc1;omega
  have vc:=vL _ (b8 (d:=bn) g1)
  have g2:n<M.length:=by omega
  have vd:=vM _ (b8 (d:=bn) g2)
  refine ao<|aa<|aJ<|aa<|aR 10 rfl rfl<|ap 2<|aj (aW (us:=aB (L.getD n bn)++aI aB (L.drop (n+1))) eu rfl rfl (by omega) (aG ak _) (bz ak (bi g1)) rfl) ?_
  refine aj (bb (us:=aB (L.getD n bn)) bd rfl (df _ _) (ak _) rfl) ?_
  refine ap 2<|aj (aW (us:=aB (M.getD n bn)++aI aB (M.drop (n+1))) eu rfl rfl (by omega) (aG ak _) (bz ak (bi g2)) rfl) ?_
  refine aj (bb (us:=aB (M.getD n bn)) bd rfl (df _ _) (ak _) rfl) ?_
  refine aj (am rfl (gQ (c:=true) (cvEqC vc.g vd.g) (hE n g1)))<|bk<|az<|ar<|aP rfl<|ao<|ab<|al 1<|ah (aK (r:=((n+1:Nat):Int)) rfl rfl ((aQ (by omega) (by omega)).trans (congrArg some (by omega))) rfl) ?_
  refine ag ?_
  exact⟨⟨n+1,g1⟩,aM ⟨rfl,rfl,rfl,trivial⟩ trivial rfl,by show L.length-(n+1)<L.length-n;omega⟩
 ·refine bj<|aa<|ab<|ag<|an ?_
  exact aq (aE ae)
theorem lPcs_none {K U A B C D E F K' U' A' B' C' D' E' F' N:Int}(hA:Ok Tryz.prog 10 [] [.c (.b true)]) (hO:Ok Tryz.prog 36 [.a ((([.i .u8 K]++[.i .u8 U]++[.i .i8 A]++[.i .i8 B]++[.i .i8 C]++[.i .i8 D]++[.i .i8 E]++[.i .i8 F])++([.i .u8 K']++[.i .u8 U']++[.i .i8 A']++[.i .i8 B']++[.i .i8 C']++[.i .i8 D']++[.i .i8 E']++[.i .i8 F'])++[.i .u8 N]))] [.a (([.b false]++cS++cS++[.b false]++ob++ob)),.c (.b false)]):Ok Tryz.prog 9 [.a ((([.i .u8 K]++[.i .u8 U]++[.i .i8 A]++[.i .i8 B]++[.i .i8 C]++[.i .i8 D]++[.i .i8 E]++[.i .i8 F])++([.i .u8 K']++[.i .u8 U']++[.i .i8 A']++[.i .i8 B']++[.i .i8 C']++[.i .i8 D']++[.i .i8 E']++[.i .i8 F'])++[.i .u8 N]))] [.c (.b true)]:=by
 refine Ok.fn Tryz.func9 57 [.tmp 2] rfl<|aa<|ab<|ag<|aa<|ab<|al 1<|ah (am rfl (hO))<|al 3<|aC (ai eo rfl) rfl<|ag<|aa<|aa<|ab ?_
 refine ah (am rfl (hA))<|ag<|bg rfl<|aa<|ab<|ah (am rfl (hA))<|ag<|an ?_
 exact aq (aE ae)
theorem lPcs_ok {K U A B C D E F K' U' A' B' C' D' E' F' N:Int}(hA:Ok Tryz.prog 10 [] [.c (.b true)]) {c:Cv}(hc:CvV c) (hO:Ok Tryz.prog 36 [.a ((([.i .u8 K]++[.i .u8 U]++[.i .i8 A]++[.i .i8 B]++[.i .i8 C]++[.i .i8 D]++[.i .i8 E]++[.i .i8 F])++([.i .u8 K']++[.i .u8 U']++[.i .i8 A']++[.i .i8 B']++[.i .i8 C']++[.i .i8 D']++[.i .i8 E']++[.i .i8 F'])++[.i .u8 N]))] [.a (aB c),.c (.b true)]):Ok Tryz.prog 9 [.a ((([.i .u8 K]++[.i .u8 U]++[.i .i8 A]++[.i .i8 B]++[.i .i8 C]++[.i .i8 D]++[.i .i8 E]++[.i .i8 F])++([.i .u8 K']++[.i .u8 U']++[.i .i8 A']++[.i .i8 B']++[.i .i8 C']++[.i .i8 D']++[.i .i8 E']++[.i .i8 F'])++[.i .u8 N]))] [.c (.b true)]:=by
 have lL:(oG c).length≤12:=by have:=pcsX_len (c:=c);omega
 have lR:(oG c.rev).length≤12:=by have:=pcsX_len (c:=c.rev);omega
 have vL:=Iz hc
 have vR:=Iz hc.rev
 have mL:=pcsX_mono hc
 obtain⟨q1,q2⟩:=pcsX_ref hc
 obtain⟨q3,q4⟩:=pcsX_rev hc
 refine Ok.fn Tryz.func9 57 [.tmp 2] rfl<|aa<|ab<|ag<|aa<|ab<|al 1<|ah (am rfl (hO))<|al 3<|aC (ai eo rfl) rfl<|bL (aZ bd rfl rfl rfl (ak _) rfl rfl) ?_
 refine ag<|aa<|aa<|ab<|ah (am rfl (hA))<|ag<|aP rfl<|ao<|aa<|aR 7 rfl rfl<|aj (aA (us:=aB c) bd rfl rfl (by rw[List.drop_zero];exact List.take_of_length_le (Nat.le_of_eq (ak _))) (ak _) rfl) ?_
 refine aj (am rfl (Vd hc))<|aj (aA (us:=aB c) bd rfl rfl (by rw[List.drop_zero];exact List.take_of_length_le (Nat.le_of_eq (ak _))) (ak _) rfl) ?_
 refine aj (am rfl (zl hc))<|aj (am rfl (Vd hc.rev))<|bk<|az<|ar<|aa<|aa<|ab<|al 1<|ah (am rfl (rnGood lL vL))<|al 3<|ah (am rfl (rnGood lR vR))<|al 4<|ah (aA (us:=aB c) bd rfl rfl (by rw[List.drop_zero];exact List.take_of_length_le (Nat.le_of_eq (ak _))) (ak _) rfl) ?_
 refine ah (am rfl (TP hc))<|ah (am rfl (rnSame lL q1 vL (Qc hc) q2))<|al 5<|ah (am rfl (rnSame lL q3 vL vR q4))<|ag<|aP rfl<|ao<|aa<|aa<|ab<|ag<|aJ<|bD (ι:={n:Nat // n≤(oG c).length}) (fun i=>⟨57,[(47,.v (.c (.s (((oG c)).length) (aI aB ((oG c)))))),(48,.v (.c (.i .i64 (((oG c).length:Int))))),(49,.v (.c (.i .i64 (i.1:Int))))],[]⟩) (fun i=>(oG c).length-i.1) ⟨0,Nat.zero_le _⟩ (aM ⟨rfl,rfl,rfl,trivial⟩ trivial rfl) ?_
 rintro⟨n,h2⟩
 replace h2:n≤(oG c).length:=h2
 show Dw _ _ ⟨57,[(47,.v (.c (.s (((oG c)).length) (aI aB ((oG c)))))),(48,.v (.c (.i .i64 (((oG c).length:Int))))),(49,.v (.c (.i .i64 (n:Int))))],[]⟩ _
 refine aa<|ab<|ag<|aa ?_
 refine aw rfl (fun hc1=>?_) (fun hc1=>?_)
 ·have g1:n<(oG c).length:=by have:=of_decide_eq_true hc1;omega
  have vc:=vL _ (b8 (d:=bn) g1)
  refine ao<|aa<|aJ<|aa<|ab<|ah (aW (us:=aB ((oG c).getD n bn)++aI aB ((oG c).drop (n+1))) eu rfl rfl (by omega) (aG ak _) (bz ak (bi g1)) rfl) ?_
  refine ah (bb (us:=aB (((oG c).getD n bn))) bd rfl (df _ _) (ak _) rfl) ?_
  refine aC (ai eo rfl) rfl<|bL (aZ bd rfl rfl rfl (ak _) rfl rfl) ?_
  refine ar<|aa<|ab<|ah (aA (us:=aB (((oG c).getD n bn))) bd rfl rfl (by rw[List.drop_zero];exact List.take_of_length_le (Nat.le_of_eq (ak _))) (ak _) rfl) ?_
  refine ah (am rfl (gQ (c:=true) (mnIs vc) (mL _ (b8 g1))))<|ag<|aP rfl<|ao<|ab<|ah (aK (r:=((n+1:Nat):Int)) rfl rfl ((aQ (by omega) (by omega)).trans (congrArg some (by omega))) rfl) ?_
  refine ag ?_
  exact⟨⟨n+1,g1⟩,aM ⟨rfl,rfl,rfl,trivial⟩ trivial rfl,by show(oG c).length-(n+1)<(oG c).length-n;omega⟩
 ·refine bj<|aa<|ab<|ag<|an ?_
  exact aq (aE ae)
end Go.Proofs.YtkmdgigkbhmilaaGreat
namespace Go.Proofs.YtkmdgigkbhmilaaGreat
open Go.ChangeShapes Go.WideShapes Go.ChangeAt Go.RowKit
theorem law_pieces11 {K U A B C D E F K' U' A' B' C' D' E' F' N:Int}(w0:0≤K∧K≤255) (w1:0≤U∧U≤255) (w2: -128≤A∧A≤127) (w3: -128≤B∧B≤127) (w4: -128≤C∧C≤127) (w5: -128≤D∧D≤127) (w6: -128≤E∧E≤127) (w7: -128≤F∧F≤127) (w8:0≤K'∧K'≤255) (w9:0≤U'∧U'≤255) (w10: -128≤A'∧A'≤127) (w11: -128≤B'∧B'≤127) (w12: -128≤C'∧C'≤127) (w13: -128≤D'∧D'≤127) (w14: -128≤E'∧E'≤127) (w15: -128≤F'∧F'≤127) (w16:0≤N∧N≤255):Ok Tryz.prog 9 [.a (([.i .u8 K]++[.i .u8 U]++[.i .i8 A]++[.i .i8 B]++[.i .i8 C]++[.i .i8 D]++[.i .i8 E]++[.i .i8 F])++([.i .u8 K']++[.i .u8 U']++[.i .i8 A']++[.i .i8 B']++[.i .i8 C']++[.i .i8 D']++[.i .i8 E']++[.i .i8 F'])++[.i .u8 N])] [.c (.b true)]:=by
 have hO1:=Ta w0 w1 w2 w3 w4 w5 w6 w7
 have hO2:=Ta w8 w9 w10 w11 w12 w13 w14 w15
 by_cases h0:pA K U A B C D E F=[]
 ·exact lPcs_none kh (Dh w16 hO1 hO2 h0)
 ·have hp:0<(pA K U A B C D E F).length:=List.length_pos_iff.2 h0
  have hg:=vh (K:=K) w1.1 w2 w3 w4 w5 w6 w7
  have hB: ∀d∈pA K' U' A' B' C' D' E' F',d.good:=fun d hd=>(vh (K:=K') w9.1 w10 w11 w12 w13 w14 w15 d hd).g
  have hg0:=hg _ (b8 (d:=bn) hp)
  have hv0:=FQ (K:=K) w1.1 w2 w3 w4 w5 w6 w7 _ (b8 (d:=bn) hp)
  have hpos:=BP (A0:=pA K U A B C D E F) (Bl:=pA K' U' A' B' C' D' E' F') hg0.ne
  exact lPcs_ok kh (Q6 hv0 hB _ (b8 (Nat.mod_lt _ hpos))) (Ir w16 hO1 hO2 hg0 hp hB NN)
set_option maxRecDepth 100000 in
theorem pieces11_lifted (os:Os) (started:os.Started) (H:Type) (enc:TypeId×Value→H):
 ReturnsInHanded {} Tryz.checked os 9 .any (Rows.monotonePiecesSpec.pre6 enc Tryz.prog Tryz.f9 Rows.monotonePiecesRow.domain false) (Rows.monotonePiecesSpec.post enc Tryz.prog Tryz.f9 false true false false):=by
 refine returnsInHanded_of_change (C:=Tryz.checked) own started (by kernel_rfl) Tryz.func9
  (ChangeSpec.witness6 (enc:=enc) (C:=Tryz.checked) false ⟨#[],#[.agg #[.int .u8 0,.int .u8 0,.int .i8 0,.int .i8 0,.int .i8 0,.int .i8 0,.int .i8 0,.int .i8 0,.int .u8 0,.int .u8 0,.int .i8 0,.int .i8 0,.int .i8 0,.int .i8 0,.int .i8 0,.int .i8 0,.int .u8 0]],[]⟩ 8 (by kernel_rfl) (by kernel_rfl) (by kernel_rfl) (by kernel_rfl)) ?_
 intro W base args ds gs before hval0 hW hcnd _
 have hval: ∀(j:Nat) t v,Tryz.f9.params[j]? =some t→args[j]? =some v→Value.okWide Tryz.prog W .any base t v:=hval0
 have hW':=hW
 obtain⟨p,q,hA0,hV,rfl,hfz,hnd⟩:=hW
 have hA:DataW.TrodAll enc Tryz.prog W 0 (fun _=>true) true Tryz.f9.params.toList args.toList ds p:=hA0
 rw[Tryz.params9] at hA hval
 obtain⟨v0,vs0,d0,ds0,p0,q0,hargs,rfl,rfl,h0,r0⟩:=trodAll_cons hA
 obtain⟨rfl,rfl,rfl⟩:=trodAll_nil r0
 obtain rfl:args= #[v0]:=by cases args;simp_all
 obtain⟨rfl,rfl⟩:=trodVars_none hV
 obtain⟨a0,rfl,_⟩:=okWide_struct Tryz.underlying26 (hval 0 26 v0 rfl rfl)
 have k0:=h0
 have lt0: ∀x∈p0,x.block<W.heap.size:=by obtain⟨m,hm⟩:=k0;exact DataW.trod_lt m _ _ _ hm
 obtain⟨y00,y01,y02,y03,y04,y05,y06,y07,y08,y09,y010,y011,y012,y013,y014,y015,y016,g00,g01,g02,g03,g04,g05,g06,g07,g08,g09,g010,g011,g012,g013,g014,g015,g016,hr0⟩:=jc (show DataW.trod enc Tryz.prog W 0 _ _ h0.choose 26 a0.toList=some _ from h0.choose_spec)
 clear hA0 hval0
 refine(wF (law_pieces11 g00 g01 g02 g03 g04 g05 g06 g07 g08 g09 g010 g011 g012 g013 g014 g015 g016) (RdL.cons ⟨a0,rfl,hr0⟩ RdL.nil)).mono fun e W' ⟨he,bel⟩=>?_
 subst he
 exact⟨_,rfl,_,_,_,[],_,[],hW',trodAll_mk1 (shut_bool Tryz.underlying4 _),(trodAll_cons_mk (Below.trod jq (by kernel_rfl) (of_decide_eq_true (by kernel_rfl)) k0 bel lt0) trodAll_mk0),rfl,bel.frame _,fun h=>by cases h⟩
theorem pieces11_proved:Rows.MonotonePiecesSaid:=
 OpenClaim.holds_of_wide 9 Tryz.f9 rfl rfl rfl rfl rfl rfl rfl ⟨rfl,rfl,rfl,rfl,rfl⟩ rfl rfl rfl rfl rfl (by kernel_rfl) Tryz.func9 (by kernel_rfl)
  (of_decide_eq_true (by kernel_rfl)) (by unfold Func.isWrapper;first|(rw[if_pos (by decide+kernel)];kernel_rfl)|(rw[if_neg (by decide+kernel)];exact⟨rfl,rfl⟩))
  (fun os started H enc _=>pieces11_lifted os started H enc)
end Go.Proofs.YtkmdgigkbhmilaaGreat
