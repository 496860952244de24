/-Plain:square roots of fractions as sequences;what both programs compute is the sign of the sum. -/
import Derived.Test.YtkmdgigkbhmilaaGreatBeI
import Derived.Test.YtkmdgigkbhmilaaGreatProg
namespace Go.Proofs.YtkmdgigkbhmilaaGreat
open Go Go.RowKit
variable {hi lo n p r u v x y:Int}{j k:Nat}{A B C D M N a a1 a2 b b1 b2 c d e m p1 p2 q1 q2:Rat}{U xt yt:TypeId}
variable {ty:TypeId}{pos:String}{af:Array Edge}{g:Option (Nat×Bool)}{dst:Option Nat}
theorem aS:type_of% @Re.ext:=@Re.ext
theorem eg:type_of% @Rat.intCast_mul:=@Rat.intCast_mul
theorem gm:type_of% @Rat.intCast_le_intCast:=@Rat.intCast_le_intCast
theorem i5:type_of% @Rat.intCast_add:=@Rat.intCast_add
theorem kO:type_of% @Rat.intCast_lt_intCast:=@Rat.intCast_lt_intCast
theorem uC:type_of% @Rat.le_refl:=@Rat.le_refl
theorem ts:type_of% @Rat.intCast_pos:=@Rat.intCast_pos
theorem zp:type_of% @Rat.divInt_eq_div:=@Rat.divInt_eq_div
def wZ (m:Rat) (k:Nat):Rat:=(((m.den:Int)*((k:Int)+1):Int):Rat)
def VF (m:Rat) (k:Nat):Int:=bK (m.num*(m.den:Int)*(((k:Int)+1)*((k:Int)+1)))
def xA (m:Rat) (k:Nat):Rat:=((VF m k:Int):Rat)/wZ m k
theorem p8 {x y:Rat}(hd:0<d) (h:x*d≤y*d):x≤y:=by
 apply gT
 intro hn
 have h1:0<(x-y)*d:=sS (by grind) hd
 grind
theorem t5 (m:Rat):m*((m.den:Int):Rat)=((m.num:Int):Rat):=by
 have h:=Rat.num_divInt_den m
 rw[zp] at h
 have hd:(0:Rat)<((m.den:Int):Rat):=ts.2 (by have:=m.den_pos;omega)
 grind
theorem yE (m:Rat) (k:Nat):0<wZ m k:=by
 have h1:=den_pos m
 have h2:(0:Int)<(m.den:Int)*((k:Int)+1):=by grind
 exact ts.2 h2
theorem Fl (m:Rat) (k:Nat):xA m k*wZ m k=((VF m k:Int):Rat):=by
 have:=yE m k
 unfold xA;grind
theorem QN (m:Rat) (k:Nat):m*(wZ m k*wZ m k)=((m.num*(m.den:Int)*(((k:Int)+1)*((k:Int)+1)):Int):Rat):=by
 have h:=t5 m
 unfold wZ
 grind
theorem WF (m:Rat) (k:Nat):0≤VF m k:=fv _
theorem OU (h:0≤m) (k:Nat):0≤m.num*(m.den:Int)*(((k:Int)+1)*((k:Int)+1)):=
 f9 (f9 (Rat.num_nonneg.2 h) (by have:=den_pos m;omega)) (f9 (by omega) (by omega))
theorem Fi (m:Rat) (k:Nat):0≤xA m k:=by
 refine p8 (yE m k) ?_
 rw[Fl]
 have:(0:Rat)≤((VF m k:Int):Rat):=Rat.intCast_nonneg.2 (WF m k)
 grind
theorem Q8 (h:0≤m) (k:Nat):xA m k*xA m k≤m:=by
 have hd:=yE m k
 refine p8 (sS hd hd) ?_
 rw[QN]
 have e:xA m k*xA m k*(wZ m k*wZ m k)=((VF m k*VF m k:Int):Rat):=by
  rw[eg,←Fl];grind
 rw[e]
 exact gm.2 (qN (OU h k))
theorem N9 (h:0≤m) (k:Nat):m<(xA m k+1/wZ m k)*(xA m k+1/wZ m k):=by
 have hd:=yE m k
 have e:(xA m k+1/wZ m k)*(xA m k+1/wZ m k)*(wZ m k*wZ m k)=(((VF m k+1)*(VF m k+1):Int):Rat):=by
  rw[eg,i5,←Fl]
  grind
 have h1:=kO.2 (wg (OU h k))
 rw[←QN] at h1
 have h2:m*(wZ m k*wZ m k)<(xA m k+1/wZ m k)*(xA m k+1/wZ m k)*(wZ m k*wZ m k):=by rw[e];exact h1
 apply gT
 intro hn
 have h3:0≤(m-(xA m k+1/wZ m k)*(xA m k+1/wZ m k))*(wZ m k*wZ m k):=jW (by grind) (by have:=sS hd hd;grind)
 grind
theorem y5 (m:Rat) (he:0<e) (hk:e.den≤k):0<1/wZ m k∧1/wZ m k≤e:=by
 have hd:=yE m k
 refine⟨?_,?_⟩
 ·have:=(G7 (e:=1) (by decide) hd).1;exact this
 ·refine p8 hd ?_
  have h1:=t5 e
  have h2:0<e.num:=ts.1 (by rw[←h1];exact sS he (ts.2 (by have:=e.den_pos;omega)))
  have h3:(1:Rat)≤((e.num:Int):Rat):=by
   have:((1:Int):Rat)≤((e.num:Int):Rat):=gm.2 (by omega)
   grind
  have h4:((e.den:Int):Rat)≤wZ m k:=by
   refine gm.2 ?_
   have:=den_pos m
   have h5:1*((k:Int)+1)≤(m.den:Int)*((k:Int)+1):=Int.mul_le_mul_of_nonneg_right (by omega) (by omega)
   omega
  have h6:0≤e*(wZ m k-((e.den:Int):Rat)):=jW (by grind) (by grind)
  grind
theorem YL (h:0≤m):SU (xA m):=fun e he=>by
 refine⟨e.den,fun i j _ hj=>?_⟩
 obtain⟨hp,hs⟩:=y5 m he hj
 have h1:=Q8 h i
 have h2:=N9 h j
 have h3:=Fi m i
 have h4:=Fi m j
 apply gT
 intro hn
 have h5:0≤(xA m i-(xA m j+1/wZ m j))*(xA m i+(xA m j+1/wZ m j)):=jW (by grind) (by grind)
 grind
def Re.rt (m:Rat):Re:=⟨fun k=>if 0≤m then xA m k else 0,by
 by_cases h:0≤m
 ·simp only[h,if_true];exact YL h
 ·simp only[h,if_false];exact Eg 0⟩
theorem Xf {x:Re}(h: ∀k,0≤x.s k):0≤aw x:=by
 rcases aU x with a|a|a
 ·omega
 ·omega
 ·obtain⟨e,he,K,g⟩:=n5.1 a
  have h1:=g K (cK _)
  rw[aD] at h1
  grind
theorem u5 (m:Rat):0≤aw (Re.rt m):=Xf fun k=>by
 show 0≤(if 0≤m then xA m k else 0)
 split
 ·exact Fi m k
 ·exact uC
theorem ng (h:0≤m):aw (Re.rt m*Re.rt m-Re.of m)=0:=nr.2 fun e he=>by
 obtain⟨d1,d2⟩:=G7 he (show 0<2*m+3 by grind)
 refine⟨(e/(2*m+3)).den,fun k hk=>?_⟩
 rw[ak,am,aE]
 show-e≤(if 0≤m then xA m k else 0)*(if 0≤m then xA m k else 0)+ -m∧(if 0≤m then xA m k else 0)*(if 0≤m then xA m k else 0)+ -m≤e
 rw[if_pos h]
 obtain⟨hp,hs⟩:=y5 m d1 hk
 obtain⟨hp1,hs1⟩:=y5 m (e:=1) (by decide) (k:=k) (by
  have:(1:Rat).den=1:=rfl
  rw[this]
  have:=(e/(2*m+3)).den_pos
  omega)
 have h1:=Q8 h k
 have h2:=N9 h k
 have h3:=Fi m k
 refine⟨?_,by grind⟩
 have h4:xA m k≤m+1:=by
  apply gT
  intro hn
  have h5:0≤(xA m k-(m+1))*(xA m k+(m+1)):=jW (by grind) (by grind)
  have h6:0≤m*m:=jW h h
  grind
 generalize 1/wZ m k=d at*
 have h7:0≤d*((m+1)-xA m k):=jW (by grind) (by grind)
 have h8:0≤d*(1-d):=jW (by grind) (by grind)
 have h9:0≤(2*m+3)*(e/(2*m+3)-d):=jW (by grind) (by grind)
 grind
theorem lI (x y:Rat):aR (x-y) 0=aR x y:=by
 unfold aR
 grind
theorem fK (x y:Rat):Re.of x*Re.of y=Re.of (x*y):=rfl
theorem RI (x:Rat): -Re.of x=Re.of (-x):=rfl
theorem Fg (x y:Rat):Re.of x+Re.of y=Re.of (x+y):=rfl
theorem uO (x y:Rat):Re.of x-Re.of y=Re.of (x-y):=aS fun k=>by rw[ak,aE,aE,aE];grind
def aA (a b m:Rat):Re:=Re.of a+Re.of b*Re.rt m
theorem fZ (h:0≤m):bi a b m=aw (aA a b m):=by
 unfold aA
 rw[GG (n:=Re.of m) (u5 m) (ng h),cj,cj,cj,fK,fK,fK,uO,cj,lI]
 rfl
def mn (A B C D M N:Rat):Re:=aA A B M+aA C D M*Re.rt N
theorem It (hM:0≤M) (hN:0≤N):jm A B C D M N=aw (mn A B C D M N):=by
 unfold mn
 rw[GG (n:=Re.of N) (u5 N) (ng hN),←fZ hM,←fZ hM,cj,vY (by grind) (by grind)]
 have e:aw (aA A B M*aA A B M-aA C D M*aA C D M*Re.of N)=aw (aA (DF A B C D M N) (wG A B C D N+wG A B C D N) M):=by
  refine dJ ?_
  have e:(aA A B M*aA A B M-aA C D M*aA C D M*Re.of N)-aA (DF A B C D M N) (wG A B C D N+wG A B C D N) M=(Re.of (B*B-D*D*N))*(Re.rt M*Re.rt M-Re.of M):=aS fun k=>by
   unfold aA DF wG
   simp only[ak,am,ao,aE];grind
  rw[e,aQ,ng hM,mH]
 rw[e,←fZ hM]
theorem kX {f:Rat}(hc:0≤c) (hf:0≤f):jm (a-d) b (-e) 0 c f=aw (aA a b c-aA d e f):=by
 rw[It hc hf]
 refine congrArg aw (aS fun k=>?_)
 unfold mn aA
 simp only[ak,am,ao,aE];grind
section
variable {P:Program}{ops:Array Oper}{T:TF}{B:BF}
theorem sB {x y:Operand}{k yk:IntKind}{m:Int}
 (hx:dc T x=some (.v (.c (.i k m)))) (hy:dc T y=some (.v (.c (.i yk n)))) (h0: ¬n<0) (hr:m.fdiv (2^(min n.toNat k.bits))=r) (hg:gd ops ⟨dst,.binOp .shr xt x y yt,ty,pos,af,g⟩ T=some true):
 Sem P ops ⟨dst,.binOp .shr xt x y yt,ty,pos,af,g⟩ T B (.r (.v (.c (.i k r)))):=
 bQ hg (qi rfl) (fun V β a w hs=>by
  have e1:a.eval x=.int k m:=jX (aK hs (x:=x) (by simp[Op.operands]) hx)
  have e2:a.eval y=.int yk n:=jX (aK hs (x:=y) (by simp[Op.operands]) hy)
  subst hr
  exact⟨.int k (m.fdiv (2^(min n.toNat k.bits))),by simp[execOp,e1,e2,eqGuard,binOp,Op.shift,h0],.i _ _⟩)
theorem Uc {x y:Operand}{k yk:IntKind}{m:Int}
 (hx:dc T x=some (.v (.c (.i k m)))) (hy:dc T y=some (.v (.c (.i yk n)))) (h0: ¬n<0) (hr:k.wrap (m*2^(min n.toNat k.bits))=r) (hg:gd ops ⟨dst,.binOp .shl xt x y yt,ty,pos,af,g⟩ T=some true):
 Sem P ops ⟨dst,.binOp .shl xt x y yt,ty,pos,af,g⟩ T B (.r (.v (.c (.i k r)))):=
 bQ hg (qi rfl) (fun V β a w hs=>by
  have e1:a.eval x=.int k m:=jX (aK hs (x:=x) (by simp[Op.operands]) hx)
  have e2:a.eval y=.int yk n:=jX (aK hs (x:=y) (by simp[Op.operands]) hy)
  subst hr
  exact⟨.int k (k.wrap (m*2^(min n.toNat k.bits))),by simp[execOp,e1,e2,eqGuard,binOp,Op.shift,h0],.i _ _⟩)
end
def pz (x:Int):Int:=bK (max x 0*65536)
def lH (y:Int):Int:=if CV (y*65536) then bK (y*65536) else bK (y*65536)+1
theorem B6 (h0:0≤n) (h1:n≤2305843009213693952):0≤bK (n*65536)∧bK (n*65536)≤549755813888:=by
 refine⟨fv _,?_⟩
 have h2:=qN (x:=n*65536) (by omega)
 by_cases h:bK (n*65536)≤549755813888
 ·exact h
 ·have:=PJ (a:=549755813889) (b:=bK (n*65536)) (by decide) (by omega)
  omega
theorem Np (h0: -4611686018427387904≤x) (h1:x≤4611686018427387904):wO x=true:=Ui.2 ⟨by omega,by omega⟩
theorem G1 (h0: -2305843009213693952≤lo) (h1:hi≤2305843009213693952):uH lo hi=true:=Vn (by omega) (by omega)
theorem oZ (ha:Rz 4000000 a):Ok Tryz.prog 228 [dR a] [.a (([.i .i64 (if iV a then jI a else 0)]++[.i .i64 (if iV a then jo a else 0)])),.c (.b (iV a))]:=by
 have hz:Rz 6000000 (a*((65536:Int):Rat)):=(aF ha (gY (iw (k:=3) (by decide) (by decide) (by decide)) (by decide))).m_
 have ha3:Rz 6000000 a:=ha.m_
 have h65:Rz 6000000 ((65536:Int):Rat):=(gY (iw (k:=3) (by decide) (by decide) (by decide)) (by decide)).m_
 have hzn:Rz 6000000 (-(a*((65536:Int):Rat))):=hz.neg
 have hs1:Sz 100000000 (jI a):=(Sz.fdiv hz.n).m_
 have hs2:Sz 100000000 ((-(a*((65536:Int):Rat))).num.fdiv ((-(a*((65536:Int):Rat))).den:Int)):=(Sz.fdiv hzn.n).m_
 have hs3:Sz 100000000 (jo a):=hs2.neg
 have hf1:Ok Tryz.prog 281 [dR (a*((65536:Int):Rat))] [dI (jI a)]:=CJ hz
 have hf3:Ok Tryz.prog 202 [dI ((-(a*((65536:Int):Rat))).num.fdiv ((-(a*((65536:Int):Rat))).den:Int))] [dI (jo a)]:=A8 hs2
 refine fD Tryz.func228 38 [.cell 2 202,.tmp 3] rfl ?_
 refine aa ?_
 refine ah ?_
 refine aa ?_
 refine di 4 [] ?_
 refine aO rfl (lg (by omega) (by omega)) ?_
 refine aO rfl (dh (by first|assumption|exact eE (by assumption) (by decide)) (by first|assumption|exact eE (gY (iw (k:=3) (by decide) (by decide) (by decide)) (by decide)) (by decide))) ?_
 refine aa ?_
 refine ah ?_
 refine ac rfl (hf1) ?_
 refine ac rfl (y8 (by first|assumption|exact Sz.mono (by assumption) (by decide))) ?_
 refine aa<|ah ?_
 refine ac rfl (iS (by first|assumption|exact eE (aF (by assumption) (gY (iw (k:=3) (by decide) (by decide) (by decide)) (by decide))) (by decide))) ?_
 refine ac rfl (CJ hzn)<|ac rfl (hf3) ?_
 refine ac rfl (y8 (by first|assumption|exact Sz.mono (by assumption) (by decide))) ?_
 refine aa<|aa<|ah ?_
 refine kT (bp rfl) (fun c1 hb1=>?_)
 cases c1
 ·refine aX rfl (fun hc2=>?_) (fun hc2=>?_)
  ·refine aa<|ah<|ar (aC (us:=([.i .i64 0]++[.i .i64 0])) oR oa rfl rfl rfl) ?_
   refine bb ?_
   rw[show iV a=false from by unfold iV;rw[ia hc2,rW,pB],if_neg (by decide),if_neg (by decide)]
   exact ai (a8 i6 rfl (al ae))
  ·have e1:=dW hb1
   have e2:=dW hc2
   refine qu (σ':=⟨38,[(2,.p 2 0),(5,.v (.c (.i .i64 (jI a)))),(7,.v (.c (.i .i64 (jo a))))],[(2,202,([.i .i64 0]++[.i .i64 0]))]⟩) (aB ⟨rfl,by rw[if_pos e1];rfl,by rw[if_pos e2];rfl,trivial⟩ ⟨rfl,trivial⟩ rfl) ?_
   refine aJ<|aa<|ah<|ac rfl (sE) ?_
   refine bb ?_
   rw[show iV a=uH (jI a) (jo a) from by unfold iV;rw[e1,e2];rfl]
   exact ai (a8 i6 rfl (al ae))
 ·refine cO rfl<|aa<|ah<|ar (aC (us:=([.i .i64 0]++[.i .i64 0])) oR oa rfl rfl rfl) ?_
  refine bb ?_
  rw[show iV a=false from by unfold iV;rw[ia hb1];rfl,if_neg (by decide),if_neg (by decide)]
  exact ai (a8 i6 rfl (al ae))
theorem Gj (h0:0≤n) (h1:n≤2305843009213693952):Ok Tryz.prog 299 [.c (.i .i64 n)] [.c (.i .i64 (bK (n*65536))),.c (.b (CV (n*65536)))]:=by
 have z1:Sz 100000000 n:=iw (by decide) (by omega) (by omega)
 have z2:Sz 100000000 (65536:Int):=iw (by decide) (by decide) (by decide)
 have z4:Sz 3 (n*65536):=⟨by have:pw 3=1000000000000000000000000000:=by decide
                             omega,by have:pw 3=1000000000000000000000000000:=by decide
                                      omega⟩
 have z5:Sz 99999999 (n*65536):=z4.m_
 have z6:Sz 100000000 (bK (n*65536)):=z4.isq.m_
 have hb:=B6 h0 h1
 have e0:(if wO (bK (n*65536)) then bK (n*65536) else 0)=bK (n*65536):=by rw[Np (by omega) (by omega),if_pos rfl]
 refine bU Tryz.func299 rfl<|ac rfl (n9 (by omega) (by omega))<|ac rfl (n9 (by omega) (by omega)) ?_
 refine ac rfl (jV (by first|assumption|exact Sz.mono (by assumption) (by decide)) (by first|assumption|exact Sz.mono (iw (k:=3) (by decide) (by decide) (by decide)) (by decide))) ?_
 refine ac rfl (F9 (by first|assumption|exact Sz.mono (jS (by assumption) (iw (k:=3) (by decide) (by decide) (by decide))) (by decide))) ?_
 refine ac rfl ((show Ok Tryz.prog 280 [dI (bK (n*65536))] [.c (.i .i64 (bK (n*65536))),.c (.b (wO (bK (n*65536))))] from by have:=y8 z6;rw[e0] at this;exact this))<|cU 9 [] ?_
 refine aO rfl (jV (by first|assumption|exact Sz.mono (Sz.isq (jS (by assumption) (iw (k:=3) (by decide) (by decide) (by decide)))) (by decide)) (by first|assumption|exact Sz.mono (Sz.isq (jS (by assumption) (iw (k:=3) (by decide) (by decide) (by decide)))) (by decide))) ?_
 refine aO rfl (nH) ?_
 refine ai ?_
 rw[KE]
 exact al (al ae)
theorem Gp (h0: -2305843009213693952≤x) (h1:x≤2305843009213693952) (h2: -2305843009213693952≤y) (h3:y≤2305843009213693952) (hn: ¬y<0):Ok Tryz.prog 278 [.a (([.i .i64 x]++[.i .i64 y]))] [.a (([.i .i64 (pz x)]++[.i .i64 (lH y)])),.c (.b true)]:=by
 have b1:=B6 (n:=max x 0) (by omega) (by omega)
 have b2:=B6 (n:=y) (by omega) h3
 refine bU Tryz.func278 rfl ?_
 refine dr rfl (fun hc1=>?_) (fun hc1=>?_)
 ·exact absurd (wH hc1) hn
 ·refine ar (FI rfl rfl rfl) ?_
  refine ac rfl (Gj (by omega) (by omega))<|ac rfl (Gj (by omega) (by omega)) ?_
  refine dr rfl (fun hc2=>?_) (fun hc2=>?_)
  ·refine ar (cr ((bK (y*65536))+1) (bL (by omega) (by omega)) rfl) ?_
   refine ac rfl ((show Ok Tryz.prog 282 [.c (.i .i64 (bK ((max x 0)*65536))),.c (.i .i64 ((bK (y*65536))+1))] [.a ([.i .i64 (bK ((max x 0)*65536))]++[.i .i64 ((bK (y*65536))+1)]),.c (.b true)] from by have:=sE (x:=bK ((max x 0)*65536)) (y:=(bK (y*65536))+1);rw[G1 (by omega) (by omega),if_pos rfl,if_pos rfl] at this;exact this)) ?_
   refine ai ?_
   unfold pz lH
   rw[ia hc2,if_neg (by decide)]
   exact a8 i6 rfl (al ae)
  ·refine ac rfl ((show Ok Tryz.prog 282 [.c (.i .i64 (bK ((max x 0)*65536))),.c (.i .i64 (bK (y*65536)))] [.a ([.i .i64 (bK ((max x 0)*65536))]++[.i .i64 (bK (y*65536))]),.c (.b true)] from by have:=sE (x:=bK ((max x 0)*65536)) (y:=bK (y*65536));rw[G1 (by omega) (by omega),if_pos rfl,if_pos rfl] at this;exact this)) ?_
   refine ai ?_
   unfold pz lH
   rw[dW hc2,if_pos rfl]
   exact a8 i6 rfl (al ae)
theorem LZ (h0: -2305843009213693952≤x) (h1:x≤2305843009213693952) (h2: -2305843009213693952≤y) (h3:y≤2305843009213693952) (h4: -2305843009213693952≤u) (h5:u≤2305843009213693952) (h6: -2305843009213693952≤v) (h7:v≤2305843009213693952):Ok Tryz.prog 229 [.a (([.i .i64 x]++[.i .i64 y])),.a (([.i .i64 u]++[.i .i64 v]))] [.a (([.i .i64 (if uH (x+u) (y+v) then x+u else 0)]++[.i .i64 (if uH (x+u) (y+v) then y+v else 0)])),.c (.b (uH (x+u) (y+v)))]:=by
 refine bU Tryz.func229 rfl ?_
 refine ar (cr (x+u) (bL (by omega) (by omega)) rfl) ?_
 refine ar (cr (y+v) (bL (by omega) (by omega)) rfl) ?_
 refine ac rfl (sE) ?_
 exact ai (a8 i6 rfl (al ae))
theorem LL (h0: -9223372036854775808≤x) (h1:x≤9223372036854775807):Ok Tryz.prog 301 [.c (.i .i64 x)] [.c (.i .u64 (x.natAbs:Int))]:=by
 refine bU Tryz.func301 rfl ?_
 refine dr rfl (fun hc1=>?_) (fun hc1=>?_)
 ·have hn:=wH hc1
  have e:(x.natAbs:Int)= -x:=by omega
  refine ar (cS (r:=x+18446744073709551616) C9 gh rfl (Gr hn h0) rfl) ?_
  refine ar (fG (r:= -x) rfl (Dk hn h0) rfl) ?_
  refine ai ?_
  rw[e]
  exact al ae
 ·have hn:=oK hc1
  have e:(x.natAbs:Int)=x:=by omega
  refine ar (cS (r:=x) C9 gh rfl (jk (by omega) (by omega)) rfl) ?_
  refine ai ?_
  rw[e]
  exact al ae
section
variable {P:Program}{ops:Array Oper}{T:TF}{B:BF}
theorem A7 {x y:Operand}{k:IntKind}{m:Int}
 (hx:dc T x=some (.v (.c (.i k m)))) (hy:dc T y=some (.v (.c (.i k n)))) (hr:k.wrap ((BitVec.ofInt k.bits m&&&BitVec.ofInt k.bits n).toNat:Int)=r) (hg:gd ops ⟨dst,.binOp .and xt x y yt,ty,pos,af,g⟩ T=some true):
 Sem P ops ⟨dst,.binOp .and xt x y yt,ty,pos,af,g⟩ T B (.r (.v (.c (.i k r)))):=
 bQ hg (qi rfl) (fun V β a w hs=>by
  have e1:a.eval x=.int k m:=jX (aK hs (x:=x) (by simp[Op.operands]) hx)
  have e2:a.eval y=.int k n:=jX (aK hs (x:=y) (by simp[Op.operands]) hy)
  subst hr
  exact⟨.int k (k.wrap ((BitVec.ofInt k.bits m&&&BitVec.ofInt k.bits n).toNat:Int)),by simp[execOp,e1,e2,eqGuard,binOp,Op.intBits],.i _ _⟩)
theorem XF {x y:Operand}{k:IntKind}{m:Int}
 (hx:dc T x=some (.v (.c (.i k m)))) (hy:dc T y=some (.v (.c (.i k n)))) (hr:k.wrap ((BitVec.ofInt k.bits m|||BitVec.ofInt k.bits n).toNat:Int)=r) (hg:gd ops ⟨dst,.binOp .or xt x y yt,ty,pos,af,g⟩ T=some true):
 Sem P ops ⟨dst,.binOp .or xt x y yt,ty,pos,af,g⟩ T B (.r (.v (.c (.i k r)))):=
 bQ hg (qi rfl) (fun V β a w hs=>by
  have e1:a.eval x=.int k m:=jX (aK hs (x:=x) (by simp[Op.operands]) hx)
  have e2:a.eval y=.int k n:=jX (aK hs (x:=y) (by simp[Op.operands]) hy)
  subst hr
  exact⟨.int k (k.wrap ((BitVec.ofInt k.bits m|||BitVec.ofInt k.bits n).toNat:Int)),by simp[execOp,e1,e2,eqGuard,binOp,Op.intBits],.i _ _⟩)
end
theorem zN (n:Nat) (h:n<18446744073709551616):(BitVec.ofInt 64 (n:Int)).toNat=n:=by
 rw[BitVec.toNat_ofInt];omega
theorem Qv (h0:0≤x) (h1:x≤18446744073709551615):IntKind.u64.wrap ((BitVec.ofInt IntKind.u64.bits x&&&BitVec.ofInt IntKind.u64.bits 4294967295).toNat:Int)=x%4294967296:=by
 obtain⟨n,rfl⟩:=zo h0
 have e:(BitVec.ofInt IntKind.u64.bits (n:Int)&&&BitVec.ofInt IntKind.u64.bits 4294967295).toNat=n%4294967296:=by
  show(BitVec.ofInt 64 (n:Int)&&&BitVec.ofInt 64 ((4294967295:Nat):Int)).toNat=_
  rw[BitVec.toNat_and,zN n (by omega),zN _ (by decide)]
  exact Nat.and_two_pow_sub_one_eq_mod n 32
 rw[e,jk (by omega) (by omega)];omega
theorem Zb (h0:0≤x) (h1:x≤18446744073709551615):IntKind.u64.wrap ((BitVec.ofInt IntKind.u64.bits x&&&BitVec.ofInt IntKind.u64.bits 65535).toNat:Int)=x%65536:=by
 obtain⟨n,rfl⟩:=zo h0
 have e:(BitVec.ofInt IntKind.u64.bits (n:Int)&&&BitVec.ofInt IntKind.u64.bits 65535).toNat=n%65536:=by
  show(BitVec.ofInt 64 (n:Int)&&&BitVec.ofInt 64 ((65535:Nat):Int)).toNat=_
  rw[BitVec.toNat_and,zN n (by omega),zN _ (by decide)]
  exact Nat.and_two_pow_sub_one_eq_mod n 16
 rw[e,jk (by omega) (by omega)];omega
theorem abK {h l:Int}(h0:0≤h) (h1:h<65536) (l0:0≤l) (l1:l<281474976710656):IntKind.u64.wrap ((BitVec.ofInt IntKind.u64.bits (h*281474976710656)|||BitVec.ofInt IntKind.u64.bits l).toNat:Int)=h*281474976710656+l:=by
 obtain⟨n,rfl⟩:=zo h0
 obtain⟨m,rfl⟩:=zo l0
 have e:(BitVec.ofInt IntKind.u64.bits ((n:Int)*281474976710656)|||BitVec.ofInt IntKind.u64.bits (m:Int)).toNat=n*281474976710656+m:=by
  show(BitVec.ofInt 64 ((n:Int)*((281474976710656:Nat):Int))|||BitVec.ofInt 64 (m:Int)).toNat=_
  rw[←Int.natCast_mul,BitVec.toNat_or,zN _ (by omega),zN _ (by omega)]
  have:=Nat.two_pow_add_eq_or_of_lt (i:=48) (b:=m) (by omega) n
  grind
 rw[e,jk (by omega) (by omega)];omega
theorem Gv:x.fdiv (2^(min (32:Int).toNat IntKind.u64.bits))=x/4294967296:=by
 rw[show(2:Int)^(min (32:Int).toNat IntKind.u64.bits)=4294967296 from rfl];exact pf _ (by decide)
theorem VG:x.fdiv (2^(min (16:Int).toNat IntKind.u64.bits))=x/65536:=by
 rw[show(2:Int)^(min (16:Int).toNat IntKind.u64.bits)=65536 from rfl];exact pf _ (by decide)
theorem ZM (h0:0≤x) (h1:x<65536):IntKind.u64.wrap (x*2^(min (48:Int).toNat IntKind.u64.bits))=x*281474976710656:=by
 rw[show(2:Int)^(min (48:Int).toNat IntKind.u64.bits)=281474976710656 from rfl,jk (by omega) (by omega)]
theorem abU:IntKind.u64.wrap x=x%18446744073709551616:=by unfold IntKind.wrap;simp[IntKind.bits,IntKind.signed]
theorem Z6 (_h0:0≤x) (_h1:x≤18446744073709551615) (_h2:0≤y) (_h3:y≤18446744073709551615):
 (x/4294967296)*(y/4294967296)+((x/4294967296)*(y%4294967296)+(x%4294967296)*(y%4294967296)/4294967296)/4294967296+(((x/4294967296)*(y%4294967296)+(x%4294967296)*(y%4294967296)/4294967296)%4294967296+(x%4294967296)*(y/4294967296))/4294967296=x*y/18446744073709551616:=by
 obtain⟨a,ha⟩: ∃a,x/4294967296=a:=⟨_,rfl⟩
 obtain⟨b,hb⟩: ∃b,x%4294967296=b:=⟨_,rfl⟩
 obtain⟨c,hc⟩: ∃c,y/4294967296=c:=⟨_,rfl⟩
 obtain⟨d,hd⟩: ∃d,y%4294967296=d:=⟨_,rfl⟩
 rw[ha,hb,hc,hd]
 have e:x*y=18446744073709551616*(a*c)+4294967296*(a*d)+4294967296*(b*c)+b*d:=by grind
 omega
theorem Nq (h0:0≤x) (h1:x≤18446744073709551615) (h2:0≤y) (h3:y≤18446744073709551615):Ok Tryz.prog 300 [.c (.i .u64 x),.c (.i .u64 y)] [.c (.i .u64 (x*y/18446744073709551616)),.c (.i .u64 (x*y%18446744073709551616))]:=by
 obtain⟨a,ha⟩: ∃a,x/4294967296=a:=⟨_,rfl⟩
 obtain⟨b,hb⟩: ∃b,x%4294967296=b:=⟨_,rfl⟩
 obtain⟨c,hc⟩: ∃c,y/4294967296=c:=⟨_,rfl⟩
 obtain⟨d,hd⟩: ∃d,y%4294967296=d:=⟨_,rfl⟩
 have hm:=Z6 h0 h1 h2 h3
 rw[ha,hb,hc,hd] at hm
 have pb: ∀u v:Int,0≤u→u≤4294967295→0≤v→v≤4294967295→0≤u*v∧u*v≤18446744065119617025:=fun u v u0 u1 v0 v1=>⟨Int.mul_nonneg u0 v0,qo (c:=(4294967295:Int)) u1 v1 v0 (by decide)⟩
 have q1:=pb b d (by omega) (by omega) (by omega) (by omega)
 have q2:=pb a d (by omega) (by omega) (by omega) (by omega)
 have q3:=pb b c (by omega) (by omega) (by omega) (by omega)
 have q4:=pb a c (by omega) (by omega) (by omega) (by omega)
 refine bU Tryz.func300 rfl ?_
 refine ar (A7 (r:=b) rfl rfl (by rw[←hb];exact Qv h0 h1) rfl) ?_
 refine ar (sB (r:=a) rfl rfl (by decide) (by rw[←ha];exact Gv) rfl) ?_
 refine ar (A7 (r:=d) rfl rfl (by rw[←hd];exact Qv h2 h3) rfl) ?_
 refine ar (sB (r:=c) rfl rfl (by decide) (by rw[←hc];exact Gv) rfl) ?_
 refine ar (cr (b*d) (iT (by omega) (by omega)) rfl)<|ar (cr (a*d) (iT (by omega) (by omega)) rfl)<|ar (sB (r:=b*d/4294967296) rfl rfl (by decide) (Gv) rfl) ?_
 refine ar (cr ((a*d)+(b*d/4294967296)) (gy (by omega) (by omega)) rfl)<|ar (A7 (r:=(a*d+b*d/4294967296)%4294967296) rfl rfl (Qv (by omega) (by omega)) rfl) ?_
 refine ar (sB (r:=(a*d+b*d/4294967296)/4294967296) rfl rfl (by decide) (Gv) rfl) ?_
 refine ar (cr (b*c) (iT (by omega) (by omega)) rfl)<|ar (cr (((a*d+b*d/4294967296)%4294967296)+(b*c)) (gy (by omega) (by omega)) rfl)<|ar (cr (a*c) (iT (by omega) (by omega)) rfl)<|ar (cr ((a*c)+((a*d+b*d/4294967296)/4294967296)) (gy (by omega) (by omega)) rfl)<|ar (sB (r:=((a*d+b*d/4294967296)%4294967296+b*c)/4294967296) rfl rfl (by decide) (Gv) rfl) ?_
 refine ar (cr (((a*c)+((a*d+b*d/4294967296)/4294967296))+(((a*d+b*d/4294967296)%4294967296+b*c)/4294967296)) (gy (by omega) (by omega)) rfl)<|ar (cr (x*y%18446744073709551616) (congrArg some abU) rfl)<|ai ?_
 rw[←hm]
 exact al (al ae)
def NE (x y:Int):Int:=(x.natAbs:Int)*(y.natAbs:Int)
def Dd (p:Int):Int:=if p%65536=0 then p/65536 else p/65536+1
def mT (x y:Int):Int:=if (!(decide (x<0)==decide (y<0)))=true then-(Dd (NE x y)) else NE x y/65536
def mS (x y:Int):Int:=if (!(decide (x<0)==decide (y<0)))=true then-(NE x y/65536) else Dd (NE x y)
def wJ (x y:Int):Bool:=decide (NE x y/65536>2305843009213693952)
def qg (x y:Int):Bool:= !wJ x y&&(decide (mT x y≥ -2305843009213693952)&&decide (mS x y≤2305843009213693952))
theorem Xd (h:(p%18446744073709551616%65536 !=0)=true):Dd p=p/65536+1:=by
 have h:p%18446744073709551616%65536≠0:=by simpa using h
 unfold Dd;rw[if_neg (by omega)]
theorem W1 (h:(p%18446744073709551616%65536 !=0)=false):Dd p=p/65536:=by
 have h:p%18446744073709551616%65536=0:=by simpa using h
 unfold Dd;rw[if_pos (by omega)]
theorem acx {a:Int}(h:(a !=0)=true):a≠0:=by simpa using h
theorem abR {a:Int}(h:(a !=0)=false):a=0:=by simpa using h
theorem Jr (h0: -9223372036854775808≤x) (h1:x≤9223372036854775807) (h2: -9223372036854775808≤y) (h3:y≤9223372036854775807):Ok Tryz.prog 283 [.c (.i .i64 x),.c (.i .i64 y)] [.c (.i .i64 (if wJ x y then 0 else mT x y)),.c (.i .i64 (if wJ x y then 0 else mS x y)),.c (.b (qg x y))]:=by
 obtain⟨p,hp⟩: ∃p,NE x y=p:=⟨_,rfl⟩
 have hp':(x.natAbs:Int)*(y.natAbs:Int)=p:=hp
 have hp0:0≤p:=by rw[←hp'];exact f9 (by omega) (by omega)
 have hp1:p≤9223372036854775808*9223372036854775808:=by rw[←hp'];exact qo (by omega) (by omega) (by omega) (by decide)
 have hmul:Ok Tryz.prog 300 [.c (.i .u64 (x.natAbs:Int)),.c (.i .u64 (y.natAbs:Int))] [.c (.i .u64 (p/18446744073709551616)),.c (.i .u64 (p%18446744073709551616))]:=by rw[←hp'];exact Nq (by omega) (by omega) (by omega) (by omega)
 have big:p/65536>2305843009213693952→wJ x y=true:=fun h=>by unfold wJ;rw[hp];exact decide_eq_true h
 have small: ¬p/65536>2305843009213693952→wJ x y=false:=fun h=>by unfold wJ;rw[hp];exact decide_eq_false h
 refine bU Tryz.func283 rfl<|ac rfl (LL (by omega) (by omega))<|ac rfl (LL (by omega) (by omega))<|ac rfl (hmul) ?_
 refine ar (sB (r:=p/18446744073709551616/65536) rfl rfl (by decide) (VG) rfl) ?_
 refine dr rfl (fun hc1=>?_) (fun hc1=>?_)
 ·have g1:=acx hc1
  refine ai ?_
  rw[show qg x y=false from by unfold qg;rw[big (by omega)];rfl,big (by omega),if_pos rfl,if_pos rfl]
  exact al (al (al ae))
 ·have g1:=abR hc1
  refine ar (Uc (r:=(p/18446744073709551616)*281474976710656) rfl rfl (by decide) (ZM (by omega) (by omega)) rfl) ?_
  refine ar (sB (r:=p%18446744073709551616/65536) rfl rfl (by decide) (VG) rfl) ?_
  refine ar (XF (r:=p/65536) rfl rfl ((abK (by omega) (by omega) (by omega) (by omega)).trans (by omega)) rfl) ?_
  refine dr rfl (fun hc2=>?_) (fun hc2=>?_)
  ·refine ai ?_
   rw[show qg x y=false from by unfold qg;rw[big (wH hc2)];rfl,big (wH hc2),if_pos rfl,if_pos rfl]
   exact al (al (al ae))
  ·have g2:=oK hc2
   refine ar (cS (r:=p/65536) gh C9 rfl (sG (by omega) (by omega)) rfl) ?_
   refine ar (cS (r:=p/65536) gh C9 rfl (sG (by omega) (by omega)) rfl) ?_
   refine ar (A7 (r:=p%18446744073709551616%65536) rfl rfl (Zb (by omega) (by omega)) rfl) ?_
   refine dr rfl (fun hc3=>?_) (fun hc3=>?_)
   ·have hu:=Xd hc3
    refine ar (cr ((p/65536)+1) (bL (by omega) (by omega)) rfl)<|ar (iv rfl rfl iI rfl) ?_
    refine dr rfl (fun hc4=>?_) (fun hc4=>?_)
    ·refine ar (fG (r:= -(p/65536+1)) rfl (by rw[sG (by omega) (by omega)];omega) rfl) ?_
     refine ar (fG (r:= -(p/65536)) rfl (by rw[sG (by omega) (by omega)];omega) rfl) ?_
     refine kT (bp rfl) (fun c5 hb5=>?_)
     cases c5
     ·refine ai ?_
      unfold qg
      rw[small (oK hc2),if_neg (by decide),if_neg (by decide),s6,jH]
      rw[show mT x y= -(p/65536+1) from by unfold mT;rw[hp,hu,if_pos hc4],show mS x y= -(p/65536) from by unfold mS;rw[hp,hu,if_pos hc4]]
      rw[hb5,rW]
      exact al (al (al ae))
     ·refine ai ?_
      unfold qg
      rw[small (oK hc2),if_neg (by decide),if_neg (by decide),s6,jH]
      rw[show mT x y= -(p/65536+1) from by unfold mT;rw[hp,hu,if_pos hc4],show mS x y= -(p/65536) from by unfold mS;rw[hp,hu,if_pos hc4]]
      rw[hb5,jH]
      exact al (al (al ae))
    ·refine kT (bp rfl) (fun c6 hb6=>?_)
     cases c6
     ·refine ai ?_
      unfold qg
      rw[small (oK hc2),if_neg (by decide),if_neg (by decide),s6,jH]
      rw[show mT x y=p/65536 from by unfold mT;rw[hp,hu,if_neg (by rw[hc4];decide)],show mS x y=p/65536+1 from by unfold mS;rw[hp,hu,if_neg (by rw[hc4];decide)]]
      rw[hb6,rW]
      exact al (al (al ae))
     ·refine ai ?_
      unfold qg
      rw[small (oK hc2),if_neg (by decide),if_neg (by decide),s6,jH]
      rw[show mT x y=p/65536 from by unfold mT;rw[hp,hu,if_neg (by rw[hc4];decide)],show mS x y=p/65536+1 from by unfold mS;rw[hp,hu,if_neg (by rw[hc4];decide)]]
      rw[hb6,jH]
      exact al (al (al ae))
   ·have hu:=W1 hc3
    refine ar (iv rfl rfl iI rfl) ?_
    refine dr rfl (fun hc7=>?_) (fun hc7=>?_)
    ·refine ar (fG (r:= -(p/65536)) rfl (by rw[sG (by omega) (by omega)];omega) rfl) ?_
     refine ar (fG (r:= -(p/65536)) rfl (by rw[sG (by omega) (by omega)];omega) rfl) ?_
     refine kT (bp rfl) (fun c8 hb8=>?_)
     cases c8
     ·refine ai ?_
      unfold qg
      rw[small (oK hc2),if_neg (by decide),if_neg (by decide),s6,jH]
      rw[show mT x y= -(p/65536) from by unfold mT;rw[hp,hu,if_pos hc7],show mS x y= -(p/65536) from by unfold mS;rw[hp,hu,if_pos hc7]]
      rw[hb8,rW]
      exact al (al (al ae))
     ·refine ai ?_
      unfold qg
      rw[small (oK hc2),if_neg (by decide),if_neg (by decide),s6,jH]
      rw[show mT x y= -(p/65536) from by unfold mT;rw[hp,hu,if_pos hc7],show mS x y= -(p/65536) from by unfold mS;rw[hp,hu,if_pos hc7]]
      rw[hb8,jH]
      exact al (al (al ae))
    ·refine kT (bp rfl) (fun c9 hb9=>?_)
     cases c9
     ·refine ai ?_
      unfold qg
      rw[small (oK hc2),if_neg (by decide),if_neg (by decide),s6,jH]
      rw[show mT x y=p/65536 from by unfold mT;rw[hp,hu,if_neg (by rw[hc7];decide)],show mS x y=p/65536 from by unfold mS;rw[hp,hu,if_neg (by rw[hc7];decide)]]
      rw[hb9,rW]
      exact al (al (al ae))
     ·refine ai ?_
      unfold qg
      rw[small (oK hc2),if_neg (by decide),if_neg (by decide),s6,jH]
      rw[show mT x y=p/65536 from by unfold mT;rw[hp,hu,if_neg (by rw[hc7];decide)],show mS x y=p/65536 from by unfold mS;rw[hp,hu,if_neg (by rw[hc7];decide)]]
      rw[hb9,jH]
      exact al (al (al ae))
def J4 (x y:Int):Int:=if x>0 then 1 else if y<0 then-1 else 0
def I3 (x y:Int):Bool:=decide (x>0)||(decide (y<0)||(x==0&&y==0))
theorem aaB (h:decide (x>0)=true):J4 x y=1∧I3 x y=true:=by
 unfold J4 I3;rw[if_pos (by simpa using h),h];exact⟨rfl,rfl⟩
theorem ZC (h:decide (x>0)=false) (h2:decide (y<0)=true):J4 x y= -1∧I3 x y=true:=by
 unfold J4 I3;rw[if_neg (by simpa using h),if_pos (by simpa using h2),h,h2];exact⟨rfl,rfl⟩
theorem Ua (h:decide (x>0)=false) (h2:decide (y<0)=false):J4 x y=0∧I3 x y=(x==0&&y==0):=by
 unfold J4 I3;rw[if_neg (by simpa using h),if_neg (by simpa using h2),h,h2];exact⟨rfl,rfl⟩
theorem Br:Ok Tryz.prog 231 [.a (([.i .i64 x]++[.i .i64 y]))] [.c (.i .i64 (J4 x y)),.c (.b (I3 x y))]:=by
 refine bU Tryz.func231 rfl ?_
 refine dr rfl (fun hc1=>?_) (fun hc1=>?_)
 ·refine ai ?_
  rw[(aaB hc1).1,(aaB hc1).2]
  exact al (al ae)
 ·refine dr rfl (fun hc2=>?_) (fun hc2=>?_)
  ·refine ai ?_
   rw[(ZC hc1 hc2).1,(ZC hc1 hc2).2]
   exact al (al ae)
  ·refine cU 10 [] ?_
   refine xi (bp rfl) (fun c3 hb3=>?_)
   cases c3
   ·refine ai ?_
    rw[(Ua hc1 hc2).1,(Ua hc1 hc2).2,hb3,rW]
    exact al (al ae)
   ·refine ai ?_
    rw[(Ua hc1 hc2).1,(Ua hc1 hc2).2,hb3,jH]
    exact al (al ae)
def vH (x y:Int) (k:Nat):Int:=if k=0 then x else y
theorem L8 (h:k<2):([CellD.i .i64 x,.i .i64 y])[k*1]? =some (.i .i64 (vH x y k)):=by
 have:k=0∨k=1:=by omega
 rcases this with rfl|rfl<;>rfl
theorem Qi (h0: -2305843009213693952≤x) (h1:x≤2305843009213693952) (h2: -2305843009213693952≤y) (h3:y≤2305843009213693952): -2305843009213693952≤vH x y k∧vH x y k≤2305843009213693952:=by
 unfold vH;split<;>omega
def BZ (x y u v:Int):Nat→Int
 |0=>2305843009213693952
 |n+1=>min (BZ x y u v n) (mT (vH x y (n/2)) (vH u v (n%2)))
def AL (x y u v:Int):Nat→Int
 |0=> -2305843009213693952
 |n+1=>max (AL x y u v n) (mS (vH x y (n/2)) (vH u v (n%2)))
def yC (x y u v:Int):Nat→Bool
 |0=>true
 |n+1=>yC x y u v n&&qg (vH x y (n/2)) (vH u v (n%2))
theorem RQ (h:qg x y=true): ¬wJ x y=true:=by
 unfold qg at h
 grind
theorem OX {n:Nat}(h:yC x y u v n=false) (m:Nat):yC x y u v (n+m)=false:=by
 induction m with
 |zero=>exact h
 |succ m ih=>show(yC x y u v (n+m)&&_)=false;rw[ih];rfl
theorem SN (hj:j<2) (h:qg (vH x y k) (vH u v j)=true):min (BZ x y u v (2*k+j)) (if wJ (vH x y k) (vH u v j) then 0 else mT (vH x y k) (vH u v j))=BZ x y u v (2*k+(j+1)):=by
 rw[if_neg (RQ h)]
 show _=min (BZ x y u v (2*k+j)) (mT (vH x y ((2*k+j)/2)) (vH u v ((2*k+j)%2)))
 grind
theorem Ss (hj:j<2) (h:qg (vH x y k) (vH u v j)=true):max (AL x y u v (2*k+j)) (if wJ (vH x y k) (vH u v j) then 0 else mS (vH x y k) (vH u v j))=AL x y u v (2*k+(j+1)):=by
 rw[if_neg (RQ h)]
 show _=max (AL x y u v (2*k+j)) (mS (vH x y ((2*k+j)/2)) (vH u v ((2*k+j)%2)))
 grind
theorem L7 (hj:j<2):yC x y u v (2*k+(j+1))=(yC x y u v (2*k+j)&&qg (vH x y k) (vH u v j)):=by
 show(yC x y u v (2*k+j)&&qg (vH x y ((2*k+j)/2)) (vH u v ((2*k+j)%2)))=_
 grind
theorem LR (h0: -2305843009213693952≤x) (h1:x≤2305843009213693952) (h2: -2305843009213693952≤y) (h3:y≤2305843009213693952) (h4: -2305843009213693952≤u) (h5:u≤2305843009213693952) (h6: -2305843009213693952≤v) (h7:v≤2305843009213693952):Ok Tryz.prog 233 [.a (([.i .i64 x]++[.i .i64 y])),.a (([.i .i64 u]++[.i .i64 v]))] [.a (([.i .i64 (if yC x y u v 4 then BZ x y u v 4 else 0)]++[.i .i64 (if yC x y u v 4 then AL x y u v 4 else 0)])),.c (.b (yC x y u v 4))]:=by
 refine fD Tryz.func233 56 [.cell 4 202,.tmp 5] rfl<|aa<|ah<|aa<|ah<|aa<|aa<|ah ?_
 refine DL.mk<|ol (jC (us:=[.i .i64 x,.i .i64 y]) U8 rfl rfl (by decide) (by decide) rfl) rfl<|fE ?_
 refine ar (f6 K3 rfl rfl) ?_
 refine aT<|bF (ι:={k:Nat // k≤2∧yC x y u v (2*k)=true}) (fun i=>⟨56,[(2,.p 2 0),(3,.p 3 0),(4,.p 4 0),(6,.v (.c (.i .i64 (BZ x y u v (2*i.1))))),(7,.v (.c (.i .i64 (AL x y u v (2*i.1))))),(19,.o 19 2 2),(20,.v (.c (.i .i64 (2:Int)))),(21,.v (.c (.i .i64 (i.1:Int))))],[(2,202,([.i .i64 x]++[.i .i64 y])),(3,202,([.i .i64 u]++[.i .i64 v])),(4,202,([.i .i64 0]++[.i .i64 0])),(19,2,[.i .i64 x,.i .i64 y])]⟩) (fun i=>2-i.1) ⟨0,by omega,rfl⟩ (aB ⟨rfl,rfl,rfl,rfl,rfl,rfl,rfl,rfl,trivial⟩ ⟨rfl,rfl,rfl,rfl,trivial⟩ rfl) ?_
 rintro⟨k,hk0,hok⟩
 replace hk0:k≤2:=hk0
 replace hok:yC x y u v (2*k)=true:=hok
 have gx:=Qi (k:=k) h0 h1 h2 h3
 show Dw _ _ ⟨56,[(2,.p 2 0),(3,.p 3 0),(4,.p 4 0),(6,.v (.c (.i .i64 (BZ x y u v (2*k))))),(7,.v (.c (.i .i64 (AL x y u v (2*k))))),(19,.o 19 2 2),(20,.v (.c (.i .i64 (2:Int)))),(21,.v (.c (.i .i64 (k:Int))))],[(2,202,([.i .i64 x]++[.i .i64 y])),(3,202,([.i .i64 u]++[.i .i64 v])),(4,202,([.i .i64 0]++[.i .i64 0])),(19,2,[.i .i64 x,.i .i64 y])]⟩ _
 refine aa<|ah<|aa ?_
 refine aX rfl (fun hc1=>?_) (fun hc1=>?_)
 ·have hk:k<2:=by have:=wH hc1;omega
  refine aJ<|aa<|aT<|aa<|bo<|a7 (bq K3 rfl rfl (by omega) rfl) ?_
  refine a7 (cT YW rfl rfl (L8 (x:=x) (y:=y) (k:=k) (by omega)) rfl) ?_
  refine fN<|aa<|ah ?_
  refine DL.mk<|ol (jC (us:=[.i .i64 u,.i .i64 v]) U8 rfl rfl (by decide) (by decide) rfl) rfl<|fE ?_
  refine ar (f6 K3 rfl rfl) ?_
  refine aT<|bF (ι:={j:Nat // j≤2∧yC x y u v (2*k+j)=true}) (fun i=>⟨56,[(2,.p 2 0),(3,.p 3 0),(4,.p 4 0),(6,.v (.c (.i .i64 (BZ x y u v (2*k+i.1))))),(7,.v (.c (.i .i64 (AL x y u v (2*k+i.1))))),(19,.o 19 2 2),(20,.v (.c (.i .i64 (2:Int)))),(21,.v (.c (.i .i64 (k:Int)))),(9,.v (.c (.i .i64 (vH x y k)))),(29,.o 29 2 2),(30,.v (.c (.i .i64 (2:Int)))),(31,.v (.c (.i .i64 (i.1:Int))))],[(2,202,([.i .i64 x]++[.i .i64 y])),(3,202,([.i .i64 u]++[.i .i64 v])),(4,202,([.i .i64 0]++[.i .i64 0])),(19,2,[.i .i64 x,.i .i64 y]),(29,2,[.i .i64 u,.i .i64 v])]⟩) (fun i=>2-i.1) ⟨0,by omega,hok⟩ (aB ⟨rfl,rfl,rfl,rfl,rfl,rfl,rfl,rfl,rfl,rfl,rfl,rfl,trivial⟩ ⟨rfl,rfl,rfl,rfl,rfl,trivial⟩ rfl) ?_
  rintro⟨j,hj0,hokj⟩
  replace hj0:j≤2:=hj0
  replace hokj:yC x y u v (2*k+j)=true:=hokj
  have gu:=Qi (k:=j) h4 h5 h6 h7
  show Dw _ _ ⟨56,[(2,.p 2 0),(3,.p 3 0),(4,.p 4 0),(6,.v (.c (.i .i64 (BZ x y u v (2*k+j))))),(7,.v (.c (.i .i64 (AL x y u v (2*k+j))))),(19,.o 19 2 2),(20,.v (.c (.i .i64 (2:Int)))),(21,.v (.c (.i .i64 (k:Int)))),(9,.v (.c (.i .i64 (vH x y k)))),(29,.o 29 2 2),(30,.v (.c (.i .i64 (2:Int)))),(31,.v (.c (.i .i64 (j:Int))))],[(2,202,([.i .i64 x]++[.i .i64 y])),(3,202,([.i .i64 u]++[.i .i64 v])),(4,202,([.i .i64 0]++[.i .i64 0])),(19,2,[.i .i64 x,.i .i64 y]),(29,2,[.i .i64 u,.i .i64 v])]⟩ _
  refine aa<|ah<|aa ?_
  refine aX rfl (fun hc2=>?_) (fun hc2=>?_)
  ·have hj:j<2:=by have:=wH hc2;omega
   refine aJ<|aa<|aT<|aa<|bo<|a7 (bq K3 rfl rfl (by omega) rfl) ?_
   refine a7 (cT YW rfl rfl (L8 (x:=u) (y:=v) (k:=j) (by omega)) rfl) ?_
   refine fN<|aa<|ah<|ac rfl (Jr (by omega) (by omega) (by omega) (by omega))<|aa<|aa<|ah ?_
   refine aX rfl (fun hc3=>?_) (fun hc3=>?_)
   ·have hbad:yC x y u v 4=false:=by
     have h8:=OX (n:=2*k+(j+1)) (by rw[L7 hj,ia hc3,pB]) (4-(2*k+(j+1)))
     rw[show 2*k+(j+1)+(4-(2*k+(j+1)))=4 from by omega] at h8;exact h8
    refine aa<|ah<|ar (aC (us:=([.i .i64 0]++[.i .i64 0])) oR oa rfl rfl rfl) ?_
    refine bb ?_
    rw[hbad,if_neg (by decide),if_neg (by decide)]
    exact ai (a8 i6 rfl (al ae))
   ·have hsc:=dW hc3
    refine aJ<|ah<|ar (LE rfl rfl rfl) ?_
    refine ar (FI rfl rfl rfl) ?_
    refine ah<|ar (cr ((j:Int)+1) (bL (by omega) (by omega)) rfl) ?_
    exact⟨⟨j+1,by omega,by rw[L7 hj,hokj,hsc];rfl⟩,aB ⟨rfl,rfl,rfl,by rw[←SN hj hsc];rfl,by rw[←Ss hj hsc];rfl,rfl,rfl,rfl,rfl,rfl,rfl,by rw[show((j+1:Nat):Int)=(j:Int)+1 from by omega];rfl,trivial⟩ ⟨rfl,rfl,rfl,rfl,rfl,trivial⟩ rfl,by show 2-(j+1)<2-j;omega⟩
  ·have hj2:2*k+j=2*k+2:=by have:=oK hc2;omega
   refine bG<|ah<|ar (cr ((k:Int)+1) (bL (by omega) (by omega)) rfl) ?_
   exact⟨⟨k+1,by omega,by rw[show 2*(k+1)=2*k+2 from by omega,←hj2];exact hokj⟩,aB ⟨rfl,rfl,rfl,by rw[show 2*(k+1)=2*k+2 from by omega,←hj2];rfl,by rw[show 2*(k+1)=2*k+2 from by omega,←hj2];rfl,rfl,rfl,by rw[show((k+1:Nat):Int)=(k:Int)+1 from by omega];rfl,trivial⟩ ⟨rfl,rfl,rfl,rfl,trivial⟩ rfl,by show 2-(k+1)<2-k;omega⟩
 ·have hk2:2*k=4:=by have:=oK hc1;omega
  refine bG<|aa<|ah<|ar (aC (us:=([.i .i64 (BZ x y u v (2*k))]++[.i .i64 (AL x y u v (2*k))])) oR oa rfl rfl rfl) ?_
  refine bb ?_
  rw[hk2] at hok
  have e1:BZ x y u v 4=BZ x y u v (2*k):=by rw[hk2]
  have e2:AL x y u v 4=AL x y u v (2*k):=by rw[hk2]
  rw[hok,if_pos rfl,if_pos rfl,e1,e2]
  exact ai (a8 i6 rfl (al ae))
theorem Ad (h: ¬c<0):0≤jo c:=by
 unfold jo
 have h1:0≤c*((65536:Int):Rat):=by grind
 have h2:0≤(c*((65536:Int):Rat)).num:=Rat.num_nonneg.2 h1
 have h3:=den_pos (-(c*((65536:Int):Rat)))
 rw[pf _ (by omega),Rat.neg_num]
 have h4:(-(c*((65536:Int):Rat)).num)/((-(c*((65536:Int):Rat))).den:Int)≤0:=by
  have h5:=Int.ediv_le_ediv h3 (show-(c*((65536:Int):Rat)).num≤0 by omega)
  rw[Int.zero_ediv] at h5;exact h5
 omega
theorem LA (h:uH lo hi=true): -2305843009213693952≤lo∧hi≤2305843009213693952:=by unfold uH at h;simpa using h
theorem Vs (c:Rat):jI c≤jo c:=by
 unfold jI jo
 have h3:=den_pos (c*((65536:Int):Rat))
 rw[Rat.neg_num,Rat.neg_den,pf _ (by omega),pf _ (by omega)]
 generalize (c*((65536:Int):Rat)).num=n at*
 generalize ((c*((65536:Int):Rat)).den:Int)=d at*
 have e1:=q6 n d
 have e2:=q6 (-n) d
 have m1:=oO n (show d≠0 by omega)
 have m2:=oO (-n) (show d≠0 by omega)
 have h4:d*(n/d+(-n)/d)≤d*0:=by grind
 have:=Int.le_of_mul_le_mul_left h4 h3
 omega
theorem DJ (h:iV c=true): -2305843009213693952≤jI c∧jI c≤2305843009213693952∧ -2305843009213693952≤jo c∧jo c≤2305843009213693952:=by
 unfold iV at h
 simp only[dT] at h
 have h1:=LA h.2.2
 have h2:=Vs c
 omega
theorem Rc (h1:x≤2305843009213693952) (h2:0≤y) (h3:y≤2305843009213693952):0≤pz x∧pz x≤549755813889∧0≤lH y∧lH y≤549755813889:=by
 have b1:=B6 (n:=max x 0) (by omega) (by omega)
 have b2:=B6 (n:=y) h2 h3
 unfold pz lH
 grind
theorem Xb (n:Nat) (h:yC x y u v n=true): -2305843009213693952≤BZ x y u v n∧BZ x y u v n≤2305843009213693952∧ -2305843009213693952≤AL x y u v n∧AL x y u v n≤2305843009213693952:=by
 induction n with
 |zero=>show _≤(2305843009213693952:Int)∧(2305843009213693952:Int)≤_∧_≤(-2305843009213693952:Int)∧(-2305843009213693952:Int)≤_;omega
 |succ n ih=>
  have h':(yC x y u v n&&qg (vH x y (n/2)) (vH u v (n%2)))=true:=h
  rw[dT] at h'
  have i:=ih h'.1
  have s1:=h'.2
  unfold qg at s1
  simp only[dT,decide_eq_true_eq] at s1
  show _≤min _ _∧min _ _≤_∧_≤max _ _∧max _ _≤_
  omega
def Tr (b c:Rat):Bool:=yC (jI b) (jo b) (pz (jI c)) (lH (jo c)) 4
def EC (b c:Rat):Int:=BZ (jI b) (jo b) (pz (jI c)) (lH (jo c)) 4
def EU (b c:Rat):Int:=AL (jI b) (jo b) (pz (jI c)) (lH (jo c)) 4
def Uo (a b c:Rat):Bool:=iV b&&(iV c&&(!decide (aR c 0<0)&&(Tr b c&&uH (jI a+EC b c) (jo a+EU b c))))
def eK (a b c:Rat):Bool:=iV a&&((aR b 0==0)||Uo a b c)
def ek (a b c:Rat):Int:=if eK a b c then(if (aR b 0==0)=true then jI a else jI a+EC b c) else 0
def ei (a b c:Rat):Int:=if eK a b c then(if (aR b 0==0)=true then jo a else jo a+EU b c) else 0
theorem qk (h:eK a b c=false):ek a b c=0∧ei a b c=0:=by
 unfold ek ei;rw[h];exact⟨rfl,rfl⟩
theorem acj (h:iV a=false):eK a b c=false:=by unfold eK;rw[h];rfl
theorem S2 (h:(aR b 0==0)=false) (hx:Uo a b c=false):eK a b c=false:=by unfold eK;rw[h,hx];cases iV a<;>rfl
theorem Zk (h:iV a=true) (h2:(aR b 0==0)=true):ek a b c=jI a∧ei a b c=jo a∧eK a b c=true:=by
 have e:eK a b c=true:=by unfold eK;rw[h,h2];rfl
 unfold ek ei;rw[e,if_pos rfl,if_pos rfl,if_pos h2,if_pos h2];exact⟨rfl,rfl,rfl⟩
theorem abY (h:iV a=true) (h2:(aR b 0==0)=false) (h3:iV b=true) (h4:iV c=true) (h5:decide (aR c 0<0)=false) (h6:Tr b c=true):
 ek a b c=(if uH (jI a+EC b c) (jo a+EU b c) then jI a+EC b c else 0)∧ei a b c=(if uH (jI a+EC b c) (jo a+EU b c) then jo a+EU b c else 0)∧eK a b c=uH (jI a+EC b c) (jo a+EU b c):=by
 have e:eK a b c=uH (jI a+EC b c) (jo a+EU b c):=by unfold eK Uo;rw[h,h2,h3,h4,h5,h6];rfl
 unfold ek ei;rw[e,h2];exact⟨rfl,rfl,rfl⟩
theorem pE (ha:Rz 4000000 a) (hb:Rz 4000000 b) (hc:Rz 4000000 c):Ok Tryz.prog 223 [.a ((cR a++cR b++cR c))] [.a (([.i .i64 (ek a b c)]++[.i .i64 (ei a b c)])),.c (.b (eK a b c))]:=by
 refine fD Tryz.func223 72 [.cell 2 202,.tmp 3] rfl ?_
 refine aa ?_
 refine ah ?_
 refine aa ?_
 refine ah ?_
 refine ac rfl (oZ (aW ha)) ?_
 refine aa ?_
 refine aa ?_
 refine ah ?_
 refine kT (bp rfl) (fun c1 hb1=>?_)
 cases c1
 ·have ea:=dW hb1
  refine ac rfl (dm) ?_
  refine aX rfl (fun hc2=>?_) (fun hc2=>?_)
  ·obtain⟨w1,w2,w3⟩:=Zk (c:=c) ea hc2
   refine aa ?_
   refine ah ?_
   refine bb ?_
   have x1:ek a b c=(if iV a then jI a else 0):=by rw[w1,ea];rfl
   have x2:ei a b c=(if iV a then jo a else 0):=by rw[w2,ea];rfl
   have x3:eK a b c=iV a:=by rw[w3,ea]
   rw[x1,x2,x3]
   exact ai (a8 i6 rfl (al ae))
  ·have hb0:=hc2
   refine aJ ?_
   refine aa ?_
   refine ah ?_
   refine ac rfl (oZ (aW hb)) ?_
   refine aa ?_
   refine ah ?_
   refine ac rfl (oZ (aW hc)) ?_
   refine aa ?_
   refine aa ?_
   refine ah ?_
   refine kT (bp rfl) (fun c3 hb3=>?_)
   cases c3
   ·have eb:=dW hb3
    refine kT (bp rfl) (fun c4 hb4=>?_)
    cases c4
    ·have ec:=dW hb4
     refine ac rfl (dm) ?_
     refine aX rfl (fun hc5=>?_) (fun hc5=>?_)
     ·have hno:eK a b c=false:=S2 hb0 (by unfold Uo;rw[hc5,Bool.not_true,rW,pB,pB])
      refine aa<|ah<|ar (aC (us:=([.i .i64 0]++[.i .i64 0])) oR oa rfl rfl rfl) ?_
      refine bb ?_
      rw[(qk hno).1,(qk hno).2,hno]
      exact ai (a8 i6 rfl (al ae))
     ·have hcn:=hc5
      have bA:=DJ ea
      have bB:=DJ eb
      have bC:=DJ ec
      have hH:=Ad (c:=c) (Dx hc5)
      have bS:=Rc (x:=jI c) (y:=jo c) (by omega) hH (by omega)
      refine qu (σ':=⟨72,[(1,.p 1 0),(2,.p 2 0),(4,.p 4 0),(6,.p 6 0),(7,.p 7 0)],[(1,49,(cR a++cR b++cR c)),(2,202,([.i .i64 0]++[.i .i64 0])),(4,202,([.i .i64 (jI a)]++[.i .i64 (jo a)])),(6,202,([.i .i64 (jI b)]++[.i .i64 (jo b)])),(7,202,([.i .i64 (jI c)]++[.i .i64 (jo c)]))]⟩) (aB ⟨rfl,rfl,rfl,rfl,rfl,trivial⟩ ⟨rfl,rfl,by rw[if_pos ea,if_pos ea];rfl,by rw[if_pos eb,if_pos eb];rfl,by rw[if_pos ec,if_pos ec];rfl,trivial⟩ rfl) ?_
      refine aJ ?_
      refine aa ?_
      refine aa ?_
      refine ah ?_
      refine ac rfl (Gp (by omega) (by omega) (by omega) (by omega) (by omega)) ?_
      refine aa ?_
      refine ah ?_
      refine ba rfl ?_
      refine aJ ?_
      refine aa ?_
      refine aa ?_
      refine ah ?_
      refine ac rfl (LR (by omega) (by omega) (by omega) (by omega) (by omega) (by omega) (by omega) (by omega)) ?_
      refine aa ?_
      refine ah ?_
      refine aX rfl (fun hc6=>?_) (fun hc6=>?_)
      ·have hno:eK a b c=false:=S2 hb0 (by unfold Uo Tr;rw[ia hc6,rW,pB,pB,pB])
       refine aa<|ah<|ar (aC (us:=([.i .i64 0]++[.i .i64 0])) oR oa rfl rfl rfl) ?_
       refine bb ?_
       rw[(qk hno).1,(qk hno).2,hno]
       exact ai (a8 i6 rfl (al ae))
      ·have hm:Tr b c=true:=dW hc6
       have bM:=Xb 4 hm
       obtain⟨w1,w2,w3⟩:=abY ea hb0 eb ec hcn hm
       refine qu (σ':=⟨72,[(1,.p 1 0),(2,.p 2 0),(4,.p 4 0),(6,.p 6 0),(7,.p 7 0)],[(1,49,(cR a++cR b++cR c)),(2,202,([.i .i64 0]++[.i .i64 0])),(4,202,([.i .i64 (jI a)]++[.i .i64 (jo a)])),(6,202,([.i .i64 (EC b c)]++[.i .i64 (EU b c)])),(7,202,([.i .i64 (pz (jI c))]++[.i .i64 (lH (jo c))]))]⟩) (aB ⟨rfl,rfl,rfl,rfl,rfl,trivial⟩ ⟨rfl,rfl,rfl,by rw[if_pos (dW hc6),if_pos (dW hc6)];rfl,rfl,trivial⟩ rfl) ?_
       refine aJ ?_
       refine aa ?_
       refine ah ?_
       refine ac rfl (LZ (x:=jI a) (y:=jo a) (u:=EC b c) (v:=EU b c) (by omega) (by omega) (by omega) (by omega) bM.1 bM.2.1 bM.2.2.1 bM.2.2.2) ?_
       refine bb ?_
       rw[w1,w2,w3]
       exact ai (a8 i6 rfl (al ae))
    ·have hno:eK a b c=false:=S2 hb0 (by unfold Uo;rw[ia hb4,rW,pB])
     refine cO rfl<|aa<|ah<|ar (aC (us:=([.i .i64 0]++[.i .i64 0])) oR oa rfl rfl rfl) ?_
     refine bb ?_
     rw[(qk hno).1,(qk hno).2,hno]
     exact ai (a8 i6 rfl (al ae))
   ·have hno:eK a b c=false:=S2 hb0 (by unfold Uo;rw[ia hb3];rfl)
    refine ar (bp rfl)<|cO rfl<|aa<|ah<|ar (aC (us:=([.i .i64 0]++[.i .i64 0])) oR oa rfl rfl rfl) ?_
    refine bb ?_
    rw[(qk hno).1,(qk hno).2,hno]
    exact ai (a8 i6 rfl (al ae))
 ·refine cO rfl ?_
  refine aa ?_
  refine ah ?_
  refine bb ?_
  have hno:eK a b c=false:=acj (ia hb1)
  have x1:ek a b c=(if iV a then jI a else 0):=by rw[(qk hno).1,ia hb1];rfl
  have x2:ei a b c=(if iV a then jo a else 0):=by rw[(qk hno).2,ia hb1];rfl
  have x3:eK a b c=iV a:=by rw[hno,ia hb1]
  rw[x1,x2,x3]
  exact ai (a8 i6 rfl (al ae))
def Jf (o1 o2:Bool) (l1 h1 l2 h2:Int):Int:=if (o1&&o2)=true then(if decide (h1<l2)=true then-1 else if decide (l1>h2)=true then 1 else 0) else 0
def H5 (o1 o2:Bool) (l1 h1 l2 h2:Int):Bool:=(o1&&o2)&&(decide (h1<l2)||decide (l1>h2))
theorem Bn {f:Rat}(ha:Rz 4000000 a) (hb:Rz 4000000 b) (hc:Rz 4000000 c) (hd:Rz 4000000 d) (he:Rz 4000000 e) (hf:Rz 4000000 f):Ok Tryz.prog 146 [.a ((cR a++cR b++cR c)),.a ((cR d++cR e++cR f))] [.c (.i .i64 (Jf (eK a b c) (eK d e f) (ek a b c) (ei a b c) (ek d e f) (ei d e f))),.c (.b (H5 (eK a b c) (eK d e f) (ek a b c) (ei a b c) (ek d e f) (ei d e f)))]:=by
 refine bU Tryz.func146 rfl ?_
 refine ac rfl (pE (by assumption) (by assumption) (by assumption)) ?_
 refine ac rfl (pE (by assumption) (by assumption) (by assumption)) ?_
 refine kT (bp rfl) (fun c1 hb1=>?_)
 cases c1
 ·refine dr rfl (fun hc2=>?_) (fun hc2=>?_)
  ·refine ai ?_
   rw[show Jf (eK a b c) (eK d e f) (ek a b c) (ei a b c) (ek d e f) (ei d e f)=0 from by unfold Jf;rw[dW hb1,ia hc2];rfl,show H5 (eK a b c) (eK d e f) (ek a b c) (ei a b c) (ek d e f) (ei d e f)=false from by unfold H5;rw[dW hb1,ia hc2];rfl]
   exact al (al ae)
  ·refine dr rfl (fun hc3=>?_) (fun hc3=>?_)
   ·refine ai ?_
    rw[show Jf (eK a b c) (eK d e f) (ek a b c) (ei a b c) (ek d e f) (ei d e f)= -1 from by unfold Jf;rw[dW hb1,dW hc2,hc3];rfl,show H5 (eK a b c) (eK d e f) (ek a b c) (ei a b c) (ek d e f) (ei d e f)=true from by unfold H5;rw[dW hb1,dW hc2,hc3];rfl]
    exact al (al ae)
   ·refine dr rfl (fun hc4=>?_) (fun hc4=>?_)
    ·refine ai ?_
     rw[show Jf (eK a b c) (eK d e f) (ek a b c) (ei a b c) (ek d e f) (ei d e f)=1 from by unfold Jf;rw[dW hb1,dW hc2,hc3,hc4];rfl,show H5 (eK a b c) (eK d e f) (ek a b c) (ei a b c) (ek d e f) (ei d e f)=true from by unfold H5;rw[dW hb1,dW hc2,hc3,hc4];rfl]
     exact al (al ae)
    ·refine ai ?_
     rw[show Jf (eK a b c) (eK d e f) (ek a b c) (ei a b c) (ek d e f) (ei d e f)=0 from by unfold Jf;rw[dW hb1,dW hc2,hc3,hc4];rfl,show H5 (eK a b c) (eK d e f) (ek a b c) (ei a b c) (ek d e f) (ei d e f)=false from by unfold H5;rw[dW hb1,dW hc2,hc3,hc4];rfl]
     exact al (al ae)
 ·refine oC rfl<|ai ?_
  rw[show Jf (eK a b c) (eK d e f) (ek a b c) (ei a b c) (ek d e f) (ei d e f)=0 from by unfold Jf;rw[ia hb1];rfl,show H5 (eK a b c) (eK d e f) (ek a b c) (ei a b c) (ek d e f) (ei d e f)=false from by unfold H5;rw[ia hb1];rfl]
  exact al (al ae)
theorem B8 (w:World) (b:Nat) (v:Value) (U T:TypeId) (cs ds:Array Value) (u:Value) (hlt:b<w.heap.size) (hb:w.heap[b]? =some (.cells #[u] T (0,0))):
 (((w.setCell ⟨b,0,none⟩ v).alloc (.cells cs U)).alloc (.cells ds U)).heap[w.heap.size+1]? =some (.cells ds U (0,0))∧
 (((w.setCell ⟨b,0,none⟩ v).alloc (.cells cs U)).alloc (.cells ds U)).heap[b]? =some (.cells #[v] T (0,0))∧Mid b w (((w.setCell ⟨b,0,none⟩ v).alloc (.cells cs U)).alloc (.cells ds U)):=by
 have hs:(w.setCell ⟨b,0,none⟩ v).heap.size=w.heap.size:=by simp
 refine⟨?_,?_,?_⟩
 ·have:=heap_alloc_new ((w.setCell ⟨b,0,none⟩ v).alloc (.cells cs U)) (.cells ds U)
  rw[iG,hs] at this
  grind
 ·rw[xm _ _ _ (by rw[iG,hs];omega),xm _ _ _ (by rw[hs];omega)]
  exact heap_setCell_same w b 0 #[u] T v hb
 ·refine⟨rfl,rfl,rfl,by rw[iG,iG,hs];omega,fun c hc hne=>?_⟩
  rw[xm _ _ _ (by rw[iG,hs];omega),xm _ _ _ (by rw[hs];omega)]
  exact heap_setCell_other w ⟨b,0,none⟩ c v hne
set_option maxRecDepth 10000 in
theorem QC (b:Nat) (ok c:Bool) (lo hi:Int) (w:World) (hb:w.heap[b]? =some (.cells #[.bool ok] 233 (0,0))):
 Calls Tryz.prog 279 #[.pointer (some ⟨b,0,none⟩),.agg #[.int .i64 lo,.int .i64 hi],.bool c] w fun e w'=>
  e=.returned (.agg #[.int .i64 lo,.int .i64 hi])∧w'.heap[b]? =some (.cells #[.bool (ok&&c)] 233 (0,0))∧Mid b w w':=by
 have hlt:b<w.heap.size:=(rD.1 hb).1
 have e1:((w.alloc (.cells #[.int .i64 lo,.int .i64 hi] 202)).alloc (.cells #[.int .i64 0,.int .i64 0] 202)).heap[b]? =some (.cells #[.bool ok] 233 (0,0)):=by
  rw[xm _ _ _ (by simp;omega),xm _ _ _ hlt];exact hb
 have c1:((w.alloc (.cells #[.int .i64 lo,.int .i64 hi] 202)).alloc (.cells #[.int .i64 0,.int .i64 0] 202)).cell? ⟨b,0,none⟩=some (.bool ok):=(dk e1 0).trans rfl
 have f0:w.frozen? ⟨b,0,none⟩=false:=Bk.frozen (t:=233) (cs:= #[.bool ok]) hb 0
 cases ok
 ·go_enter Tryz.func279,Tryz.ntmps279
  go_wp2_with fail
  obtain⟨h1,h2,h3⟩:=B8 w b (.bool false) 202 233 #[.int .i64 lo,.int .i64 hi] #[.int .i64 lo,.int .i64 hi] _ hlt hb
  have k0:=(dk h1 0).trans rfl
  have k1:=(dk h1 1).trans rfl
  refine⟨rfl,.agg #[.int .i64 lo,.int .i64 hi],?_,rfl,h2,h3⟩
  simp[results,Tryz.results279,go_sem,k0,k1]
  try rfl
 ·go_enter Tryz.func279,Tryz.ntmps279
  go_wp2_with fail
  obtain⟨h1,h2,h3⟩:=B8 w b (.bool c) 202 233 #[.int .i64 lo,.int .i64 hi] #[.int .i64 lo,.int .i64 hi] _ hlt hb
  have k0:=(dk h1 0).trans rfl
  have k1:=(dk h1 1).trans rfl
  refine⟨rfl,.agg #[.int .i64 lo,.int .i64 hi],?_,rfl,h2,h3⟩
  simp[results,Tryz.results279,go_sem,k0,k1]
  try rfl
structure OkP (P:Program) (f:FuncId) (U:TypeId) (cs0 cs1:List CellD) (ds rs:List D0):Prop where
 cal:fU P f=true
 run: ∀(V:Nat→Prop) (b:Nat) (bs:Array Value) (vs:Array Value) (vl:List Value) (w:World),vs.toList=.pointer (some ⟨b,0,none⟩)::vl→(∀c,V c→c<w.heap.size)→V b→w.heap[b]? =some (.cells bs U (0,0))→RdCs V w bs.toList cs0→RdL V w vl ds→
  Calls P f vs w fun e w'=> ∃v,∃bs':Array Value,e=.returned v∧w'.heap[b]? =some (.cells bs' U (0,0))∧Mid b w w'∧RdCs V w' bs'.toList cs1∧VX V w' v rs
section
variable {P:Program}{ops:Array Oper}{T:TF}{B:BF}
theorem f7 {fo x:Operand}{xs:List Operand}{args:Array Operand}{at_:Array TypeId}{f:FuncId}{cs0 cs1:List CellD}{ds rs:List D0}
 (hf:dc T fo=some (.v (.c (.f f)))) (hargs:args.toList=x::xs) (hx:dc T x=some (.p k 0)) (ha:pJ T xs=some ds) (hb:B k=some (U,cs0)) (hok:OkP P f U cs0 cs1 ds rs) (hg:gd ops ⟨dst,.call ⟨.value fo,args,at_⟩,ty,pos,af,g⟩ T=some true):
 Sem P ops ⟨dst,.call ⟨.value fo,args,at_⟩,ty,pos,af,g⟩ T B (.rs k U cs1 (wR rs)):=by
 refine⟨by unfold wR;split<;>rfl,⟨_,hb⟩,fun V β a w hs=>⟨fa hs hg,?_⟩⟩
 have hin: ∀y∈x::xs,y∈(⟨dst,.call ⟨.value fo,args,at_⟩,ty,pos,af,g⟩:Oper).op.operands:=fun y hy=>by
  have hx2:y∈args:=by grind
  simp[Op.operands,Call.operands,hx2]
 have h1:=RdC.func_eq (aK hs (x:=fo) (by simp[Op.operands,Call.operands]) hf)
 have h2:=js hs xs ds (fun y hy=>hin y (iY _ hy)) ha
 have h3:a.eval x=.pointer (some ⟨β k,0,none⟩):=aK hs (hin x (j5 ..)) hx
 obtain⟨hV,bs,e,hr⟩:=hs.box k U cs0 hb
 have hc:=hok.cal
 unfold fU at hc
 cases hfn:P.funcs[f]? with
 |none=>rw[hfn] at hc;cases hc
 |some fn=>
  rw[hfn] at hc
  simp only[dT,bne_iff_ne,ne_eq,sJ] at hc
  have hrun:(execOp a.eval ⟨dst,.call ⟨.value fo,args,at_⟩,ty,pos,af,g⟩).run P w=.ok (.enter f (args.map a.eval)) w:=by
   have hb2:fn.body≠none:=by have:=hc.2;cases hbb:fn.body with
    |none=>rw[hbb] at this;cases this
    |some c=>simp
   simp[execOp,resolve,h1,Deferred.ofValue,invoke,callFunc,program,Sem.run,hfn,hc.1,hb2]
  unfold Gives
  rw[hrun]
  refine(hok.run V (β k) bs (args.map a.eval) (xs.map a.eval) w (by rw[xy,hargs,pt,h3]) hs.av hV e hr h2).mono ?_
  rintro e w' ⟨v,bs',rfl,hbl,hm,hr1,hr2⟩
  refine⟨v,rfl,bs',hbl,hm,hr1,?_⟩
  unfold VX at hr2
  split at hr2
  ·exact hr2
  ·rename_i hne
   have e2:wR rs=.t rs:=by
    unfold wR
    grind
   rw[e2];exact hr2
theorem sM {x:Operand}{off:Nat}
 (hx:dc T x=some (.p k off)) (hg:gd ops ⟨dst,.nilCheck x,ty,pos,af,g⟩ T=some true):Sem P ops ⟨dst,.nilCheck x,ty,pos,af,g⟩ T B (.r (.p k off)):=
 bQ hg (fun l e=>qR (ops:=ops) (o:=⟨dst,.nilCheck x,ty,pos,af,g⟩) (by simp[Op.operands]) hx e)
  (fun V β a w hs=>by
   have hp:a.eval x=.pointer (some ⟨β k,off,none⟩):=aK hs (x:=x) (by simp[Op.operands]) hx
   exact⟨_,by simp[execOp,hp],rfl⟩)
end
theorem SI (ok c:Bool) (lo hi:Int):OkP Tryz.prog 279 233 [.b ok] [.b (ok&&c)] [.a [.i .i64 lo,.i .i64 hi],.c (.b c)] [.a [.i .i64 lo,.i .i64 hi]]:=
 ⟨by kernel_rfl,fun V b bs vs vl w hvs hV hb hbl hcs hds=>by
  obtain⟨vs⟩:=vs
  replace hvs:vs=_:=hvs
  subst hvs
  match vl,hds with
  |[],hds=>have:=hds.1;simp at this
  |v1::vl,hds=>
  obtain⟨h1,hds⟩:=hds.uncons
  match vl,hds with
  |[],hds=>have:=hds.1;simp at this
  |v2::vl,hds=>
  obtain⟨h2,hds⟩:=hds.uncons
  have hn:vl=[]:=lJ.1 hds.1
  subst hn
  have h2:=RdC.bool_eq h2
  subst h2
  obtain⟨cs,rfl,h1⟩:=h1
  obtain⟨cs⟩:=cs
  obtain⟨bs⟩:=bs
  match cs,h1 with
  |[],h1=>have:=h1.1;simp at this
  |x1::cs,h1=>
  obtain⟨g1,h1⟩:=h1.uncons
  match cs,h1 with
  |[],h1=>have:=h1.1;simp at this
  |x2::cs,h1=>
  obtain⟨g2,h1⟩:=h1.uncons
  have hn:cs=[]:=lJ.1 h1.1
  subst hn
  have g1:=jX g1
  have g2:=jX g2
  subst g1 g2
  match bs,hcs with
  |[],hcs=>have:=hcs.1;simp at this
  |y1::bs,hcs=>
  obtain⟨g3,hcs⟩:=hcs.uncons
  have hn:bs=[]:=lJ.1 hcs.1
  subst hn
  have g3:=RdC.bool_eq g3
  subst g3
  refine(QC b ok c lo hi w hbl).mono ?_
  rintro e w' ⟨rfl,h3,h4⟩
  exact⟨_,_,rfl,h3,h4,u6 (.b _) tJ,_,rfl,u6 (.i _ _) (u6 (.i _ _) tJ)⟩⟩
def Bd (x:Int):Prop:= -2305843009213693952≤x∧x≤2305843009213693952
theorem Bd.zero:Bd 0:=by unfold Bd;omega
def gL (e:Rat):Int:=if iV e then jI e else 0
def gH (e:Rat):Int:=if iV e then jo e else 0
theorem qO (e:Rat):Bd (gL e):=by
 unfold gL;split
 ·rename_i h;have:=DJ h;exact⟨this.1,this.2.1⟩
 ·exact Bd.zero
theorem qp (e:Rat):Bd (gH e):=by
 unfold gH;split
 ·rename_i h;have:=DJ h;exact⟨this.2.2.1,this.2.2.2⟩
 ·exact Bd.zero
theorem C8 (e:Rat):gL e≤gH e:=by
 unfold gL gH;split
 ·exact Vs e
 ·exact mV _
theorem KU (h: ¬e<0): ¬gH e<0:=by
 unfold gH;split
 ·have:=Ad h;omega
 ·omega
theorem LD (e:Rat):Bd (pz (gL e)):=by
 have:=Rc (x:=gL e) (y:=0) (qO e).2 (by omega) (by omega)
 unfold Bd;omega
theorem LP (h: ¬e<0):Bd (lH (gH e)):=by
 have:=Rc (x:=0) (y:=gH e) (by omega) (by have:=KU h;omega) (qp e).2
 unfold Bd;omega
theorem abk (x y:Int):mT x y≤mS x y:=by
 have h:NE x y/65536≤Dd (NE x y):=by unfold Dd;split<;>omega
 unfold mT mS;split<;>omega
theorem abi (x y u v:Int):BZ x y u v 4≤AL x y u v 4:=by
 exact Int.le_trans (Int.min_le_right _ _) (Int.le_trans (abk _ _) (Int.le_max_right _ _))
def pL (x y u v:Int):Int:=if yC x y u v 4 then BZ x y u v 4 else 0
def pH (x y u v:Int):Int:=if yC x y u v 4 then AL x y u v 4 else 0
theorem Cz (x y u v:Int):Bd (pL x y u v):=by
 unfold pL;split
 ·rename_i h;have:=Xb 4 h;exact⟨this.1,this.2.1⟩
 ·exact Bd.zero
theorem Cs (x y u v:Int):Bd (pH x y u v):=by
 unfold pH;split
 ·rename_i h;have:=Xb 4 h;exact⟨this.2.2.1,this.2.2.2⟩
 ·exact Bd.zero
theorem zq (x y u v:Int):pL x y u v≤pH x y u v:=by
 unfold pL pH;split
 ·exact abi x y u v
 ·exact mV _
def aL (x y u v:Int):Int:=if uH (x+u) (y+v) then x+u else 0
def aH (x y u v:Int):Int:=if uH (x+u) (y+v) then y+v else 0
theorem Ht (h:x≤y) (h2:u≤v):Bd (aL x y u v):=by
 unfold aL;split
 ·rename_i h3;have:=LA h3;unfold Bd;omega
 ·exact Bd.zero
theorem Hg (h:x≤y) (h2:u≤v):Bd (aH x y u v):=by
 unfold aH;split
 ·rename_i h3;have:=LA h3;unfold Bd;omega
 ·exact Bd.zero
theorem gX (h:Rz 4000000 e):Ok Tryz.prog 228 [dR e] [.a ([.i .i64 (gL e)]++[.i .i64 (gH e)]),.c (.b (iV e))]:=oZ h
theorem HR (h: ¬e<0):Ok Tryz.prog 278 [.a ([.i .i64 (gL e)]++[.i .i64 (gH e)])] [.a ([.i .i64 (pz (gL e))]++[.i .i64 (lH (gH e))]),.c (.b true)]:=
 Gp (qO e).1 (qO e).2 (qp e).1 (qp e).2 (KU h)
theorem th (h1:Bd x) (h2:Bd y) (h3:Bd u) (h4:Bd v):Ok Tryz.prog 233 [.a ([.i .i64 x]++[.i .i64 y]),.a ([.i .i64 u]++[.i .i64 v])] [.a ([.i .i64 (pL x y u v)]++[.i .i64 (pH x y u v)]),.c (.b (yC x y u v 4))]:=
 LR h1.1 h1.2 h2.1 h2.2 h3.1 h3.2 h4.1 h4.2
theorem qP (h1:Bd x) (h2:Bd y) (h3:Bd u) (h4:Bd v):Ok Tryz.prog 229 [.a ([.i .i64 x]++[.i .i64 y]),.a ([.i .i64 u]++[.i .i64 v])] [.a ([.i .i64 (aL x y u v)]++[.i .i64 (aH x y u v)]),.c (.b (uH (x+u) (y+v)))]:=
 LZ h1.1 h1.2 h2.1 h2.2 h3.1 h3.2 h4.1 h4.2
theorem ig {ok c:Bool}:OkP Tryz.prog 279 233 [.b ok] [.b (ok&&c)] [.a ([.i .i64 x]++[.i .i64 y]),.c (.b c)] [.a ([.i .i64 x]++[.i .i64 y])]:=SI ok c x y
def UZ (B M:Rat):Int:=pL (gL B) (gH B) (pz (gL M)) (lH (gH M))
def V4 (B M:Rat):Int:=pH (gL B) (gH B) (pz (gL M)) (lH (gH M))
def qbK (B M:Rat):Bool:=yC (gL B) (gH B) (pz (gL M)) (lH (gH M)) 4
def UN (M N:Rat):Int:=pL (pz (gL M)) (lH (gH M)) (pz (gL N)) (lH (gH N))
def SE (M N:Rat):Int:=pH (pz (gL M)) (lH (gH M)) (pz (gL N)) (lH (gH N))
def acq (M N:Rat):Bool:=yC (pz (gL M)) (lH (gH M)) (pz (gL N)) (lH (gH N)) 4
def qdL (D M N:Rat):Int:=pL (gL D) (gH D) (UN M N) (SE M N)
def qdH (D M N:Rat):Int:=pH (gL D) (gH D) (UN M N) (SE M N)
def qdK (D M N:Rat):Bool:=yC (gL D) (gH D) (UN M N) (SE M N) 4
def TA (A B M:Rat):Int:=aL (gL A) (gH A) (UZ B M) (V4 B M)
def Uq (A B M:Rat):Int:=aH (gL A) (gH A) (UZ B M) (V4 B M)
def acd (A B M:Rat):Bool:=uH (gL A+UZ B M) (gH A+V4 B M)
def TM (C D M N:Rat):Int:=aL (UZ C N) (V4 C N) (qdL D M N) (qdH D M N)
def Ug (C D M N:Rat):Int:=aH (UZ C N) (V4 C N) (qdL D M N) (qdH D M N)
def acy (C D M N:Rat):Bool:=uH (UZ C N+qdL D M N) (V4 C N+qdH D M N)
def Zd (A B C D M N:Rat):Int:=aL (TA A B M) (Uq A B M) (TM C D M N) (Ug C D M N)
def qsH (A B C D M N:Rat):Int:=aH (TA A B M) (Uq A B M) (TM C D M N) (Ug C D M N)
def qsK (A B C D M N:Rat):Bool:=uH (TA A B M+TM C D M N) (Uq A B M+Ug C D M N)
def Ys (M N:Rat):Bool:=iV M&&iV N
def Wl (B C D M N:Rat):Bool:=Ys M N&&(iV B&&(qbK B M&&(iV C&&(qbK C N&&(iV D&&(acq M N&&qdK D M N))))))
def LF (A B C D M N:Rat):Bool:=Wl B C D M N&&(iV A&&(acd A B M&&(acy C D M N&&qsK A B C D M N)))
def Se (A B C D M N:Rat):Bool:=LF A B C D M N&&I3 (Zd A B C D M N) (qsH A B C D M N)
def VN (A B C D M N:Rat):Int:=if LF A B C D M N then J4 (Zd A B C D M N) (qsH A B C D M N) else 0
theorem Em (h:LF A B C D M N=false):VN A B C D M N=0∧Se A B C D M N=false:=by
 unfold VN Se;rw[h];exact⟨rfl,rfl⟩
theorem JL (h:LF A B C D M N=true):VN A B C D M N=J4 (Zd A B C D M N) (qsH A B C D M N)∧Se A B C D M N=I3 (Zd A B C D M N) (qsH A B C D M N):=by
 unfold VN Se;rw[h];exact⟨rfl,rfl⟩
theorem OM (h:Wl B C D M N=false):LF A B C D M N=false:=by unfold LF;rw[h];rfl
theorem Wc (h:Ys M N=false):LF A B C D M N=false:=OM (by unfold Wl;rw[h];rfl)
theorem JK {b c:Bool}(h:(!b)=true) (e:c=b):c=false:=by rw[e];simpa using h
theorem XG {b c:Bool}(h:(!b)=false) (e:c=b):c=true:=by rw[e];simpa using h
theorem J6 (hA:Rz 4000000 A) (hB:Rz 4000000 B) (hC:Rz 4000000 C) (hD:Rz 4000000 D) (hM:Rz 4000000 M) (hN:Rz 4000000 N) (hm: ¬M<0) (hn: ¬N<0):Ok Tryz.prog 224 [.a ((cR A++cR B++cR C++cR D++cR M++cR N))] [.c (.i .i64 (VN A B C D M N)),.c (.b (Se A B C D M N))]:=by
 refine bU Tryz.func224 rfl<|ar (aC (us:=([.b true])) Zl Zi rfl rfl rfl) ?_
 refine ac rfl (gX (aW hM)) ?_
 refine DL.mk<|uz (f7 rfl rfl rfl rfl rfl (ig) rfl)<|fE ?_
 refine ac rfl (HR (by assumption)) ?_
 refine DL.mk<|uz (f7 rfl rfl rfl rfl rfl (ig) rfl)<|fE ?_
 refine ac rfl (gX (aW hN)) ?_
 refine DL.mk<|uz (f7 rfl rfl rfl rfl rfl (ig) rfl)<|fE ?_
 refine ac rfl (HR (by assumption)) ?_
 refine DL.mk<|uz (f7 rfl rfl rfl rfl rfl (ig) rfl)<|fE ?_
 refine ar (sM rfl rfl) ?_
 refine dr rfl (fun hc1=>?_) (fun hc1=>?_)
 ·have hk:LF A B C D M N=false:=Wc (JK hc1 (by unfold Ys;simp only[jH,Bool.and_true];try rfl))
  refine ai ?_
  rw[(Em hk).1,(Em hk).2]
  exact al (al ae)
 ·refine cU 14 [12] ?_
  refine aO rfl (gX (aW hB)) ?_
  refine DQ.mk<|uW (f7 rfl rfl rfl rfl rfl (ig) rfl) rfl rfl rfl rfl rfl (by kernel_rfl) rfl<|dY ?_
  refine aO rfl (th (qO _) (qp _) (LD _) (LP (by assumption))) ?_
  refine DQ.mk<|uW (f7 rfl rfl rfl rfl rfl (ig) rfl) rfl rfl rfl rfl rfl (by kernel_rfl) rfl<|dY ?_
  refine cU 14 [12] ?_
  refine aO rfl (gX (aW hC)) ?_
  refine DQ.mk<|uW (f7 rfl rfl rfl rfl rfl (ig) rfl) rfl rfl rfl rfl rfl (by kernel_rfl) rfl<|dY ?_
  refine aO rfl (th (qO _) (qp _) (LD _) (LP (by assumption))) ?_
  refine DQ.mk<|uW (f7 rfl rfl rfl rfl rfl (ig) rfl) rfl rfl rfl rfl rfl (by kernel_rfl) rfl<|dY ?_
  refine cU 20 [12] ?_
  refine aO rfl (gX (aW hD)) ?_
  refine DQ.mk<|uW (f7 rfl rfl rfl rfl rfl (ig) rfl) rfl rfl rfl rfl rfl (by kernel_rfl) rfl<|dY ?_
  refine aO rfl (th (LD _) (LP (by assumption)) (LD _) (LP (by assumption))) ?_
  refine DQ.mk<|uW (f7 rfl rfl rfl rfl rfl (ig) rfl) rfl rfl rfl rfl rfl (by kernel_rfl) rfl<|dY ?_
  refine aO rfl (th (qO _) (qp _) (Cz _ _ _ _) (Cs _ _ _ _)) ?_
  refine DQ.mk<|uW (f7 rfl rfl rfl rfl rfl (ig) rfl) rfl rfl rfl rfl rfl (by kernel_rfl) rfl<|dY ?_
  refine ar (sM rfl rfl) ?_
  refine dr rfl (fun hc2=>?_) (fun hc2=>?_)
  ·have hk:LF A B C D M N=false:=OM (JK hc2 (by unfold Wl Ys;simp only[jH,Bool.and_true,Bool.and_assoc];try rfl))
   refine ai ?_
   rw[(Em hk).1,(Em hk).2]
   exact al (al ae)
  ·refine cU 26 [12] ?_
   refine aO rfl (gX (aW hA)) ?_
   refine DQ.mk<|uW (f7 rfl rfl rfl rfl rfl (ig) rfl) rfl rfl rfl rfl rfl (by kernel_rfl) rfl<|dY ?_
   refine aO rfl (qP (qO _) (qp _) (Cz _ _ _ _) (Cs _ _ _ _)) ?_
   refine DQ.mk<|uW (f7 rfl rfl rfl rfl rfl (ig) rfl) rfl rfl rfl rfl rfl (by kernel_rfl) rfl<|dY ?_
   refine aO rfl (qP (Cz _ _ _ _) (Cs _ _ _ _) (Cz _ _ _ _) (Cs _ _ _ _)) ?_
   refine DQ.mk<|uW (f7 rfl rfl rfl rfl rfl (ig) rfl) rfl rfl rfl rfl rfl (by kernel_rfl) rfl<|dY ?_
   refine aO rfl (qP (Ht (by first|exact C8 _|exact zq _ _ _ _) (by first|exact C8 _|exact zq _ _ _ _)) (Hg (by first|exact C8 _|exact zq _ _ _ _) (by first|exact C8 _|exact zq _ _ _ _)) (Ht (by first|exact C8 _|exact zq _ _ _ _) (by first|exact C8 _|exact zq _ _ _ _)) (Hg (by first|exact C8 _|exact zq _ _ _ _) (by first|exact C8 _|exact zq _ _ _ _))) ?_
   refine DQ.mk<|uW (f7 rfl rfl rfl rfl rfl (ig) rfl) rfl rfl rfl rfl rfl (by kernel_rfl) rfl<|dY ?_
   refine ar (sM rfl rfl) ?_
   refine dr rfl (fun hc3=>?_) (fun hc3=>?_)
   ·have hk:LF A B C D M N=false:=JK hc3 (by unfold LF Wl Ys;simp only[jH,Bool.and_true,Bool.and_assoc];try rfl)
    refine ai ?_
    rw[(Em hk).1,(Em hk).2]
    exact al (al ae)
   ·refine ac rfl (Br) ?_
    have hk:LF A B C D M N=true:=XG hc3 (by unfold LF Wl Ys;simp only[jH,Bool.and_true,Bool.and_assoc];try rfl)
    refine ai ?_
    rw[(JL hk).1,(JL hk).2]
    exact al (al ae)
def Cx (A B C D M N:Rat):Int:=if M<0∨N<0 then 0 else if Se A B C D M N=true then VN A B C D M N else jm A B C D M N
theorem Oq (h:M<0∨N<0):Cx A B C D M N=0:=by unfold Cx;rw[if_pos h]
theorem Xo (h: ¬M<0) (h': ¬N<0) (hq:Se A B C D M N=true):Cx A B C D M N=VN A B C D M N:=by unfold Cx;rw[if_neg (fun e=>e.elim h h'),if_pos hq]
theorem E4 (h: ¬M<0) (h': ¬N<0) (hq:Se A B C D M N=false):Cx A B C D M N=pj (bi A B M) (bi C D M*aR N 0) (bi (A*A+M*(B*B)-N*(C*C+M*(D*D))) (A*B-N*(C*D)+(A*B-N*(C*D))) M):=by
 unfold Cx;rw[if_neg (fun e=>e.elim h h'),hq,if_neg (by decide),vY h h']
 unfold DF wG
 grind
def ss (a b c d e f:Rat):Int:=
 if (aR b 0==0)=true∧(aR e 0==0)=true then aR a d else
 if H5 (eK a b c) (eK d e f) (ek a b c) (ei a b c) (ek d e f) (ei d e f)=true then Jf (eK a b c) (eK d e f) (ek a b c) (ei a b c) (ek d e f) (ei d e f) else
 if (aR c f==0)=true then bi (a-d) (b-e) c else Cx (a-d) b (-e) 0 c f
section
variable {a b c d e f:Rat}
theorem YA (h:(aR b 0==0)=true) (h2:(aR e 0==0)=true):ss a b c d e f=aR a d:=by unfold ss;rw[if_pos ⟨h,h2⟩]
theorem Q4 (h: ¬((aR b 0==0)=true∧(aR e 0==0)=true)) (h2:H5 (eK a b c) (eK d e f) (ek a b c) (ei a b c) (ek d e f) (ei d e f)=true):
 ss a b c d e f=Jf (eK a b c) (eK d e f) (ek a b c) (ei a b c) (ek d e f) (ei d e f):=by unfold ss;rw[if_neg h,if_pos h2]
theorem QA (h: ¬((aR b 0==0)=true∧(aR e 0==0)=true)) (h2:H5 (eK a b c) (eK d e f) (ek a b c) (ei a b c) (ek d e f) (ei d e f)=false) (h3:(aR c f==0)=true):
 ss a b c d e f=bi (a-d) (b-e) c:=by unfold ss;rw[if_neg h,h2,if_neg (by decide),if_pos h3]
theorem QJ (h: ¬((aR b 0==0)=true∧(aR e 0==0)=true)) (h2:H5 (eK a b c) (eK d e f) (ek a b c) (ei a b c) (ek d e f) (ei d e f)=false) (h3:(aR c f==0)=false):
 ss a b c d e f=Cx (a-d) b (-e) 0 c f:=by unfold ss;rw[if_neg h,h2,if_neg (by decide),h3,if_neg (by decide)]
theorem YN {b c:Bool}(h:b=false): ¬(b=true∧c=true):=fun e=>by rw[h] at e;exact absurd e.1 (by decide)
theorem Wr {b c:Bool}(h:c=false): ¬(b=true∧c=true):=fun e=>by rw[h] at e;exact absurd e.2 (by decide)
end
theorem s8 (ha:Rz 6000000 a) (hb:Rz 6000000 b):Ok Tryz.prog 225 [dR a,dR b] [dR (a+b)]:=by
 refine bU Tryz.func225 rfl<|ac rfl (nW (aW ha) (aW hb)) ?_
 exact ai (a8 bt rfl ae)
theorem Ef (hA:Rz 160000 A) (hB:Rz 160000 B) (hC:Rz 160000 C) (hD:Rz 160000 D) (hM:Rz 160000 M) (hN:Rz 160000 N):Ok Tryz.prog 148 [.a ((cR A++cR B++cR C++cR D++cR M++cR N))] [.c (.i .i64 (Cx A B C D M N))]:=by
 have z1:=gJ (iE C D M) (dK N 0)
 have z2:=gJ (iE A B M) (iE (A*A+M*(B*B)-N*(C*C+M*(D*D))) ((A*B-N*(C*D))+(A*B-N*(C*D))) M)
 have kA:Rz 4000000 A:=hA.m_
 have kB:Rz 4000000 B:=hB.m_
 have kC:Rz 4000000 C:=hC.m_
 have kD:Rz 4000000 D:=hD.m_
 have kM:Rz 4000000 M:=hM.m_
 have kN:Rz 4000000 N:=hN.m_
 refine bU Tryz.func148 rfl ?_
 refine ac rfl (dm) ?_
 refine kT (bp rfl) (fun c1 hb1=>?_)
 cases c1
 ·have n1:=Dx hb1
  refine ac rfl (dm) ?_
  refine dr rfl (fun hc2=>?_) (fun hc2=>?_)
  ·refine ai ?_
   rw[Oq (.inr (Iy hc2))]
   exact al ae
  ·have n2:=Dx hc2
   refine ac rfl (J6 (by assumption) (by assumption) (by assumption) (by assumption) (by assumption) (by assumption) (by assumption) (by assumption)) ?_
   refine dr rfl (fun hc3=>?_) (fun hc3=>?_)
   ·refine ai ?_
    rw[Xo n1 n2 hc3]
    exact al ae
   ·refine cU 20 [] ?_
    refine aO rfl (pn (aW hA) (aW hB) (aW hM)) ?_
    refine aO rfl (pn (aW hC) (aW hD) (aW hM)) ?_
    refine aO rfl (dm) ?_
    refine aq (cr ((bi C D M)*(aR N 0)) (dF (by omega) (by omega)) rfl) ?_
    refine kT (bp rfl) (fun c4 hb4=>?_)
    cases c4
    ·refine dr rfl (fun hc5=>?_) (fun hc5=>?_)
     ·refine ai ?_
      rw[E4 n1 n2 hc3,yp hc5]
      exact al ae
     ·refine dr rfl (fun hc6=>?_) (fun hc6=>?_)
      ·refine ai ?_
       rw[E4 n1 n2 hc3,yu hc6]
       exact al ae
      ·refine cU 42 [] ?_
       refine aO rfl (dh (aW hA) (aW hA)) ?_
       refine aO rfl (dh (aW hB) (aW hB)) ?_
       refine aO rfl (dh (aW hM) (aW (aF hB hB))) ?_
       refine aO rfl (s8 (aW (aF hA hA)) (aW (aF hM (aF hB hB)))) ?_
       refine aO rfl (dh (aW hC) (aW hC)) ?_
       refine aO rfl (dh (aW hD) (aW hD)) ?_
       refine aO rfl (dh (aW hM) (aW (aF hD hD))) ?_
       refine aO rfl (s8 (aW (aF hC hC)) (aW (aF hM (aF hD hD)))) ?_
       refine aO rfl (dh (aW hN) (aW (eh (aF hC hC) (aF hM (aF hD hD))))) ?_
       refine aO rfl (gU (aW (eh (aF hA hA) (aF hM (aF hB hB)))) (aW (aF hN (eh (aF hC hC) (aF hM (aF hD hD)))))) ?_
       refine cU 18 [] ?_
       refine aO rfl (dh (aW hA) (aW hB)) ?_
       refine aO rfl (dh (aW hC) (aW hD)) ?_
       refine aO rfl (dh (aW hN) (aW (aF hC hD))) ?_
       refine aO rfl (gU (aW (aF hA hB)) (aW (aF hN (aF hC hD)))) ?_
       refine cU 11 [] ?_
       refine aO rfl (s8 (aW (az (aF hA hB) (aF hN (aF hC hD)))) (aW (az (aF hA hB) (aF hN (aF hC hD))))) ?_
       refine aO rfl (pn (aW (az (eh (aF hA hA) (aF hM (aF hB hB))) (aF hN (eh (aF hC hC) (aF hM (aF hD hD)))))) (aW (eh (az (aF hA hB) (aF hN (aF hC hD))) (az (aF hA hB) (aF hN (aF hC hD))))) (aW hM)) ?_
       refine aq (cr ((bi A B M)*(bi (((A*A)+(M*(B*B)))-(N*((C*C)+(M*(D*D))))) (((A*B)-(N*(C*D)))+((A*B)-(N*(C*D)))) M)) (dF (by omega) (by omega)) rfl) ?_
       refine ai ?_
       rw[E4 n1 n2 hc3,yc hc6 hb4 hc5]
       exact al ae
    ·refine oC rfl<|ai ?_
     rw[E4 n1 n2 hc3,yb hb4]
     exact al ae
 ·refine oC rfl<|ai ?_
  rw[Oq (.inl (Iy hb1))]
  exact al ae
theorem BE {f:Rat}(ha:Rz 2000000 a) (hb:Rz 160000 b) (hc:Rz 160000 c) (hd:Rz 2000000 d) (he:Rz 160000 e) (hf:Rz 160000 f) (h1:Rz 160000 (a-d)):Ok Tryz.prog 76 [.a ((cR a++cR b++cR c)),.a ((cR d++cR e++cR f))] [.c (.i .i64 (ss a b c d e f))]:=by
 have ka:Rz 6000000 a:=ha.m_
 have la:Rz 4000000 a:=ha.m_
 have kb:Rz 6000000 b:=hb.m_
 have lb:Rz 4000000 b:=hb.m_
 have kc:Rz 6000000 c:=hc.m_
 have lc:Rz 4000000 c:=hc.m_
 have kd:Rz 6000000 d:=hd.m_
 have ld:Rz 4000000 d:=hd.m_
 have ke:Rz 6000000 e:=he.m_
 have le:Rz 4000000 e:=he.m_
 have kf:Rz 6000000 f:=hf.m_
 have lf:Rz 4000000 f:=hf.m_
 have m2:Rz 160000 (-e):=he.neg
 have m0:Rz 160000 (0:Rat):=gY (n:=0) (iw (by decide) (by decide) (by decide)) (by decide)
 have w1:Rz 2000000 (a-d):=h1.m_
 have w2:Rz 2000000 (b-e):=(hb.sub he).m_
 have w3:Rz 2000000 c:=hc.m_
 refine bU Tryz.func76 rfl ?_
 refine ac rfl (dm) ?_
 refine kT (bp rfl) (fun c1 hb1=>?_)
 cases c1
 ·refine mi rfl<|ac rfl (Bn (by assumption) (by assumption) (by assumption) (by assumption) (by assumption) (by assumption)) ?_
  refine dr rfl (fun hc2=>?_) (fun hc2=>?_)
  ·refine ai ?_
   rw[Q4 (YN hb1) hc2]
   exact al ae
  ·refine ac rfl (oe (aW hc) (aW hf)) ?_
   refine dr rfl (fun hc3=>?_) (fun hc3=>?_)
   ·refine cU 14 [] ?_
    refine aO rfl (gU (aW ha) (aW hd)) ?_
    refine aO rfl (gU (aW hb) (aW he)) ?_
    refine aO rfl (pn w1 w2 w3) ?_
    refine ai ?_
    rw[QA (YN hb1) hc2 hc3]
    exact al ae
   ·refine ac rfl (G9 (by assumption) (by assumption) (by assumption) (by assumption) (by assumption) (by assumption))<|ac rfl (Ef (by assumption) (by assumption) (by assumption) (by assumption) (by assumption) (by assumption))<|ai ?_
    rw[QJ (YN hb1) hc2 hc3]
    exact al ae
 ·refine ac rfl (dm) ?_
  refine dr rfl (fun hc4=>?_) (fun hc4=>?_)
  ·refine ac rfl (oe (aW ha) (aW hd))<|ai ?_
   rw[YA hb1 hc4]
   exact al ae
  ·refine ac rfl (Bn (by assumption) (by assumption) (by assumption) (by assumption) (by assumption) (by assumption)) ?_
   refine dr rfl (fun hc5=>?_) (fun hc5=>?_)
   ·refine ai ?_
    rw[Q4 (Wr hc4) hc5]
    exact al ae
   ·refine ac rfl (oe (aW hc) (aW hf)) ?_
    refine dr rfl (fun hc6=>?_) (fun hc6=>?_)
    ·refine cU 14 [] ?_
     refine aO rfl (gU (aW ha) (aW hd)) ?_
     refine aO rfl (gU (aW hb) (aW he)) ?_
     refine aO rfl (pn w1 w2 w3) ?_
     refine ai ?_
     rw[QA (Wr hc4) hc5 hc6]
     exact al ae
    ·refine ac rfl (G9 (by assumption) (by assumption) (by assumption) (by assumption) (by assumption) (by assumption))<|ac rfl (Ef (by assumption) (by assumption) (by assumption) (by assumption) (by assumption) (by assumption))<|ai ?_
     rw[QJ (Wr hc4) hc5 hc6]
     exact al ae
theorem HD (ha:Rz 1000000 a) (hb:Rz 1000000 b) (hc:Rz 1000000 c):Ok Tryz.prog 288 [.a ((cR a++cR b++cR c))] [.a ((cR (a*a+b*b*cc b c c)++cR (rB (a*b+b*a) (cc b c c))++cR (rC (a*b+b*a) (cc b c c))))]:=by
 have hbad: ¬Qy b c b c:=fun h=>h.2.2 rfl
 refine bU Tryz.func288 rfl<|ac rfl (DA ha hb hc ha hb hc hbad) ?_
 exact ai (a8 ez rfl ae)
def Al (a1 b1 a2 b2 c p1 q1 p2 q2 r:Rat):Int:=if ss a1 b1 (zc b1 c) p1 q1 (zc q1 r)≠0 then ss a1 b1 (zc b1 c) p1 q1 (zc q1 r) else ss a2 b2 (zc b2 c) p2 q2 (zc q2 r)
theorem Ud {r:Rat}(h:(ss a1 b1 (zc b1 c) p1 q1 (zc q1 r) !=0)=true):Al a1 b1 a2 b2 c p1 q1 p2 q2 r=ss a1 b1 (zc b1 c) p1 q1 (zc q1 r):=by unfold Al;rw[if_pos (by simpa using h)]
theorem Uw {r:Rat}(h:(ss a1 b1 (zc b1 c) p1 q1 (zc q1 r) !=0)=false):Al a1 b1 a2 b2 c p1 q1 p2 q2 r=ss a2 b2 (zc b2 c) p2 q2 (zc q2 r):=by unfold Al;rw[if_neg (by simpa using h)]
end Go.Proofs.YtkmdgigkbhmilaaGreat
