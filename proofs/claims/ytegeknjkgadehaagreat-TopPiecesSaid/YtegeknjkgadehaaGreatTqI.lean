/-Package swarfref03:signs,sums,products. -/
import Derived.Test.YtegeknjkgadehaaGreatTqH
import Derived.Test.YtegeknjkgadehaaGreatProg
namespace Go.Proofs.YtegeknjkgadehaaGreat
open Go Go.RowKit
variable {hi lo n p r u v x y:Int}{j k:Nat}{A B C D M N a a1 a2 b b1 b2 c d e f m p1 p2 q1 q2:Rat}{U xt yt:TypeId}
variable {ty:TypeId}{pos:String}{af:Array Edge}{g:Option (Nat×Bool)}{dst:Option Nat}
theorem fb:type_of% @Rz.mono:=@Rz.mono
theorem ja:type_of% @Rat.intCast_mul:=@Rat.intCast_mul
theorem og:type_of% @Rat.mul_nonneg:=@Rat.mul_nonneg
theorem s5:type_of% @Rat.intCast_le_intCast:=@Rat.intCast_le_intCast
theorem sN:type_of% @Rat.intCast_add:=@Rat.intCast_add
theorem uc:type_of% @Rat.divInt_eq_div:=@Rat.divInt_eq_div
theorem zN:type_of% @Rat.intCast_pos:=@Rat.intCast_pos
theorem zg:type_of% @Rat.intCast_nonneg:=@Rat.intCast_nonneg
theorem xX (I:Rz 6000000 a):cq 358 [dR a] [dR (a*a)]:=by refine bE Tryz.func358 rfl<|ac rfl (dw (az I) (az I)) ?_;exact ae (aN br rfl aa)
theorem K0 (J:Rz 1000000 a) (I:Rz 1000000 b) (R:Rz 1000000 c):cq 333 [.a ((cR a++cR b++cR c))] [dR (a*a-b*b*c)]:=by have ka:Rz 6000000 a:=J.m_;have W:Rz 6000000 b:=I.m_;have V:Rz 6000000 c:=R.m_;refine bE Tryz.func333 rfl<|cm 10 [] ?_;refine aw rfl (xX (az J)) ?_;refine aw rfl (xX (az I)) ?_;refine aw rfl (dw (az (al I I)) (az R)) ?_;refine aw rfl (jC (az (al J J)) (az (al (al I I) R))) ?_;exact ae (aN br rfl aa)
theorem Cm (ha:Rz 1000000 a) (W:Rz 1000000 b) (hc:Rz 1000000 c):cq 303 [.a ((cR a++cR b++cR c))] [.c (.i .i64 (s3 a b c))]:=by
 refine bE Tryz.func303 rfl<|cm 8 [] ?_;refine aw rfl b9 ?_;refine aw rfl b9 ?_;refine iN (aY rfl) (fun c1 R=>?_);cases c1
 .refine dg rfl (fun I=>?_) (fun I=>?_)
  .apply ae;rw[ahJ I];exact aj aa
  .refine dg rfl (fun J=>?_) (fun J=>?_)
   .apply ae;rw[ac0 R I,if_pos (i_eq J)];exact aj aa
   .refine ac rfl (K0 ‹_› ‹_› ‹_›)<|ac rfl b9 ?_;refine dg rfl (fun V=>?_) (fun V=>?_)
    .apply ae;rw[ac0 R I,if_neg (afO J),if_pos (aho V)];exact aj aa
    .apply ae;rw[ac0 R I,if_neg (afO J),if_neg (aek V)];exact aj aa
 .refine n7 rfl<|ae ?_;rw[ahp R];exact aj aa
theorem sT:cq 96 [dR a,dR b,dR c] [.a ((cR a++cR (rB b c)++cR (rC b c)))]:=by
 refine bE Tryz.func96 rfl<|ac rfl pf ?_;refine iN (aY rfl) (fun c1 J=>?_);cases c1
 .refine ac rfl pf ?_;refine dg rfl (fun I=>?_) (fun I=>?_)
  .refine ac rfl oJ ?_;apply ae;rw[XU (.inr (rb I)),V1 (.inr (rb I))];exact aN gT rfl aa
  .refine ar (am wO wm rfl rfl rfl) ?_;apply ae;rw[ahW (n8 J) (n8 I),ahY (n8 J) (n8 I)];exact aN gT rfl aa
 .apply n7 rfl;refine ac rfl oJ ?_;apply ae;rw[XU (.inl (rb J)),V1 (.inl (rb J))];exact aN gT rfl aa
theorem yW (V:Rz 6000000 c) (W:Rz 6000000 f) (R: ¬MT b c e f):cq 365 [.a ((cR a++cR b++cR c)),.a ((cR d++cR e++cR f))] [dR (cc b c f),.c (.b true)]:=by
 refine bE Tryz.func365 rfl<|ac rfl b9 ?_;refine dg rfl (fun I=>?_) (fun I=>?_)
 .apply ae;rw[Bj (rb I)];exact aN br rfl (aj aa)
 .refine cm 16 [4,999999] ?_;refine aw rfl b9 ?_;refine zQ (aY rfl) (fun c2 J=>?_);cases c2
  .refine aw rfl (iG (az V) (az W)) ?_;refine DQ.mk<|ig (ff br rfl) rfl rfl rfl rfl<|dY ?_;apply ae;rw[sS (n8 I),QJ R (n8 I) (n8 J)];exact aN br rfl (aj aa)
  .refine DQ.mk<|Ka (ff br rfl) rfl rfl (by kernel_rfl) rfl<|dY ?_;apply ae;rw[sS (n8 I)];exact aN br rfl (aj aa)
theorem PC (V:Rz 1000000 a) (R:Rz 1000000 b) (hc:Rz 1000000 c) (I:Rz 1000000 d) (W:Rz 1000000 e) (hf:Rz 1000000 f) (J: ¬MT b c e f):cq 361 [.a ((cR a++cR b++cR c)),.a ((cR d++cR e++cR f))] [.a ((cR (a+d)++cR (rB (b+e) (cc b c f))++cR (rC (b+e) (cc b c f)))),.c (.i .i64 0)]:=by have ka:Rz 6000000 a:=V.m_;have kb:Rz 6000000 b:=R.m_;have kc:Rz 6000000 c:=hc.m_;have kd:Rz 6000000 d:=I.m_;have ke:Rz 6000000 e:=W.m_;have kf:Rz 6000000 f:=hf.m_;refine bE Tryz.func361 rfl<|ac rfl (yW ‹_› ‹_› ‹_›)<|mL rfl<|cm 12 [] ?_;refine aw rfl (gW (az V) (az I)) ?_;refine aw rfl (gW (az R) (az W)) ?_;refine aw rfl sT ?_;exact ae (aN gT rfl (aj aa))
theorem PS (W:Rz 1000000 a) (I:Rz 1000000 b) (hc:Rz 1000000 c) (R:Rz 1000000 d) (J:Rz 1000000 e) (hf:Rz 1000000 f) (a3: ¬MT b c e f):cq 338 [.a ((cR a++cR b++cR c)),.a ((cR d++cR e++cR f))] [.a ((cR (a*d+b*e*cc b c f)++cR (rB (a*e+b*d) (cc b c f))++cR (rC (a*e+b*d) (cc b c f)))),.c (.i .i64 0)]:=by
 have ka:Rz 6000000 a:=W.m_;have kb:Rz 6000000 b:=I.m_;have kc:Rz 6000000 c:=hc.m_;have kd:Rz 6000000 d:=R.m_;have ke:Rz 6000000 e:=J.m_;have kf:Rz 6000000 f:=hf.m_;have V:Rz 1000000 (cc b c f):=by unfold cc;split<;>assumption
 have z1:Rz 6000000 (b*e):=(al I J).m_;have z2:Rz 6000000 (cc b c f):=V.m_;have z3:Rz 6000000 (b*e*cc b c f):=(al (al I J) V).m_;refine bE Tryz.func338 rfl<|ac rfl (yW ‹_› ‹_› ‹_›)<|mL rfl<|cm 14 [] ?_;refine aw rfl (dw (by first|assumption|exact fb W (by decide)) (by first|assumption|exact fb R (by decide))) ?_;refine aw rfl (dw (by first|assumption|exact fb I (by decide)) (by first|assumption|exact fb J (by decide))) ?_;refine aw rfl (dw (by first|assumption|exact fb (al I J) (by decide)) (by first|assumption|exact fb ‹_› (by decide))) ?_;refine aw rfl (gW (by first|assumption|exact fb (al W R) (by decide)) (by first|assumption|exact fb (al (al I J) ‹_›) (by decide))) ?_;apply cm 12 [];refine aw rfl (dw (by first|assumption|exact fb W (by decide)) (by first|assumption|exact fb J (by decide))) ?_;refine aw rfl (dw (by first|assumption|exact fb I (by decide)) (by first|assumption|exact fb R (by decide))) ?_;refine aw rfl (gW (by first|assumption|exact fb (al W J) (by decide)) (by first|assumption|exact fb (al I R) (by decide))) ?_;refine ac rfl sT ?_;exact ae (aN gT rfl (aj aa))
theorem HU (J:Rz 6000000 a) (I:Rz 6000000 d):cq 334 [.a ((cR a++cR b++cR c)),dR d] [.a ((cR (a+d)++cR b++cR c))]:=by refine bE Tryz.func334 rfl<|cm 9 [] ?_;refine aw rfl (gW (az J) (az I)) ?_;refine aq (am wO wm rfl rfl rfl) ?_;exact ae (aN gT rfl aa)
def Bh (a b c p q r:Rat):Int:=mY (a-p) b (-q) 0 (zc b c) (zc q r)
def nR (a1 b1 a2 b2 c p1 q1 p2 q2 r:Rat):Int:=if Bh a1 b1 c p1 q1 r≠0 then Bh a1 b1 c p1 q1 r else Bh a2 b2 c p2 q2 r
theorem Wn {r:Rat}(h:(Bh a1 b1 c p1 q1 r !=0)=true):nR a1 b1 a2 b2 c p1 q1 p2 q2 r=Bh a1 b1 c p1 q1 r:=by unfold nR;rw[if_pos (by simpa using h)]
theorem Wc {r:Rat}(h:(Bh a1 b1 c p1 q1 r !=0)=false):nR a1 b1 a2 b2 c p1 q1 p2 q2 r=Bh a2 b2 c p2 q2 r:=by unfold nR;rw[if_neg (by simpa using h)]
theorem Rz.zero (I:1<=k):Rz k (0:Rat):=⟨⟨by have:=eX k;rw[Rat.zero_num];omega,by have:=eX k;rw[Rat.zero_num];omega⟩,by rw[Rat.zero_den];exact Sz.one I⟩
theorem Rz.zc (h:Rz k c) (I:1<=k):Rz k (zc b c):=by
 unfold Go.Proofs.YtegeknjkgadehaaGreat.zc;split;·exact Rz.zero I
 .exact h
def rt (c:Rat):Rat:=Rat.divInt (bm c.num) (bm (c.den:Int))
theorem VL (h:jy c=true):dQ (if jy c then bm c.num else 0) (if jy c then bm (c.den:Int) else 0)=dR (rt c):=by
 rw[if_pos h,if_pos h];unfold jy Bw at h;simp only[di,beq_iff_eq] at h;obtain⟨h1,I⟩:=h;have d0:=fB (c.den:Int);have W:=den_pos c;have J:0<bm (c.den:Int):=by grind
 have V:Int.gcd (bm c.num) (bm (c.den:Int))=1:=by
  have R:Int.gcd c.num (c.den:Int)=1:=c.reduced;have d1:Int.gcd (bm c.num) (bm (c.den:Int))∣Int.gcd c.num (c.den:Int):=by
   refine Int.dvd_gcd ?_ ?_
   .have t:((Int.gcd (bm c.num) (bm (c.den:Int)):Nat):Int)∣bm c.num*bm c.num:=Int.dvd_mul_of_dvd_left (Int.gcd_dvd_left ..);rw[h1] at t;exact t
   .have t:((Int.gcd (bm c.num) (bm (c.den:Int)):Nat):Int)∣bm (c.den:Int)*bm (c.den:Int):=Int.dvd_mul_of_dvd_left (Int.gcd_dvd_right ..);rw[I] at t;exact t
  rw[R] at d1;exact Nat.dvd_one.1 d1
 exact(BS J (by rw[V];rfl)).symm
def Xh (x:Nat->Rat):Prop:= ∀e:Rat,0<e-> ∃K:Nat,∀i j,K<=i->K<=j->x i-x j<=e
def IT (x:Nat->Rat):Prop:= ∃e:Rat,0<e/\ ∃K:Nat,∀k,K<=k->e<=x k
def Pk (x:Nat->Rat):Prop:= ∀e:Rat,0<e-> ∃K:Nat,∀k,K<=k-> -e<=x k/\x k<=e
structure Re where
 s:Nat->Rat
 c:Xh s
theorem Re.ext {x y:Re}(h: ∀k,x.s k=y.s k):x=y:=by cases x;cases y;have:_=_:=funext h;subst this;rfl
theorem oc (h:0<e):0<e/2:=by grind
theorem Ia (h:0<e) (I:0<B):0<e/B/\B*(e/B)=e:=by refine⟨?_,by grind⟩;exact Rat.mul_pos h (Rat.inv_pos.2 I)
theorem Re.bnd (x:Re): ∃B:Rat,0<B/\ ∃K:Nat,∀k,K<=k-> -B<=x.s k/\x.s k<=B:=by
 obtain⟨K,h⟩:=x.c 1 (by decide);by_cases hs:0<=x.s K;·exact⟨x.s K+1,by grind,K,fun k I=>by have h1:=h k K I (bk _);have J:=h K k (bk _) I;constructor<;>grind⟩
 .exact⟨1-x.s K,by grind,K,fun k I=>by have h1:=h k K I (bk _);have J:=h K k (bk _) I;constructor<;>grind⟩
theorem En (q:Rat):Xh (fun _=>q):=fun e I=>⟨0,fun i j _ _=>by grind⟩
theorem XG {x y:Nat->Rat}(J:Xh x) (R:Xh y):Xh (fun k=>x k+y k):=fun e I=>by obtain⟨K,h⟩:=J (e/2) (oc I);obtain⟨L,g⟩:=R (e/2) (oc I);exact⟨max K L,fun i j hi W=>by have h1:=h i j (by omega) (by omega);have V:=g i j (by omega) (by omega);grind⟩
theorem Yz {x:Nat->Rat}(J:Xh x):Xh (fun k=> -x k):=fun e R=>by obtain⟨K,h⟩:=J e R;exact⟨K,fun i j hi I=>by have h1:=h j i I hi;grind⟩
theorem KZ (h1: -e<=a) (I:a<=e) (W: -f<=b) (R:b<=f):a*b<=e*f/\ -(e*f)<=a*b:=by have p1:0<=(e-a)*(f+b):=og (by grind) (by grind);have p2:0<=(e+a)*(f-b):=og (by grind) (by grind);have J:0<=(e-a)*(f-b):=og (by grind) (by grind);have V:0<=(e+a)*(f+b):=og (by grind) (by grind);grind
theorem Yj (x y:Re):Xh (fun k=>x.s k*y.s k):=fun e I=>by obtain⟨B,hB,K,R⟩:=x.bnd;obtain⟨D,hD,L,J⟩:=y.bnd;obtain⟨d1,e1⟩:=Ia (oc I) hB;obtain⟨d2,W⟩:=Ia (oc I) hD;obtain⟨V,h⟩:=x.c _ d2;obtain⟨L',g⟩:=y.c _ d1;refine⟨max (max K L) (max V L'),fun i j hi hj=>?_⟩;have b1:=R i (by omega);have b2:=J j (by omega);have h1:=h i j (by omega) (by omega);have h2:=h j i (by omega) (by omega);have g1:=g i j (by omega) (by omega);have g2:=g j i (by omega) (by omega);have p1:=(KZ b1.1 b1.2 (b:=y.s i-y.s j) (f:=e/2/B) (by grind) (by grind)).1;have p2:=(KZ b2.1 b2.2 (b:=x.s i-x.s j) (f:=e/2/D) (by grind) (by grind)).1;rw[e1] at p1;rw[W] at p2;grind
def Re.of (q:Rat):Re:=⟨fun _=>q,En q⟩
instance:Add Re:=⟨fun x y=>⟨fun k=>x.s k+y.s k,XG x.c y.c⟩⟩
instance:Neg Re:=⟨fun x=>⟨fun k=> -x.s k,Yz x.c⟩⟩
instance:_root_.Sub Re:=⟨fun x y=>x+ -y⟩
instance:Mul Re:=⟨fun x y=>⟨fun k=>x.s k*y.s k,Yj x y⟩⟩
theorem bF (x y:Re) (k:Nat):(x+y).s k=x.s k+y.s k:=rfl
theorem cr (x:Re) (k:Nat):(-x).s k= -x.s k:=rfl
theorem bo (x y:Re) (k:Nat):(x-y).s k=x.s k+ -y.s k:=rfl
theorem bV (x y:Re) (k:Nat):(x*y).s k=x.s k*y.s k:=rfl
theorem dy (q:Rat) (k:Nat):(Re.of q).s k=q:=rfl
theorem lJ (x:Re):IT x.s\/Pk x.s\/IT (-x).s:=by
 by_cases I:Pk x.s;·grind
 .unfold Pk at I;obtain⟨e,I⟩:=Aa.1 I;obtain⟨W,I⟩:=Ap.1 I;obtain⟨K,h⟩:=x.c (e/2) (oc W);obtain⟨k,V⟩:=Aa.1 (not_exists.1 I K);obtain⟨hk,a3⟩:=Ap.1 V;by_cases h1:e<x.s k;·exact .inl ⟨e/2,oc W,K,fun j R=>by have:=h k j hk R;grind⟩
  .have h2:x.s k< -e:=by apply kU;grind
   exact .inr (.inr ⟨e/2,oc W,K,fun j R=>by rw[cr];have:=h j k R hk;grind⟩)
section
variable {x y z:Re}
theorem V5 (h:IT x.s): ¬IT (-x).s:=fun g=>by obtain⟨e,R,K,h⟩:=h;obtain⟨f,J,L,g⟩:=g;have h1:=h (max K L) (by omega);have I:=g (max K L) (by omega);rw[cr] at I;grind
theorem AN (h:IT x.s): ¬Pk x.s:=fun g=>by obtain⟨e,I,K,h⟩:=h;obtain⟨L,g⟩:=g (e/2) (oc I);have h1:=h (max K L) (by omega);have J:=g (max K L) (by omega);grind
theorem FT (h:Pk x.s):Pk (-x).s:=fun e J=>by obtain⟨K,h⟩:=h e J;exact⟨K,fun k I=>by rw[cr];have:=h k I;constructor<;>grind⟩
theorem W3 (h:Pk x.s) (g:Pk y.s):Pk (x+y).s:=fun e I=>by obtain⟨K,h⟩:=h (e/2) (oc I);obtain⟨L,g⟩:=g (e/2) (oc I);exact⟨max K L,fun k J=>by rw[bF];have:=h k (by omega);have:=g k (by omega);constructor<;>grind⟩
theorem AT (h:IT x.s) (g:Pk y.s):IT (x+y).s:=by obtain⟨e,I,K,h⟩:=h;obtain⟨L,g⟩:=g (e/2) (oc I);exact⟨e/2,oc I,max K L,fun k J=>by rw[bF];have:=h k (by omega);have:=g k (by omega);grind⟩
theorem N7 (h:IT x.s) (g:IT y.s):IT (x+y).s:=by obtain⟨e,I,K,h⟩:=h;obtain⟨f,R,L,g⟩:=g;exact⟨e,I,max K L,fun k J=>by rw[bF];have:=h k (by omega);have:=g k (by omega);grind⟩
theorem Bu (h:IT x.s) (g:IT y.s):IT (x*y).s:=by obtain⟨e,J,K,h⟩:=h;obtain⟨f,I,L,g⟩:=g;refine⟨e*f,Rat.mul_pos J I,max K L,fun k R=>?_⟩;rw[bV];have p1:0<=(x.s k-e)*f:=og (by grind) (by grind);have p2:0<=x.s k*(y.s k-f):=og (by grind) (by grind);grind
theorem yy (x:Re) (g:Pk y.s):Pk (x*y).s:=fun e V=>by obtain⟨B,J,K,R⟩:=x.bnd;obtain⟨d1,e1⟩:=Ia V J;obtain⟨L,g⟩:=g _ d1;refine⟨max K L,fun k W=>?_⟩;rw[bV];have h1:=R k (by omega);have I:=g k (by omega);have p:=KZ h1.1 h1.2 I.1 I.2;rw[e1] at p;exact⟨p.2,p.1⟩
theorem Pc (x:Re): - -x=x:=Re.ext fun k=>by rw[cr,cr];grind
theorem v9 (x y:Re):x*y=y*x:=Re.ext fun k=>by rw[bV,bV];grind
theorem OD (x y:Re): -(x*y)= -x*y:=Re.ext fun k=>by rw[cr,bV,bV,cr];grind
theorem OV (x y:Re): -(x*y)=x* -y:=Re.ext fun k=>by rw[cr,bV,bV,cr];grind
theorem EG (x y:Re): -(x+y)= -x+ -y:=Re.ext fun k=>by rw[cr,bF,bF,cr,cr];grind
noncomputable def bz (x:Re):Int:=open Classical in if IT x.s then 1 else if IT (-x).s then-1 else 0
theorem oH:bz x=1↔IT x.s:=by
 unfold bz;split;·rename_i h;simp[h]
 .rename_i h;split<;>simp[h]
theorem nL:bz x= -1↔IT (-x).s:=by
 unfold bz;split;·rename_i h;simp[V5 h]
 grind
theorem mV:bz x=0↔Pk x.s:=by
 unfold bz;split;·rename_i h;simp[AN h]
 .rename_i h;split
  .rename_i I;simp;exact fun g=>(AN I) (FT g)
  .rename_i I;simp;exact((lJ x).resolve_left h).resolve_right I
theorem dD (x:Re):bz x=1\/bz x=0\/bz x= -1:=by
 rcases lJ x with h|h|h;·exact .inl (oH.2 h)
 .exact .inr (.inl (mV.2 h))
 .exact .inr (.inr (nL.2 h))
theorem fq (x:Re):bz (-x)= -bz x:=by
 rcases lJ x with h|h|h;·rw[oH.2 h,nL,Pc];exact h
 .rw[mV.2 h,mV.2 (FT h)];rfl
 .rw[nL.2 h,oH.2 h];rfl
theorem cU (x y:Re):bz (x*y)=bz x*bz y:=by
 rcases lJ x with h|h|h<;>rcases lJ y with g|g|g;·rw[oH.2 h,oH.2 g,oH.2 (Bu h g)];rfl
 .rw[oH.2 h,mV.2 g,mV.2 (yy x g)];rfl
 .rw[oH.2 h,nL.2 g,Int.one_mul,nL,OV];exact Bu h g
 .rw[mV.2 h,nQ,mV,v9];exact yy y h
 .rw[mV.2 h,nQ,mV,v9];exact yy y h
 .rw[mV.2 h,nQ,mV,v9];exact yy y h
 .rw[nL.2 h,oH.2 g,Int.mul_one,nL,OD];exact Bu h g
 .rw[nL.2 h,mV.2 g,mV.2 (yy x g)];rfl
 .rw[nL.2 h,nL.2 g];have e:x*y= -x* -y:=Re.ext fun k=>by rw[bV,bV,cr,cr];grind
  rw[e,oH.2 (Bu h g)];rfl
theorem dE (x:Re) (h:bz y=0):bz (x+y)=bz x:=by
 have g:=mV.1 h;rcases lJ x with h|h|h;·rw[oH.2 h,oH.2 (AT h g)]
 .rw[mV.2 h,mV.2 (W3 h g)]
 .rw[nL.2 h,nL,EG];exact AT h (FT g)
theorem On (x y:Re):x+y=y+x:=Re.ext fun k=>by rw[bF,bF];grind
theorem nO (h:bz x=0) (y:Re):bz (x+y)=bz y:=by rw[On];exact dE y h
theorem ml (h:bz x=bz y):bz (x+y)=bz x:=by
 rcases dD x with g|g|g;·rw[g,oH];exact N7 (oH.1 g) (oH.1 (h.symm.trans g))
 .rw[dE x (h.symm.trans g)]
 .rw[g,nL,EG];exact N7 (nL.1 g) (nL.1 (h.symm.trans g))
theorem Cx (h:0<=bz x) (g:0<=bz y):0<=bz (x+y):=by
 rcases dD x with a|a|a
 .rcases dD y with b|b|b;·rw[ml (a.trans b.symm)];exact h
  .rw[dE x b];exact h
  grind
 .rw[nO a];exact g
 grind
theorem G8 (h:0<bz x) (g:0<=bz y):0<bz (x+y):=by
 rcases dD y with b|b|b
 .rcases dD x with a|a|a;·rw[ml (a.trans b.symm)];exact h
  .omega
  grind
 .rw[dE x b];exact h
 grind
theorem pe (h:bz (x-y)=0):bz x=bz y:=by
 have e:x=(x-y)+y:=Re.ext fun k=>by rw[bF,bo];grind
 rw[e];exact nO h y
theorem fZ (q:Rat):bz (Re.of q)=aG q 0:=by
 unfold aG;split
 .rename_i h;exact nL.2 ⟨-q,by grind,0,fun k _=>by rw[cr,dy];grind⟩
 .split;·rename_i h;exact oH.2 ⟨q,h,0,fun k _=>by rw[dy];grind⟩
  .exact mV.2 fun e I=>⟨0,fun k _=>by rw[dy];constructor<;>grind⟩
end
theorem Ju {X Y r n:Re}(hr:0<=bz r) (V:bz (r*r-n)=0):bz (X+Y*r)=p7 (bz X) (bz Y*bz n) (bz (X*X-Y*Y*n)):=by
 have J:bz r=bz n:=by
  have h1:=pe V;rw[cU] at h1;rcases dD r with h|h|h;·grind
  .grind
  grind
 have W:bz (Y*r)=bz Y*bz n:=by rw[cU,J]
 rw[<-W];unfold p7;split
 .rename_i h;rcases h with h|h;·exact dE X h
  .exact ml h
 .rename_i h;split;·rename_i R;exact nO R _
  .rename_i R;have I:bz (Y*r)= -bz X:=by have a:=dD X;have b:=dD (Y*r);omega
   have hm:bz (X+ -(Y*r))=bz X:=ml (by rw[fq,I];omega);have e1:bz ((X+Y*r)*(X+ -(Y*r)))=bz (X*X-Y*Y*n):=by
    apply pe;have e:(X+Y*r)*(X+ -(Y*r))-(X*X-Y*Y*n)= -(Y*Y)*(r*r-n):=Re.ext fun k=>by simp only[bo,bV,bF,cr];grind
    rw[e,cU,V,uR]
   rw[cU,hm] at e1;have a:=dD X;grind
def wP (m:Rat) (k:Nat):Rat:=(((m.den:Int)*((k:Int)+1):Int):Rat)
def Y8 (m:Rat) (k:Nat):Int:=bm (m.num*(m.den:Int)*(((k:Int)+1)*((k:Int)+1)))
def xu (m:Rat) (k:Nat):Rat:=((Y8 m k:Int):Rat)/wP m k
theorem yc {x y:Rat}(I:0<d) (h:x*d<=y*d):x<=y:=by apply kU;intro J;have h1:0<(x-y)*d:=Rat.mul_pos (by grind) I;grind
theorem Mr (m:Rat):m*((m.den:Int):Rat)=((m.num:Int):Rat):=by have h:=Rat.num_divInt_den m;rw[uc] at h;have I:(0:Rat)<((m.den:Int):Rat):=zN.2 (by have:=m.den_pos;omega);grind
theorem yx (m:Rat) (k:Nat):0<wP m k:=by
 have h1:=den_pos m;have I:(0:Int)<(m.den:Int)*((k:Int)+1):=by grind
 exact zN.2 I
theorem GX (m:Rat) (k:Nat):xu m k*wP m k=((Y8 m k:Int):Rat):=by have:=yx m k;unfold xu;grind
theorem Ty (m:Rat) (k:Nat):m*(wP m k*wP m k)=((m.num*(m.den:Int)*(((k:Int)+1)*((k:Int)+1)):Int):Rat):=by have h:=Mr m;unfold wP;grind
theorem adc (m:Rat) (k:Nat):0<=Y8 m k:=fB _
theorem Tw (h:0<=m) (k:Nat):0<=m.num*(m.den:Int)*(((k:Int)+1)*((k:Int)+1)):=
 mp (mp (Rat.num_nonneg.2 h) (by have:=den_pos m;omega)) (mp (by omega) (by omega))
theorem GQ (m:Rat) (k:Nat):0<=xu m k:=by refine yc (yx m k) ?_;rw[GX];have:(0:Rat)<=((Y8 m k:Int):Rat):=zg.2 (adc m k);grind
theorem QY (h:0<=m) (k:Nat):xu m k*xu m k<=m:=by
 have I:=yx m k;refine yc (Rat.mul_pos I I) ?_;rw[Ty];have e:xu m k*xu m k*(wP m k*wP m k)=((Y8 m k*Y8 m k:Int):Rat):=by rw[ja,<-GX];grind
 rw[e];exact s5.2 (tI (Tw h k))
theorem TV (h:0<=m) (k:Nat):m<(xu m k+1/wP m k)*(xu m k+1/wP m k):=by
 have I:=yx m k;have e:(xu m k+1/wP m k)*(xu m k+1/wP m k)*(wP m k*wP m k)=(((Y8 m k+1)*(Y8 m k+1):Int):Rat):=by rw[ja,sN,<-GX];grind
 have h1:=Rat.intCast_lt_intCast.2 (BL (Tw h k));rw[<-Ty] at h1;have J:m*(wP m k*wP m k)<(xu m k+1/wP m k)*(xu m k+1/wP m k)*(wP m k*wP m k):=by rw[e];exact h1
 apply kU;intro R;have V:0<=(m-(xu m k+1/wP m k)*(xu m k+1/wP m k))*(wP m k*wP m k):=og (by grind) (by have:=Rat.mul_pos I I;grind);grind
theorem Ax (m:Rat) (J:0<e) (W:e.den<=k):0<1/wP m k/\1/wP m k<=e:=by
 have I:=yx m k;refine⟨?_,?_⟩;·have:=(Ia (e:=1) (by decide) I).1;exact this
 .refine yc I ?_;have h1:=Mr e;have R:0<e.num:=zN.1 (by rw[<-h1];exact Rat.mul_pos J (zN.2 (by have:=e.den_pos;omega)));have h3:(1:Rat)<=((e.num:Int):Rat):=by have:((1:Int):Rat)<=((e.num:Int):Rat):=s5.2 (by omega);grind
  have h4:((e.den:Int):Rat)<=wP m k:=by apply s5.2;have:=den_pos m;have V:1*((k:Int)+1)<=(m.den:Int)*((k:Int)+1):=Int.mul_le_mul_of_nonneg_right (by omega) (by omega);omega
  have h6:0<=e*(wP m k-((e.den:Int):Rat)):=og (by grind) (by grind);grind
theorem abU (h:0<=m):Xh (xu m):=fun e J=>by refine⟨e.den,fun i j _ I=>?_⟩;obtain⟨W,hs⟩:=Ax m J I;have h1:=QY h i;have R:=TV h j;have h3:=GQ m i;have h4:=GQ m j;apply kU;intro hn;have V:0<=(xu m i-(xu m j+1/wP m j))*(xu m i+(xu m j+1/wP m j)):=og (by grind) (by grind);grind
def Re.rt (m:Rat):Re:=⟨fun k=>if 0<=m then xu m k else 0,by
 by_cases h:0<=m;·simp only[h,if_true];exact abU h
 .simp only[h,if_false];exact En 0⟩
theorem aa6 {x:Re}(h: ∀k,0<=x.s k):0<=bz x:=by
 rcases dD x with a|a|a;·omega
 .omega
 .obtain⟨e,I,K,g⟩:=nL.1 a;have h1:=g K (bk _);rw[cr] at h1;grind
theorem Qm (m:Rat):0<=bz (Re.rt m):=aa6 fun k=>by
 show 0<=(if 0<=m then xu m k else 0);split;·exact GQ m k
 .exact Rat.le_refl
theorem CO (h:0<=m):bz (Re.rt m*Re.rt m-Re.of m)=0:=mV.2 fun e R=>by
 obtain⟨d1,d2⟩:=Ia R (show 0<2*m+3 by grind);refine⟨(e/(2*m+3)).den,fun k V=>?_⟩;rw[bo,bV,dy];show-e<=(if 0<=m then xu m k else 0)*(if 0<=m then xu m k else 0)+ -m/\(if 0<=m then xu m k else 0)*(if 0<=m then xu m k else 0)+ -m<=e;rw[if_pos h];obtain⟨hp,hs⟩:=Ax m d1 V;obtain⟨I,J⟩:=Ax m (e:=1) (by decide) (k:=k) (by have:(1:Rat).den=1:=rfl;rw[this];have:=(e/(2*m+3)).den_pos;omega)
 have h1:=QY h k;have W:=TV h k;have h3:=GQ m k;refine⟨?_,by grind⟩;have h4:xu m k<=m+1:=by apply kU;intro hn;have h5:0<=(xu m k-(m+1))*(xu m k+(m+1)):=og (by grind) (by grind);have h6:0<=m*m:=og h h;grind
 generalize 1/wP m k=d at*;have h7:0<=d*((m+1)-xu m k):=og (by grind) (by grind);have h8:0<=d*(1-d):=og (by grind) (by grind);have h9:0<=(2*m+3)*(e/(2*m+3)-d):=og (by grind) (by grind);grind
theorem pc (x y:Rat):aG (x-y) 0=aG x y:=by unfold aG;grind
theorem nf (x y:Rat):Re.of x*Re.of y=Re.of (x*y):=rfl
theorem Qj (x:Rat): -Re.of x=Re.of (-x):=rfl
theorem Uz (x y:Rat):Re.of x+Re.of y=Re.of (x+y):=rfl
theorem xg (x y:Rat):Re.of x-Re.of y=Re.of (x-y):=Re.ext fun k=>by rw[bo,dy,dy,dy];grind
def fE (a b m:Rat):Re:=Re.of a+Re.of b*Re.rt m
theorem io (h:0<=m):b8 a b m=bz (fE a b m):=by unfold fE;rw[Ju (Qm m) (CO h),fZ,fZ,fZ,nf,nf,nf,xg,fZ,pc];rfl
def Lt (A B C D M N:Rat):Re:=fE A B M+fE C D M*Re.rt N
theorem JF (I:0<=M) (hN:0<=N):mY A B C D M N=bz (Lt A B C D M N):=by
 unfold Lt;rw[Ju (Qm N) (CO hN),<-io I,<-io I,fZ,vZ (by grind) (by grind)];have e:bz (fE A B M*fE A B M-fE C D M*fE C D M*Re.of N)=bz (fE (EC A B C D M N) (wy A B C D N+wy A B C D N) M):=by
  apply pe;have e:(fE A B M*fE A B M-fE C D M*fE C D M*Re.of N)-fE (EC A B C D M N) (wy A B C D N+wy A B C D N) M=(Re.of (B*B-D*D*N))*(Re.rt M*Re.rt M-Re.of M):=Re.ext fun k=>by unfold fE EC wy;simp only[bo,bV,bF,dy];grind
  rw[e,cU,CO I,uR]
 rw[e,<-io I]
theorem AA (I:0<=c) (J:0<=f):mY (a-d) b (-e) 0 c f=bz (fE a b c-fE d e f):=by rw[JF I J];refine congrArg bz (Re.ext fun k=>?_);unfold Lt fE;simp only[bo,bV,bF,dy];grind
section
variable {P:Program}{eO:Array Oper}{T:TF}{B:BF}
theorem tS {x y:Operand}{k I:IntKind}{m:Int} (J:cE T x=some (.v (.c (.i k m)))) (R:cE T y=some (.v (.c (.i I n)))) (h0: ¬n<0) (W:m.fdiv (2^(min n.toNat k.bits))=r) (hg:gd eO ⟨dst,.binOp .shr xt x y yt,ty,pos,af,g⟩ T=some true):Sem P eO ⟨dst,.binOp .shr xt x y yt,ty,pos,af,g⟩ T B (.r (.v (.c (.i k r)))):=
 bv hg (qV rfl) (fun V β a w hs=>by have e1:a.eval x=.int k m:=gY (ap hs (by simp[Op.operands]) J);have e2:a.eval y=.int I n:=gY (ap hs (by simp[Op.operands]) R);subst W;exact⟨.int k (m.fdiv (2^(min n.toNat k.bits))),by simp[execOp,e1,e2,eqGuard,binOp,Op.shift,h0],.i _ _⟩)
theorem XM {x y:Operand}{k I:IntKind}{m:Int} (J:cE T x=some (.v (.c (.i k m)))) (R:cE T y=some (.v (.c (.i I n)))) (h0: ¬n<0) (W:k.wrap (m*2^(min n.toNat k.bits))=r) (hg:gd eO ⟨dst,.binOp .shl xt x y yt,ty,pos,af,g⟩ T=some true):Sem P eO ⟨dst,.binOp .shl xt x y yt,ty,pos,af,g⟩ T B (.r (.v (.c (.i k r)))):=
 bv hg (qV rfl) (fun V β a w hs=>by have e1:a.eval x=.int k m:=gY (ap hs (by simp[Op.operands]) J);have e2:a.eval y=.int I n:=gY (ap hs (by simp[Op.operands]) R);subst W;exact⟨.int k (k.wrap (m*2^(min n.toNat k.bits))),by simp[execOp,e1,e2,eqGuard,binOp,Op.shift,h0],.i _ _⟩)
end
def pN (x:Int):Int:=bm (max x 0*65536)
def kV (y:Int):Int:=if Bw (y*65536) then bm (y*65536) else bm (y*65536)+1
theorem Cg (h0:0<=n) (h1:n<=2305843009213693952):0<=bm (n*65536)/\bm (n*65536)<=549755813888:=by
 refine⟨fB _,?_⟩;have I:=tI (x:=n*65536) (by omega);by_cases h:bm (n*65536)<=549755813888;·exact h
 .have:=SF (a:=549755813889) (b:=bm (n*65536)) (by decide) (by omega);omega
theorem OP (h0: -4611686018427387904<=x) (h1:x<=4611686018427387904):ud x=true:=Xv.2 ⟨by omega,by omega⟩
theorem Js (h0: -2305843009213693952<=lo) (h1:hi<=2305843009213693952):vn lo hi=true:=Zn (by omega) (by omega)
theorem oK (ha:Rz 4000000 a):cq 82 [dR a] [.a (([.i .i64 (if iE a then jF a else 0)]++[.i .i64 (if iE a then jd a else 0)])),.c (.b (iE a))]:=by
 have hz:Rz 6000000 (a*((65536:Int):Rat)):=(al ha (Rz.int (e8 (k:=3) (by decide) (by decide) (by decide)) (by decide))).m_;have a4:Rz 6000000 a:=ha.m_;have a5:Rz 6000000 ((65536:Int):Rat):=(Rz.int (e8 (k:=3) (by decide) (by decide) (by decide)) (by decide)).m_;have J:Rz 6000000 (-(a*((65536:Int):Rat))):=hz.neg;have a9:Sz 100000000 (jF a):=(Sz.fdiv hz.n).m_;have R:Sz 100000000 ((-(a*((65536:Int):Rat))).num.fdiv ((-(a*((65536:Int):Rat))).den:Int)):=(Sz.fdiv J.n).m_;have a6:Sz 100000000 (jd a):=R.neg;have a3:cq 164 [dR (a*((65536:Int):Rat))] [dI (jF a)]:=xr hz;have W:cq 165 [dI ((-(a*((65536:Int):Rat))).num.fdiv ((-(a*((65536:Int):Rat))).den:Int))] [dI (jd a)]:=xx R;refine dP Tryz.func82 38 [.cell 2 89,.tmp 3] rfl<|ab<|ag<|ab<|fS 4 [] ?_;refine aw rfl (oY (by omega) (by omega)) ?_;refine aw rfl (dd (by first|assumption|exact fb ‹_› (by decide)) (by first|assumption|exact fb (Rz.int (e8 (by decide) (by decide) (by decide)) (by decide)) (by decide))) ?_;refine ab<|ag ?_;refine ac rfl a3 ?_;refine ac rfl (vD (by first|assumption|exact Sz.mono ‹_› (by decide))) ?_;refine ab<|ag ?_;refine ac rfl (de (by first|assumption|exact fb (al ‹_› (Rz.int (e8 (by decide) (by decide) (by decide)) (by decide))) (by decide))) ?_;refine ac rfl (xr J)<|ac rfl W ?_;refine ac rfl (vD (by first|assumption|exact Sz.mono ‹_› (by decide))) ?_;refine ab<|ab<|ag ?_;refine iN (aY rfl) (fun c1 V=>?_);cases c1
 .refine aJ rfl (fun I=>?_) (fun I=>?_)
  .refine ab<|ag<|ar (am wi vh rfl rfl rfl) ?_;apply aU;rw[show iE a=false from by unfold iE;rw[gK I,oG,sE],if_neg (by decide),if_neg (by decide)];exact ae (aN mO rfl (aj aa))
  .have e1:=dK V;have e2:=dK I;refine pG (σ':=⟨38,[(2,.p 2 0),(5,.v (.c (.i .i64 (jF a)))),(7,.v (.c (.i .i64 (jd a))))],[(2,89,([.i .i64 0]++[.i .i64 0]))]⟩) (au ⟨rfl,by rw[if_pos e1];rfl,by rw[if_pos e2];rfl,trivial⟩ ⟨rfl,trivial⟩ rfl) ?_;refine aA<|ab<|ag<|ac rfl tg ?_;apply aU;rw[show iE a=vn (jF a) (jd a) from by unfold iE;rw[e1,e2];rfl];exact ae (aN mO rfl (aj aa))
 .refine fp rfl<|ab<|ag<|ar (am wi vh rfl rfl rfl) ?_;apply aU;rw[show iE a=false from by unfold iE;rw[gK V];rfl,if_neg (by decide),if_neg (by decide)];exact ae (aN mO rfl (aj aa))
theorem Kh (h0:0<=n) (h1:n<=2305843009213693952):cq 167 [.c (.i .i64 n)] [.c (.i .i64 (bm (n*65536))),.c (.b (Bw (n*65536)))]:=by
 have z1:Sz 100000000 n:=e8 (by decide) (by omega) (by omega);have z2:Sz 100000000 (65536:Int):=e8 (by decide) (by decide) (by decide)
 have I:Sz 3 (n*65536):=⟨by have:pw 3=1000000000000000000000000000:=by decide
                            omega,by have:pw 3=1000000000000000000000000000:=by decide
                                     omega⟩
 have R:Sz 99999999 (n*65536):=I.m_;have J:Sz 100000000 (bm (n*65536)):=I.isq.m_;have V:=Cg h0 h1;have e0:(if ud (bm (n*65536)) then bm (n*65536) else 0)=bm (n*65536):=by rw[OP (by omega) (by omega),if_pos rfl]
 refine bE Tryz.func167 rfl<|ac rfl (mz (by omega) (by omega))<|ac rfl (mz (by omega) (by omega)) ?_;refine ac rfl (jo (by first|assumption|exact Sz.mono ‹_› (by decide)) (by first|assumption|exact Sz.mono (e8 (by decide) (by decide) (by decide)) (by decide))) ?_;refine ac rfl (Dr (by first|assumption|exact Sz.mono (jL ‹_› (e8 (by decide) (by decide) (by decide))) (by decide))) ?_;refine ac rfl ((show cq 163 [dI (bm (n*65536))] [.c (.i .i64 (bm (n*65536))),.c (.b (ud (bm (n*65536))))] from by have:=vD J;rw[e0] at this;exact this))<|cm 9 [] ?_;refine aw rfl (jo (by first|assumption|exact Sz.mono (Sz.isq (jL ‹_› (e8 (by decide) (by decide) (by decide)))) (by decide)) (by first|assumption|exact Sz.mono (Sz.isq (jL ‹_› (e8 (by decide) (by decide) (by decide)))) (by decide))) ?_;refine aw rfl (mH)<|ae ?_;rw[N5];exact aj (aj aa)
theorem JS (h0: -2305843009213693952<=x) (h1:x<=2305843009213693952) (W: -2305843009213693952<=y) (V:y<=2305843009213693952) (R: ¬y<0):cq 83 [.a (([.i .i64 x]++[.i .i64 y]))] [.a (([.i .i64 (pN x)]++[.i .i64 (kV y)])),.c (.b true)]:=by
 have b1:=Cg (n:=max x 0) (by omega) (by omega);have b2:=Cg (by omega) V;apply bE Tryz.func83 rfl;refine dg rfl (fun J=>?_) (fun J=>?_);·exact absurd (ww J) R
 .refine ar (Gk rfl rfl rfl) ?_;refine ac rfl (Kh (by omega) (by omega))<|ac rfl (Kh (by omega) (by omega)) ?_;refine dg rfl (fun I=>?_) (fun I=>?_)
  .refine ar (ca ((bm (y*65536))+1) (bc (by omega) (by omega)) rfl)<|ac rfl ((show cq 166 [.c (.i .i64 (bm ((max x 0)*65536))),.c (.i .i64 ((bm (y*65536))+1))] [.a ([.i .i64 (bm ((max x 0)*65536))]++[.i .i64 ((bm (y*65536))+1)]),.c (.b true)] from by have:=tg (x:=bm ((max x 0)*65536)) (y:=(bm (y*65536))+1);rw[Js (by omega) (by omega),if_pos rfl,if_pos rfl] at this;exact this)) ?_;apply ae;unfold pN kV;rw[gK I,if_neg (by decide)];exact aN mO rfl (aj aa)
  .refine ac rfl ((show cq 166 [.c (.i .i64 (bm ((max x 0)*65536))),.c (.i .i64 (bm (y*65536)))] [.a ([.i .i64 (bm ((max x 0)*65536))]++[.i .i64 (bm (y*65536))]),.c (.b true)] from by have:=tg (x:=bm ((max x 0)*65536)) (y:=bm (y*65536));rw[Js (by omega) (by omega),if_pos rfl,if_pos rfl] at this;exact this)) ?_;apply ae;unfold pN kV;rw[dK I,if_pos rfl];exact aN mO rfl (aj aa)
theorem ND (h0: -2305843009213693952<=x) (h1:x<=2305843009213693952) (I: -2305843009213693952<=y) (h3:y<=2305843009213693952) (V: -2305843009213693952<=u) (J:u<=2305843009213693952) (W: -2305843009213693952<=v) (R:v<=2305843009213693952):cq 85 [.a (([.i .i64 x]++[.i .i64 y])),.a (([.i .i64 u]++[.i .i64 v]))] [.a (([.i .i64 (if vn (x+u) (y+v) then x+u else 0)]++[.i .i64 (if vn (x+u) (y+v) then y+v else 0)])),.c (.b (vn (x+u) (y+v)))]:=by refine bE Tryz.func85 rfl<|ar (ca (x+u) (bc (by omega) (by omega)) rfl) ?_;refine ar (ca (y+v) (bc (by omega) (by omega)) rfl) ?_;refine ac rfl tg ?_;exact ae (aN mO rfl (aj aa))
theorem Nw (h0: -9223372036854775808<=x) (h1:x<=9223372036854775807):cq 249 [.c (.i .i64 x)] [.c (.i .u64 (x.natAbs:Int))]:=by
 apply bE Tryz.func249 rfl;refine dg rfl (fun I=>?_) (fun I=>?_)
 .have J:=ww I;have e:(x.natAbs:Int)= -x:=by omega
  refine ar (bi p9 fQ rfl (Ip J h0) rfl) ?_;refine ar (fG rfl (Fi J h0) rfl) ?_;apply ae;rw[e];exact aj aa
 .have J:=om I;have e:(x.natAbs:Int)=x:=by omega
  refine ar (bi p9 fQ rfl (i9 (by omega) (by omega)) rfl) ?_;apply ae;rw[e];exact aj aa
section
variable {P:Program}{eO:Array Oper}{T:TF}{B:BF}
theorem BK {x y:Operand}{k:IntKind}{m:Int} (I:cE T x=some (.v (.c (.i k m)))) (J:cE T y=some (.v (.c (.i k n)))) (R:k.wrap ((BitVec.ofInt k.bits m&&&BitVec.ofInt k.bits n).toNat:Int)=r) (W:gd eO ⟨dst,.binOp .and xt x y yt,ty,pos,af,g⟩ T=some true):Sem P eO ⟨dst,.binOp .and xt x y yt,ty,pos,af,g⟩ T B (.r (.v (.c (.i k r)))):=
 bv W (qV rfl) (fun V β a w hs=>by have e1:a.eval x=.int k m:=gY (ap hs (by simp[Op.operands]) I);have e2:a.eval y=.int k n:=gY (ap hs (by simp[Op.operands]) J);subst R;exact⟨.int k (k.wrap ((BitVec.ofInt k.bits m&&&BitVec.ofInt k.bits n).toNat:Int)),by simp[execOp,e1,e2,eqGuard,binOp,Op.intBits],.i _ _⟩)
theorem acY {x y:Operand}{k:IntKind}{m:Int} (I:cE T x=some (.v (.c (.i k m)))) (J:cE T y=some (.v (.c (.i k n)))) (R:k.wrap ((BitVec.ofInt k.bits m|||BitVec.ofInt k.bits n).toNat:Int)=r) (W:gd eO ⟨dst,.binOp .or xt x y yt,ty,pos,af,g⟩ T=some true):Sem P eO ⟨dst,.binOp .or xt x y yt,ty,pos,af,g⟩ T B (.r (.v (.c (.i k r)))):=
 bv W (qV rfl) (fun V β a w hs=>by have e1:a.eval x=.int k m:=gY (ap hs (by simp[Op.operands]) I);have e2:a.eval y=.int k n:=gY (ap hs (by simp[Op.operands]) J);subst R;exact⟨.int k (k.wrap ((BitVec.ofInt k.bits m|||BitVec.ofInt k.bits n).toNat:Int)),by simp[execOp,e1,e2,eqGuard,binOp,Op.intBits],.i _ _⟩)
end
theorem Ay (n:Nat) (h:n<18446744073709551616):(BitVec.ofInt 64 (n:Int)).toNat=n:=by rw[BitVec.toNat_ofInt];omega
theorem SL (h0:0<=x) (h1:x<=18446744073709551615):IntKind.u64.wrap ((BitVec.ofInt IntKind.u64.bits x&&&BitVec.ofInt IntKind.u64.bits 4294967295).toNat:Int)=x%4294967296:=by
 obtain⟨n,rfl⟩:=zp h0;have e:(BitVec.ofInt IntKind.u64.bits (n:Int)&&&BitVec.ofInt IntKind.u64.bits 4294967295).toNat=n%4294967296:=by show(BitVec.ofInt 64 (n:Int)&&&BitVec.ofInt 64 ((4294967295:Nat):Int)).toNat=_;rw[BitVec.toNat_and,Ay n (by omega),Ay _ (by decide)];exact Nat.and_two_pow_sub_one_eq_mod n 32
 rw[e,i9 (by omega) (by omega)];omega
theorem afZ (h0:0<=x) (h1:x<=18446744073709551615):IntKind.u64.wrap ((BitVec.ofInt IntKind.u64.bits x&&&BitVec.ofInt IntKind.u64.bits 65535).toNat:Int)=x%65536:=by
 obtain⟨n,rfl⟩:=zp h0;have e:(BitVec.ofInt IntKind.u64.bits (n:Int)&&&BitVec.ofInt IntKind.u64.bits 65535).toNat=n%65536:=by show(BitVec.ofInt 64 (n:Int)&&&BitVec.ofInt 64 ((65535:Nat):Int)).toNat=_;rw[BitVec.toNat_and,Ay n (by omega),Ay _ (by decide)];exact Nat.and_two_pow_sub_one_eq_mod n 16
 rw[e,i9 (by omega) (by omega)];omega
theorem ahw {h l:Int}(h0:0<=h) (h1:h<65536) (I:0<=l) (l1:l<281474976710656):IntKind.u64.wrap ((BitVec.ofInt IntKind.u64.bits (h*281474976710656)|||BitVec.ofInt IntKind.u64.bits l).toNat:Int)=h*281474976710656+l:=by
 obtain⟨n,rfl⟩:=zp h0;obtain⟨m,rfl⟩:=zp I;have e:(BitVec.ofInt IntKind.u64.bits ((n:Int)*281474976710656)|||BitVec.ofInt IntKind.u64.bits (m:Int)).toNat=n*281474976710656+m:=by show(BitVec.ofInt 64 ((n:Int)*((281474976710656:Nat):Int))|||BitVec.ofInt 64 (m:Int)).toNat=_;rw[<-y8,BitVec.toNat_or,Ay _ (by omega),Ay _ (by omega)];have:=Nat.two_pow_add_eq_or_of_lt (i:=48) (b:=m) (by omega) n;grind
 rw[e,i9 (by omega) (by omega)];omega
theorem Ix:x.fdiv (2^(min (32:Int).toNat IntKind.u64.bits))=x/4294967296:=by rw[show(2:Int)^(min (32:Int).toNat IntKind.u64.bits)=4294967296 from rfl];exact qS _ (by decide)
theorem aas:x.fdiv (2^(min (16:Int).toNat IntKind.u64.bits))=x/65536:=by rw[show(2:Int)^(min (16:Int).toNat IntKind.u64.bits)=65536 from rfl];exact qS _ (by decide)
theorem afC (h0:0<=x) (h1:x<65536):IntKind.u64.wrap (x*2^(min (48:Int).toNat IntKind.u64.bits))=x*281474976710656:=by rw[show(2:Int)^(min (48:Int).toNat IntKind.u64.bits)=281474976710656 from rfl,i9 (by omega) (by omega)]
theorem ahz:IntKind.u64.wrap x=x%18446744073709551616:=by unfold IntKind.wrap;simp[IntKind.bits,IntKind.signed]
theorem aeQ (_h0:0<=x) (_h1:x<=18446744073709551615) (_h2:0<=y) (_h3:y<=18446744073709551615):(x/4294967296)*(y/4294967296)+((x/4294967296)*(y%4294967296)+(x%4294967296)*(y%4294967296)/4294967296)/4294967296+(((x/4294967296)*(y%4294967296)+(x%4294967296)*(y%4294967296)/4294967296)%4294967296+(x%4294967296)*(y/4294967296))/4294967296=x*y/18446744073709551616:=by
 obtain⟨a,R⟩: ∃a,x/4294967296=a:=⟨_,rfl⟩
 obtain⟨b,J⟩: ∃b,x%4294967296=b:=⟨_,rfl⟩
 obtain⟨c,V⟩: ∃c,y/4294967296=c:=⟨_,rfl⟩
 obtain⟨d,I⟩: ∃d,y%4294967296=d:=⟨_,rfl⟩
 rw[R,J,V,I]
 have e:x*y=18446744073709551616*(a*c)+4294967296*(a*d)+4294967296*(b*c)+b*d:=by grind
 omega
theorem Pe (h0:0<=x) (h1:x<=18446744073709551615) (J:0<=y) (V:y<=18446744073709551615):cq 248 [.c (.i .u64 x),.c (.i .u64 y)] [.c (.i .u64 (x*y/18446744073709551616)),.c (.i .u64 (x*y%18446744073709551616))]:=by obtain⟨a,ha⟩: ∃a,x/4294967296=a:=⟨_,rfl⟩;obtain⟨b,W⟩: ∃b,x%4294967296=b:=⟨_,rfl⟩;obtain⟨c,hc⟩: ∃c,y/4294967296=c:=⟨_,rfl⟩;obtain⟨d,R⟩: ∃d,y%4294967296=d:=⟨_,rfl⟩;have hm:=aeQ h0 h1 J V;rw[ha,W,hc,R] at hm;have I: ∀u v:Int,0<=u->u<=4294967295->0<=v->v<=4294967295->0<=u*v/\u*v<=18446744065119617025:=fun u v u0 u1 v0 v1=>⟨Int.mul_nonneg u0 v0,qJ u1 v1 v0 (by decide)⟩;have q1:=I b d (by omega) (by omega) (by omega) (by omega);have q2:=I a d (by omega) (by omega) (by omega) (by omega);have q3:=I b c (by omega) (by omega) (by omega) (by omega);have q4:=I a c (by omega) (by omega) (by omega) (by omega);refine bE Tryz.func248 rfl<|ar (BK (r:=b) rfl rfl (by rw[<-W];exact SL h0 h1) rfl) ?_;refine ar (tS (r:=a) rfl rfl (by decide) (by rw[<-ha];exact Ix) rfl) ?_;refine ar (BK (r:=d) rfl rfl (by rw[<-R];exact SL J V) rfl) ?_;refine ar (tS (r:=c) rfl rfl (by decide) (by rw[<-hc];exact Ix) rfl) ?_;refine ar (ca (b*d) (iC (by omega) (by omega)) rfl)<|ar (ca (a*d) (iC (by omega) (by omega)) rfl)<|ar (tS rfl rfl (by decide) Ix rfl) ?_;refine ar (ca ((a*d)+(b*d/4294967296)) (fR (by omega) (by omega)) rfl)<|ar (BK rfl rfl (SL (by omega) (by omega)) rfl) ?_;refine ar (tS rfl rfl (by decide) Ix rfl) ?_;refine ar (ca (b*c) (iC (by omega) (by omega)) rfl)<|ar (ca (((a*d+b*d/4294967296)%4294967296)+(b*c)) (fR (by omega) (by omega)) rfl)<|ar (ca (a*c) (iC (by omega) (by omega)) rfl)<|ar (ca ((a*c)+((a*d+b*d/4294967296)/4294967296)) (fR (by omega) (by omega)) rfl)<|ar (tS rfl rfl (by decide) Ix rfl) ?_;refine ar (ca (((a*c)+((a*d+b*d/4294967296)/4294967296))+(((a*d+b*d/4294967296)%4294967296+b*c)/4294967296)) (fR (by omega) (by omega)) rfl)<|ar (ca (x*y%18446744073709551616) (congrArg some ahz) rfl)<|ae ?_;rw[<-hm];exact aj (aj aa)
def P4 (x y:Int):Int:=(x.natAbs:Int)*(y.natAbs:Int)
def Ea (p:Int):Int:=if p%65536=0 then p/65536 else p/65536+1
def mg (x y:Int):Int:=if (!(decide (x<0)==decide (y<0)))=true then-(Ea (P4 x y)) else P4 x y/65536
def lT (x y:Int):Int:=if (!(decide (x<0)==decide (y<0)))=true then-(P4 x y/65536) else Ea (P4 x y)
def wD (x y:Int):Bool:=decide (P4 x y/65536>2305843009213693952)
def pV (x y:Int):Bool:= !wD x y&&(decide (mg x y>= -2305843009213693952)&&decide (lT x y<=2305843009213693952))
theorem acK (h:(p%18446744073709551616%65536 !=0)=true):Ea p=p/65536+1:=by
 have h:p%18446744073709551616%65536≠0:=by simpa using h
 unfold Ea;rw[if_neg (by omega)]
theorem abE (h:(p%18446744073709551616%65536 !=0)=false):Ea p=p/65536:=by
 have h:p%18446744073709551616%65536=0:=by simpa using h
 unfold Ea;rw[if_pos (by omega)]
theorem aii {a:Int}(h:(a !=0)=true):a≠0:=by simpa using h
theorem ahC {a:Int}(h:(a !=0)=false):a=0:=by simpa using h
theorem LJ (h0: -9223372036854775808<=x) (h1:x<=9223372036854775807) (h2: -9223372036854775808<=y) (h3:y<=9223372036854775807):cq 168 [.c (.i .i64 x),.c (.i .i64 y)] [.c (.i .i64 (if wD x y then 0 else mg x y)),.c (.i .i64 (if wD x y then 0 else lT x y)),.c (.b (pV x y))]:=by
 obtain⟨p,R⟩: ∃p,P4 x y=p:=⟨_,rfl⟩;have a5:(x.natAbs:Int)*(y.natAbs:Int)=p:=R;have b6:0<=p:=by rw[<-a5];exact mp (by omega) (by omega)
 have b7:p<=9223372036854775808*9223372036854775808:=by rw[<-a5];exact qJ (by omega) (by omega) (by omega) (by decide)
 have b4:cq 248 [.c (.i .u64 (x.natAbs:Int)),.c (.i .u64 (y.natAbs:Int))] [.c (.i .u64 (p/18446744073709551616)),.c (.i .u64 (p%18446744073709551616))]:=by rw[<-a5];exact Pe (by omega) (by omega) (by omega) (by omega)
 have big:p/65536>2305843009213693952->wD x y=true:=fun h=>by unfold wD;rw[R];exact decide_eq_true h
 have small: ¬p/65536>2305843009213693952->wD x y=false:=fun h=>by unfold wD;rw[R];exact decide_eq_false h
 refine bE Tryz.func168 rfl<|ac rfl (Nw (by omega) (by omega))<|ac rfl (Nw (by omega) (by omega))<|ac rfl (b4)<|ar (tS rfl rfl (by decide) aas rfl) ?_;refine dg rfl (fun a4=>?_) (fun a4=>?_)
 .have g1:=aii a4;apply ae;rw[show pV x y=false from by unfold pV;rw[big (by omega)];rfl,big (by omega),if_pos rfl,if_pos rfl];exact aj (aj (aj aa))
 .have g1:=ahC a4;refine ar (XM rfl rfl (by decide) (afC (by omega) (by omega)) rfl) ?_;refine ar (tS rfl rfl (by decide) aas rfl) ?_;refine ar (acY (r:=p/65536) rfl rfl ((ahw (by omega) (by omega) (by omega) (by omega)).trans (by omega)) rfl) ?_;refine dg rfl (fun I=>?_) (fun I=>?_)
  .apply ae;rw[show pV x y=false from by unfold pV;rw[big (ww I)];rfl,big (ww I),if_pos rfl,if_pos rfl];exact aj (aj (aj aa))
  .have g2:=om I;refine ar (bi fQ p9 rfl (lq (by omega) (by omega)) rfl) ?_;refine ar (bi fQ p9 rfl (lq (by omega) (by omega)) rfl) ?_;refine ar (BK rfl rfl (afZ (by omega) (by omega)) rfl) ?_;refine dg rfl (fun a3=>?_) (fun a3=>?_)
   .have W:=acK a3;refine ar (ca ((p/65536)+1) (bc (by omega) (by omega)) rfl)<|ar (eA rfl rfl dX rfl) ?_;refine dg rfl (fun J=>?_) (fun J=>?_)
    .refine ar (fG (r:= -(p/65536+1)) rfl (by rw[lq (by omega) (by omega)];omega) rfl) ?_;refine ar (fG (r:= -(p/65536)) rfl (by rw[lq (by omega) (by omega)];omega) rfl) ?_;refine iN (aY rfl) (fun c5 b3=>?_);cases c5
     .apply ae;unfold pV;rw[small (om I),if_neg (by decide),if_neg (by decide),tM,ii];rw[show mg x y= -(p/65536+1) from by unfold mg;rw[R,W,if_pos J],show lT x y= -(p/65536) from by unfold lT;rw[R,W,if_pos J]];rw[b3,oG];exact aj (aj (aj aa))
     .apply ae;unfold pV;rw[small (om I),if_neg (by decide),if_neg (by decide),tM,ii];rw[show mg x y= -(p/65536+1) from by unfold mg;rw[R,W,if_pos J],show lT x y= -(p/65536) from by unfold lT;rw[R,W,if_pos J]];rw[b3,ii];exact aj (aj (aj aa))
    .refine iN (aY rfl) (fun c6 b5=>?_);cases c6
     .apply ae;unfold pV;rw[small (om I),if_neg (by decide),if_neg (by decide),tM,ii];rw[show mg x y=p/65536 from by unfold mg;rw[R,W,if_neg (by rw[J];decide)],show lT x y=p/65536+1 from by unfold lT;rw[R,W,if_neg (by rw[J];decide)]];rw[b5,oG];exact aj (aj (aj aa))
     .apply ae;unfold pV;rw[small (om I),if_neg (by decide),if_neg (by decide),tM,ii];rw[show mg x y=p/65536 from by unfold mg;rw[R,W,if_neg (by rw[J];decide)],show lT x y=p/65536+1 from by unfold lT;rw[R,W,if_neg (by rw[J];decide)]];rw[b5,ii];exact aj (aj (aj aa))
   .have W:=abE a3;refine ar (eA rfl rfl dX rfl) ?_;refine dg rfl (fun V=>?_) (fun V=>?_)
    .refine ar (fG (r:= -(p/65536)) rfl (by rw[lq (by omega) (by omega)];omega) rfl) ?_;refine ar (fG (r:= -(p/65536)) rfl (by rw[lq (by omega) (by omega)];omega) rfl) ?_;refine iN (aY rfl) (fun c8 a6=>?_);cases c8
     .apply ae;unfold pV;rw[small (om I),if_neg (by decide),if_neg (by decide),tM,ii];rw[show mg x y= -(p/65536) from by unfold mg;rw[R,W,if_pos V],show lT x y= -(p/65536) from by unfold lT;rw[R,W,if_pos V]];rw[a6,oG];exact aj (aj (aj aa))
     .apply ae;unfold pV;rw[small (om I),if_neg (by decide),if_neg (by decide),tM,ii];rw[show mg x y= -(p/65536) from by unfold mg;rw[R,W,if_pos V],show lT x y= -(p/65536) from by unfold lT;rw[R,W,if_pos V]];rw[a6,ii];exact aj (aj (aj aa))
    .refine iN (aY rfl) (fun c9 a9=>?_);cases c9
     .apply ae;unfold pV;rw[small (om I),if_neg (by decide),if_neg (by decide),tM,ii];rw[show mg x y=p/65536 from by unfold mg;rw[R,W,if_neg (by rw[V];decide)],show lT x y=p/65536 from by unfold lT;rw[R,W,if_neg (by rw[V];decide)]];rw[a9,oG];exact aj (aj (aj aa))
     .apply ae;unfold pV;rw[small (om I),if_neg (by decide),if_neg (by decide),tM,ii];rw[show mg x y=p/65536 from by unfold mg;rw[R,W,if_neg (by rw[V];decide)],show lT x y=p/65536 from by unfold lT;rw[R,W,if_neg (by rw[V];decide)]];rw[a9,ii];exact aj (aj (aj aa))
def Lx (x y:Int):Int:=if x>0 then 1 else if y<0 then-1 else 0
def LG (x y:Int):Bool:=decide (x>0)||(decide (y<0)||(x==0&&y==0))
theorem aei (h:decide (x>0)=true):Lx x y=1/\LG x y=true:=by unfold Lx LG;rw[if_pos (by simpa using h),h];exact⟨rfl,rfl⟩
theorem agP (h:decide (x>0)=false) (I:decide (y<0)=true):Lx x y= -1/\LG x y=true:=by unfold Lx LG;rw[if_neg (by simpa using h),if_pos (by simpa using I),h,I];exact⟨rfl,rfl⟩
theorem YG (h:decide (x>0)=false) (I:decide (y<0)=false):Lx x y=0/\LG x y=(x==0&&y==0):=by unfold Lx LG;rw[if_neg (by simpa using h),if_neg (by simpa using I),h,I];exact⟨rfl,rfl⟩
theorem Dz:cq 185 [.a (([.i .i64 x]++[.i .i64 y]))] [.c (.i .i64 (Lx x y)),.c (.b (LG x y))]:=by
 apply bE Tryz.func185 rfl;refine dg rfl (fun I=>?_) (fun I=>?_)
 .apply ae;rw[(aei I).1,(aei I).2];exact aj (aj aa)
 .refine dg rfl (fun J=>?_) (fun J=>?_)
  .apply ae;rw[(agP I J).1,(agP I J).2];exact aj (aj aa)
  .apply cm 10 [];refine zQ (aY rfl) (fun V R=>?_);cases V
   .apply ae;rw[(YG I J).1,(YG I J).2,R,oG];exact aj (aj aa)
   .apply ae;rw[(YG I J).1,(YG I J).2,R,ii];exact aj (aj aa)
def wn (x y:Int) (k:Nat):Int:=if k=0 then x else y
theorem Nf (h:k<2):([CellD.i .i64 x,.i .i64 y])[k*1]? =some (.i .i64 (wn x y k)):=by
 have:k=0\/k=1:=by omega
 rcases this with rfl|rfl<;>rfl
theorem Te (h0: -2305843009213693952<=x) (h1:x<=2305843009213693952) (I: -2305843009213693952<=y) (J:y<=2305843009213693952): -2305843009213693952<=wn x y k/\wn x y k<=2305843009213693952:=by unfold wn;split<;>omega
def Eg (x y u v:Int):Nat->Int
 |0=>2305843009213693952
 |n+1=>min (Eg x y u v n) (mg (wn x y (n/2)) (wn u v (n%2)))
def DR (x y u v:Int):Nat->Int
 |0=> -2305843009213693952
 |n+1=>max (DR x y u v n) (lT (wn x y (n/2)) (wn u v (n%2)))
def xR (x y u v:Int):Nat->Bool
 |0=>true
 |n+1=>xR x y u v n&&pV (wn x y (n/2)) (wn u v (n%2))
theorem SC (h:pV x y=true): ¬wD x y=true:=by unfold pV at h;grind
theorem UU {n:Nat}(h:xR x y u v n=false) (m:Nat):xR x y u v (n+m)=false:=by
 induction m with
 |zero=>exact h
 |succ m I=>show(xR x y u v (n+m)&&_)=false;rw[I];rfl
theorem VC (I:j<2) (h:pV (wn x y k) (wn u v j)=true):min (Eg x y u v (2*k+j)) (if wD (wn x y k) (wn u v j) then 0 else mg (wn x y k) (wn u v j))=Eg x y u v (2*k+(j+1)):=by rw[if_neg (SC h)];show _=min (Eg x y u v (2*k+j)) (mg (wn x y ((2*k+j)/2)) (wn u v ((2*k+j)%2)));grind
theorem YP (I:j<2) (h:pV (wn x y k) (wn u v j)=true):max (DR x y u v (2*k+j)) (if wD (wn x y k) (wn u v j) then 0 else lT (wn x y k) (wn u v j))=DR x y u v (2*k+(j+1)):=by rw[if_neg (SC h)];show _=max (DR x y u v (2*k+j)) (lT (wn x y ((2*k+j)/2)) (wn u v ((2*k+j)%2)));grind
theorem Mi (I:j<2):xR x y u v (2*k+(j+1))=(xR x y u v (2*k+j)&&pV (wn x y k) (wn u v j)):=by show(xR x y u v (2*k+j)&&pV (wn x y ((2*k+j)/2)) (wn u v ((2*k+j)%2)))=_;grind
theorem Mb (h0: -2305843009213693952<=x) (h1:x<=2305843009213693952) (h2: -2305843009213693952<=y) (h3:y<=2305843009213693952) (h4: -2305843009213693952<=u) (h5:u<=2305843009213693952) (h6: -2305843009213693952<=v) (h7:v<=2305843009213693952):cq 84 [.a (([.i .i64 x]++[.i .i64 y])),.a (([.i .i64 u]++[.i .i64 v]))] [.a (([.i .i64 (if xR x y u v 4 then Eg x y u v 4 else 0)]++[.i .i64 (if xR x y u v 4 then DR x y u v 4 else 0)])),.c (.b (xR x y u v 4))]:=by
 refine dP Tryz.func84 56 [.cell 4 89,.tmp 5] rfl<|ab<|ag<|ab<|ag<|ab<|ab<|ag ?_;refine DL.mk<|qL (kO Ze rfl rfl (by decide) (by decide) rfl) rfl<|iJ ?_;refine ar (ko Oy rfl rfl) ?_;refine aM<|bK (ι:={k:Nat // k<=2/\xR x y u v (2*k)=true}) (fun i=>⟨56,[(2,.p 2 0),(3,.p 3 0),(4,.p 4 0),(6,.v (.c (.i .i64 (Eg x y u v (2*i.1))))),(7,.v (.c (.i .i64 (DR x y u v (2*i.1))))),(19,.o 19 2 2),(20,.v (.c (.i .i64 (2:Int)))),(21,.v (.c (.i .i64 (i.1:Int))))],[(2,89,([.i .i64 x]++[.i .i64 y])),(3,89,([.i .i64 u]++[.i .i64 v])),(4,89,([.i .i64 0]++[.i .i64 0])),(19,2,[.i .i64 x,.i .i64 y])]⟩) (fun i=>2-i.1) ⟨0,by omega,rfl⟩ (au (bt rfl) (bt rfl) rfl) ?_;rintro⟨k,a6,hok⟩;replace a6:k<=2:=a6;replace hok:xR x y u v (2*k)=true:=hok;have gx:=Te (k:=k) h0 h1 h2 h3;dsimp only;refine ab<|ag<|ab ?_;refine aJ rfl (fun a3=>?_) (fun a3=>?_)
 .have hk:k<2:=by have:=ww a3;omega
  refine aA<|ab<|aM<|ab<|bN<|bj (a8 Oy rfl rfl (by omega) rfl) ?_;refine bj (cT ty2 rfl rfl (Nf (by omega)) rfl) ?_;refine gm<|ab<|ag ?_;refine DL.mk<|qL (kO Ze rfl rfl (by decide) (by decide) rfl) rfl<|iJ ?_;refine ar (ko Oy rfl rfl) ?_;refine aM<|bK (ι:={j:Nat // j<=2/\xR x y u v (2*k+j)=true}) (fun i=>⟨56,[(2,.p 2 0),(3,.p 3 0),(4,.p 4 0),(6,.v (.c (.i .i64 (Eg x y u v (2*k+i.1))))),(7,.v (.c (.i .i64 (DR x y u v (2*k+i.1))))),(19,.o 19 2 2),(20,.v (.c (.i .i64 (2:Int)))),(21,.v (.c (.i .i64 (k:Int)))),(9,.v (.c (.i .i64 (wn x y k)))),(29,.o 29 2 2),(30,.v (.c (.i .i64 (2:Int)))),(31,.v (.c (.i .i64 (i.1:Int))))],[(2,89,([.i .i64 x]++[.i .i64 y])),(3,89,([.i .i64 u]++[.i .i64 v])),(4,89,([.i .i64 0]++[.i .i64 0])),(19,2,[.i .i64 x,.i .i64 y]),(29,2,[.i .i64 u,.i .i64 v])]⟩) (fun i=>2-i.1) ⟨0,by omega,hok⟩ (au (bt rfl) (bt rfl) rfl) ?_;rintro⟨j,a5,I⟩;have gu:=Te (k:=j) h4 h5 h6 h7;dsimp only;refine ab<|ag<|ab ?_;refine aJ rfl (fun a4=>?_) (fun a4=>?_)
  .have hj:j<2:=by have:=ww a4;omega
   refine aA<|ab<|aM<|ab<|bN<|bj (a8 Oy rfl rfl (by omega) rfl) ?_;refine bj (cT ty2 rfl rfl (Nf (k:=j) (by omega)) rfl) ?_;refine gm<|ab<|ag<|ac rfl (LJ (by omega) (by omega) (by omega) (by omega))<|ab<|ab<|ag ?_;refine aJ rfl (fun V=>?_) (fun V=>?_)
   .have a9:xR x y u v 4=false:=by have h8:=UU (by rw[Mi hj,gK V,sE]) (4-(2*k+(j+1)));rw[show 2*k+(j+1)+(4-(2*k+(j+1)))=4 from by omega] at h8;exact h8
    refine ab<|ag<|ar (am wi vh rfl rfl rfl) ?_
    apply aU
    rw[a9,if_neg (by decide),if_neg (by decide)]
    exact ae (aN mO rfl (aj aa))
   .have W:=dK V;refine aA<|ag<|ar (N3 rfl rfl rfl) ?_;refine ar (Gk rfl rfl rfl) ?_;refine ag<|ar (ca ((j:Int)+1) (bc (by omega) (by omega)) rfl) ?_;exact⟨⟨j+1,by omega,by rw[Mi hj,I,W];rfl⟩,au ⟨rfl,rfl,rfl,by rw[<-VC hj W];rfl,by rw[<-YP hj W];rfl,rfl,rfl,rfl,rfl,rfl,rfl,by rw[show((j+1:Nat):Int)=(j:Int)+1 from by omega];rfl,trivial⟩ (bt rfl) rfl,by show 2-(j+1)<2-j;omega⟩
  .have R:2*k+j=2*k+2:=by have:=om a4;omega
   refine bH<|ag<|ar (ca ((k:Int)+1) (bc (by omega) (by omega)) rfl) ?_;exact⟨⟨k+1,by omega,by rw[show 2*(k+1)=2*k+2 from by omega,<-R];exact I⟩,au ⟨rfl,rfl,rfl,by rw[show 2*(k+1)=2*k+2 from by omega,<-R];rfl,by rw[show 2*(k+1)=2*k+2 from by omega,<-R];rfl,rfl,rfl,by rw[show((k+1:Nat):Int)=(k:Int)+1 from by omega];rfl,trivial⟩ (bt rfl) rfl,by show 2-(k+1)<2-k;omega⟩
 .have J:2*k=4:=by have:=om a3;omega
  refine bH<|ab<|ag<|ar (am wi vh rfl rfl rfl) ?_;apply aU;rw[J] at hok;have e1:Eg x y u v 4=Eg x y u v (2*k):=by rw[J]
  have e2:DR x y u v 4=DR x y u v (2*k):=by rw[J]
  rw[hok,if_pos rfl,if_pos rfl,e1,e2];exact ae (aN mO rfl (aj aa))
theorem AY (h: ¬c<0):0<=jd c:=by
 unfold jd;have h1:0<=c*((65536:Int):Rat):=by grind
 have R:0<=(c*((65536:Int):Rat)).num:=Rat.num_nonneg.2 h1;rw[qS _ (by omega),Rat.neg_num];have V:(-(c*((65536:Int):Rat)).num)/((-(c*((65536:Int):Rat))).den:Int)<=0:=by have I:=Int.ediv_le_ediv (den_pos (-(c*((65536:Int):Rat)))) (show-(c*((65536:Int):Rat)).num<=0 by omega);rw[Int.zero_ediv] at I;exact I
 omega
theorem Oq (h:vn lo hi=true): -2305843009213693952<=lo/\hi<=2305843009213693952:=by unfold vn at h;simpa using h
theorem Zv (c:Rat):jF c<=jd c:=by
 unfold jF jd;have I:=den_pos (c*((65536:Int):Rat));rw[Rat.neg_num,Rat.neg_den,qS _ (by omega),qS _ (by omega)];generalize (c*((65536:Int):Rat)).num=n at*;generalize ((c*((65536:Int):Rat)).den:Int)=d at*;have e1:=uM n d;have V:=uM (-n) d;have m1:=qY n (show d≠0 by omega);have R:=qY (-n) (show d≠0 by omega);have J:d*(n/d+(-n)/d)<=d*0:=by grind
 have:=Int.le_of_mul_le_mul_left J I;omega
theorem EQ (h:iE c=true): -2305843009213693952<=jF c/\jF c<=2305843009213693952/\ -2305843009213693952<=jd c/\jd c<=2305843009213693952:=by unfold iE at h;simp only[di] at h;have h1:=Oq h.2.2;have I:=Zv c;omega
theorem Ss (h1:x<=2305843009213693952) (I:0<=y) (J:y<=2305843009213693952):0<=pN x/\pN x<=549755813889/\0<=kV y/\kV y<=549755813889:=by have b1:=Cg (n:=max x 0) (by omega) (by omega);have b2:=Cg I J;unfold pN kV;grind
theorem ach (n:Nat) (h:xR x y u v n=true): -2305843009213693952<=Eg x y u v n/\Eg x y u v n<=2305843009213693952/\ -2305843009213693952<=DR x y u v n/\DR x y u v n<=2305843009213693952:=by
 induction n with
 |zero=>show _<=(2305843009213693952:Int)/\(2305843009213693952:Int)<=_/\_<=(-2305843009213693952:Int)/\(-2305843009213693952:Int)<=_;omega
 |succ n R=>have I:(xR x y u v n&&pV (wn x y (n/2)) (wn u v (n%2)))=true:=h;rw[di] at I;have i:=R I.1;have J:=I.2;unfold pV at J;simp only[di,decide_eq_true_eq] at J;show _<=min _ _/\min _ _<=_/\_<=max _ _/\max _ _<=_;omega
def Wm (b c:Rat):Bool:=xR (jF b) (jd b) (pN (jF c)) (kV (jd c)) 4
def FG (b c:Rat):Int:=Eg (jF b) (jd b) (pN (jF c)) (kV (jd c)) 4
def GG (b c:Rat):Int:=DR (jF b) (jd b) (pN (jF c)) (kV (jd c)) 4
def V4 (a b c:Rat):Bool:=iE b&&(iE c&&(!decide (aG c 0<0)&&(Wm b c&&vn (jF a+FG b c) (jd a+GG b c))))
def eu (a b c:Rat):Bool:=iE a&&((aG b 0==0)||V4 a b c)
def dU (a b c:Rat):Int:=if eu a b c then(if (aG b 0==0)=true then jF a else jF a+FG b c) else 0
def dV (a b c:Rat):Int:=if eu a b c then(if (aG b 0==0)=true then jd a else jd a+GG b c) else 0
theorem qd (h:eu a b c=false):dU a b c=0/\dV a b c=0:=by unfold dU dV;rw[h];exact⟨rfl,rfl⟩
theorem aih (h:iE a=false):eu a b c=false:=by unfold eu;rw[h];rfl
theorem YK (h:(aG b 0==0)=false) (I:V4 a b c=false):eu a b c=false:=by unfold eu;rw[h,I];cases iE a<;>rfl
theorem aeW (h:iE a=true) (I:(aG b 0==0)=true):dU a b c=jF a/\dV a b c=jd a/\eu a b c=true:=by
 have e:eu a b c=true:=by unfold eu;rw[h,I];rfl
 unfold dU dV;rw[e,if_pos rfl,if_pos rfl,if_pos I,if_pos I];exact⟨rfl,rfl,rfl⟩
theorem ah0 (h:iE a=true) (I:(aG b 0==0)=false) (R:iE b=true) (V:iE c=true) (J:decide (aG c 0<0)=false) (W:Wm b c=true):dU a b c=(if vn (jF a+FG b c) (jd a+GG b c) then jF a+FG b c else 0)/\dV a b c=(if vn (jF a+FG b c) (jd a+GG b c) then jd a+GG b c else 0)/\eu a b c=vn (jF a+FG b c) (jd a+GG b c):=by
 have e:eu a b c=vn (jF a+FG b c) (jd a+GG b c):=by unfold eu V4;rw[h,I,R,V,J,W];rfl
 unfold dU dV;rw[e,I];exact⟨rfl,rfl,rfl⟩
theorem pj (ha:Rz 4000000 a) (hb:Rz 4000000 b) (hc:Rz 4000000 c):cq 27 [.a ((cR a++cR b++cR c))] [.a (([.i .i64 (dU a b c)]++[.i .i64 (dV a b c)])),.c (.b (eu a b c))]:=by
 refine dP Tryz.func27 72 [.cell 2 89,.tmp 3] rfl<|ab<|ag<|ab<|ag ?_;refine ac rfl (oK (az ha))<|ab<|ab<|ag ?_;refine iN (aY rfl) (fun c1 J=>?_);cases c1
 .have ea:=dK J;refine ac rfl bU ?_;refine aJ rfl (fun a3=>?_) (fun a3=>?_)
  .obtain⟨w1,w2,w3⟩:=aeW ea a3;refine ab<|ag ?_;apply aU;have x1:dU a b c=(if iE a then jF a else 0):=by rw[w1,ea];rfl
   have x2:dV a b c=(if iE a then jd a else 0):=by rw[w2,ea];rfl
   have x3:eu a b c=iE a:=by rw[w3,ea]
   rw[x1,x2,x3];exact ae (aN mO rfl (aj aa))
  .have V:=a3;refine aA<|ab<|ag ?_;refine ac rfl (oK (az hb))<|ab<|ag ?_;refine ac rfl (oK (az hc))<|ab<|ab<|ag ?_;refine iN (aY rfl) (fun c3 a5=>?_);cases c3
   .have eb:=dK a5;refine iN (aY rfl) (fun c4 a4=>?_);cases c4
    .have ec:=dK a4;refine ac rfl bU ?_;refine aJ rfl (fun W=>?_) (fun W=>?_)
     .have I:eu a b c=false:=YK V (by unfold V4;rw[W,Bool.not_true,oG,sE,sE]);refine ab<|ag<|ar (am wi vh rfl rfl rfl) ?_;apply aU;rw[(qd I).1,(qd I).2,I];exact ae (aN mO rfl (aj aa))
     .have a6:=W;have bA:=EQ ea;have bB:=EQ eb;have bC:=EQ ec;have hH:=AY (EP W);have bS:=Ss (x:=jF c) (by omega) hH (by omega);refine pG (σ':=⟨72,[(1,.p 1 0),(2,.p 2 0),(4,.p 4 0),(6,.p 6 0),(7,.p 7 0)],[(1,59,(cR a++cR b++cR c)),(2,89,([.i .i64 0]++[.i .i64 0])),(4,89,([.i .i64 (jF a)]++[.i .i64 (jd a)])),(6,89,([.i .i64 (jF b)]++[.i .i64 (jd b)])),(7,89,([.i .i64 (jF c)]++[.i .i64 (jd c)]))]⟩) (au (bt rfl) ⟨rfl,rfl,by rw[if_pos ea,if_pos ea];rfl,by rw[if_pos eb,if_pos eb];rfl,by rw[if_pos ec,if_pos ec];rfl,trivial⟩ rfl) ?_;refine aA<|ab<|ab<|ag ?_;refine ac rfl (JS (by omega) (by omega) (by omega) (by omega) (by omega)) ?_;refine ab<|ag ?_;apply ck rfl;refine aA<|ab<|ab<|ag ?_;refine ac rfl (Mb (by omega) (by omega) (by omega) (by omega) (by omega) (by omega) (by omega) (by omega)) ?_;apply ab;refine ag ?_;refine aJ rfl (fun R=>?_) (fun R=>?_)
      .have I:eu a b c=false:=YK V (by unfold V4 Wm;rw[gK R,oG,sE,sE,sE]);refine ab<|ag<|ar (am wi vh rfl rfl rfl) ?_;apply aU;rw[(qd I).1,(qd I).2,I];exact ae (aN mO rfl (aj aa))
      .have hm:Wm b c=true:=dK R;have bM:=ach 4 hm;obtain⟨w1,w2,w3⟩:=ah0 ea V eb ec a6 hm;refine pG (σ':=⟨72,[(1,.p 1 0),(2,.p 2 0),(4,.p 4 0),(6,.p 6 0),(7,.p 7 0)],[(1,59,(cR a++cR b++cR c)),(2,89,([.i .i64 0]++[.i .i64 0])),(4,89,([.i .i64 (jF a)]++[.i .i64 (jd a)])),(6,89,([.i .i64 (FG b c)]++[.i .i64 (GG b c)])),(7,89,([.i .i64 (pN (jF c))]++[.i .i64 (kV (jd c))]))]⟩) (au (bt rfl) ⟨rfl,rfl,rfl,by rw[if_pos (dK R),if_pos (dK R)];rfl,rfl,trivial⟩ rfl) ?_;refine aA<|ab<|ag ?_;refine ac rfl (ND (by omega) (by omega) (by omega) (by omega) bM.1 bM.2.1 bM.2.2.1 bM.2.2.2) ?_;apply aU;rw[w1,w2,w3];exact ae (aN mO rfl (aj aa))
    .have I:eu a b c=false:=YK V (by unfold V4;rw[gK a4,oG,sE]);refine fp rfl<|ab<|ag<|ar (am wi vh rfl rfl rfl) ?_;apply aU;rw[(qd I).1,(qd I).2,I];exact ae (aN mO rfl (aj aa))
   .have I:eu a b c=false:=YK V (by unfold V4;rw[gK a5];rfl);refine ar (aY rfl)<|fp rfl<|ab<|ag<|ar (am wi vh rfl rfl rfl) ?_;apply aU;rw[(qd I).1,(qd I).2,I];exact ae (aN mO rfl (aj aa))
 .refine fp rfl<|ab<|ag ?_;apply aU;have I:eu a b c=false:=aih (gK J);have x1:dU a b c=(if iE a then jF a else 0):=by rw[(qd I).1,gK J];rfl
  have x2:dV a b c=(if iE a then jd a else 0):=by rw[(qd I).2,gK J];rfl
  have x3:eu a b c=iE a:=by rw[I,gK J]
  rw[x1,x2,x3];exact ae (aN mO rfl (aj aa))
def KG (o1 o2:Bool) (l1 h1 l2 I:Int):Int:=if (o1&&o2)=true then(if decide (h1<l2)=true then-1 else if decide (l1>I)=true then 1 else 0) else 0
def Kq (o1 o2:Bool) (l1 h1 l2 I:Int):Bool:=(o1&&o2)&&(decide (h1<l2)||decide (l1>I))
theorem Dc (ha:Rz 4000000 a) (hb:Rz 4000000 b) (hc:Rz 4000000 c) (W:Rz 4000000 d) (he:Rz 4000000 e) (hf:Rz 4000000 f):cq 43 [.a ((cR a++cR b++cR c)),.a ((cR d++cR e++cR f))] [.c (.i .i64 (KG (eu a b c) (eu d e f) (dU a b c) (dV a b c) (dU d e f) (dV d e f))),.c (.b (Kq (eu a b c) (eu d e f) (dU a b c) (dV a b c) (dU d e f) (dV d e f)))]:=by
 apply bE Tryz.func43 rfl;refine ac rfl (pj ‹_› ‹_› ‹_›) ?_;refine ac rfl (pj ‹_› ‹_› ‹_›) ?_;refine iN (aY rfl) (fun c1 I=>?_);cases c1
 .refine dg rfl (fun J=>?_) (fun J=>?_)
  .apply ae;rw[show KG (eu a b c) (eu d e f) (dU a b c) (dV a b c) (dU d e f) (dV d e f)=0 from by unfold KG;rw[dK I,gK J];rfl,show Kq (eu a b c) (eu d e f) (dU a b c) (dV a b c) (dU d e f) (dV d e f)=false from by unfold Kq;rw[dK I,gK J];rfl];exact aj (aj aa)
  .refine dg rfl (fun R=>?_) (fun R=>?_)
   .apply ae;rw[show KG (eu a b c) (eu d e f) (dU a b c) (dV a b c) (dU d e f) (dV d e f)= -1 from by unfold KG;rw[dK I,dK J,R];rfl,show Kq (eu a b c) (eu d e f) (dU a b c) (dV a b c) (dU d e f) (dV d e f)=true from by unfold Kq;rw[dK I,dK J,R];rfl];exact aj (aj aa)
   .refine dg rfl (fun V=>?_) (fun V=>?_)
    .apply ae;rw[show KG (eu a b c) (eu d e f) (dU a b c) (dV a b c) (dU d e f) (dV d e f)=1 from by unfold KG;rw[dK I,dK J,R,V];rfl,show Kq (eu a b c) (eu d e f) (dU a b c) (dV a b c) (dU d e f) (dV d e f)=true from by unfold Kq;rw[dK I,dK J,R,V];rfl];exact aj (aj aa)
    .apply ae;rw[show KG (eu a b c) (eu d e f) (dU a b c) (dV a b c) (dU d e f) (dV d e f)=0 from by unfold KG;rw[dK I,dK J,R,V];rfl,show Kq (eu a b c) (eu d e f) (dU a b c) (dV a b c) (dU d e f) (dV d e f)=false from by unfold Kq;rw[dK I,dK J,R,V];rfl];exact aj (aj aa)
 .refine n7 rfl<|ae ?_;rw[show KG (eu a b c) (eu d e f) (dU a b c) (dV a b c) (dU d e f) (dV d e f)=0 from by unfold KG;rw[gK I];rfl,show Kq (eu a b c) (eu d e f) (dU a b c) (dV a b c) (dU d e f) (dV d e f)=false from by unfold Kq;rw[gK I];rfl];exact aj (aj aa)
theorem Dn (w:World) (b:Nat) (v:Value) (U T:TypeId) (cs I:Array Value) (u:Value) (hlt:b<w.heap.size) (R:w.heap[b]? =some (.cells #[u] T (0,0))):(((w.setCell ⟨b,0,none⟩ v).alloc (.cells cs U)).alloc (.cells I U)).heap[w.heap.size+1]? =some (.cells I U (0,0))/\ (((w.setCell ⟨b,0,none⟩ v).alloc (.cells cs U)).alloc (.cells I U)).heap[b]? =some (.cells #[v] T (0,0))/\Mid b w (((w.setCell ⟨b,0,none⟩ v).alloc (.cells cs U)).alloc (.cells I U)):=by
 have hs:(w.setCell ⟨b,0,none⟩ v).heap.size=w.heap.size:=by simp
 refine⟨?_,?_,?_⟩
 .have:=heap_alloc_new ((w.setCell ⟨b,0,none⟩ v).alloc (.cells cs U)) (.cells I U)
  rw[d8,hs] at this
  grind
 .rw[wx _ _ _ (by rw[d8,hs];omega),wx _ _ _ (by rw[hs];omega)]
  exact heap_setCell_same w b 0 #[u] T v R
 .refine⟨rfl,rfl,rfl,by rw[d8,d8,hs];omega,fun c V J=>?_⟩
  rw[wx _ _ _ (by rw[d8,hs];omega),wx _ _ _ (by rw[hs];omega)]
  exact heap_setCell_other w ⟨b,0,none⟩ c v J
theorem Q4 (b:Nat) (ok c:Bool) (lo hi:Int) (w:World) (I:w.heap[b]? =some (.cells #[.bool ok] 224 (0,0))):Calls Tryz.prog 192 #[.pointer (some ⟨b,0,none⟩),.agg #[.int .i64 lo,.int .i64 hi],.bool c] w fun e w'=>
  e=.returned (.agg #[.int .i64 lo,.int .i64 hi])/\w'.heap[b]? =some (.cells #[.bool (ok&&c)] 224 (0,0))/\Mid b w w':=by
 have hlt:b<w.heap.size:=(lH.1 I).1
 have e1:((w.alloc (.cells #[.int .i64 lo,.int .i64 hi] 89)).alloc (.cells #[.int .i64 0,.int .i64 0] 89)).heap[b]? =some (.cells #[.bool ok] 224 (0,0)):=by rw[wx _ _ _ (by simp;omega),wx _ _ _ hlt];exact I
 have c1:((w.alloc (.cells #[.int .i64 lo,.int .i64 hi] 89)).alloc (.cells #[.int .i64 0,.int .i64 0] 89)).cell? ⟨b,0,none⟩=some (.bool ok):=(bR e1 0).trans rfl
 have f0:w.frozen? ⟨b,0,none⟩=false:=Bk.frozen I 0
 cases ok
 .go_enter Tryz.func192,Tryz.ntmps192
  go_wp2_with fail
  obtain⟨h1,J,V⟩:=Dn w b (.bool false) 89 224 #[.int .i64 lo,.int .i64 hi] #[.int .i64 lo,.int .i64 hi] _ hlt I
  refine⟨rfl,.agg #[.int .i64 lo,.int .i64 hi],?_,rfl,J,V⟩
  simp[results,Tryz.results192,go_sem,(bR h1 0).trans rfl,(bR h1 1).trans rfl]
  try rfl
 .go_enter Tryz.func192,Tryz.ntmps192
  go_wp2_with fail
  obtain⟨h1,J,V⟩:=Dn w b (.bool c) 89 224 #[.int .i64 lo,.int .i64 hi] #[.int .i64 lo,.int .i64 hi] _ hlt I
  refine⟨rfl,.agg #[.int .i64 lo,.int .i64 hi],?_,rfl,J,V⟩
  simp[results,Tryz.results192,go_sem,(bR h1 0).trans rfl,(bR h1 1).trans rfl]
  try rfl
structure OkP (P:Program) (f:FuncId) (U:TypeId) (cs0 cs1:List CellD) (ds rs:List D0):Prop where
 cal:dk P f=true
 run: ∀(V:Nat->Prop) (b:Nat) (bs:Array Value) (vs:Array Value) (vl:List Value) (w:World),vs.toList=.pointer (some ⟨b,0,none⟩)::vl->(∀c,V c->c<w.heap.size)->V b->w.heap[b]? =some (.cells bs U (0,0))->RdCs V w bs.toList cs0->RdL V w vl ds->
  Calls P f vs w fun e w'=> ∃v,∃bs':Array Value,e=.returned v/\w'.heap[b]? =some (.cells bs' U (0,0))/\Mid b w w'/\RdCs V w' bs'.toList cs1/\Wz V w' v rs
section
variable {P:Program}{eO:Array Oper}{T:TF}{B:BF}
theorem fL {fo x:Operand}{xs:List Operand}{args:Array Operand}{at_:Array TypeId}{f:FuncId}{cs0 a3:List CellD}{ds rs:List D0} (hf:cE T fo=some (.v (.c (.f f)))) (R:args.toList=x::xs) (hx:cE T x=some (.p k 0)) (ha:pE T xs=some ds) (hb:B k=some (U,cs0)) (hok:OkP P f U cs0 a3 ds rs) (hg:gd eO ⟨dst,.call ⟨.value fo,args,at_⟩,ty,pos,af,g⟩ T=some true):Sem P eO ⟨dst,.call ⟨.value fo,args,at_⟩,ty,pos,af,g⟩ T B (.rs k U a3 (wL rs)):=by
 refine⟨by unfold wL;split<;>rfl,⟨_,hb⟩,fun V β a w hs=>⟨eK hs hg,?_⟩⟩
 have a4: ∀y∈x::xs,y∈(⟨dst,.call ⟨.value fo,args,at_⟩,ty,pos,af,g⟩:Oper).op.operands:=fun y hy=>by
  have b6:y∈args:=by grind
  simp[Op.operands,Call.operands,b6]
 have h3:a.eval x=.pointer (some ⟨β k,0,none⟩):=ap hs (a4 x (fC ..)) hx
 obtain⟨hV,bs,e,hr⟩:=hs.box k U cs0 hb
 have W:=hok.cal
 unfold dk at W
 cases J:P.funcs[f]? with
 |none=>rw[J] at W;cases W
 |some fn=>
  rw[J] at W
  simp only[di,bne_iff_ne,ne_eq,uP] at W
  have a5:(execOp a.eval ⟨dst,.call ⟨.value fo,args,at_⟩,ty,pos,af,g⟩).run P w=.ok (.enter f (args.map a.eval)) w:=by
   have a9:fn.body≠none:=by have:=W.2;cases b5:fn.body with
    |none=>rw[b5] at this;cases this
    |some c=>simp
   simp[execOp,resolve,RdC.func_eq (ap hs (by simp[Op.operands,Call.operands]) hf),Deferred.ofValue,invoke,callFunc,program,Sem.run,J,W.1,a9]
  unfold Gives
  rw[a5]
  refine(hok.run V (β k) bs (args.map a.eval) (xs.map a.eval) w (by rw[q9,R,lQ,h3]) hs.av hV e hr (ji hs xs ds (fun y hy=>a4 y (fv _ hy)) ha)).mono ?_
  rintro e w' ⟨v,a6,rfl,b3,hm,b4,I⟩
  refine⟨v,rfl,a6,b3,hm,b4,?_⟩
  unfold Wz at I
  split at I
  .exact I
  .rename_i b7
   have e2:wL rs=.t rs:=by unfold wL;grind
   rw[e2];exact I
theorem s9 {x:Operand}{off:Nat} (I:cE T x=some (.p k off)) (R:gd eO ⟨dst,.nilCheck x,ty,pos,af,g⟩ T=some true):Sem P eO ⟨dst,.nilCheck x,ty,pos,af,g⟩ T B (.r (.p k off)):=
 bv R (fun l e=>oT (by simp[Op.operands]) I e)
  (fun V β a w hs=>by have J:a.eval x=.pointer (some ⟨β k,off,none⟩):=ap hs (by simp[Op.operands]) I;exact⟨_,by simp[execOp,J],rfl⟩)
end
theorem YV (ok c:Bool) (lo hi:Int):OkP Tryz.prog 192 224 [.b ok] [.b (ok&&c)] [.a [.i .i64 lo,.i .i64 hi],.c (.b c)] [.a [.i .i64 lo,.i .i64 hi]]:=
 ⟨by kernel_rfl,fun V b W vs vl w R hV hb a3 J I=>by
  obtain⟨vs⟩:=vs;subst R;match vl,I with
  |[],I=>have:=I.1;simp at this
  |v1::vl,I=>
  obtain⟨h1,I⟩:=I.uncons;match vl,I with
  |[],I=>have:=I.1;simp at this
  |v2::vl,I=>
  obtain⟨h2,I⟩:=I.uncons;have hn:vl=[]:=jM.1 I.1;subst hn;have h2:=ua h2;subst h2;obtain⟨cs,rfl,h1⟩:=h1;obtain⟨cs⟩:=cs;obtain⟨W⟩:=W;match cs,h1 with
  |[],h1=>have:=h1.1;simp at this
  |x1::cs,h1=>
  obtain⟨g1,h1⟩:=h1.uncons;match cs,h1 with
  |[],h1=>have:=h1.1;simp at this
  |x2::cs,h1=>
  obtain⟨g2,h1⟩:=h1.uncons;have hn:cs=[]:=jM.1 h1.1;subst hn;have g1:=gY g1;have g2:=gY g2;subst g1 g2;match W,J with
  |[],J=>have:=J.1;simp at this
  |y1::W,J=>
  obtain⟨g3,J⟩:=J.uncons;have hn:W=[]:=jM.1 J.1;subst hn;have g3:=ua g3;subst g3;refine(Q4 b ok c lo hi w a3).mono ?_;rintro e w' ⟨rfl,h3,h4⟩;exact⟨_,_,rfl,h3,h4,lG (.b _) qB,_,rfl,lG (.i _ _) (lG (.i _ _) qB)⟩⟩
def Bd (x:Int):Prop:= -2305843009213693952<=x/\x<=2305843009213693952
theorem Bd.zero:Bd 0:=by unfold Bd;omega
def gL (e:Rat):Int:=if iE e then jF e else 0
def gH (e:Rat):Int:=if iE e then jd e else 0
theorem qN (e:Rat):Bd (gL e):=by
 unfold gL;split;·rename_i h;have:=EQ h;exact⟨this.1,this.2.1⟩
 .exact Bd.zero
theorem qz (e:Rat):Bd (gH e):=by
 unfold gH;split;·rename_i h;have:=EQ h;exact⟨this.2.2.1,this.2.2.2⟩
 .exact Bd.zero
theorem D5 (e:Rat):gL e<=gH e:=by
 unfold gL gH;split;·exact Zv e
 .exact qG _
theorem Ms (h: ¬e<0): ¬gH e<0:=by
 unfold gH;split;·have:=AY h;omega
 .omega
theorem NG (e:Rat):Bd (pN (gL e)):=by have:=Ss (y:=0) (qN e).2 (by omega) (by omega);unfold Bd;omega
theorem Nl (h: ¬e<0):Bd (kV (gH e)):=by have:=Ss (x:=0) (by omega) (by have:=Ms h;omega) (qz e).2;unfold Bd;omega
theorem aeV (x y:Int):mg x y<=lT x y:=by
 have h:P4 x y/65536<=Ea (P4 x y):=by unfold Ea;split<;>omega
 unfold mg lT;split<;>omega
theorem aee (x y u v:Int):Eg x y u v 4<=DR x y u v 4:=by exact Int.le_trans (Int.min_le_right _ _) (Int.le_trans (aeV _ _) (Int.le_max_right _ _))
def pL (x y u v:Int):Int:=if xR x y u v 4 then Eg x y u v 4 else 0
def pH (x y u v:Int):Int:=if xR x y u v 4 then DR x y u v 4 else 0
theorem Ck (x y u v:Int):Bd (pL x y u v):=by
 unfold pL;split;·rename_i h;have:=ach 4 h;exact⟨this.1,this.2.1⟩
 .exact Bd.zero
theorem CF (x y u v:Int):Bd (pH x y u v):=by
 unfold pH;split;·rename_i h;have:=ach 4 h;exact⟨this.2.2.1,this.2.2.2⟩
 .exact Bd.zero
theorem zY (x y u v:Int):pL x y u v<=pH x y u v:=by
 unfold pL pH;split;·exact aee x y u v
 .exact qG _
def aL (x y u v:Int):Int:=if vn (x+u) (y+v) then x+u else 0
def aH (x y u v:Int):Int:=if vn (x+u) (y+v) then y+v else 0
theorem If (h:x<=y) (J:u<=v):Bd (aL x y u v):=by
 unfold aL;split;·rename_i I;have:=Oq I;unfold Bd;omega
 .exact Bd.zero
theorem JN (h:x<=y) (J:u<=v):Bd (aH x y u v):=by
 unfold aH;split;·rename_i I;have:=Oq I;unfold Bd;omega
 .exact Bd.zero
theorem gJ (h:Rz 4000000 e):cq 82 [dR e] [.a ([.i .i64 (gL e)]++[.i .i64 (gH e)]),.c (.b (iE e))]:=oK h
theorem Jy (h: ¬e<0):cq 83 [.a ([.i .i64 (gL e)]++[.i .i64 (gH e)])] [.a ([.i .i64 (pN (gL e))]++[.i .i64 (kV (gH e))]),.c (.b true)]:=
 JS (qN e).1 (qN e).2 (qz e).1 (qz e).2 (Ms h)
theorem s8 (h1:Bd x) (I:Bd y) (J:Bd u) (R:Bd v):cq 84 [.a ([.i .i64 x]++[.i .i64 y]),.a ([.i .i64 u]++[.i .i64 v])] [.a ([.i .i64 (pL x y u v)]++[.i .i64 (pH x y u v)]),.c (.b (xR x y u v 4))]:=
 Mb h1.1 h1.2 I.1 I.2 J.1 J.2 R.1 R.2
theorem qU (h1:Bd x) (I:Bd y) (J:Bd u) (R:Bd v):cq 85 [.a ([.i .i64 x]++[.i .i64 y]),.a ([.i .i64 u]++[.i .i64 v])] [.a ([.i .i64 (aL x y u v)]++[.i .i64 (aH x y u v)]),.c (.b (vn (x+u) (y+v)))]:=
 ND h1.1 h1.2 I.1 I.2 J.1 J.2 R.1 R.2
theorem gM {ok c:Bool}:OkP Tryz.prog 192 224 [.b ok] [.b (ok&&c)] [.a ([.i .i64 x]++[.i .i64 y]),.c (.b c)] [.a ([.i .i64 x]++[.i .i64 y])]:=YV ok c x y
def qbL (B M:Rat):Int:=pL (gL B) (gH B) (pN (gL M)) (kV (gH M))
def Zj (B M:Rat):Int:=pH (gL B) (gH B) (pN (gL M)) (kV (gH M))
def qbK (B M:Rat):Bool:=xR (gL B) (gH B) (pN (gL M)) (kV (gH M)) 4
def VV (M N:Rat):Int:=pL (pN (gL M)) (kV (gH M)) (pN (gL N)) (kV (gH N))
def Yl (M N:Rat):Int:=pH (pN (gL M)) (kV (gH M)) (pN (gL N)) (kV (gH N))
def ahP (M N:Rat):Bool:=xR (pN (gL M)) (kV (gH M)) (pN (gL N)) (kV (gH N)) 4
def qdL (D M N:Rat):Int:=pL (gL D) (gH D) (VV M N) (Yl M N)
def qdH (D M N:Rat):Int:=pH (gL D) (gH D) (VV M N) (Yl M N)
def qdK (D M N:Rat):Bool:=xR (gL D) (gH D) (VV M N) (Yl M N) 4
def Wo (A B M:Rat):Int:=aL (gL A) (gH A) (qbL B M) (Zj B M)
def Wa (A B M:Rat):Int:=aH (gL A) (gH A) (qbL B M) (Zj B M)
def aiD (A B M:Rat):Bool:=vn (gL A+qbL B M) (gH A+Zj B M)
def Wg (C D M N:Rat):Int:=aL (qbL C N) (Zj C N) (qdL D M N) (qdH D M N)
def Xt (C D M N:Rat):Int:=aH (qbL C N) (Zj C N) (qdL D M N) (qdH D M N)
def aie (C D M N:Rat):Bool:=vn (qbL C N+qdL D M N) (Zj C N+qdH D M N)
def qsL (A B C D M N:Rat):Int:=aL (Wo A B M) (Wa A B M) (Wg C D M N) (Xt C D M N)
def qsH (A B C D M N:Rat):Int:=aH (Wo A B M) (Wa A B M) (Wg C D M N) (Xt C D M N)
def qsK (A B C D M N:Rat):Bool:=vn (Wo A B M+Wg C D M N) (Wa A B M+Xt C D M N)
def qK1 (M N:Rat):Bool:=iE M&&iE N
def qK2 (B C D M N:Rat):Bool:=qK1 M N&&(iE B&&(qbK B M&&(iE C&&(qbK C N&&(iE D&&(ahP M N&&qdK D M N))))))
def MN (A B C D M N:Rat):Bool:=qK2 B C D M N&&(iE A&&(aiD A B M&&(aie C D M N&&qsK A B C D M N)))
def Vz (A B C D M N:Rat):Bool:=MN A B C D M N&&LG (qsL A B C D M N) (qsH A B C D M N)
def qkS (A B C D M N:Rat):Int:=if MN A B C D M N then Lx (qsL A B C D M N) (qsH A B C D M N) else 0
theorem ED (h:MN A B C D M N=false):qkS A B C D M N=0/\Vz A B C D M N=false:=by unfold qkS Vz;rw[h];exact⟨rfl,rfl⟩
theorem Lz (h:MN A B C D M N=true):qkS A B C D M N=Lx (qsL A B C D M N) (qsH A B C D M N)/\Vz A B C D M N=LG (qsL A B C D M N) (qsH A B C D M N):=by unfold qkS Vz;rw[h];exact⟨rfl,rfl⟩
theorem Sh (h:qK2 B C D M N=false):MN A B C D M N=false:=by unfold MN;rw[h];rfl
theorem acq (h:qK1 M N=false):MN A B C D M N=false:=Sh (by unfold qK2;rw[h];rfl)
theorem KO {b c:Bool}(h:(!b)=true) (e:c=b):c=false:=by rw[e];simpa using h
theorem ac6 {b c:Bool}(h:(!b)=false) (e:c=b):c=true:=by rw[e];simpa using h
theorem L3 (hA:Rz 4000000 A) (W:Rz 4000000 B) (hC:Rz 4000000 C) (hD:Rz 4000000 D) (hM:Rz 4000000 M) (hN:Rz 4000000 N) (hm: ¬M<0) (hn: ¬N<0):cq 113 [.a ((cR A++cR B++cR C++cR D++cR M++cR N))] [.c (.i .i64 (qkS A B C D M N)),.c (.b (Vz A B C D M N))]:=by
 refine bE Tryz.func113 rfl<|ar (am af6 afP rfl rfl rfl) ?_;refine ac rfl (gJ (az hM)) ?_;refine DL.mk<|uy (fL rfl rfl rfl rfl rfl gM rfl)<|iJ ?_;refine ac rfl (Jy ‹_›) ?_;refine DL.mk<|uy (fL rfl rfl rfl rfl rfl gM rfl)<|iJ ?_;refine ac rfl (gJ (az hN)) ?_;refine DL.mk<|uy (fL rfl rfl rfl rfl rfl gM rfl)<|iJ ?_;refine ac rfl (Jy ‹_›) ?_;refine DL.mk<|uy (fL rfl rfl rfl rfl rfl gM rfl)<|iJ ?_;refine ar (s9 rfl rfl) ?_;refine dg rfl (fun R=>?_) (fun R=>?_)
 .have I:MN A B C D M N=false:=acq (KO R (by unfold qK1;simp only[ii,Bool.and_true];try rfl));apply ae;rw[(ED I).1,(ED I).2];exact aj (aj aa)
 .refine cm 14 [12] ?_;refine aw rfl (gJ (az W)) ?_;refine DQ.mk<|vw (fL rfl rfl rfl rfl rfl gM rfl) rfl rfl rfl rfl rfl (by kernel_rfl) rfl<|dY ?_;refine aw rfl (s8 (qN _) (qz _) (NG _) (Nl ‹_›)) ?_;refine DQ.mk<|vw (fL rfl rfl rfl rfl rfl gM rfl) rfl rfl rfl rfl rfl (by kernel_rfl) rfl<|dY ?_;refine cm 14 [12] ?_;refine aw rfl (gJ (az hC)) ?_;refine DQ.mk<|vw (fL rfl rfl rfl rfl rfl gM rfl) rfl rfl rfl rfl rfl (by kernel_rfl) rfl<|dY ?_;refine aw rfl (s8 (qN _) (qz _) (NG _) (Nl ‹_›)) ?_;refine DQ.mk<|vw (fL rfl rfl rfl rfl rfl gM rfl) rfl rfl rfl rfl rfl (by kernel_rfl) rfl<|dY ?_;refine cm 20 [12] ?_;refine aw rfl (gJ (az hD)) ?_;refine DQ.mk<|vw (fL rfl rfl rfl rfl rfl gM rfl) rfl rfl rfl rfl rfl (by kernel_rfl) rfl<|dY ?_;refine aw rfl (s8 (NG _) (Nl ‹_›) (NG _) (Nl ‹_›)) ?_;refine DQ.mk<|vw (fL rfl rfl rfl rfl rfl gM rfl) rfl rfl rfl rfl rfl (by kernel_rfl) rfl<|dY ?_;refine aw rfl (s8 (qN _) (qz _) (Ck _ _ _ _) (CF _ _ _ _)) ?_;refine DQ.mk<|vw (fL rfl rfl rfl rfl rfl gM rfl) rfl rfl rfl rfl rfl (by kernel_rfl) rfl<|dY ?_;refine ar (s9 rfl rfl) ?_;refine dg rfl (fun V=>?_) (fun V=>?_)
  .have I:MN A B C D M N=false:=Sh (KO V (by unfold qK2 qK1;simp only[ii,Bool.and_true,Bool.and_assoc];try rfl));apply ae;rw[(ED I).1,(ED I).2];exact aj (aj aa)
  .refine cm 26 [12] ?_;refine aw rfl (gJ (az hA)) ?_;refine DQ.mk<|vw (fL rfl rfl rfl rfl rfl gM rfl) rfl rfl rfl rfl rfl (by kernel_rfl) rfl<|dY ?_;refine aw rfl (qU (qN _) (qz _) (Ck _ _ _ _) (CF _ _ _ _)) ?_;refine DQ.mk<|vw (fL rfl rfl rfl rfl rfl gM rfl) rfl rfl rfl rfl rfl (by kernel_rfl) rfl<|dY ?_;refine aw rfl (qU (Ck _ _ _ _) (CF _ _ _ _) (Ck _ _ _ _) (CF _ _ _ _)) ?_;refine DQ.mk<|vw (fL rfl rfl rfl rfl rfl gM rfl) rfl rfl rfl rfl rfl (by kernel_rfl) rfl<|dY ?_;refine aw rfl (qU (If (by first|exact D5 _|exact zY _ _ _ _) (by first|exact D5 _|exact zY _ _ _ _)) (JN (by first|exact D5 _|exact zY _ _ _ _) (by first|exact D5 _|exact zY _ _ _ _)) (If (by first|exact D5 _|exact zY _ _ _ _) (by first|exact D5 _|exact zY _ _ _ _)) (JN (by first|exact D5 _|exact zY _ _ _ _) (by first|exact D5 _|exact zY _ _ _ _))) ?_;refine DQ.mk<|vw (fL rfl rfl rfl rfl rfl gM rfl) rfl rfl rfl rfl rfl (by kernel_rfl) rfl<|dY ?_;refine ar (s9 rfl rfl) ?_;refine dg rfl (fun J=>?_) (fun J=>?_)
   .have I:MN A B C D M N=false:=KO J (by unfold MN qK2 qK1;simp only[ii,Bool.and_true,Bool.and_assoc];try rfl);apply ae;rw[(ED I).1,(ED I).2];exact aj (aj aa)
   .refine ac rfl Dz ?_;have I:MN A B C D M N=true:=ac6 J (by unfold MN qK2 qK1;simp only[ii,Bool.and_true,Bool.and_assoc];try rfl);apply ae;rw[(Lz I).1,(Lz I).2];exact aj (aj aa)
end Go.Proofs.YtegeknjkgadehaaGreat
