/-Plain:square roots of fractions as sequences;what both programs compute is the sign of the sum. -/
import Derived.Test.YtegeknjkgadehaaGreatTwI
import Derived.Test.YtegeknjkgadehaaGreatProg
namespace Go.Proofs.YtegeknjkgadehaaGreat
open Go Go.RowKit
variable {hi lo n p r u v x y:Int}{j k:Nat}{A B C D M N a b c d e m:Rat}{U xt yt:TypeId}
variable {ty:TypeId}{pos:String}{af:Array Edge}{g:Option (Nat×Bool)}{dst:Option Nat}
theorem ee:type_of% @Re.ext:=@Re.ext
theorem rO:type_of% @Rat.intCast_le_intCast:=@Rat.intCast_le_intCast
theorem tK:type_of% @Rat.intCast_mul:=@Rat.intCast_mul
theorem yn:type_of% @Rat.divInt_eq_div:=@Rat.divInt_eq_div
theorem yO:type_of% @Rat.intCast_pos:=@Rat.intCast_pos
theorem zm:type_of% @Rat.intCast_nonneg:=@Rat.intCast_nonneg
def wi (m:Rat) (k:Nat):Rat:=(((m.den:Int)*((k:Int)+1):Int):Rat)
def Y9 (m:Rat) (k:Nat):Int:=bp (m.num*(m.den:Int)*(((k:Int)+1)*((k:Int)+1)))
def wF (m:Rat) (k:Nat):Rat:=((Y9 m k:Int):Rat)/wi m k
theorem yf {x y:Rat}(w:0<d) (h:x*d<=y*d):x<=y:=by apply jZ;intro H;have E:0<(x-y)*d:=Rat.mul_pos (by grind) w;grind
theorem Me (m:Rat):m*((m.den:Int):Rat)=((m.num:Int):Rat):=by have h:=Rat.num_divInt_den m;rw[yn] at h;have w:(0:Rat)<((m.den:Int):Rat):=yO.2 (by have:=m.den_pos;omega);grind
theorem wU (m:Rat) (k:Nat):0<wi m k:=by
 have w:=den_pos m;have h:(0:Int)<(m.den:Int)*((k:Int)+1):=by grind
 exact yO.2 h
theorem Fn (m:Rat) (k:Nat):wF m k*wi m k=((Y9 m k:Int):Rat):=by have:=wU m k;unfold wF;grind
theorem TQ (m:Rat) (k:Nat):m*(wi m k*wi m k)=((m.num*(m.den:Int)*(((k:Int)+1)*((k:Int)+1)):Int):Rat):=by have h:=Me m;unfold wi;grind
theorem ZJ (m:Rat) (k:Nat):0<=Y9 m k:=eD _
theorem QF (h:0<=m) (k:Nat):0<=m.num*(m.den:Int)*(((k:Int)+1)*((k:Int)+1)):=
 mh (mh (Rat.num_nonneg.2 h) (by have:=den_pos m;omega)) (mh (by omega) (by omega))
theorem EY (m:Rat) (k:Nat):0<=wF m k:=by refine yf (wU m k) ?_;rw[Fn];have:(0:Rat)<=((Y9 m k:Int):Rat):=zm.2 (ZJ m k);grind
theorem Pe (h:0<=m) (k:Nat):wF m k*wF m k<=m:=by
 have w:=wU m k;refine yf (Rat.mul_pos w w) ?_;rw[TQ];have e:wF m k*wF m k*(wi m k*wi m k)=((Y9 m k*Y9 m k:Int):Rat):=by rw[tK,<-Fn];grind
 rw[e];exact rO.2 (r8 (QF h k))
theorem Rg (h:0<=m) (k:Nat):m<(wF m k+1/wi m k)*(wF m k+1/wi m k):=by
 have w:=wU m k;have e:(wF m k+1/wi m k)*(wF m k+1/wi m k)*(wi m k*wi m k)=(((Y9 m k+1)*(Y9 m k+1):Int):Rat):=by rw[tK,Rat.intCast_add,<-Fn];grind
 have E:=Rat.intCast_lt_intCast.2 (AU (QF h k));rw[<-TQ] at E;have J:m*(wi m k*wi m k)<(wF m k+1/wi m k)*(wF m k+1/wi m k)*(wi m k*wi m k):=by rw[e];exact E
 apply jZ;intro I;have H:0<=(m-(wF m k+1/wi m k)*(wF m k+1/wi m k))*(wi m k*wi m k):=n6 (by grind) (by have:=Rat.mul_pos w w;grind);grind
theorem yL (m:Rat) (E:0<e) (R:e.den<=k):0<1/wi m k/\1/wi m k<=e:=by
 have h:=wU m k;refine⟨?_,?_⟩;·have:=(I3 (e:=1) (by decide) h).1;exact this
 ·refine yf h ?_;have w:=Me e;have K:0<e.num:=yO.1 (by rw[<-w];exact Rat.mul_pos E (yO.2 (by have:=e.den_pos;omega)));have H:(1:Rat)<=((e.num:Int):Rat):=by have:((1:Int):Rat)<=((e.num:Int):Rat):=rO.2 (by omega);grind
  have W:((e.den:Int):Rat)<=wi m k:=by refine rO.2 ?_;have:=den_pos m;have J:1*((k:Int)+1)<=(m.den:Int)*((k:Int)+1):=Int.mul_le_mul_of_nonneg_right (by omega) (by omega);omega
  have I:0<=e*(wi m k-((e.den:Int):Rat)):=n6 (by grind) (by grind);grind
theorem Z4 (h:0<=m):Wh (wF m):=fun e w=>by refine⟨e.den,fun i j _ E=>?_⟩;obtain⟨H,hs⟩:=yL m w E;have R:=Pe h i;have W:=Rg h j;have I:=EY m i;have h4:=EY m j;apply jZ;intro J;have K:0<=(wF m i-(wF m j+1/wi m j))*(wF m i+(wF m j+1/wi m j)):=n6 (by grind) (by grind);grind
def Re.rt (m:Rat):Re:=⟨fun k=>if 0<=m then wF m k else 0,by
 by_cases h:0<=m;·simp only[h,if_true];exact Z4 h
 ·simp only[h,if_false];exact DU 0⟩
theorem abZ {x:Re}(h: ∀k,0<=x.s k):0<=bz x:=by
 rcases cZ x with a|a|a;·omega
 ·omega
 ·obtain⟨e,E,K,g⟩:=nB.1 a;have w:=g K (bd _);rw[cn] at w;grind
theorem O2 (m:Rat):0<=bz (Re.rt m):=abZ fun k=>by
 show 0<=(if 0<=m then wF m k else 0);split;·exact EY m k
 ·exact Rat.le_refl
theorem Ef (h:0<=m):bz (Re.rt m*Re.rt m-Re.of m)=0:=mD.2 fun e E=>by
 obtain⟨I,d2⟩:=I3 E (show 0<2*m+3 by grind);refine⟨(e/(2*m+3)).den,fun k H=>?_⟩;rw[bt,bW,db];show-e<=(if 0<=m then wF m k else 0)*(if 0<=m then wF m k else 0)+ -m/\(if 0<=m then wF m k else 0)*(if 0<=m then wF m k else 0)+ -m<=e;rw[if_pos h];obtain⟨hp,hs⟩:=yL m I H;obtain⟨w,J⟩:=yL m (e:=1) (by decide) (k:=k) (by have:(1:Rat).den=1:=rfl;rw[this];have:=(e/(2*m+3)).den_pos;omega)
 have h1:=Pe h k;have h2:=Rg h k;have R:=EY m k;refine⟨?_,by grind⟩;have h4:wF m k<=m+1:=by apply jZ;intro hn;have h5:0<=(wF m k-(m+1))*(wF m k+(m+1)):=n6 (by grind) (by grind);have W:0<=m*m:=n6 h h;grind
 generalize 1/wi m k=d at*;have h7:0<=d*((m+1)-wF m k):=n6 (by grind) (by grind);have K:0<=d*(1-d):=n6 (by grind) (by grind);have h9:0<=(2*m+3)*(e/(2*m+3)-d):=n6 (by grind) (by grind);grind
theorem tB (x y:Rat):aJ (x-y) 0=aJ x y:=by unfold aJ;grind
theorem mU (x y:Rat):Re.of x*Re.of y=Re.of (x*y):=rfl
theorem QH (x:Rat): -Re.of x=Re.of (-x):=rfl
theorem RK (x y:Rat):Re.of x+Re.of y=Re.of (x+y):=rfl
theorem wu (x y:Rat):Re.of x-Re.of y=Re.of (x-y):=ee fun k=>by rw[bt,db,db,db];grind
def fi (a b m:Rat):Re:=Re.of a+Re.of b*Re.rt m
theorem iG (h:0<=m):bU a b m=bz (fi a b m):=by unfold fi;rw[H4 (n:=Re.of m) (O2 m) (Ef h),gI,gI,gI,mU,mU,mU,wu,gI,tB];rfl
def J5 (A B C D M N:Rat):Re:=fi A B M+fi C D M*Re.rt N
theorem I9 (h:0<=M) (w:0<=N):km A B C D M N=bz (J5 A B C D M N):=by
 unfold J5;rw[H4 (n:=Re.of N) (O2 N) (Ef w),<-iG h,<-iG h,gI,u9 (by grind) (by grind)];have e:bz (fi A B M*fi A B M-fi C D M*fi C D M*Re.of N)=bz (fi (Ey A B C D M N) (vM A B C D N+vM A B C D N) M):=by
  refine q7 ?_;have e:(fi A B M*fi A B M-fi C D M*fi C D M*Re.of N)-fi (Ey A B C D M N) (vM A B C D N+vM A B C D N) M=(Re.of (B*B-D*D*N))*(Re.rt M*Re.rt M-Re.of M):=ee fun k=>by unfold fi Ey vM;simp only[bt,bW,bN,db];grind
  rw[e,di,Ef h,si]
 rw[e,<-iG h]
theorem ym {f:Rat}(w:0<=c) (h:0<=f):km (a-d) b (-e) 0 c f=bz (fi a b c-fi d e f):=by rw[I9 w h];refine congrArg bz (ee fun k=>?_);unfold J5 fi;simp only[bt,bW,bN,db];grind
section
variable {P:Program}{ops:Array Oper}{T:TF}{B:BF}
theorem rV {x y:Operand}{k h:IntKind}{m:Int}
 (E:ck T x=some (.v (.c (.i k m)))) (K:ck T y=some (.v (.c (.i h n)))) (J: ¬n<0) (H:m.fdiv (2^(min n.toNat k.bits))=r) (I:gd ops ⟨dst,.binOp .shr xt x y yt,ty,pos,af,g⟩ T=some true):
 Sem P ops ⟨dst,.binOp .shr xt x y yt,ty,pos,af,g⟩ T B (.r (.v (.c (.i k r)))):=
 bK I (rG rfl) (fun V β a w hs=>by have W:a.eval x=.int k m:=fN (ao hs (x:=x) (by simp[Op.operands]) E);have R:a.eval y=.int h n:=fN (ao hs (x:=y) (by simp[Op.operands]) K);subst H;exact⟨.int k (m.fdiv (2^(min n.toNat k.bits))),by simp[execOp,W,R,eqGuard,binOp,Op.shift,J],.i _ _⟩)
theorem Uy {x y:Operand}{k h:IntKind}{m:Int}
 (E:ck T x=some (.v (.c (.i k m)))) (K:ck T y=some (.v (.c (.i h n)))) (J: ¬n<0) (H:k.wrap (m*2^(min n.toNat k.bits))=r) (I:gd ops ⟨dst,.binOp .shl xt x y yt,ty,pos,af,g⟩ T=some true):
 Sem P ops ⟨dst,.binOp .shl xt x y yt,ty,pos,af,g⟩ T B (.r (.v (.c (.i k r)))):=
 bK I (rG rfl) (fun V β a w hs=>by have W:a.eval x=.int k m:=fN (ao hs (x:=x) (by simp[Op.operands]) E);have R:a.eval y=.int h n:=fN (ao hs (x:=y) (by simp[Op.operands]) K);subst H;exact⟨.int k (k.wrap (m*2^(min n.toNat k.bits))),by simp[execOp,W,R,eqGuard,binOp,Op.shift,J],.i _ _⟩)
end
def oN (x:Int):Int:=bp (max x 0*65536)
def kF (y:Int):Int:=if At (y*65536) then bp (y*65536) else bp (y*65536)+1
theorem A6 (H:0<=n) (E:n<=2305843009213693952):0<=bp (n*65536)/\bp (n*65536)<=549755813888:=by
 refine⟨eD _,?_⟩;have w:=r8 (x:=n*65536) (by omega);by_cases h:bp (n*65536)<=549755813888;·exact h
 ·have:=TC (a:=549755813889) (b:=bp (n*65536)) (by decide) (by omega);omega
theorem NQ (h: -4611686018427387904<=x) (w:x<=4611686018427387904):t8 x=true:=WC.2 ⟨by omega,by omega⟩
theorem It (h: -2305843009213693952<=lo) (w:hi<=2305843009213693952):tp lo hi=true:=ZE (by omega) (by omega)
theorem ol (R:Rz 4000000 a):Ok Tryz.prog 82 [dR a] [.a (([.i .i64 (if gV a then jo a else 0)]++[.i .i64 (if gV a then iJ a else 0)])),.c (.b (gV a))]:=by
 have I:Rz 6000000 (a*((65536:Int):Rat)):=(aW R (Rz.int (eE (k:=3) (by decide) (by decide) (by decide)) (by decide))).m_;have a1:Rz 6000000 a:=R.m_;have a3:Rz 6000000 ((65536:Int):Rat):=(Rz.int (eE (k:=3) (by decide) (by decide) (by decide)) (by decide)).m_;have H:Rz 6000000 (-(a*((65536:Int):Rat))):=I.neg;have a2:Sz 100000000 (jo a):=(Sz.fdiv I.n).m_;have E:Sz 100000000 ((-(a*((65536:Int):Rat))).num.fdiv ((-(a*((65536:Int):Rat))).den:Int)):=(Sz.fdiv H.n).m_;have a0:Sz 100000000 (iJ a):=E.neg;have K:Ok Tryz.prog 164 [dR (a*((65536:Int):Rat))] [dI (jo a)]:=we I;have J:Ok Tryz.prog 165 [dI ((-(a*((65536:Int):Rat))).num.fdiv ((-(a*((65536:Int):Rat))).den:Int))] [dI (iJ a)]:=xL E;refine fg Tryz.func82 38 [.cell 2 89,.tmp 3] rfl<|ab<|ag<|ab<|fk 4 [] ?_;refine aG rfl (DY (by omega) (by omega)) ?_;refine aG rfl (eN (by first|assumption|exact fp (by assumption) (by decide)) (by first|assumption|exact fp (Rz.int (eE (k:=3) (by decide) (by decide) (by decide)) (by decide)) (by decide))) ?_;refine ab<|ag ?_;refine ac rfl (K) ?_;refine ac rfl (uX (by first|assumption|exact Sz.mono (by assumption) (by decide))) ?_;refine ab<|ag ?_;refine ac rfl (ri (by first|assumption|exact fp (aW (by assumption) (Rz.int (eE (k:=3) (by decide) (by decide) (by decide)) (by decide))) (by decide))) ?_;refine ac rfl (we H)<|ac rfl (J) ?_;refine ac rfl (uX (by first|assumption|exact Sz.mono (by assumption) (by decide))) ?_;refine ab<|ab<|ag ?_;refine jC (aQ rfl) (fun c1 w=>?_);cases c1
 ·refine aA rfl (fun h=>?_) (fun h=>?_)
  ·refine ab<|ag<|ar (az (us:=([.i .i64 0]++[.i .i64 0])) vq tP rfl rfl rfl) ?_;refine bc ?_;rw[show gV a=false from by unfold gV;rw[gy h,pU,sX],if_neg (by decide),if_neg (by decide)];exact ah (a7 mz rfl (aj aa))
  ·have e1:=df w;have W:=df h;refine pp (σ':=⟨38,[(2,.p 2 0),(5,.v (.c (.i .i64 (jo a)))),(7,.v (.c (.i .i64 (iJ a))))],[(2,89,([.i .i64 0]++[.i .i64 0]))]⟩) (al ⟨rfl,by rw[if_pos e1];rfl,by rw[if_pos W];rfl,trivial⟩ ⟨rfl,trivial⟩ rfl) ?_;refine au<|ab<|ag<|ac rfl (sD) ?_;refine bc ?_;rw[show gV a=tp (jo a) (iJ a) from by unfold gV;rw[e1,W];rfl];exact ah (a7 mz rfl (aj aa))
 ·refine gO rfl<|ab<|ag<|ar (az (us:=([.i .i64 0]++[.i .i64 0])) vq tP rfl rfl rfl) ?_;refine bc ?_;rw[show gV a=false from by unfold gV;rw[gy w];rfl,if_neg (by decide),if_neg (by decide)];exact ah (a7 mz rfl (aj aa))
theorem Ie (E:0<=n) (H:n<=2305843009213693952):Ok Tryz.prog 167 [.c (.i .i64 n)] [.c (.i .i64 (bp (n*65536))),.c (.b (At (n*65536)))]:=by
 have z1:Sz 100000000 n:=eE (by decide) (by omega) (by omega);have z2:Sz 100000000 (65536:Int):=eE (by decide) (by decide) (by decide)
 have h:Sz 3 (n*65536):=⟨by have:pw 3=1000000000000000000000000000:=by decide
                            omega,by have:pw 3=1000000000000000000000000000:=by decide
                                     omega⟩
 have J:Sz 99999999 (n*65536):=h.m_;have w:Sz 100000000 (bp (n*65536)):=h.isq.m_;have I:=A6 E H;have e0:(if t8 (bp (n*65536)) then bp (n*65536) else 0)=bp (n*65536):=by rw[NQ (by omega) (by omega),if_pos rfl]
 refine cj Tryz.func167 rfl<|ac rfl (lW (by omega) (by omega))<|ac rfl (lW (by omega) (by omega)) ?_;refine ac rfl (jP (by first|assumption|exact Sz.mono (by assumption) (by decide)) (by first|assumption|exact Sz.mono (eE (k:=3) (by decide) (by decide) (by decide)) (by decide))) ?_;refine ac rfl (Cn (by first|assumption|exact Sz.mono (jw (by assumption) (eE (k:=3) (by decide) (by decide) (by decide))) (by decide))) ?_;refine ac rfl ((show Ok Tryz.prog 163 [dI (bp (n*65536))] [.c (.i .i64 (bp (n*65536))),.c (.b (t8 (bp (n*65536))))] from by have:=uX w;rw[e0] at this;exact this))<|cE 9 [] ?_;refine aG rfl (jP (by first|assumption|exact Sz.mono (Sz.isq (jw (by assumption) (eE (k:=3) (by decide) (by decide) (by decide)))) (by decide)) (by first|assumption|exact Sz.mono (Sz.isq (jw (by assumption) (eE (k:=3) (by decide) (by decide) (by decide)))) (by decide))) ?_;refine aG rfl (m5)<|ah ?_;rw[MJ];exact aj (aj aa)
theorem G4 (J: -2305843009213693952<=x) (K:x<=2305843009213693952) (R: -2305843009213693952<=y) (E:y<=2305843009213693952) (H: ¬y<0):Ok Tryz.prog 83 [.a (([.i .i64 x]++[.i .i64 y]))] [.a (([.i .i64 (oN x)]++[.i .i64 (kF y)])),.c (.b true)]:=by
 have W:=A6 (n:=max x 0) (by omega) (by omega);have I:=A6 (n:=y) (by omega) E;refine cj Tryz.func83 rfl ?_;refine cU rfl (fun w=>?_) (fun w=>?_);·exact absurd (vK w) H
 ·refine ar (LP rfl rfl rfl) ?_;refine ac rfl (Ie (by omega) (by omega))<|ac rfl (Ie (by omega) (by omega)) ?_;refine cU rfl (fun h=>?_) (fun h=>?_)
  ·refine ar (b9 ((bp (y*65536))+1) (aT (by omega) (by omega)) rfl)<|ac rfl ((show Ok Tryz.prog 166 [.c (.i .i64 (bp ((max x 0)*65536))),.c (.i .i64 ((bp (y*65536))+1))] [.a ([.i .i64 (bp ((max x 0)*65536))]++[.i .i64 ((bp (y*65536))+1)]),.c (.b true)] from by have:=sD (x:=bp ((max x 0)*65536)) (y:=(bp (y*65536))+1);rw[It (by omega) (by omega),if_pos rfl,if_pos rfl] at this;exact this)) ?_;refine ah ?_;unfold oN kF;rw[gy h,if_neg (by decide)];exact a7 mz rfl (aj aa)
  ·refine ac rfl ((show Ok Tryz.prog 166 [.c (.i .i64 (bp ((max x 0)*65536))),.c (.i .i64 (bp (y*65536)))] [.a ([.i .i64 (bp ((max x 0)*65536))]++[.i .i64 (bp (y*65536))]),.c (.b true)] from by have:=sD (x:=bp ((max x 0)*65536)) (y:=bp (y*65536));rw[It (by omega) (by omega),if_pos rfl,if_pos rfl] at this;exact this)) ?_;refine ah ?_;unfold oN kF;rw[df h,if_pos rfl];exact a7 mz rfl (aj aa)
theorem Nj (E: -2305843009213693952<=x) (I:x<=2305843009213693952) (J: -2305843009213693952<=y) (h:y<=2305843009213693952) (R: -2305843009213693952<=u) (H:u<=2305843009213693952) (w: -2305843009213693952<=v) (K:v<=2305843009213693952):Ok Tryz.prog 85 [.a (([.i .i64 x]++[.i .i64 y])),.a (([.i .i64 u]++[.i .i64 v]))] [.a (([.i .i64 (if tp (x+u) (y+v) then x+u else 0)]++[.i .i64 (if tp (x+u) (y+v) then y+v else 0)])),.c (.b (tp (x+u) (y+v)))]:=by refine cj Tryz.func85 rfl<|ar (b9 (x+u) (aT (by omega) (by omega)) rfl) ?_;refine ar (b9 (y+v) (aT (by omega) (by omega)) rfl) ?_;refine ac rfl (sD) ?_;exact ah (a7 mz rfl (aj aa))
theorem Mz (E: -9223372036854775808<=x) (H:x<=9223372036854775807):Ok Tryz.prog 249 [.c (.i .i64 x)] [.c (.i .u64 (x.natAbs:Int))]:=by
 refine cj Tryz.func249 rfl ?_;refine cU rfl (fun h=>?_) (fun h=>?_)
 ·have w:=vK h;have e:(x.natAbs:Int)= -x:=by omega
  refine ar (bj (r:=x+18446744073709551616) nu fB rfl (H8 w E) rfl) ?_;refine ar (fQ (r:= -x) rfl (DO w E) rfl) ?_;refine ah ?_;rw[e];exact aj aa
 ·have w:=nJ h;have e:(x.natAbs:Int)=x:=by omega
  refine ar (bj (r:=x) nu fB rfl (iF (by omega) (by omega)) rfl) ?_;refine ah ?_;rw[e];exact aj aa
section
variable {P:Program}{ops:Array Oper}{T:TF}{B:BF}
theorem Aq {x y:Operand}{k:IntKind}{m:Int}
 (E:ck T x=some (.v (.c (.i k m)))) (I:ck T y=some (.v (.c (.i k n)))) (H:k.wrap ((BitVec.ofInt k.bits m&&&BitVec.ofInt k.bits n).toNat:Int)=r) (h:gd ops ⟨dst,.binOp .and xt x y yt,ty,pos,af,g⟩ T=some true):
 Sem P ops ⟨dst,.binOp .and xt x y yt,ty,pos,af,g⟩ T B (.r (.v (.c (.i k r)))):=
 bK h (rG rfl) (fun V β a w hs=>by have K:a.eval x=.int k m:=fN (ao hs (x:=x) (by simp[Op.operands]) E);have J:a.eval y=.int k n:=fN (ao hs (x:=y) (by simp[Op.operands]) I);subst H;exact⟨.int k (k.wrap ((BitVec.ofInt k.bits m&&&BitVec.ofInt k.bits n).toNat:Int)),by simp[execOp,K,J,eqGuard,binOp,Op.intBits],.i _ _⟩)
theorem abY {x y:Operand}{k:IntKind}{m:Int}
 (E:ck T x=some (.v (.c (.i k m)))) (I:ck T y=some (.v (.c (.i k n)))) (H:k.wrap ((BitVec.ofInt k.bits m|||BitVec.ofInt k.bits n).toNat:Int)=r) (h:gd ops ⟨dst,.binOp .or xt x y yt,ty,pos,af,g⟩ T=some true):
 Sem P ops ⟨dst,.binOp .or xt x y yt,ty,pos,af,g⟩ T B (.r (.v (.c (.i k r)))):=
 bK h (rG rfl) (fun V β a w hs=>by have K:a.eval x=.int k m:=fN (ao hs (x:=x) (by simp[Op.operands]) E);have J:a.eval y=.int k n:=fN (ao hs (x:=y) (by simp[Op.operands]) I);subst H;exact⟨.int k (k.wrap ((BitVec.ofInt k.bits m|||BitVec.ofInt k.bits n).toNat:Int)),by simp[execOp,K,J,eqGuard,binOp,Op.intBits],.i _ _⟩)
end
theorem yJ (n:Nat) (h:n<18446744073709551616):(BitVec.ofInt 64 (n:Int)).toNat=n:=by rw[BitVec.toNat_ofInt];omega
theorem Qq (h:0<=x) (w:x<=18446744073709551615):IntKind.u64.wrap ((BitVec.ofInt IntKind.u64.bits x&&&BitVec.ofInt IntKind.u64.bits 4294967295).toNat:Int)=x%4294967296:=by
 obtain⟨n,rfl⟩:=zi h;have e:(BitVec.ofInt IntKind.u64.bits (n:Int)&&&BitVec.ofInt IntKind.u64.bits 4294967295).toNat=n%4294967296:=by show(BitVec.ofInt 64 (n:Int)&&&BitVec.ofInt 64 ((4294967295:Nat):Int)).toNat=_;rw[BitVec.toNat_and,yJ n (by omega),yJ _ (by decide)];exact Nat.and_two_pow_sub_one_eq_mod n 32
 rw[e,iF (by omega) (by omega)];omega
theorem aeb (h:0<=x) (w:x<=18446744073709551615):IntKind.u64.wrap ((BitVec.ofInt IntKind.u64.bits x&&&BitVec.ofInt IntKind.u64.bits 65535).toNat:Int)=x%65536:=by
 obtain⟨n,rfl⟩:=zi h;have e:(BitVec.ofInt IntKind.u64.bits (n:Int)&&&BitVec.ofInt IntKind.u64.bits 65535).toNat=n%65536:=by show(BitVec.ofInt 64 (n:Int)&&&BitVec.ofInt 64 ((65535:Nat):Int)).toNat=_;rw[BitVec.toNat_and,yJ n (by omega),yJ _ (by decide)];exact Nat.and_two_pow_sub_one_eq_mod n 16
 rw[e,iF (by omega) (by omega)];omega
theorem agV {h l:Int}(E:0<=h) (H:h<65536) (w:0<=l) (l1:l<281474976710656):IntKind.u64.wrap ((BitVec.ofInt IntKind.u64.bits (h*281474976710656)|||BitVec.ofInt IntKind.u64.bits l).toNat:Int)=h*281474976710656+l:=by
 obtain⟨n,rfl⟩:=zi E;obtain⟨m,rfl⟩:=zi w;have e:(BitVec.ofInt IntKind.u64.bits ((n:Int)*281474976710656)|||BitVec.ofInt IntKind.u64.bits (m:Int)).toNat=n*281474976710656+m:=by show(BitVec.ofInt 64 ((n:Int)*((281474976710656:Nat):Int))|||BitVec.ofInt 64 (m:Int)).toNat=_;rw[<-wd,BitVec.toNat_or,yJ _ (by omega),yJ _ (by omega)];have:=Nat.two_pow_add_eq_or_of_lt (i:=48) (b:=m) (by omega) n;grind
 rw[e,iF (by omega) (by omega)];omega
theorem IR:x.fdiv (2^(min (32:Int).toNat IntKind.u64.bits))=x/4294967296:=by rw[show(2:Int)^(min (32:Int).toNat IntKind.u64.bits)=4294967296 from rfl];exact pM _ (by decide)
theorem YC:x.fdiv (2^(min (16:Int).toNat IntKind.u64.bits))=x/65536:=by rw[show(2:Int)^(min (16:Int).toNat IntKind.u64.bits)=65536 from rfl];exact pM _ (by decide)
theorem adN (h:0<=x) (w:x<65536):IntKind.u64.wrap (x*2^(min (48:Int).toNat IntKind.u64.bits))=x*281474976710656:=by rw[show(2:Int)^(min (48:Int).toNat IntKind.u64.bits)=281474976710656 from rfl,iF (by omega) (by omega)]
theorem ags:IntKind.u64.wrap x=x%18446744073709551616:=by unfold IntKind.wrap;simp[IntKind.bits,IntKind.signed]
theorem acS (_K:0<=x) (_H:x<=18446744073709551615) (_E:0<=y) (_I:y<=18446744073709551615):
 (x/4294967296)*(y/4294967296)+((x/4294967296)*(y%4294967296)+(x%4294967296)*(y%4294967296)/4294967296)/4294967296+(((x/4294967296)*(y%4294967296)+(x%4294967296)*(y%4294967296)/4294967296)%4294967296+(x%4294967296)*(y/4294967296))/4294967296=x*y/18446744073709551616:=by
 obtain⟨a,R⟩: ∃a,x/4294967296=a:=⟨_,rfl⟩
 obtain⟨b,w⟩: ∃b,x%4294967296=b:=⟨_,rfl⟩
 obtain⟨c,J⟩: ∃c,y/4294967296=c:=⟨_,rfl⟩
 obtain⟨d,h⟩: ∃d,y%4294967296=d:=⟨_,rfl⟩
 rw[R,w,J,h]
 have e:x*y=18446744073709551616*(a*c)+4294967296*(a*d)+4294967296*(b*c)+b*d:=by grind
 omega
theorem N3 (R:0<=x) (W:x<=18446744073709551615) (h2:0<=y) (w:y<=18446744073709551615):Ok Tryz.prog 248 [.c (.i .u64 x),.c (.i .u64 y)] [.c (.i .u64 (x*y/18446744073709551616)),.c (.i .u64 (x*y%18446744073709551616))]:=by obtain⟨a,H⟩: ∃a,x/4294967296=a:=⟨_,rfl⟩;obtain⟨b,J⟩: ∃b,x%4294967296=b:=⟨_,rfl⟩;obtain⟨c,E⟩: ∃c,y/4294967296=c:=⟨_,rfl⟩;obtain⟨d,I⟩: ∃d,y%4294967296=d:=⟨_,rfl⟩;have K:=acS R W h2 w;rw[H,J,E,I] at K;have h: ∀u v:Int,0<=u->u<=4294967295->0<=v->v<=4294967295->0<=u*v/\u*v<=18446744065119617025:=fun u v u0 u1 v0 v1=>⟨Int.mul_nonneg u0 v0,qR (c:=(4294967295:Int)) u1 v1 v0 (by decide)⟩;have q1:=h b d (by omega) (by omega) (by omega) (by omega);have q2:=h a d (by omega) (by omega) (by omega) (by omega);have q3:=h b c (by omega) (by omega) (by omega) (by omega);have q4:=h a c (by omega) (by omega) (by omega) (by omega);refine cj Tryz.func248 rfl<|ar (Aq (r:=b) rfl rfl (by rw[<-J];exact Qq R W) rfl) ?_;refine ar (rV (r:=a) rfl rfl (by decide) (by rw[<-H];exact IR) rfl) ?_;refine ar (Aq (r:=d) rfl rfl (by rw[<-I];exact Qq h2 w) rfl) ?_;refine ar (rV (r:=c) rfl rfl (by decide) (by rw[<-E];exact IR) rfl) ?_;refine ar (b9 (b*d) (gP (by omega) (by omega)) rfl)<|ar (b9 (a*d) (gP (by omega) (by omega)) rfl)<|ar (rV (r:=b*d/4294967296) rfl rfl (by decide) (IR) rfl) ?_;refine ar (b9 ((a*d)+(b*d/4294967296)) (fD (by omega) (by omega)) rfl)<|ar (Aq (r:=(a*d+b*d/4294967296)%4294967296) rfl rfl (Qq (by omega) (by omega)) rfl) ?_;refine ar (rV (r:=(a*d+b*d/4294967296)/4294967296) rfl rfl (by decide) (IR) rfl) ?_;refine ar (b9 (b*c) (gP (by omega) (by omega)) rfl)<|ar (b9 (((a*d+b*d/4294967296)%4294967296)+(b*c)) (fD (by omega) (by omega)) rfl)<|ar (b9 (a*c) (gP (by omega) (by omega)) rfl)<|ar (b9 ((a*c)+((a*d+b*d/4294967296)/4294967296)) (fD (by omega) (by omega)) rfl)<|ar (rV (r:=((a*d+b*d/4294967296)%4294967296+b*c)/4294967296) rfl rfl (by decide) (IR) rfl) ?_;refine ar (b9 (((a*c)+((a*d+b*d/4294967296)/4294967296))+(((a*d+b*d/4294967296)%4294967296+b*c)/4294967296)) (fD (by omega) (by omega)) rfl)<|ar (b9 (x*y%18446744073709551616) (congrArg some ags) rfl)<|ah ?_;rw[<-K];exact aj (aj aa)
def OW (x y:Int):Int:=(x.natAbs:Int)*(y.natAbs:Int)
def C8 (p:Int):Int:=if p%65536=0 then p/65536 else p/65536+1
def lp (x y:Int):Int:=if (!(decide (x<0)==decide (y<0)))=true then-(C8 (OW x y)) else OW x y/65536
def lq (x y:Int):Int:=if (!(decide (x<0)==decide (y<0)))=true then-(OW x y/65536) else C8 (OW x y)
def vH (x y:Int):Bool:=decide (OW x y/65536>2305843009213693952)
def pn (x y:Int):Bool:= !vH x y&&(decide (lp x y>= -2305843009213693952)&&decide (lq x y<=2305843009213693952))
theorem abA (h:(p%18446744073709551616%65536 !=0)=true):C8 p=p/65536+1:=by
 have h:p%18446744073709551616%65536≠0:=by simpa using h
 unfold C8;rw[if_neg (by omega)]
theorem ZR (h:(p%18446744073709551616%65536 !=0)=false):C8 p=p/65536:=by
 have h:p%18446744073709551616%65536=0:=by simpa using h
 unfold C8;rw[if_pos (by omega)]
theorem agl {a:Int}(h:(a !=0)=true):a≠0:=by simpa using h
theorem agT {a:Int}(h:(a !=0)=false):a=0:=by simpa using h
theorem JP (h0: -9223372036854775808<=x) (h1:x<=9223372036854775807) (h2: -9223372036854775808<=y) (h3:y<=9223372036854775807):Ok Tryz.prog 168 [.c (.i .i64 x),.c (.i .i64 y)] [.c (.i .i64 (if vH x y then 0 else lp x y)),.c (.i .i64 (if vH x y then 0 else lq x y)),.c (.b (pn x y))]:=by
 obtain⟨p,H⟩: ∃p,OW x y=p:=⟨_,rfl⟩;have R:(x.natAbs:Int)*(y.natAbs:Int)=p:=H;have a6:0<=p:=by rw[<-R];exact mh (by omega) (by omega)
 have a5:p<=9223372036854775808*9223372036854775808:=by rw[<-R];exact qR (by omega) (by omega) (by omega) (by decide)
 have a1:Ok Tryz.prog 248 [.c (.i .u64 (x.natAbs:Int)),.c (.i .u64 (y.natAbs:Int))] [.c (.i .u64 (p/18446744073709551616)),.c (.i .u64 (p%18446744073709551616))]:=by rw[<-R];exact N3 (by omega) (by omega) (by omega) (by omega)
 have big:p/65536>2305843009213693952->vH x y=true:=fun h=>by unfold vH;rw[H];exact decide_eq_true h
 have small: ¬p/65536>2305843009213693952->vH x y=false:=fun h=>by unfold vH;rw[H];exact decide_eq_false h
 refine cj Tryz.func168 rfl<|ac rfl (Mz (by omega) (by omega))<|ac rfl (Mz (by omega) (by omega))<|ac rfl (a1)<|ar (rV (r:=p/18446744073709551616/65536) rfl rfl (by decide) (YC) rfl) ?_;refine cU rfl (fun W=>?_) (fun W=>?_)
 ·have g1:=agl W;refine ah ?_;rw[show pn x y=false from by unfold pn;rw[big (by omega)];rfl,big (by omega),if_pos rfl,if_pos rfl];exact aj (aj (aj aa))
 ·have g1:=agT W;refine ar (Uy (r:=(p/18446744073709551616)*281474976710656) rfl rfl (by decide) (adN (by omega) (by omega)) rfl) ?_;refine ar (rV (r:=p%18446744073709551616/65536) rfl rfl (by decide) (YC) rfl) ?_;refine ar (abY (r:=p/65536) rfl rfl ((agV (by omega) (by omega) (by omega) (by omega)).trans (by omega)) rfl) ?_;refine cU rfl (fun w=>?_) (fun w=>?_)
  ·refine ah ?_;rw[show pn x y=false from by unfold pn;rw[big (vK w)];rfl,big (vK w),if_pos rfl,if_pos rfl];exact aj (aj (aj aa))
  ·have g2:=nJ w;refine ar (bj (r:=p/65536) fB nu rfl (jQ (by omega) (by omega)) rfl) ?_;refine ar (bj (r:=p/65536) fB nu rfl (jQ (by omega) (by omega)) rfl) ?_;refine ar (Aq (r:=p%18446744073709551616%65536) rfl rfl (aeb (by omega) (by omega)) rfl) ?_;refine cU rfl (fun K=>?_) (fun K=>?_)
   ·have J:=abA K;refine ar (b9 ((p/65536)+1) (aT (by omega) (by omega)) rfl)<|ar (go rfl rfl f5 rfl) ?_;refine cU rfl (fun E=>?_) (fun E=>?_)
    ·refine ar (fQ (r:= -(p/65536+1)) rfl (by rw[jQ (by omega) (by omega)];omega) rfl) ?_;refine ar (fQ (r:= -(p/65536)) rfl (by rw[jQ (by omega) (by omega)];omega) rfl) ?_;refine jC (aQ rfl) (fun c5 a3=>?_);cases c5
     ·refine ah ?_;unfold pn;rw[small (nJ w),if_neg (by decide),if_neg (by decide),sb,iI];rw[show lp x y= -(p/65536+1) from by unfold lp;rw[H,J,if_pos E],show lq x y= -(p/65536) from by unfold lq;rw[H,J,if_pos E]];rw[a3,pU];exact aj (aj (aj aa))
     ·refine ah ?_;unfold pn;rw[small (nJ w),if_neg (by decide),if_neg (by decide),sb,iI];rw[show lp x y= -(p/65536+1) from by unfold lp;rw[H,J,if_pos E],show lq x y= -(p/65536) from by unfold lq;rw[H,J,if_pos E]];rw[a3,iI];exact aj (aj (aj aa))
    ·refine jC (aQ rfl) (fun c6 a2=>?_);cases c6
     ·refine ah ?_;unfold pn;rw[small (nJ w),if_neg (by decide),if_neg (by decide),sb,iI];rw[show lp x y=p/65536 from by unfold lp;rw[H,J,if_neg (by rw[E];decide)],show lq x y=p/65536+1 from by unfold lq;rw[H,J,if_neg (by rw[E];decide)]];rw[a2,pU];exact aj (aj (aj aa))
     ·refine ah ?_;unfold pn;rw[small (nJ w),if_neg (by decide),if_neg (by decide),sb,iI];rw[show lp x y=p/65536 from by unfold lp;rw[H,J,if_neg (by rw[E];decide)],show lq x y=p/65536+1 from by unfold lq;rw[H,J,if_neg (by rw[E];decide)]];rw[a2,iI];exact aj (aj (aj aa))
   ·have J:=ZR K;refine ar (go rfl rfl f5 rfl) ?_;refine cU rfl (fun I=>?_) (fun I=>?_)
    ·refine ar (fQ (r:= -(p/65536)) rfl (by rw[jQ (by omega) (by omega)];omega) rfl) ?_;refine ar (fQ (r:= -(p/65536)) rfl (by rw[jQ (by omega) (by omega)];omega) rfl) ?_;refine jC (aQ rfl) (fun c8 a0=>?_);cases c8
     ·refine ah ?_;unfold pn;rw[small (nJ w),if_neg (by decide),if_neg (by decide),sb,iI];rw[show lp x y= -(p/65536) from by unfold lp;rw[H,J,if_pos I],show lq x y= -(p/65536) from by unfold lq;rw[H,J,if_pos I]];rw[a0,pU];exact aj (aj (aj aa))
     ·refine ah ?_;unfold pn;rw[small (nJ w),if_neg (by decide),if_neg (by decide),sb,iI];rw[show lp x y= -(p/65536) from by unfold lp;rw[H,J,if_pos I],show lq x y= -(p/65536) from by unfold lq;rw[H,J,if_pos I]];rw[a0,iI];exact aj (aj (aj aa))
    ·refine jC (aQ rfl) (fun c9 a4=>?_);cases c9
     ·refine ah ?_;unfold pn;rw[small (nJ w),if_neg (by decide),if_neg (by decide),sb,iI];rw[show lp x y=p/65536 from by unfold lp;rw[H,J,if_neg (by rw[I];decide)],show lq x y=p/65536 from by unfold lq;rw[H,J,if_neg (by rw[I];decide)]];rw[a4,pU];exact aj (aj (aj aa))
     ·refine ah ?_;unfold pn;rw[small (nJ w),if_neg (by decide),if_neg (by decide),sb,iI];rw[show lp x y=p/65536 from by unfold lp;rw[H,J,if_neg (by rw[I];decide)],show lq x y=p/65536 from by unfold lq;rw[H,J,if_neg (by rw[I];decide)]];rw[a4,iI];exact aj (aj (aj aa))
def KB (x y:Int):Int:=if x>0 then 1 else if y<0 then-1 else 0
def J7 (x y:Int):Bool:=decide (x>0)||(decide (y<0)||(x==0&&y==0))
theorem acH (h:decide (x>0)=true):KB x y=1/\J7 x y=true:=by unfold KB J7;rw[if_pos (by simpa using h),h];exact⟨rfl,rfl⟩
theorem ad8 (h:decide (x>0)=false) (w:decide (y<0)=true):KB x y= -1/\J7 x y=true:=by unfold KB J7;rw[if_neg (by simpa using h),if_pos (by simpa using w),h,w];exact⟨rfl,rfl⟩
theorem Vo (h:decide (x>0)=false) (w:decide (y<0)=false):KB x y=0/\J7 x y=(x==0&&y==0):=by unfold KB J7;rw[if_neg (by simpa using h),if_neg (by simpa using w),h,w];exact⟨rfl,rfl⟩
theorem Cx:Ok Tryz.prog 185 [.a (([.i .i64 x]++[.i .i64 y]))] [.c (.i .i64 (KB x y)),.c (.b (J7 x y))]:=by
 refine cj Tryz.func185 rfl ?_;refine cU rfl (fun h=>?_) (fun h=>?_)
 ·refine ah ?_;rw[(acH h).1,(acH h).2];exact aj (aj aa)
 ·refine cU rfl (fun w=>?_) (fun w=>?_)
  ·refine ah ?_;rw[(ad8 h w).1,(ad8 h w).2];exact aj (aj aa)
  ·refine cE 10 [] ?_;refine sL (aQ rfl) (fun H E=>?_);cases H
   ·refine ah ?_;rw[(Vo h w).1,(Vo h w).2,E,pU];exact aj (aj aa)
   ·refine ah ?_;rw[(Vo h w).1,(Vo h w).2,E,iI];exact aj (aj aa)
def vw (x y:Int) (k:Nat):Int:=if k=0 then x else y
theorem MN (h:k<2):([CellD.i .i64 x,.i .i64 y])[k*1]? =some (.i .i64 (vw x y k)):=by
 have:k=0\/k=1:=by omega
 rcases this with rfl|rfl<;>rfl
theorem TD (h: -2305843009213693952<=x) (w:x<=2305843009213693952) (H: -2305843009213693952<=y) (E:y<=2305843009213693952): -2305843009213693952<=vw x y k/\vw x y k<=2305843009213693952:=by unfold vw;split<;>omega
def Dd (x y u v:Int):Nat->Int
 |0=>2305843009213693952
 |n+1=>min (Dd x y u v n) (lp (vw x y (n/2)) (vw u v (n%2)))
def C5 (x y u v:Int):Nat->Int
 |0=> -2305843009213693952
 |n+1=>max (C5 x y u v n) (lq (vw x y (n/2)) (vw u v (n%2)))
def wT (x y u v:Int):Nat->Bool
 |0=>true
 |n+1=>wT x y u v n&&pn (vw x y (n/2)) (vw u v (n%2))
theorem Ss (h:pn x y=true): ¬vH x y=true:=by unfold pn at h;grind
theorem ST {n:Nat}(h:wT x y u v n=false) (m:Nat):wT x y u v (n+m)=false:=by
 induction m with
 |zero=>exact h
 |succ m w=>show(wT x y u v (n+m)&&_)=false;rw[w];rfl
theorem VZ (w:j<2) (h:pn (vw x y k) (vw u v j)=true):min (Dd x y u v (2*k+j)) (if vH (vw x y k) (vw u v j) then 0 else lp (vw x y k) (vw u v j))=Dd x y u v (2*k+(j+1)):=by rw[if_neg (Ss h)];show _=min (Dd x y u v (2*k+j)) (lp (vw x y ((2*k+j)/2)) (vw u v ((2*k+j)%2)));grind
theorem Xb (w:j<2) (h:pn (vw x y k) (vw u v j)=true):max (C5 x y u v (2*k+j)) (if vH (vw x y k) (vw u v j) then 0 else lq (vw x y k) (vw u v j))=C5 x y u v (2*k+(j+1)):=by rw[if_neg (Ss h)];show _=max (C5 x y u v (2*k+j)) (lq (vw x y ((2*k+j)/2)) (vw u v ((2*k+j)%2)));grind
theorem Lv (h:j<2):wT x y u v (2*k+(j+1))=(wT x y u v (2*k+j)&&pn (vw x y k) (vw u v j)):=by show(wT x y u v (2*k+j)&&pn (vw x y ((2*k+j)/2)) (vw u v ((2*k+j)%2)))=_;grind
theorem Lk (h0: -2305843009213693952<=x) (h1:x<=2305843009213693952) (h2: -2305843009213693952<=y) (h3:y<=2305843009213693952) (h4: -2305843009213693952<=u) (h5:u<=2305843009213693952) (h6: -2305843009213693952<=v) (h7:v<=2305843009213693952):Ok Tryz.prog 84 [.a (([.i .i64 x]++[.i .i64 y])),.a (([.i .i64 u]++[.i .i64 v]))] [.a (([.i .i64 (if wT x y u v 4 then Dd x y u v 4 else 0)]++[.i .i64 (if wT x y u v 4 then C5 x y u v 4 else 0)])),.c (.b (wT x y u v 4))]:=by
 refine fg Tryz.func84 56 [.cell 4 89,.tmp 5] rfl<|ab<|ag<|ab<|ag<|ab<|ab<|ag ?_;refine DL.mk<|tA (rb (us:=[.i .i64 x,.i .i64 y]) Zl rfl rfl (by decide) (by decide) rfl) rfl<|fa ?_;refine ar (mW LY rfl rfl) ?_;refine aw<|bF (ι:={k:Nat // k<=2/\wT x y u v (2*k)=true}) (fun i=>⟨56,[(2,.p 2 0),(3,.p 3 0),(4,.p 4 0),(6,.v (.c (.i .i64 (Dd x y u v (2*i.1))))),(7,.v (.c (.i .i64 (C5 x y u v (2*i.1))))),(19,.o 19 2 2),(20,.v (.c (.i .i64 (2:Int)))),(21,.v (.c (.i .i64 (i.1:Int))))],[(2,89,([.i .i64 x]++[.i .i64 y])),(3,89,([.i .i64 u]++[.i .i64 v])),(4,89,([.i .i64 0]++[.i .i64 0])),(19,2,[.i .i64 x,.i .i64 y])]⟩) (fun i=>2-i.1) ⟨0,by omega,rfl⟩ (al ⟨rfl,rfl,rfl,rfl,rfl,rfl,rfl,rfl,trivial⟩ ⟨rfl,rfl,rfl,rfl,trivial⟩ rfl) ?_;rintro⟨k,a0,w⟩;replace a0:k<=2:=a0;replace w:wT x y u v (2*k)=true:=w;have gx:=TD (k:=k) h0 h1 h2 h3;dsimp only;refine ab<|ag<|ab ?_;refine aA rfl (fun H=>?_) (fun H=>?_)
 ·have hk:k<2:=by have:=vK H;omega
  refine au<|ab<|aw<|ab<|cB<|cV (bO LY rfl rfl (by omega) rfl) ?_;refine cV (cK ty2 rfl rfl (MN (x:=x) (y:=y) (k:=k) (by omega)) rfl) ?_;refine jA<|ab<|ag ?_;refine DL.mk<|tA (rb (us:=[.i .i64 u,.i .i64 v]) Zl rfl rfl (by decide) (by decide) rfl) rfl<|fa ?_;refine ar (mW LY rfl rfl) ?_;refine aw<|bF (ι:={j:Nat // j<=2/\wT x y u v (2*k+j)=true}) (fun i=>⟨56,[(2,.p 2 0),(3,.p 3 0),(4,.p 4 0),(6,.v (.c (.i .i64 (Dd x y u v (2*k+i.1))))),(7,.v (.c (.i .i64 (C5 x y u v (2*k+i.1))))),(19,.o 19 2 2),(20,.v (.c (.i .i64 (2:Int)))),(21,.v (.c (.i .i64 (k:Int)))),(9,.v (.c (.i .i64 (vw x y k)))),(29,.o 29 2 2),(30,.v (.c (.i .i64 (2:Int)))),(31,.v (.c (.i .i64 (i.1:Int))))],[(2,89,([.i .i64 x]++[.i .i64 y])),(3,89,([.i .i64 u]++[.i .i64 v])),(4,89,([.i .i64 0]++[.i .i64 0])),(19,2,[.i .i64 x,.i .i64 y]),(29,2,[.i .i64 u,.i .i64 v])]⟩) (fun i=>2-i.1) ⟨0,by omega,w⟩ (al ⟨rfl,rfl,rfl,rfl,rfl,rfl,rfl,rfl,rfl,rfl,rfl,rfl,trivial⟩ ⟨rfl,rfl,rfl,rfl,rfl,trivial⟩ rfl) ?_;rintro⟨j,a1,h⟩;replace a1:j<=2:=a1;replace h:wT x y u v (2*k+j)=true:=h;have gu:=TD (k:=j) h4 h5 h6 h7;dsimp only;refine ab<|ag<|ab ?_;refine aA rfl (fun K=>?_) (fun K=>?_)
  ·have hj:j<2:=by have:=vK K;omega
   refine au<|ab<|aw<|ab<|cB<|cV (bO LY rfl rfl (by omega) rfl) ?_;refine cV (cK ty2 rfl rfl (MN (x:=u) (y:=v) (k:=j) (by omega)) rfl) ?_;refine jA<|ab<|ag<|ac rfl (JP (by omega) (by omega) (by omega) (by omega))<|ab<|ab<|ag ?_;refine aA rfl (fun E=>?_) (fun E=>?_)
   ·have W:wT x y u v 4=false:=by have h8:=ST (n:=2*k+(j+1)) (by rw[Lv hj,gy E,sX]) (4-(2*k+(j+1)));rw[show 2*k+(j+1)+(4-(2*k+(j+1)))=4 from by omega] at h8;exact h8
    refine ab<|ag<|ar (az (us:=([.i .i64 0]++[.i .i64 0])) vq tP rfl rfl rfl) ?_
    refine bc ?_
    rw[W,if_neg (by decide),if_neg (by decide)]
    exact ah (a7 mz rfl (aj aa))
   ·have I:=df E;refine au<|ag<|ar (U4 rfl rfl rfl) ?_;refine ar (LP rfl rfl rfl) ?_;refine ag<|ar (b9 ((j:Int)+1) (aT (by omega) (by omega)) rfl) ?_;exact⟨⟨j+1,by omega,by rw[Lv hj,h,I];rfl⟩,al ⟨rfl,rfl,rfl,by rw[<-VZ hj I];rfl,by rw[<-Xb hj I];rfl,rfl,rfl,rfl,rfl,rfl,rfl,by rw[show((j+1:Nat):Int)=(j:Int)+1 from by omega];rfl,trivial⟩ ⟨rfl,rfl,rfl,rfl,rfl,trivial⟩ rfl,by show 2-(j+1)<2-j;omega⟩
  ·have J:2*k+j=2*k+2:=by have:=nJ K;omega
   refine bn<|ag<|ar (b9 ((k:Int)+1) (aT (by omega) (by omega)) rfl) ?_;exact⟨⟨k+1,by omega,by rw[show 2*(k+1)=2*k+2 from by omega,<-J];exact h⟩,al ⟨rfl,rfl,rfl,by rw[show 2*(k+1)=2*k+2 from by omega,<-J];rfl,by rw[show 2*(k+1)=2*k+2 from by omega,<-J];rfl,rfl,rfl,by rw[show((k+1:Nat):Int)=(k:Int)+1 from by omega];rfl,trivial⟩ ⟨rfl,rfl,rfl,rfl,trivial⟩ rfl,by show 2-(k+1)<2-k;omega⟩
 ·have R:2*k=4:=by have:=nJ H;omega
  refine bn<|ab<|ag<|ar (az (us:=([.i .i64 (Dd x y u v (2*k))]++[.i .i64 (C5 x y u v (2*k))])) vq tP rfl rfl rfl) ?_;refine bc ?_;rw[R] at w;have e1:Dd x y u v 4=Dd x y u v (2*k):=by rw[R]
  have e2:C5 x y u v 4=C5 x y u v (2*k):=by rw[R]
  rw[w,if_pos rfl,if_pos rfl,e1,e2];exact ah (a7 mz rfl (aj aa))
theorem Aa (h: ¬c<0):0<=iJ c:=by
 unfold iJ;have E:0<=c*((65536:Int):Rat):=by grind
 have J:0<=(c*((65536:Int):Rat)).num:=Rat.num_nonneg.2 E;have H:=den_pos (-(c*((65536:Int):Rat)));rw[pM _ (by omega),Rat.neg_num];have I:(-(c*((65536:Int):Rat)).num)/((-(c*((65536:Int):Rat))).den:Int)<=0:=by have w:=Int.ediv_le_ediv H (show-(c*((65536:Int):Rat)).num<=0 by omega);rw[Int.zero_ediv] at w;exact w
 omega
theorem MX (h:tp lo hi=true): -2305843009213693952<=lo/\hi<=2305843009213693952:=by unfold tp at h;simpa using h
theorem XN (c:Rat):jo c<=iJ c:=by
 unfold jo iJ;have h:=den_pos (c*((65536:Int):Rat));rw[Rat.neg_num,Rat.neg_den,pM _ (by omega),pM _ (by omega)];generalize (c*((65536:Int):Rat)).num=n at*;generalize ((c*((65536:Int):Rat)).den:Int)=d at*;have H:=uL n d;have E:=uL (-n) d;have I:=p5 n (show d≠0 by omega);have J:=p5 (-n) (show d≠0 by omega);have w:d*(n/d+(-n)/d)<=d*0:=by grind
 have:=Int.le_of_mul_le_mul_left w h;omega
theorem Ep (h:gV c=true): -2305843009213693952<=jo c/\jo c<=2305843009213693952/\ -2305843009213693952<=iJ c/\iJ c<=2305843009213693952:=by unfold gV at h;simp only[de] at h;have E:=MX h.2.2;have w:=XN c;omega
theorem QD (H:x<=2305843009213693952) (w:0<=y) (h:y<=2305843009213693952):0<=oN x/\oN x<=549755813889/\0<=kF y/\kF y<=549755813889:=by have I:=A6 (n:=max x 0) (by omega) (by omega);have E:=A6 (n:=y) w h;unfold oN kF;grind
theorem abQ (n:Nat) (h:wT x y u v n=true): -2305843009213693952<=Dd x y u v n/\Dd x y u v n<=2305843009213693952/\ -2305843009213693952<=C5 x y u v n/\C5 x y u v n<=2305843009213693952:=by
 induction n with
 |zero=>show _<=(2305843009213693952:Int)/\(2305843009213693952:Int)<=_/\_<=(-2305843009213693952:Int)/\(-2305843009213693952:Int)<=_;omega
 |succ n H=>
  have w:(wT x y u v n&&pn (vw x y (n/2)) (vw u v (n%2)))=true:=h;rw[de] at w;have i:=H w.1;have E:=w.2;unfold pn at E;simp only[de,decide_eq_true_eq] at E;show _<=min _ _/\min _ _<=_/\_<=max _ _/\max _ _<=_;omega
def Vw (b c:Rat):Bool:=wT (jo b) (iJ b) (oN (jo c)) (kF (iJ c)) 4
def Fh (b c:Rat):Int:=Dd (jo b) (iJ b) (oN (jo c)) (kF (iJ c)) 4
def E9 (b c:Rat):Int:=C5 (jo b) (iJ b) (oN (jo c)) (kF (iJ c)) 4
def WG (a b c:Rat):Bool:=gV b&&(gV c&&(!decide (aJ c 0<0)&&(Vw b c&&tp (jo a+Fh b c) (iJ a+E9 b c))))
def dD (a b c:Rat):Bool:=gV a&&((aJ b 0==0)||WG a b c)
def dw (a b c:Rat):Int:=if dD a b c then(if (aJ b 0==0)=true then jo a else jo a+Fh b c) else 0
def du (a b c:Rat):Int:=if dD a b c then(if (aJ b 0==0)=true then iJ a else iJ a+E9 b c) else 0
theorem pS (h:dD a b c=false):dw a b c=0/\du a b c=0:=by unfold dw du;rw[h];exact⟨rfl,rfl⟩
theorem afV (h:gV a=false):dD a b c=false:=by unfold dD;rw[h];rfl
theorem XC (h:(aJ b 0==0)=false) (w:WG a b c=false):dD a b c=false:=by unfold dD;rw[h,w];cases gV a<;>rfl
theorem ady (h:gV a=true) (w:(aJ b 0==0)=true):dw a b c=jo a/\du a b c=iJ a/\dD a b c=true:=by
 have e:dD a b c=true:=by unfold dD;rw[h,w];rfl
 unfold dw du;rw[e,if_pos rfl,if_pos rfl,if_pos w,if_pos w];exact⟨rfl,rfl,rfl⟩
theorem agh (h:gV a=true) (w:(aJ b 0==0)=false) (H:gV b=true) (E:gV c=true) (J:decide (aJ c 0<0)=false) (I:Vw b c=true):
 dw a b c=(if tp (jo a+Fh b c) (iJ a+E9 b c) then jo a+Fh b c else 0)/\du a b c=(if tp (jo a+Fh b c) (iJ a+E9 b c) then iJ a+E9 b c else 0)/\dD a b c=tp (jo a+Fh b c) (iJ a+E9 b c):=by
 have e:dD a b c=tp (jo a+Fh b c) (iJ a+E9 b c):=by unfold dD WG;rw[h,w,H,E,J,I];rfl
 unfold dw du;rw[e,w];exact⟨rfl,rfl,rfl⟩
theorem oU (ha:Rz 4000000 a) (hb:Rz 4000000 b) (hc:Rz 4000000 c):Ok Tryz.prog 27 [.a ((cR a++cR b++cR c))] [.a (([.i .i64 (dw a b c)]++[.i .i64 (du a b c)])),.c (.b (dD a b c))]:=by
 refine fg Tryz.func27 72 [.cell 2 89,.tmp 3] rfl<|ab<|ag<|ab<|ag ?_;refine ac rfl (ol (aU ha))<|ab<|ab<|ag ?_;refine jC (aQ rfl) (fun c1 E=>?_);cases c1
 ·have J:=df E;refine ac rfl (d7) ?_;refine aA rfl (fun K=>?_) (fun K=>?_)
  ·obtain⟨w1,w2,w3⟩:=ady (c:=c) J K;refine ab<|ag ?_;refine bc ?_;have x1:dw a b c=(if gV a then jo a else 0):=by rw[w1,J];rfl
   have x2:du a b c=(if gV a then iJ a else 0):=by rw[w2,J];rfl
   have x3:dD a b c=gV a:=by rw[w3,J]
   rw[x1,x2,x3];exact ah (a7 mz rfl (aj aa))
  ·have w:=K;refine au<|ab<|ag ?_;refine ac rfl (ol (aU hb))<|ab<|ag ?_;refine ac rfl (ol (aU hc))<|ab<|ab<|ag ?_;refine jC (aQ rfl) (fun c3 R=>?_);cases c3
   ·have eb:=df R;refine jC (aQ rfl) (fun c4 W=>?_);cases c4
    ·have ec:=df W;refine ac rfl (d7) ?_;refine aA rfl (fun I=>?_) (fun I=>?_)
     ·have h:dD a b c=false:=XC w (by unfold WG;rw[I,Bool.not_true,pU,sX,sX]);refine ab<|ag<|ar (az (us:=([.i .i64 0]++[.i .i64 0])) vq tP rfl rfl rfl) ?_;refine bc ?_;rw[(pS h).1,(pS h).2,h];exact ah (a7 mz rfl (aj aa))
     ·have a0:=I;have bA:=Ep J;have bB:=Ep eb;have bC:=Ep ec;have hH:=Aa (c:=c) (EE I);have bS:=QD (x:=jo c) (y:=iJ c) (by omega) hH (by omega);refine pp (σ':=⟨72,[(1,.p 1 0),(2,.p 2 0),(4,.p 4 0),(6,.p 6 0),(7,.p 7 0)],[(1,59,(cR a++cR b++cR c)),(2,89,([.i .i64 0]++[.i .i64 0])),(4,89,([.i .i64 (jo a)]++[.i .i64 (iJ a)])),(6,89,([.i .i64 (jo b)]++[.i .i64 (iJ b)])),(7,89,([.i .i64 (jo c)]++[.i .i64 (iJ c)]))]⟩) (al ⟨rfl,rfl,rfl,rfl,rfl,trivial⟩ ⟨rfl,rfl,by rw[if_pos J,if_pos J];rfl,by rw[if_pos eb,if_pos eb];rfl,by rw[if_pos ec,if_pos ec];rfl,trivial⟩ rfl) ?_;refine au<|ab<|ab<|ag ?_;refine ac rfl (G4 (by omega) (by omega) (by omega) (by omega) (by omega)) ?_;refine ab<|ag ?_;refine cT rfl ?_;refine au<|ab<|ab<|ag ?_;refine ac rfl (Lk (by omega) (by omega) (by omega) (by omega) (by omega) (by omega) (by omega) (by omega)) ?_;refine ab ?_;refine ag ?_;refine aA rfl (fun H=>?_) (fun H=>?_)
      ·have h:dD a b c=false:=XC w (by unfold WG Vw;rw[gy H,pU,sX,sX,sX]);refine ab<|ag<|ar (az (us:=([.i .i64 0]++[.i .i64 0])) vq tP rfl rfl rfl) ?_;refine bc ?_;rw[(pS h).1,(pS h).2,h];exact ah (a7 mz rfl (aj aa))
      ·have hm:Vw b c=true:=df H;have bM:=abQ 4 hm;obtain⟨w1,w2,w3⟩:=agh J w eb ec a0 hm;refine pp (σ':=⟨72,[(1,.p 1 0),(2,.p 2 0),(4,.p 4 0),(6,.p 6 0),(7,.p 7 0)],[(1,59,(cR a++cR b++cR c)),(2,89,([.i .i64 0]++[.i .i64 0])),(4,89,([.i .i64 (jo a)]++[.i .i64 (iJ a)])),(6,89,([.i .i64 (Fh b c)]++[.i .i64 (E9 b c)])),(7,89,([.i .i64 (oN (jo c))]++[.i .i64 (kF (iJ c))]))]⟩) (al ⟨rfl,rfl,rfl,rfl,rfl,trivial⟩ ⟨rfl,rfl,rfl,by rw[if_pos (df H),if_pos (df H)];rfl,rfl,trivial⟩ rfl) ?_;refine au<|ab<|ag ?_;refine ac rfl (Nj (x:=jo a) (y:=iJ a) (u:=Fh b c) (v:=E9 b c) (by omega) (by omega) (by omega) (by omega) bM.1 bM.2.1 bM.2.2.1 bM.2.2.2) ?_;refine bc ?_;rw[w1,w2,w3];exact ah (a7 mz rfl (aj aa))
    ·have h:dD a b c=false:=XC w (by unfold WG;rw[gy W,pU,sX]);refine gO rfl<|ab<|ag<|ar (az (us:=([.i .i64 0]++[.i .i64 0])) vq tP rfl rfl rfl) ?_;refine bc ?_;rw[(pS h).1,(pS h).2,h];exact ah (a7 mz rfl (aj aa))
   ·have h:dD a b c=false:=XC w (by unfold WG;rw[gy R];rfl);refine ar (aQ rfl)<|gO rfl<|ab<|ag<|ar (az (us:=([.i .i64 0]++[.i .i64 0])) vq tP rfl rfl rfl) ?_;refine bc ?_;rw[(pS h).1,(pS h).2,h];exact ah (a7 mz rfl (aj aa))
 ·refine gO rfl<|ab<|ag ?_;refine bc ?_;have h:dD a b c=false:=afV (gy E);have x1:dw a b c=(if gV a then jo a else 0):=by rw[(pS h).1,gy E];rfl
  have x2:du a b c=(if gV a then iJ a else 0):=by rw[(pS h).2,gy E];rfl
  have x3:dD a b c=gV a:=by rw[h,gy E]
  rw[x1,x2,x3];exact ah (a7 mz rfl (aj aa))
def KT (o1 o2:Bool) (l1 h l2 w:Int):Int:=if (o1&&o2)=true then(if decide (h<l2)=true then-1 else if decide (l1>w)=true then 1 else 0) else 0
def HC (o1 o2:Bool) (l1 h l2 w:Int):Bool:=(o1&&o2)&&(decide (h<l2)||decide (l1>w))
theorem Cc {f:Rat}(ha:Rz 4000000 a) (K:Rz 4000000 b) (hc:Rz 4000000 c) (J:Rz 4000000 d) (W:Rz 4000000 e) (R:Rz 4000000 f):Ok Tryz.prog 43 [.a ((cR a++cR b++cR c)),.a ((cR d++cR e++cR f))] [.c (.i .i64 (KT (dD a b c) (dD d e f) (dw a b c) (du a b c) (dw d e f) (du d e f))),.c (.b (HC (dD a b c) (dD d e f) (dw a b c) (du a b c) (dw d e f) (du d e f)))]:=by
 refine cj Tryz.func43 rfl ?_;refine ac rfl (oU (by assumption) (by assumption) (by assumption)) ?_;refine ac rfl (oU (by assumption) (by assumption) (by assumption)) ?_;refine jC (aQ rfl) (fun I h=>?_);cases I
 ·refine cU rfl (fun w=>?_) (fun w=>?_)
  ·refine ah ?_;rw[show KT (dD a b c) (dD d e f) (dw a b c) (du a b c) (dw d e f) (du d e f)=0 from by unfold KT;rw[df h,gy w];rfl,show HC (dD a b c) (dD d e f) (dw a b c) (du a b c) (dw d e f) (du d e f)=false from by unfold HC;rw[df h,gy w];rfl];exact aj (aj aa)
  ·refine cU rfl (fun E=>?_) (fun E=>?_)
   ·refine ah ?_;rw[show KT (dD a b c) (dD d e f) (dw a b c) (du a b c) (dw d e f) (du d e f)= -1 from by unfold KT;rw[df h,df w,E];rfl,show HC (dD a b c) (dD d e f) (dw a b c) (du a b c) (dw d e f) (du d e f)=true from by unfold HC;rw[df h,df w,E];rfl];exact aj (aj aa)
   ·refine cU rfl (fun H=>?_) (fun H=>?_)
    ·refine ah ?_;rw[show KT (dD a b c) (dD d e f) (dw a b c) (du a b c) (dw d e f) (du d e f)=1 from by unfold KT;rw[df h,df w,E,H];rfl,show HC (dD a b c) (dD d e f) (dw a b c) (du a b c) (dw d e f) (du d e f)=true from by unfold HC;rw[df h,df w,E,H];rfl];exact aj (aj aa)
    ·refine ah ?_;rw[show KT (dD a b c) (dD d e f) (dw a b c) (du a b c) (dw d e f) (du d e f)=0 from by unfold KT;rw[df h,df w,E,H];rfl,show HC (dD a b c) (dD d e f) (dw a b c) (du a b c) (dw d e f) (du d e f)=false from by unfold HC;rw[df h,df w,E,H];rfl];exact aj (aj aa)
 ·refine vr rfl<|ah ?_;rw[show KT (dD a b c) (dD d e f) (dw a b c) (du a b c) (dw d e f) (du d e f)=0 from by unfold KT;rw[gy h];rfl,show HC (dD a b c) (dD d e f) (dw a b c) (du a b c) (dw d e f) (du d e f)=false from by unfold HC;rw[gy h];rfl];exact aj (aj aa)
theorem BV (w:World) (b:Nat) (v:Value) (U T:TypeId) (cs h:Array Value) (u:Value) (I:b<w.heap.size) (H:w.heap[b]? =some (.cells #[u] T (0,0))):
 (((w.setCell ⟨b,0,none⟩ v).alloc (.cells cs U)).alloc (.cells h U)).heap[w.heap.size+1]? =some (.cells h U (0,0))/\
 (((w.setCell ⟨b,0,none⟩ v).alloc (.cells cs U)).alloc (.cells h U)).heap[b]? =some (.cells #[v] T (0,0))/\Mid b w (((w.setCell ⟨b,0,none⟩ v).alloc (.cells cs U)).alloc (.cells h U)):=by
 have hs:(w.setCell ⟨b,0,none⟩ v).heap.size=w.heap.size:=by simp
 refine⟨?_,?_,?_⟩
 ·have:=heap_alloc_new ((w.setCell ⟨b,0,none⟩ v).alloc (.cells cs U)) (.cells h U)
  rw[dA,hs] at this
  grind
 ·rw[vN _ _ _ (by rw[dA,hs];omega),vN _ _ _ (by rw[hs];omega)]
  exact heap_setCell_same w b 0 #[u] T v H
 ·refine⟨rfl,rfl,rfl,by rw[dA,dA,hs];omega,fun c J E=>?_⟩
  rw[vN _ _ _ (by rw[dA,hs];omega),vN _ _ _ (by rw[hs];omega)]
  exact heap_setCell_other w ⟨b,0,none⟩ c v E
set_option maxRecDepth 10000 in
theorem Q9 (b:Nat) (ok c:Bool) (lo hi:Int) (w:World) (E:w.heap[b]? =some (.cells #[.bool ok] 224 (0,0))):
 Calls Tryz.prog 192 #[.pointer (some ⟨b,0,none⟩),.agg #[.int .i64 lo,.int .i64 hi],.bool c] w fun e w'=>
  e=.returned (.agg #[.int .i64 lo,.int .i64 hi])/\w'.heap[b]? =some (.cells #[.bool (ok&&c)] 224 (0,0))/\Mid b w w':=by
 have h:b<w.heap.size:=(ll.1 E).1
 have R:((w.alloc (.cells #[.int .i64 lo,.int .i64 hi] 89)).alloc (.cells #[.int .i64 0,.int .i64 0] 89)).heap[b]? =some (.cells #[.bool ok] 224 (0,0)):=by rw[vN _ _ _ (by simp;omega),vN _ _ _ h];exact E
 have c1:((w.alloc (.cells #[.int .i64 lo,.int .i64 hi] 89)).alloc (.cells #[.int .i64 0,.int .i64 0] 89)).cell? ⟨b,0,none⟩=some (.bool ok):=(bE R 0).trans rfl
 have W:w.frozen? ⟨b,0,none⟩=false:=Bk.frozen (t:=224) (cs:= #[.bool ok]) E 0
 cases ok
 ·go_enter Tryz.func192,Tryz.ntmps192
  go_wp2_with fail
  obtain⟨H,K,I⟩:=BV w b (.bool false) 89 224 #[.int .i64 lo,.int .i64 hi] #[.int .i64 lo,.int .i64 hi] _ h E
  have k0:=(bE H 0).trans rfl
  have J:=(bE H 1).trans rfl
  refine⟨rfl,.agg #[.int .i64 lo,.int .i64 hi],?_,rfl,K,I⟩
  simp[results,Tryz.results192,go_sem,k0,J]
  try rfl
 ·go_enter Tryz.func192,Tryz.ntmps192
  go_wp2_with fail
  obtain⟨H,K,I⟩:=BV w b (.bool c) 89 224 #[.int .i64 lo,.int .i64 hi] #[.int .i64 lo,.int .i64 hi] _ h E
  have k0:=(bE H 0).trans rfl
  have J:=(bE H 1).trans rfl
  refine⟨rfl,.agg #[.int .i64 lo,.int .i64 hi],?_,rfl,K,I⟩
  simp[results,Tryz.results192,go_sem,k0,J]
  try rfl
structure OkP (P:Program) (f:FuncId) (U:TypeId) (cs0 cs1:List CellD) (ds rs:List D0):Prop where
 cal:fv P f=true
 run: ∀(V:Nat->Prop) (b:Nat) (bs:Array Value) (vs:Array Value) (vl:List Value) (w:World),vs.toList=.pointer (some ⟨b,0,none⟩)::vl->(∀c,V c->c<w.heap.size)->V b->w.heap[b]? =some (.cells bs U (0,0))->RdCs V w bs.toList cs0->RdL V w vl ds->
  Calls P f vs w fun e w'=> ∃v,∃bs':Array Value,e=.returned v/\w'.heap[b]? =some (.cells bs' U (0,0))/\Mid b w w'/\RdCs V w' bs'.toList cs1/\Y7 V w' v rs
section
variable {P:Program}{ops:Array Oper}{T:TF}{B:BF}
theorem fh {J x:Operand}{xs:List Operand}{args:Array Operand}{at_:Array TypeId}{f:FuncId}{cs0 R:List CellD}{ds rs:List D0}
 (hf:ck T J=some (.v (.c (.f f)))) (E:args.toList=x::xs) (hx:ck T x=some (.p k 0)) (ha:wL T xs=some ds) (hb:B k=some (U,cs0)) (K:OkP P f U cs0 R ds rs) (hg:gd ops ⟨dst,.call ⟨.value J,args,at_⟩,ty,pos,af,g⟩ T=some true):
 Sem P ops ⟨dst,.call ⟨.value J,args,at_⟩,ty,pos,af,g⟩ T B (.rs k U R (CF rs)):=by
 refine⟨by unfold CF;split<;>rfl,⟨_,hb⟩,fun V β a w hs=>⟨eL hs hg,?_⟩⟩
 have W: ∀y∈x::xs,y∈(⟨dst,.call ⟨.value J,args,at_⟩,ty,pos,af,g⟩:Oper).op.operands:=fun y hy=>by
  have a1:y∈args:=by grind
  simp[Op.operands,Call.operands,a1]
 have h1:=RdC.func_eq (ao hs (x:=J) (by simp[Op.operands,Call.operands]) hf)
 have h2:=p9 hs xs ds (fun y hy=>W y (gF _ hy)) ha
 have h3:a.eval x=.pointer (some ⟨β k,0,none⟩):=ao hs (W x (f7 ..)) hx
 obtain⟨hV,bs,e,hr⟩:=hs.box k U cs0 hb
 have H:=K.cal
 unfold fv at H
 cases I:P.funcs[f]? with
 |none=>rw[I] at H;cases H
 |some fn=>
  rw[I] at H
  simp only[de,bne_iff_ne,ne_eq,wa] at H
  have a0:(execOp a.eval ⟨dst,.call ⟨.value J,args,at_⟩,ty,pos,af,g⟩).run P w=.ok (.enter f (args.map a.eval)) w:=by
   have a5:fn.body≠none:=by have:=H.2;cases a3:fn.body with
    |none=>rw[a3] at this;cases this
    |some c=>simp
   simp[execOp,resolve,h1,Deferred.ofValue,invoke,callFunc,program,Sem.run,I,H.1,a5]
  unfold Gives
  rw[a0]
  refine(K.run V (β k) bs (args.map a.eval) (xs.map a.eval) w (by rw[yH,E,mm,h3]) hs.av hV e hr h2).mono ?_
  rintro e w' ⟨v,a6,rfl,a2,hm,a4,h⟩
  refine⟨v,rfl,a6,a2,hm,a4,?_⟩
  unfold Y7 at h
  split at h
  ·exact h
  ·rename_i a9
   have e2:CF rs=.t rs:=by unfold CF;grind
   rw[e2];exact h
theorem sm {x:Operand}{off:Nat}
 (h:ck T x=some (.p k off)) (E:gd ops ⟨dst,.nilCheck x,ty,pos,af,g⟩ T=some true):Sem P ops ⟨dst,.nilCheck x,ty,pos,af,g⟩ T B (.r (.p k off)):=
 bK E (fun l e=>sG (ops:=ops) (o:=⟨dst,.nilCheck x,ty,pos,af,g⟩) (by simp[Op.operands]) h e)
  (fun V β a w hs=>by have H:a.eval x=.pointer (some ⟨β k,off,none⟩):=ao hs (x:=x) (by simp[Op.operands]) h;exact⟨_,by simp[execOp,H],rfl⟩)
end
theorem VT (ok c:Bool) (lo hi:Int):OkP Tryz.prog 192 224 [.b ok] [.b (ok&&c)] [.a [.i .i64 lo,.i .i64 hi],.c (.b c)] [.a [.i .i64 lo,.i .i64 hi]]:=
 ⟨by kernel_rfl,fun V b K vs R w I hV hb a0 E h=>by
  obtain⟨vs⟩:=vs;replace I:vs=_:=I;subst I;match R,h with
  |[],h=>have:=h.1;simp at this
  |v1::R,h=>
  obtain⟨H,h⟩:=h.uncons;match R,h with
  |[],h=>have:=h.1;simp at this
  |v2::R,h=>
  obtain⟨h2,h⟩:=h.uncons;have J:R=[]:=iv.1 h.1;subst J;have h2:=tj h2;subst h2;obtain⟨cs,rfl,H⟩:=H;obtain⟨cs⟩:=cs;obtain⟨K⟩:=K;match cs,H with
  |[],H=>have:=H.1;simp at this
  |x1::cs,H=>
  obtain⟨g1,H⟩:=H.uncons;match cs,H with
  |[],H=>have:=H.1;simp at this
  |x2::cs,H=>
  obtain⟨g2,H⟩:=H.uncons;have J:cs=[]:=iv.1 H.1;subst J;have g1:=fN g1;have g2:=fN g2;subst g1 g2;match K,E with
  |[],E=>have:=E.1;simp at this
  |y1::K,E=>
  obtain⟨W,E⟩:=E.uncons;have J:K=[]:=iv.1 E.1;subst J;have W:=tj W;subst W;refine(Q9 b ok c lo hi w a0).mono ?_;rintro e w' ⟨rfl,h3,h4⟩;exact⟨_,_,rfl,h3,h4,iM (.b _) nl,_,rfl,iM (.i _ _) (iM (.i _ _) nl)⟩⟩
def Bd (x:Int):Prop:= -2305843009213693952<=x/\x<=2305843009213693952
theorem Bd.zero:Bd 0:=by unfold Bd;omega
def gL (e:Rat):Int:=if gV e then jo e else 0
def gH (e:Rat):Int:=if gV e then iJ e else 0
theorem pN (e:Rat):Bd (gL e):=by
 unfold gL;split;·rename_i h;have:=Ep h;exact⟨this.1,this.2.1⟩
 ·exact Bd.zero
theorem pD (e:Rat):Bd (gH e):=by
 unfold gH;split;·rename_i h;have:=Ep h;exact⟨this.2.2.1,this.2.2.2⟩
 ·exact Bd.zero
theorem Dt (e:Rat):gL e<=gH e:=by
 unfold gL gH;split;·exact XN e
 ·exact p7 _
theorem Lp (h: ¬e<0): ¬gH e<0:=by
 unfold gH;split;·have:=Aa h;omega
 ·omega
theorem Nc (e:Rat):Bd (oN (gL e)):=by have:=QD (x:=gL e) (y:=0) (pN e).2 (by omega) (by omega);unfold Bd;omega
theorem LZ (h: ¬e<0):Bd (kF (gH e)):=by have:=QD (x:=0) (y:=gH e) (by omega) (by have:=Lp h;omega) (pD e).2;unfold Bd;omega
theorem afA (x y:Int):lp x y<=lq x y:=by
 have h:OW x y/65536<=C8 (OW x y):=by unfold C8;split<;>omega
 unfold lp lq;split<;>omega
theorem aeV (x y u v:Int):Dd x y u v 4<=C5 x y u v 4:=by exact Int.le_trans (Int.min_le_right _ _) (Int.le_trans (afA _ _) (Int.le_max_right _ _))
def pL (x y u v:Int):Int:=if wT x y u v 4 then Dd x y u v 4 else 0
def pH (x y u v:Int):Int:=if wT x y u v 4 then C5 x y u v 4 else 0
theorem B3 (x y u v:Int):Bd (pL x y u v):=by
 unfold pL;split;·rename_i h;have:=abQ 4 h;exact⟨this.1,this.2.1⟩
 ·exact Bd.zero
theorem Ba (x y u v:Int):Bd (pH x y u v):=by
 unfold pH;split;·rename_i h;have:=abQ 4 h;exact⟨this.2.2.1,this.2.2.2⟩
 ·exact Bd.zero
theorem y7 (x y u v:Int):pL x y u v<=pH x y u v:=by
 unfold pL pH;split;·exact aeV x y u v
 ·exact p7 _
def aL (x y u v:Int):Int:=if tp (x+u) (y+v) then x+u else 0
def aH (x y u v:Int):Int:=if tp (x+u) (y+v) then y+v else 0
theorem Ia (h:x<=y) (E:u<=v):Bd (aL x y u v):=by
 unfold aL;split;·rename_i w;have:=MX w;unfold Bd;omega
 ·exact Bd.zero
theorem HN (h:x<=y) (E:u<=v):Bd (aH x y u v):=by
 unfold aH;split;·rename_i w;have:=MX w;unfold Bd;omega
 ·exact Bd.zero
theorem ga (h:Rz 4000000 e):Ok Tryz.prog 82 [dR e] [.a ([.i .i64 (gL e)]++[.i .i64 (gH e)]),.c (.b (gV e))]:=ol h
theorem HZ (h: ¬e<0):Ok Tryz.prog 83 [.a ([.i .i64 (gL e)]++[.i .i64 (gH e)])] [.a ([.i .i64 (oN (gL e))]++[.i .i64 (kF (gH e))]),.c (.b true)]:=
 G4 (pN e).1 (pN e).2 (pD e).1 (pD e).2 (Lp h)
theorem sF (w:Bd x) (h:Bd y) (E:Bd u) (H:Bd v):Ok Tryz.prog 84 [.a ([.i .i64 x]++[.i .i64 y]),.a ([.i .i64 u]++[.i .i64 v])] [.a ([.i .i64 (pL x y u v)]++[.i .i64 (pH x y u v)]),.c (.b (wT x y u v 4))]:=
 Lk w.1 w.2 h.1 h.2 E.1 E.2 H.1 H.2
theorem pZ (w:Bd x) (h:Bd y) (E:Bd u) (H:Bd v):Ok Tryz.prog 85 [.a ([.i .i64 x]++[.i .i64 y]),.a ([.i .i64 u]++[.i .i64 v])] [.a ([.i .i64 (aL x y u v)]++[.i .i64 (aH x y u v)]),.c (.b (tp (x+u) (y+v)))]:=
 Nj w.1 w.2 h.1 h.2 E.1 E.2 H.1 H.2
theorem gB {ok c:Bool}:OkP Tryz.prog 192 224 [.b ok] [.b (ok&&c)] [.a ([.i .i64 x]++[.i .i64 y]),.c (.b c)] [.a ([.i .i64 x]++[.i .i64 y])]:=VT ok c x y
def Y5 (B M:Rat):Int:=pL (gL B) (gH B) (oN (gL M)) (kF (gH M))
def Yg (B M:Rat):Int:=pH (gL B) (gH B) (oN (gL M)) (kF (gH M))
def qbK (B M:Rat):Bool:=wT (gL B) (gH B) (oN (gL M)) (kF (gH M)) 4
def VJ (M N:Rat):Int:=pL (oN (gL M)) (kF (gH M)) (oN (gL N)) (kF (gH N))
def VD (M N:Rat):Int:=pH (oN (gL M)) (kF (gH M)) (oN (gL N)) (kF (gH N))
def agN (M N:Rat):Bool:=wT (oN (gL M)) (kF (gH M)) (oN (gL N)) (kF (gH N)) 4
def qdL (D M N:Rat):Int:=pL (gL D) (gH D) (VJ M N) (VD M N)
def qdH (D M N:Rat):Int:=pH (gL D) (gH D) (VJ M N) (VD M N)
def qdK (D M N:Rat):Bool:=wT (gL D) (gH D) (VJ M N) (VD M N) 4
def Xf (A B M:Rat):Int:=aL (gL A) (gH A) (Y5 B M) (Yg B M)
def Wa (A B M:Rat):Int:=aH (gL A) (gH A) (Y5 B M) (Yg B M)
def agO (A B M:Rat):Bool:=tp (gL A+Y5 B M) (gH A+Yg B M)
def VW (C D M N:Rat):Int:=aL (Y5 C N) (Yg C N) (qdL D M N) (qdH D M N)
def Vf (C D M N:Rat):Int:=aH (Y5 C N) (Yg C N) (qdL D M N) (qdH D M N)
def agP (C D M N:Rat):Bool:=tp (Y5 C N+qdL D M N) (Yg C N+qdH D M N)
def qsL (A B C D M N:Rat):Int:=aL (Xf A B M) (Wa A B M) (VW C D M N) (Vf C D M N)
def qsH (A B C D M N:Rat):Int:=aH (Xf A B M) (Wa A B M) (VW C D M N) (Vf C D M N)
def qsK (A B C D M N:Rat):Bool:=tp (Xf A B M+VW C D M N) (Wa A B M+Vf C D M N)
def ZT (M N:Rat):Bool:=gV M&&gV N
def qK2 (B C D M N:Rat):Bool:=ZT M N&&(gV B&&(qbK B M&&(gV C&&(qbK C N&&(gV D&&(agN M N&&qdK D M N))))))
def Mk (A B C D M N:Rat):Bool:=qK2 B C D M N&&(gV A&&(agO A B M&&(agP C D M N&&qsK A B C D M N)))
def Uf (A B C D M N:Rat):Bool:=Mk A B C D M N&&J7 (qsL A B C D M N) (qsH A B C D M N)
def YX (A B C D M N:Rat):Int:=if Mk A B C D M N then KB (qsL A B C D M N) (qsH A B C D M N) else 0
theorem Eu (h:Mk A B C D M N=false):YX A B C D M N=0/\Uf A B C D M N=false:=by unfold YX Uf;rw[h];exact⟨rfl,rfl⟩
theorem JR (h:Mk A B C D M N=true):YX A B C D M N=KB (qsL A B C D M N) (qsH A B C D M N)/\Uf A B C D M N=J7 (qsL A B C D M N) (qsH A B C D M N):=by unfold YX Uf;rw[h];exact⟨rfl,rfl⟩
theorem TA (h:qK2 B C D M N=false):Mk A B C D M N=false:=by unfold Mk;rw[h];rfl
theorem aae (h:ZT M N=false):Mk A B C D M N=false:=TA (by unfold qK2;rw[h];rfl)
theorem JT {b c:Bool}(h:(!b)=true) (e:c=b):c=false:=by rw[e];simpa using h
theorem aa5 {b c:Bool}(h:(!b)=false) (e:c=b):c=true:=by rw[e];simpa using h
theorem JV (I:Rz 4000000 A) (K:Rz 4000000 B) (R:Rz 4000000 C) (J:Rz 4000000 D) (W:Rz 4000000 M) (hN:Rz 4000000 N) (hm: ¬M<0) (hn: ¬N<0):Ok Tryz.prog 113 [.a ((cR A++cR B++cR C++cR D++cR M++cR N))] [.c (.i .i64 (YX A B C D M N)),.c (.b (Uf A B C D M N))]:=by
 refine cj Tryz.func113 rfl<|ar (az (us:=([.b true])) afw aec rfl rfl rfl) ?_;refine ac rfl (ga (aU W)) ?_;refine DL.mk<|Mi (fh rfl rfl rfl rfl rfl (gB) rfl)<|fa ?_;refine ac rfl (HZ (by assumption)) ?_;refine DL.mk<|Mi (fh rfl rfl rfl rfl rfl (gB) rfl)<|fa ?_;refine ac rfl (ga (aU hN)) ?_;refine DL.mk<|Mi (fh rfl rfl rfl rfl rfl (gB) rfl)<|fa ?_;refine ac rfl (HZ (by assumption)) ?_;refine DL.mk<|Mi (fh rfl rfl rfl rfl rfl (gB) rfl)<|fa ?_;refine ar (sm rfl rfl) ?_;refine cU rfl (fun E=>?_) (fun E=>?_)
 ·have h:Mk A B C D M N=false:=aae (JT E (by unfold ZT;simp only[iI,Bool.and_true];try rfl));refine ah ?_;rw[(Eu h).1,(Eu h).2];exact aj (aj aa)
 ·refine cE 14 [12] ?_;refine aG rfl (ga (aU K)) ?_;refine DQ.mk<|uE (fh rfl rfl rfl rfl rfl (gB) rfl) rfl rfl rfl rfl rfl (by kernel_rfl) rfl<|ek ?_;refine aG rfl (sF (pN _) (pD _) (Nc _) (LZ (by assumption))) ?_;refine DQ.mk<|uE (fh rfl rfl rfl rfl rfl (gB) rfl) rfl rfl rfl rfl rfl (by kernel_rfl) rfl<|ek ?_;refine cE 14 [12] ?_;refine aG rfl (ga (aU R)) ?_;refine DQ.mk<|uE (fh rfl rfl rfl rfl rfl (gB) rfl) rfl rfl rfl rfl rfl (by kernel_rfl) rfl<|ek ?_;refine aG rfl (sF (pN _) (pD _) (Nc _) (LZ (by assumption))) ?_;refine DQ.mk<|uE (fh rfl rfl rfl rfl rfl (gB) rfl) rfl rfl rfl rfl rfl (by kernel_rfl) rfl<|ek ?_;refine cE 20 [12] ?_;refine aG rfl (ga (aU J)) ?_;refine DQ.mk<|uE (fh rfl rfl rfl rfl rfl (gB) rfl) rfl rfl rfl rfl rfl (by kernel_rfl) rfl<|ek ?_;refine aG rfl (sF (Nc _) (LZ (by assumption)) (Nc _) (LZ (by assumption))) ?_;refine DQ.mk<|uE (fh rfl rfl rfl rfl rfl (gB) rfl) rfl rfl rfl rfl rfl (by kernel_rfl) rfl<|ek ?_;refine aG rfl (sF (pN _) (pD _) (B3 _ _ _ _) (Ba _ _ _ _)) ?_;refine DQ.mk<|uE (fh rfl rfl rfl rfl rfl (gB) rfl) rfl rfl rfl rfl rfl (by kernel_rfl) rfl<|ek ?_;refine ar (sm rfl rfl) ?_;refine cU rfl (fun H=>?_) (fun H=>?_)
  ·have h:Mk A B C D M N=false:=TA (JT H (by unfold qK2 ZT;simp only[iI,Bool.and_true,Bool.and_assoc];try rfl));refine ah ?_;rw[(Eu h).1,(Eu h).2];exact aj (aj aa)
  ·refine cE 26 [12] ?_;refine aG rfl (ga (aU I)) ?_;refine DQ.mk<|uE (fh rfl rfl rfl rfl rfl (gB) rfl) rfl rfl rfl rfl rfl (by kernel_rfl) rfl<|ek ?_;refine aG rfl (pZ (pN _) (pD _) (B3 _ _ _ _) (Ba _ _ _ _)) ?_;refine DQ.mk<|uE (fh rfl rfl rfl rfl rfl (gB) rfl) rfl rfl rfl rfl rfl (by kernel_rfl) rfl<|ek ?_;refine aG rfl (pZ (B3 _ _ _ _) (Ba _ _ _ _) (B3 _ _ _ _) (Ba _ _ _ _)) ?_;refine DQ.mk<|uE (fh rfl rfl rfl rfl rfl (gB) rfl) rfl rfl rfl rfl rfl (by kernel_rfl) rfl<|ek ?_;refine aG rfl (pZ (Ia (by first|exact Dt _|exact y7 _ _ _ _) (by first|exact Dt _|exact y7 _ _ _ _)) (HN (by first|exact Dt _|exact y7 _ _ _ _) (by first|exact Dt _|exact y7 _ _ _ _)) (Ia (by first|exact Dt _|exact y7 _ _ _ _) (by first|exact Dt _|exact y7 _ _ _ _)) (HN (by first|exact Dt _|exact y7 _ _ _ _) (by first|exact Dt _|exact y7 _ _ _ _))) ?_;refine DQ.mk<|uE (fh rfl rfl rfl rfl rfl (gB) rfl) rfl rfl rfl rfl rfl (by kernel_rfl) rfl<|ek ?_;refine ar (sm rfl rfl) ?_;refine cU rfl (fun w=>?_) (fun w=>?_)
   ·have h:Mk A B C D M N=false:=JT w (by unfold Mk qK2 ZT;simp only[iI,Bool.and_true,Bool.and_assoc];try rfl);refine ah ?_;rw[(Eu h).1,(Eu h).2];exact aj (aj aa)
   ·refine ac rfl (Cx) ?_;have h:Mk A B C D M N=true:=aa5 w (by unfold Mk qK2 ZT;simp only[iI,Bool.and_true,Bool.and_assoc];try rfl);refine ah ?_;rw[(JR h).1,(JR h).2];exact aj (aj aa)
def CX (A B C D M N:Rat):Int:=if M<0\/N<0 then 0 else if Uf A B C D M N=true then YX A B C D M N else km A B C D M N
theorem PY (h:M<0\/N<0):CX A B C D M N=0:=by unfold CX;rw[if_pos h]
theorem aat (h: ¬M<0) (E: ¬N<0) (w:Uf A B C D M N=true):CX A B C D M N=YX A B C D M N:=by unfold CX;rw[if_neg (fun e=>e.elim h E),if_pos w]
theorem FA (h: ¬M<0) (w: ¬N<0) (E:Uf A B C D M N=false):CX A B C D M N=qf (bU A B M) (bU C D M*aJ N 0) (bU (A*A+M*(B*B)-N*(C*C+M*(D*D))) (A*B-N*(C*D)+(A*B-N*(C*D))) M):=by unfold CX;rw[if_neg (fun e=>e.elim h w),E,if_neg (by decide),u9 h w];unfold Ey vM;grind
def Ct (a b c d e f:Rat):Int:=
 if (aJ b 0==0)=true/\(aJ e 0==0)=true then aJ a d else
 if HC (dD a b c) (dD d e f) (dw a b c) (du a b c) (dw d e f) (du d e f)=true then KT (dD a b c) (dD d e f) (dw a b c) (du a b c) (dw d e f) (du d e f) else
 if (aJ c f==0)=true then bU (a-d) (b-e) c else CX (a-d) b (-e) 0 c f
section
variable {a b c d e f:Rat}
theorem abm (h:(aJ b 0==0)=true) (w:(aJ e 0==0)=true):Ct a b c d e f=aJ a d:=by unfold Ct;rw[if_pos ⟨h,w⟩]
theorem RU (h: ¬((aJ b 0==0)=true/\(aJ e 0==0)=true)) (w:HC (dD a b c) (dD d e f) (dw a b c) (du a b c) (dw d e f) (du d e f)=true):
 Ct a b c d e f=KT (dD a b c) (dD d e f) (dw a b c) (du a b c) (dw d e f) (du d e f):=by unfold Ct;rw[if_neg h,if_pos w]
theorem P4 (h: ¬((aJ b 0==0)=true/\(aJ e 0==0)=true)) (w:HC (dD a b c) (dD d e f) (dw a b c) (du a b c) (dw d e f) (du d e f)=false) (E:(aJ c f==0)=true):
 Ct a b c d e f=bU (a-d) (b-e) c:=by unfold Ct;rw[if_neg h,w,if_neg (by decide),if_pos E]
theorem Qb (h: ¬((aJ b 0==0)=true/\(aJ e 0==0)=true)) (w:HC (dD a b c) (dD d e f) (dw a b c) (du a b c) (dw d e f) (du d e f)=false) (E:(aJ c f==0)=false):
 Ct a b c d e f=CX (a-d) b (-e) 0 c f:=by unfold Ct;rw[if_neg h,w,if_neg (by decide),E,if_neg (by decide)]
theorem aaz {b c:Bool}(h:b=false): ¬(b=true/\c=true):=fun e=>by rw[h] at e;exact absurd e.1 (by decide)
theorem abO {b c:Bool}(h:c=false): ¬(b=true/\c=true):=fun e=>by rw[h] at e;exact absurd e.2 (by decide)
end
theorem sE (w:Rz 6000000 a) (h:Rz 6000000 b):Ok Tryz.prog 114 [dR a,dR b] [dR (a+b)]:=by refine cj Tryz.func114 rfl<|ac rfl (nf (aU w) (aU h)) ?_;exact ah (a7 bV rfl aa)
theorem Ez (H:Rz 160000 A) (E:Rz 160000 B) (w:Rz 160000 C) (h:Rz 160000 D) (J:Rz 160000 M) (K:Rz 160000 N):Ok Tryz.prog 46 [.a ((cR A++cR B++cR C++cR D++cR M++cR N))] [.c (.i .i64 (CX A B C D M N))]:=by
 have z1:=gY (gK C D M) (dF N 0);have z2:=gY (gK A B M) (gK (A*A+M*(B*B)-N*(C*C+M*(D*D))) ((A*B-N*(C*D))+(A*B-N*(C*D))) M);have kA:Rz 4000000 A:=H.m_;have kB:Rz 4000000 B:=E.m_;have kC:Rz 4000000 C:=w.m_;have kD:Rz 4000000 D:=h.m_;have kM:Rz 4000000 M:=J.m_;have kN:Rz 4000000 N:=K.m_;refine cj Tryz.func46 rfl ?_;refine ac rfl (d7) ?_;refine jC (aQ rfl) (fun c1 a2=>?_);cases c1
 ·have n1:=EE a2;refine ac rfl (d7) ?_;refine cU rfl (fun a0=>?_) (fun a0=>?_)
  ·refine ah ?_;rw[PY (.inr (NT a0))];exact aj aa
  ·have n2:=EE a0;refine ac rfl (JV (by assumption) (by assumption) (by assumption) (by assumption) (by assumption) (by assumption) (by assumption) (by assumption)) ?_;refine cU rfl (fun I=>?_) (fun I=>?_)
   ·refine ah ?_;rw[aat n1 n2 I];exact aj aa
   ·refine cE 20 [] ?_;refine aG rfl (oS (aU H) (aU E) (aU J)) ?_;refine aG rfl (oS (aU w) (aU h) (aU J)) ?_;refine aG rfl (d7) ?_;refine aq (b9 ((bU C D M)*(aJ N 0)) (d9 (by omega) (by omega)) rfl) ?_;refine jC (aQ rfl) (fun c4 a1=>?_);cases c4
    ·refine cU rfl (fun R=>?_) (fun R=>?_)
     ·refine ah ?_;rw[FA n1 n2 I,wW R];exact aj aa
     ·refine cU rfl (fun W=>?_) (fun W=>?_)
      ·refine ah ?_;rw[FA n1 n2 I,xR W];exact aj aa
      ·refine cE 42 [] ?_;refine aG rfl (eN (aU H) (aU H)) ?_;refine aG rfl (eN (aU E) (aU E)) ?_;refine aG rfl (eN (aU J) (aU (aW E E))) ?_;refine aG rfl (sE (aU (aW H H)) (aU (aW J (aW E E)))) ?_;refine aG rfl (eN (aU w) (aU w)) ?_;refine aG rfl (eN (aU h) (aU h)) ?_;refine aG rfl (eN (aU J) (aU (aW h h))) ?_;refine aG rfl (sE (aU (aW w w)) (aU (aW J (aW h h)))) ?_;refine aG rfl (eN (aU K) (aU (ia (aW w w) (aW J (aW h h))))) ?_;refine aG rfl (ml (aU (ia (aW H H) (aW J (aW E E)))) (aU (aW K (ia (aW w w) (aW J (aW h h))))))<|cE 18 [] ?_;refine aG rfl (eN (aU H) (aU E)) ?_;refine aG rfl (eN (aU w) (aU h)) ?_;refine aG rfl (eN (aU K) (aU (aW w h)))<|aG rfl (ml (aU (aW H E)) (aU (aW K (aW w h))))<|cE 11 [] ?_;refine aG rfl (sE (aU (dz (aW H E) (aW K (aW w h)))) (aU (dz (aW H E) (aW K (aW w h))))) ?_;refine aG rfl (oS (aU (dz (ia (aW H H) (aW J (aW E E))) (aW K (ia (aW w w) (aW J (aW h h)))))) (aU (ia (dz (aW H E) (aW K (aW w h))) (dz (aW H E) (aW K (aW w h))))) (aU J)) ?_;refine aq (b9 ((bU A B M)*(bU (((A*A)+(M*(B*B)))-(N*((C*C)+(M*(D*D))))) (((A*B)-(N*(C*D)))+((A*B)-(N*(C*D)))) M)) (d9 (by omega) (by omega)) rfl)<|ah ?_;rw[FA n1 n2 I,xx W a1 R];exact aj aa
    ·refine vr rfl<|ah ?_;rw[FA n1 n2 I,xF a1];exact aj aa
 ·refine vr rfl<|ah ?_;rw[PY (.inl (NT a2))];exact aj aa
theorem To {f:Rat}(W:Rz 2000000 a) (hb:Rz 160000 b) (R:Rz 160000 c) (hd:Rz 2000000 d) (K:Rz 160000 e) (hf:Rz 160000 f) (h1:Rz 160000 (a-d)):Ok Tryz.prog 12 [.a ((cR a++cR b++cR c)),.a ((cR d++cR e++cR f))] [.c (.i .i64 (Ct a b c d e f))]:=by
 have ka:Rz 6000000 a:=W.m_;have la:Rz 4000000 a:=W.m_;have kb:Rz 6000000 b:=hb.m_;have lb:Rz 4000000 b:=hb.m_;have kc:Rz 6000000 c:=R.m_;have lc:Rz 4000000 c:=R.m_;have kd:Rz 6000000 d:=hd.m_;have ld:Rz 4000000 d:=hd.m_;have ke:Rz 6000000 e:=K.m_;have le:Rz 4000000 e:=K.m_;have kf:Rz 6000000 f:=hf.m_;have lf:Rz 4000000 f:=hf.m_;have m2:Rz 160000 (-e):=K.neg;have m0:Rz 160000 (0:Rat):=Rz.int (n:=0) (eE (by decide) (by decide) (by decide)) (by decide);have w1:Rz 2000000 (a-d):=h1.m_;have w2:Rz 2000000 (b-e):=(hb.sub K).m_;have w3:Rz 2000000 c:=R.m_;refine cj Tryz.func12 rfl ?_;refine ac rfl (d7) ?_;refine jC (aQ rfl) (fun c1 E=>?_);cases c1
 ·refine nM rfl<|ac rfl (Cc (by assumption) (by assumption) (by assumption) (by assumption) (by assumption) (by assumption)) ?_;refine cU rfl (fun H=>?_) (fun H=>?_)
  ·refine ah ?_;rw[RU (aaz E) H];exact aj aa
  ·refine ac rfl (rf (aU R) (aU hf)) ?_;refine cU rfl (fun I=>?_) (fun I=>?_)
   ·refine cE 14 [] ?_;refine aG rfl (ml (aU W) (aU hd)) ?_;refine aG rfl (ml (aU hb) (aU K)) ?_;refine aG rfl (oS w1 w2 w3)<|ah ?_;rw[P4 (aaz E) H I];exact aj aa
   ·refine ac rfl (Id (by assumption) (by assumption) (by assumption) (by assumption) (by assumption) (by assumption))<|ac rfl (Ez (by assumption) (by assumption) (by assumption) (by assumption) (by assumption) (by assumption))<|ah ?_;rw[Qb (aaz E) H I];exact aj aa
 ·refine ac rfl (d7) ?_;refine cU rfl (fun h=>?_) (fun h=>?_)
  ·refine ac rfl (rf (aU W) (aU hd))<|ah ?_;rw[abm E h];exact aj aa
  ·refine ac rfl (Cc (by assumption) (by assumption) (by assumption) (by assumption) (by assumption) (by assumption)) ?_;refine cU rfl (fun w=>?_) (fun w=>?_)
   ·refine ah ?_;rw[RU (abO h) w];exact aj aa
   ·refine ac rfl (rf (aU R) (aU hf)) ?_;refine cU rfl (fun J=>?_) (fun J=>?_)
    ·refine cE 14 [] ?_;refine aG rfl (ml (aU W) (aU hd)) ?_;refine aG rfl (ml (aU hb) (aU K)) ?_;refine aG rfl (oS w1 w2 w3)<|ah ?_;rw[P4 (abO h) w J];exact aj aa
    ·refine ac rfl (Id (by assumption) (by assumption) (by assumption) (by assumption) (by assumption) (by assumption))<|ac rfl (Ez (by assumption) (by assumption) (by assumption) (by assumption) (by assumption) (by assumption))<|ah ?_;rw[Qb (abO h) w J];exact aj aa
theorem HJ (I:Rz 1000000 a) (E:Rz 1000000 b) (H:Rz 1000000 c):Ok Tryz.prog 362 [.a ((cR a++cR b++cR c))] [.a ((cR (a*a+b*b*cc b c c)++cR (rB (a*b+b*a) (cc b c c))++cR (rC (a*b+b*a) (cc b c c))))]:=by have w: ¬Um b c b c:=fun h=>h.2.2 rfl;refine cj Tryz.func362 rfl<|ac rfl (EU I E H I E H w) ?_;exact ah (a7 jG rfl aa)
end Go.Proofs.YtegeknjkgadehaaGreat
