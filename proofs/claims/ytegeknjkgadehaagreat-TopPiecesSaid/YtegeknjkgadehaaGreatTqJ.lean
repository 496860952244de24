/-Plain:the program's sign of a sum with two square roots,its order of two values. -/
import Derived.Test.YtegeknjkgadehaaGreatTqI
namespace Go.Proofs.YtegeknjkgadehaaGreat
open Go Go.RowKit
variable {Q:Exit->St->Prop}{hi lo u v:Int}{tm:List (Nat×DV)}{bx:List (Nat×TypeId×List CellD)}{a' cs pre eD us us' ys zs:List CellD}{by_ k m n q t:Nat}{x y:Operand}{A B B1 B2 C D M N a a1 a2 b b1 b2 c c1 c2 d f p p1 p2 q1 q2 r:Rat}{L X:Re}{U e:TypeId}
variable {ty:TypeId}{pos:String}{af:Array Edge}{g:Option (Nat×Bool)}
theorem fj:type_of% @Re.ext:=@Re.ext
theorem gN:type_of% @Rz.zc:=@Rz.zc
theorem iH:type_of% @Rz.zero:=@Rz.zero
theorem sV:type_of% @Rat.intCast_sub:=@Rat.intCast_sub
def Du (A B C D M N:Rat):Int:=if M<0\/N<0 then 0 else if Vz A B C D M N=true then qkS A B C D M N else mY A B C D M N
theorem UV (h:M<0\/N<0):Du A B C D M N=0:=by unfold Du;rw[if_pos h]
theorem aa5 (h: ¬M<0) (I: ¬N<0) (j:Vz A B C D M N=true):Du A B C D M N=qkS A B C D M N:=by unfold Du;rw[if_neg (fun e=>e.elim h I),if_pos j]
theorem Gq (h: ¬M<0) (j: ¬N<0) (I:Vz A B C D M N=false):Du A B C D M N=p7 (b8 A B M) (b8 C D M*aG N 0) (b8 (A*A+M*(B*B)-N*(C*C+M*(D*D))) (A*B-N*(C*D)+(A*B-N*(C*D))) M):=by unfold Du;rw[if_neg (fun e=>e.elim h j),I,if_neg (by decide),vZ h j];unfold EC wy;grind
def tC (a b c d e f:Rat):Int:=
 if (aG b 0==0)=true/\(aG e 0==0)=true then aG a d else
 if Kq (eu a b c) (eu d e f) (dU a b c) (dV a b c) (dU d e f) (dV d e f)=true then KG (eu a b c) (eu d e f) (dU a b c) (dV a b c) (dU d e f) (dV d e f) else
 if (aG c f==0)=true then b8 (a-d) (b-e) c else Du (a-d) b (-e) 0 c f
section
variable {a b c d e f:Rat}
theorem aaY (h:(aG b 0==0)=true) (j:(aG e 0==0)=true):tC a b c d e f=aG a d:=by unfold tC;rw[if_pos ⟨h,j⟩]
theorem Rg (h: ¬((aG b 0==0)=true/\(aG e 0==0)=true)) (j:Kq (eu a b c) (eu d e f) (dU a b c) (dV a b c) (dU d e f) (dV d e f)=true):tC a b c d e f=KG (eu a b c) (eu d e f) (dU a b c) (dV a b c) (dU d e f) (dV d e f):=by unfold tC;rw[if_neg h,if_pos j]
theorem Un (h: ¬((aG b 0==0)=true/\(aG e 0==0)=true)) (I:Kq (eu a b c) (eu d e f) (dU a b c) (dV a b c) (dU d e f) (dV d e f)=false) (j:(aG c f==0)=true):tC a b c d e f=b8 (a-d) (b-e) c:=by unfold tC;rw[if_neg h,I,if_neg (by decide),if_pos j]
theorem UP (h: ¬((aG b 0==0)=true/\(aG e 0==0)=true)) (I:Kq (eu a b c) (eu d e f) (dU a b c) (dV a b c) (dU d e f) (dV d e f)=false) (j:(aG c f==0)=false):tC a b c d e f=Du (a-d) b (-e) 0 c f:=by unfold tC;rw[if_neg h,I,if_neg (by decide),j,if_neg (by decide)]
theorem ab8 {b c:Bool}(h:b=false): ¬(b=true/\c=true):=fun e=>by rw[h] at e;exact absurd e.1 (by decide)
theorem adA {b c:Bool}(h:c=false): ¬(b=true/\c=true):=fun e=>by rw[h] at e;exact absurd e.2 (by decide)
end
theorem tE (j:Rz 6000000 a) (I:Rz 6000000 b):cq 114 [dR a,dR b] [dR (a+b)]:=by refine bE Tryz.func114 rfl<|ac rfl (kQ (az j) (az I)) ?_;exact ae (aN br rfl aa)
theorem Fg (J:Rz 160000 A) (I:Rz 160000 B) (hC:Rz 160000 C) (j:Rz 160000 D) (R:Rz 160000 M) (hN:Rz 160000 N):cq 46 [.a ((cR A++cR B++cR C++cR D++cR M++cR N))] [.c (.i .i64 (Du A B C D M N))]:=by
 have z1:=go (il C D M) (dH N 0);have z2:=go (il A B M) (il (A*A+M*(B*B)-N*(C*C+M*(D*D))) ((A*B-N*(C*D))+(A*B-N*(C*D))) M);have kA:Rz 4000000 A:=J.m_;have kB:Rz 4000000 B:=I.m_;have kC:Rz 4000000 C:=hC.m_;have kD:Rz 4000000 D:=j.m_;have kM:Rz 4000000 M:=R.m_;have kN:Rz 4000000 N:=hN.m_;apply bE Tryz.func46 rfl;refine ac rfl bU ?_;refine iN (aY rfl) (fun c1 a5=>?_);cases c1
 .have n1:=EP a5;refine ac rfl bU ?_;refine dg rfl (fun a4=>?_) (fun a4=>?_)
  .apply ae;rw[UV (.inr (Il a4))];exact aj aa
  .have n2:=EP a4;refine ac rfl (L3 ‹_› ‹_› ‹_› ‹_› ‹_› ‹_› ‹_› ‹_›) ?_;refine dg rfl (fun V=>?_) (fun V=>?_)
   .apply ae;rw[aa5 n1 n2 V];exact aj aa
   .apply cm 20 [];refine aw rfl (pv (az J) (az I) (az R)) ?_;refine aw rfl (pv (az hC) (az j) (az R)) ?_;refine aw rfl bU ?_;refine aq (ca ((b8 C D M)*(aG N 0)) (dz (by omega) (by omega)) rfl) ?_;refine iN (aY rfl) (fun c4 a6=>?_);cases c4
    .refine dg rfl (fun a3=>?_) (fun a3=>?_)
     .apply ae;rw[Gq n1 n2 V,ym a3];exact aj aa
     .refine dg rfl (fun W=>?_) (fun W=>?_)
      .apply ae;rw[Gq n1 n2 V,yJ W];exact aj aa
      .apply cm 42 [];refine aw rfl (dd (az J) (az J)) ?_;refine aw rfl (dd (az I) (az I)) ?_;refine aw rfl (dd (az R) (az (al I I))) ?_;refine aw rfl (tE (az (al J J)) (az (al R (al I I)))) ?_;refine aw rfl (dd (az hC) (az hC)) ?_;refine aw rfl (dd (az j) (az j)) ?_;refine aw rfl (dd (az R) (az (al j j))) ?_;refine aw rfl (tE (az (al hC hC)) (az (al R (al j j)))) ?_;refine aw rfl (dd (az hN) (az (dJ (al hC hC) (al R (al j j))))) ?_;refine aw rfl (jS (az (dJ (al J J) (al R (al I I)))) (az (al hN (dJ (al hC hC) (al R (al j j))))))<|cm 18 [] ?_;refine aw rfl (dd (az J) (az I)) ?_;refine aw rfl (dd (az hC) (az j)) ?_;refine aw rfl (dd (az hN) (az (al hC j)))<|aw rfl (jS (az (al J I)) (az (al hN (al hC j))))<|cm 11 [] ?_;refine aw rfl (tE (az (ak (al J I) (al hN (al hC j)))) (az (ak (al J I) (al hN (al hC j))))) ?_;refine aw rfl (pv (az (ak (dJ (al J J) (al R (al I I))) (al hN (dJ (al hC hC) (al R (al j j)))))) (az (dJ (ak (al J I) (al hN (al hC j))) (ak (al J I) (al hN (al hC j))))) (az R)) ?_;refine aq (ca ((b8 A B M)*(b8 (((A*A)+(M*(B*B)))-(N*((C*C)+(M*(D*D))))) (((A*B)-(N*(C*D)))+((A*B)-(N*(C*D)))) M)) (dz (by omega) (by omega)) rfl)<|ae ?_;rw[Gq n1 n2 V,xU W a6 a3];exact aj aa
    .refine n7 rfl<|ae ?_;rw[Gq n1 n2 V,yb a6];exact aj aa
 .refine n7 rfl<|ae ?_;rw[UV (.inl (Il a5))];exact aj aa
theorem CC {e:Rat}(ha:Rz 2000000 a) (hb:Rz 160000 b) (hc:Rz 160000 c) (hd:Rz 2000000 d) (he:Rz 160000 e) (hf:Rz 160000 f) (h1:Rz 160000 (a-d)):cq 12 [.a ((cR a++cR b++cR c)),.a ((cR d++cR e++cR f))] [.c (.i .i64 (tC a b c d e f))]:=by
 have ka:Rz 6000000 a:=ha.m_;have la:Rz 4000000 a:=ha.m_;have kb:Rz 6000000 b:=hb.m_;have lb:Rz 4000000 b:=hb.m_;have kc:Rz 6000000 c:=hc.m_;have lc:Rz 4000000 c:=hc.m_;have kd:Rz 6000000 d:=hd.m_;have ld:Rz 4000000 d:=hd.m_;have ke:Rz 6000000 e:=he.m_;have le:Rz 4000000 e:=he.m_;have kf:Rz 6000000 f:=hf.m_;have lf:Rz 4000000 f:=hf.m_;have m2:Rz 160000 (-e):=he.neg;have m0:Rz 160000 (0:Rat):=Rz.int (e8 (by decide) (by decide) (by decide)) (by decide);have w1:Rz 2000000 (a-d):=h1.m_;have w2:Rz 2000000 (b-e):=(hb.sub he).m_;have w3:Rz 2000000 c:=hc.m_;apply bE Tryz.func12 rfl;refine ac rfl bU ?_;refine iN (aY rfl) (fun c1 I=>?_);cases c1
 .refine mL rfl<|ac rfl (Dc ‹_› ‹_› ‹_› ‹_› ‹_› ‹_›) ?_;refine dg rfl (fun R=>?_) (fun R=>?_)
  .apply ae;rw[Rg (ab8 I) R];exact aj aa
  .refine ac rfl (jG (az hc) (az hf)) ?_;refine dg rfl (fun W=>?_) (fun W=>?_)
   .apply cm 14 [];refine aw rfl (jS (az ha) (az hd)) ?_;refine aw rfl (jS (az hb) (az he)) ?_;refine aw rfl (pv w1 w2 w3)<|ae ?_;rw[Un (ab8 I) R W];exact aj aa
   .refine ac rfl (IE ‹_› ‹_› ‹_› ‹_› ‹_› ‹_›)<|ac rfl (Fg ‹_› ‹_› ‹_› ‹_› ‹_› ‹_›)<|ae ?_;rw[UP (ab8 I) R W];exact aj aa
 .refine ac rfl bU ?_;refine dg rfl (fun j=>?_) (fun j=>?_)
  .refine ac rfl (jG (az ha) (az hd))<|ae ?_;rw[aaY I j];exact aj aa
  .refine ac rfl (Dc ‹_› ‹_› ‹_› ‹_› ‹_› ‹_›) ?_;refine dg rfl (fun J=>?_) (fun J=>?_)
   .apply ae;rw[Rg (adA j) J];exact aj aa
   .refine ac rfl (jG (az hc) (az hf)) ?_;refine dg rfl (fun V=>?_) (fun V=>?_)
    .apply cm 14 [];refine aw rfl (jS (az ha) (az hd)) ?_;refine aw rfl (jS (az hb) (az he)) ?_;refine aw rfl (pv w1 w2 w3)<|ae ?_;rw[Un (adA j) J V];exact aj aa
    .refine ac rfl (IE ‹_› ‹_› ‹_› ‹_› ‹_› ‹_›)<|ac rfl (Fg ‹_› ‹_› ‹_› ‹_› ‹_› ‹_›)<|ae ?_;rw[UP (adA j) J V];exact aj aa
theorem IV (I:Rz 1000000 a) (J:Rz 1000000 b) (R:Rz 1000000 c):cq 362 [.a ((cR a++cR b++cR c))] [.a ((cR (a*a+b*b*cc b c c)++cR (rB (a*b+b*a) (cc b c c))++cR (rC (a*b+b*a) (cc b c c))))]:=by have j: ¬MT b c b c:=fun h=>h.2.2 rfl;refine bE Tryz.func362 rfl<|ac rfl (PS I J R I J R j) ?_;exact ae (aN gT rfl aa)
def AP (a1 b1 a2 b2 c p1 q1 p2 q2 r:Rat):Int:=if tC a1 b1 (zc b1 c) p1 q1 (zc q1 r)≠0 then tC a1 b1 (zc b1 c) p1 q1 (zc q1 r) else tC a2 b2 (zc b2 c) p2 q2 (zc q2 r)
theorem YS (h:(tC a1 b1 (zc b1 c) p1 q1 (zc q1 r) !=0)=true):AP a1 b1 a2 b2 c p1 q1 p2 q2 r=tC a1 b1 (zc b1 c) p1 q1 (zc q1 r):=by unfold AP;rw[if_pos (by simpa using h)]
theorem VP (h:(tC a1 b1 (zc b1 c) p1 q1 (zc q1 r) !=0)=false):AP a1 b1 a2 b2 c p1 q1 p2 q2 r=tC a2 b2 (zc b2 c) p2 q2 (zc q2 r):=by unfold AP;rw[if_neg (by simpa using h)]
def Bg (x y:Re):Prop:=0<=bz (y-x)
theorem ag0 {x y z:Re}(h:Bg x y) (g:Bg y z):Bg x z:=by
 unfold Bg at*;have e:z-x=(z-y)+(y-x):=fj fun k=>by simp only[bo,bF];grind
 rw[e];exact Cx g h
theorem of_le {q:Rat}(h:p<=q):Bg (Re.of p) (Re.of q):=by unfold Bg;rw[xg,fZ];unfold aG;grind
theorem rS {x y:Re}(h: ∀k,x.s k=y.s k) (g:0<=bz x):0<=bz y:=by rw[<-fj h];exact g
def sJ (lo hi:Int) (x:Re):Prop:=Bg (Re.of (lo:Rat)) (Re.of 65536*x)/\Bg (Re.of 65536*x) (Re.of (hi:Rat))
theorem tA {x y u v:Re}(h:Bg x y) (g:Bg u v):Bg (x+u) (y+v):=by exact rS (fun k=>by simp only[bo,bF];grind) (Cx h g)
theorem Z4 (y:Rat):((y.num.fdiv (y.den:Int):Int):Rat)<=y:=by have I:=den_pos y;have j:(0:Rat)<((y.den:Int):Rat):=zN.2 I;refine yc j ?_;rw[Mr y,<-ja];apply s5.2;rw[qS _ (by omega),t5];have:=uM y.num (y.den:Int);have:=qY y.num (show(y.den:Int)≠0 by omega);omega
theorem J9 (a:Rat):sJ (jF a) (jd a) (Re.of a):=by
 have h1:=Z4 (a*((65536:Int):Rat));have j:=Z4 (-(a*((65536:Int):Rat)));refine⟨?_,?_⟩
 .rw[nf];apply of_le;unfold jF;grind
 .rw[nf];apply of_le;unfold jd;grind
theorem D8 (h:iE a=true):sJ (gL a) (gH a) (Re.of a):=by unfold gL gH;rw[h,if_pos rfl,if_pos rfl];exact J9 a
theorem JO {p q:Re}(_R:0<=bz p) (j:0<=bz q) (h:0<=bz (q*q-p*p)):Bg p q:=by
 unfold Bg;rcases dD (q-p) with a|a|a;·omega
 .omega
 .exfalso;have h1:0<bz (p-q):=by
   have e:p-q= -(q-p):=fj fun k=>by simp only[bo,cr];grind
   rw[e,fq,a];decide
  have J:0<bz (p+q):=by
   have e:p+q=(p-q)+(q+q):=fj fun k=>by simp only[bo,bF];grind
   rw[e];exact G8 h1 (Cx j j)
  have I:bz ((q-p)*(p+q))=bz (q*q-p*p):=congrArg bz (fj fun k=>by simp only[bo,bF,bV];grind);rw[cU,a] at I;omega
theorem MD {n:Int}(h:0<=n):0<=bz (Re.of (n:Rat)):=by have:=of_le (zg.2 h);refine rS (fun k=>?_) this;simp only[bo,dy];grind
theorem zL {q:Rat}(h:Bg (Re.of p) (Re.of q)):p<=q:=by unfold Bg at h;rw[xg,fZ] at h;unfold aG at h;grind
theorem Og (m:Rat):0<=bz (Re.of 65536*Re.rt m):=by
 have h1:=Qm m;have j:bz (Re.of 65536)=1:=by rw[fZ];decide+kernel
 rw[cU,j];omega
theorem NI {m:Rat}(h:0<=m) (q:Rat):bz (Re.of 65536*Re.rt m*(Re.of 65536*Re.rt m)-Re.of q)=aG (65536*65536*m) q:=by
 rw[<-pc,<-fZ];apply pe;have e:Re.of 65536*Re.rt m*(Re.of 65536*Re.rt m)-Re.of q-Re.of (65536*65536*m-q)=Re.of (65536*65536)*(Re.rt m*Re.rt m-Re.of m):=fj fun k=>by simp only[bo,bV,dy];grind
 rw[e,cU,CO h,uR]
theorem Tz {x y:Rat}(h:y<=x):0<=aG x y:=by unfold aG;rw[if_neg (by grind)];split<;>omega
theorem Ut {x y:Rat}(h:x<=y):aG x y<=0:=by
 unfold aG;split;·omega
 .rw[if_neg (by grind)];omega
theorem Qx {m:Rat}(hm:0<=m) (h:sJ lo hi (Re.of m)):sJ (pN lo) (kV hi) (Re.rt m):=by
 obtain⟨h1,I⟩:=h;rw[nf] at h1 I;have g1:=zL h1;have g2:=zL I;have V:(0:Rat)<=65536*m:=by grind
 refine⟨?_,?_⟩
 .refine JO (MD (fB _)) (Og m) ?_;rw[nf,NI hm];apply Tz;have J:((bm (max lo 0*65536)*bm (max lo 0*65536):Int):Rat)<=((max lo 0*65536:Int):Rat):=s5.2 (tI (x:=max lo 0*65536) (by omega));have R:((max lo 0:Int):Rat)<=65536*m:=by
   by_cases hl:0<=lo;·grind
   .rw[show max lo 0=0 from by omega];simpa using V
  unfold pN;grind
 .refine JO (Og m) (MD ?_) ?_;·unfold kV;have:=fB (hi*65536);split<;>omega
  have j:0<= -bz (Re.of 65536*Re.rt m*(Re.of 65536*Re.rt m)-Re.of (((kV hi:Int):Rat)*((kV hi:Int):Rat))):=by
   rw[NI hm];have W:(0:Int)<=hi:=by
    have:(0:Rat)<=(hi:Rat):=by grind
    exact zg.1 this
   have J:hi*65536<=kV hi*kV hi:=by
    unfold kV;split
    .rename_i hs;unfold Bw at hs;grind
    .have:=BL (x:=hi*65536) (by omega);omega
   have R:((hi*65536:Int):Rat)<=((kV hi*kV hi:Int):Rat):=s5.2 J;have:=Ut (x:=65536*65536*m) (y:=((kV hi:Int):Rat)*((kV hi:Int):Rat)) (by grind);omega
  rw[<-fq] at j;refine rS (fun k=>?_) j;simp only[cr,bo,bV,dy];grind
theorem L0 {k u v U:Re}(h1:0<=bz (k*u-L)) (R:0<=bz (k*v-L)) (J:Bg u U) (I:Bg U v):0<=bz (k*U-L):=by
 unfold Bg at*;have e:(v-u)*(k*U-L)=(v-U)*(k*u-L)+(U-u)*(k*v-L):=fj fun j=>by simp only[bo,bV,bF];grind
 have W:0<=bz ((v-U)*(k*u-L)+(U-u)*(k*v-L)):=by
  refine Cx ?_ ?_;·rw[cU];exact mp I h1
  .rw[cU];exact mp J R
 rw[<-e,cU] at W;have e2:bz (v-u)=bz ((v-U)+(U-u)):=congrArg bz (fj fun j=>by simp only[bo,bF];grind);rcases dD (v-u) with a|a|a;·grind
 .rcases dD (U-u) with b|b|b
  .have:=G8 (x:=U-u) (by omega) I;rw[On] at this;omega
  .have V:k*U-L=(k*u-L)+k*(U-u):=fj fun j=>by simp only[bo,bF,bV];grind
   rw[V,dE _ (by rw[cU,b,uR])];grind
  grind
 .have:=Cx I J;omega
theorem Si {x y u v U:Re}(h1:0<=bz (x*u-L)) (J:0<=bz (x*v-L)) (W:0<=bz (y*u-L)) (R:0<=bz (y*v-L)) (V:Bg x X) (g2:Bg X y) (I:Bg u U) (j:Bg U v):0<=bz (X*U-L):=by have a:=L0 h1 J I j;have b:=L0 W R I j;rw[v9 x U] at a;rw[v9 y U] at b;have:=L0 a b V g2;rw[v9 U X] at this;grind
theorem ZZ (a b:Int):mg a b*65536<=a*b/\a*b<=lT a b*65536:=by
 have e:a*b=if (!(decide (a<0)==decide (b<0)))=true then-P4 a b else P4 a b:=by
  unfold P4;by_cases J:a<0<;>by_cases I:b<0;·grind
  .grind
  .grind
  grind
 rw[e];unfold mg lT;generalize P4 a b=p;have j:p<=Ea p*65536:=by unfold Ea;split<;>omega
 grind
theorem UI {x y:Int}{U:Re}(h:sJ x y X) (g:sJ u v U):sJ (Eg x y u v 4) (DR x y u v 4) (X*U):=by
 have lo: ∀a b:Int,Eg x y u v 4<=mg a b->0<=bz (Re.of (a:Rat)*Re.of (b:Rat)-Re.of ((Eg x y u v 4*65536:Int):Rat)):=by intro a b hl;rw[nf];apply of_le;rw[<-ja];exact s5.2 (by have:=(ZZ a b).1;omega)
 have hi: ∀a b:Int,lT a b<=DR x y u v 4->0<=bz (-Re.of (a:Rat)*Re.of (b:Rat)-Re.of (-((DR x y u v 4*65536:Int):Rat))):=by intro a b hl;rw[Qj,nf];apply of_le;have h1:((a*b:Int):Rat)<=((DR x y u v 4*65536:Int):Rat):=s5.2 (by have:=(ZZ a b).2;omega);grind
 have a3:Eg x y u v 4=min (min (min (min 2305843009213693952 (mg x u)) (mg x v)) (mg y u)) (mg y v):=rfl;have W:DR x y u v 4=max (max (max (max (-2305843009213693952) (lT x u)) (lT x v)) (lT y u)) (lT y v):=rfl;have I:((65536:Int):Rat)=65536:=rfl;have j:bz (Re.of 65536)=1:=by rw[fZ];decide+kernel
 refine⟨?_,?_⟩
 .have J:=Si (lo x u (by omega)) (lo x v (by omega)) (lo y u (by omega)) (lo y v (by omega)) h.1 h.2 g.1 g.2;have e:bz (Re.of 65536*(Re.of 65536*(X*U)-Re.of ((Eg x y u v 4:Int):Rat)))=bz (Re.of 65536*X*(Re.of 65536*U)-Re.of ((Eg x y u v 4*65536:Int):Rat)):=congrArg bz (fj fun k=>by simp only[bo,bV,dy,ja,I];grind)
  rw[<-e,cU,j,Int.one_mul] at J;exact J
 .have R:Bg (-Re.of (y:Rat)) (-(Re.of 65536*X)):=rS (fun k=>by simp only[bo,cr];grind) h.2;have V:Bg (-(Re.of 65536*X)) (-Re.of (x:Rat)):=rS (fun k=>by simp only[bo,cr];grind) h.1;have J:=Si (hi y u (by omega)) (hi y v (by omega)) (hi x u (by omega)) (hi x v (by omega)) R V g.1 g.2;have e:bz (Re.of 65536*(Re.of ((DR x y u v 4:Int):Rat)-Re.of 65536*(X*U)))=bz (-(Re.of 65536*X)*(Re.of 65536*U)-Re.of (-((DR x y u v 4*65536:Int):Rat))):=congrArg bz (fj fun k=>by simp only[bo,bV,dy,cr,ja,I];grind)
  rw[<-e,cU,j,Int.one_mul] at J;exact J
theorem KU {x y:Int}{U:Re}(h:sJ x y X) (g:sJ u v U) (j:xR x y u v 4=true):sJ (pL x y u v) (pH x y u v) (X*U):=by unfold pL pH;rw[j,if_pos rfl,if_pos rfl];exact UI h g
theorem S0 {x y:Int}{U:Re}(h:sJ x y X) (g:sJ u v U):sJ (x+u) (y+v) (X+U):=by
 refine⟨rS (fun k=>?_) (tA h.1 g.1),rS (fun k=>?_) (tA h.2 g.2)⟩;·simp only[bo,bF,bV,dy,sN];grind
 .simp only[bo,bF,bV,dy,sN];grind
theorem I9 {x y:Int}{U:Re}(h:sJ x y X) (g:sJ u v U) (j:vn (x+u) (y+v)=true):sJ (aL x y u v) (aH x y u v) (X+U):=by unfold aL aH;rw[j,if_pos rfl,if_pos rfl];exact S0 h g
theorem WZ (X:Re):bz (Re.of 65536*X)=bz X:=by
 have j:bz (Re.of 65536)=1:=by rw[fZ];decide+kernel
 rw[cU,j,Int.one_mul]
theorem Ii {n:Int}(h:0<n):0<bz (Re.of (n:Rat)):=by rw[fZ];have h1:(0:Rat)<(n:Rat):=zN.2 h;unfold aG;grind
theorem ZF (h:sJ lo hi X) (hl:0<lo):bz X=1:=by have h1:=G8 (Ii hl) h.1;have e:bz (Re.of (lo:Rat)+(Re.of 65536*X-Re.of (lo:Rat)))=bz (Re.of 65536*X):=congrArg bz (fj fun k=>by simp only[bo,bF];grind);rw[e,WZ] at h1;have:=dD X;omega
theorem aar (h:sJ lo hi X) (hl:hi<0):bz X= -1:=by
 have h0:0<bz (-Re.of (hi:Rat)):=by rw[Qj,<-Rat.intCast_neg];exact Ii (by omega)
 have h1:=G8 h0 h.2;have e:bz (-Re.of (hi:Rat)+(Re.of (hi:Rat)-Re.of 65536*X))=bz (-(Re.of 65536*X)):=congrArg bz (fj fun k=>by simp only[bo,bF,cr];grind);rw[e,fq,WZ] at h1;have:=dD X;omega
theorem YF (h:sJ 0 0 X):bz X=0:=by have h1:=h.1;have j:=h.2;unfold Bg at h1 j;have e1:bz (Re.of 65536*X-Re.of ((0:Int):Rat))=bz (Re.of 65536*X):=congrArg bz (fj fun k=>by simp only[bo,dy];grind);have I:bz (Re.of ((0:Int):Rat)-Re.of 65536*X)=bz (-(Re.of 65536*X)):=congrArg bz (fj fun k=>by simp only[bo,dy,cr];grind);rw[e1,WZ] at h1;rw[I,fq,WZ] at j;omega
theorem Ht (h:sJ lo hi X) (hs:LG lo hi=true):Lx lo hi=bz X:=by
 unfold LG at hs;simp only[rV,decide_eq_true_eq,di,beq_iff_eq] at hs;unfold Lx;by_cases h1:lo>0;·rw[if_pos h1,ZF h h1]
 .rw[if_neg h1];by_cases I:hi<0;·rw[if_pos I,aar h I]
  .rw[if_neg I];rcases hs with hs|hs|⟨hs,j⟩;·omega
   .omega
   .subst hs j;exact(YF h).symm
theorem WV (hM:0<=M) (hN:0<=N) (h:Vz A B C D M N=true):qkS A B C D M N=bz (Lt A B C D M N):=by unfold Vz at h;rw[di] at h;obtain⟨I,hs⟩:=h;rw[(Lz I).1];unfold MN qK2 qK1 at I;simp only[di] at I;obtain⟨⟨⟨k1,k2⟩,k3,k4,k5,k6,k7,k8,k9⟩,J,a4,a5,a9⟩:=I;have im:=Qx hM (D8 k1);have j:=Qx hN (D8 k2);have ib:sJ (qbL B M) (Zj B M) _:=KU (D8 k3) im k4;have ic:sJ (qbL C N) (Zj C N) _:=KU (D8 k5) j k6;have W:sJ (VV M N) (Yl M N) _:=KU im j k8;have V:sJ (qdL D M N) (qdH D M N) _:=KU (D8 k7) W k9;have a6:sJ (Wo A B M) (Wa A B M) _:=I9 (D8 J) ib a4;have R:sJ (Wg C D M N) (Xt C D M N) _:=I9 ic V a5;have a3:sJ (qsL A B C D M N) (qsH A B C D M N) _:=I9 a6 R a9;rw[Ht a3 hs];refine congrArg bz (fj fun k=>?_);unfold Lt fE;simp only[bF,bV,dy];grind
theorem Yc (j:0<=M) (hN:0<=N):Du A B C D M N=bz (Lt A B C D M N):=by
 unfold Du;rw[if_neg (by rintro(h|h)<;>grind)];split;·rename_i h;exact WV j hN h
 .exact JF j hN
theorem In (h:eu a b c=true):sJ (dU a b c) (dV a b c) (fE a b c):=by
 have h0:=h;unfold eu at h;rw[di] at h;obtain⟨h1,j⟩:=h;cases I:(aG b 0==0) with
 |true=>
  obtain⟨e1,e2,_⟩:=aeW (c:=c) h1 I;have V:b=0:=rb I;have:=J9 a;have e:fE a 0 c=Re.of a:=fj fun k=>by unfold fE;simp only[bF,bV,dy];grind
  grind
 |false=>rw[I,u9] at j;unfold V4 at j;simp only[di,uP] at j;obtain⟨g1,g2,R,g4,g5⟩:=j;have W:0<=c:=Rat.not_lt.1 (EP R);have:=S0 (J9 a) (UI (J9 b) (Qx W (J9 c)));unfold dU dV;rw[h0,if_pos rfl,if_pos rfl,I,if_neg (by decide),if_neg (by decide)];exact this
theorem XW {e:Rat}(h:Kq (eu a b c) (eu d e f) (dU a b c) (dV a b c) (dU d e f) (dV d e f)=true):KG (eu a b c) (eu d e f) (dU a b c) (dV a b c) (dU d e f) (dV d e f)=bz (fE a b c-fE d e f):=by
 unfold Kq at h
 simp only[di,rV,decide_eq_true_eq] at h
 obtain⟨⟨I,J⟩,hs⟩:=h
 have R:=In I
 have j:=In J
 have i3:sJ (dU a b c-dV d e f) (dV a b c-dU d e f) (fE a b c-fE d e f):=by
  refine⟨rS (fun k=>?_) (tA R.1 (rS (y:= -(Re.of 65536*fE d e f)- -Re.of ((dV d e f:Int):Rat)) (fun k=>by simp only[bo,cr];grind) j.2)),rS (fun k=>?_) (tA R.2 (rS (y:= -Re.of ((dU d e f:Int):Rat)- -(Re.of 65536*fE d e f)) (fun k=>by simp only[bo,cr];grind) j.1))⟩;·simp only[bo,bF,bV,dy,cr,sV];grind
  .simp only[bo,bF,bV,dy,cr,sV];grind
 unfold KG
 rw[I,J,Bool.and_self,if_pos rfl]
 by_cases h1:dV a b c<dU d e f
 .rw[if_pos (decide_eq_true h1),aar i3 (by omega)]
 .rw[if_neg (by simpa using h1)]
  rcases hs with hs|hs
  .omega
  .rw[if_pos (decide_eq_true hs),ZF i3 (by omega)]
theorem Nq {e:Rat}(j:0<=c) (I:0<=f):tC a b c d e f=bz (fE a b c-fE d e f):=by
 unfold tC;split
 .rename_i h;have J:b=0:=rb h.1;have R:e=0:=rb h.2;rw[<-pc,<-fZ];refine congrArg bz (fj fun k=>?_);unfold fE;simp only[bo,bF,bV,dy];grind
 .split;·rename_i h;exact XW h
  .split
   .rename_i h;have e1:c=f:=r7.1 (by simpa using h);rw[io j];refine congrArg bz (fj fun k=>?_);unfold fE;simp only[bo,bF,bV,dy];grind
   .rw[Yc j I];refine congrArg bz (fj fun k=>?_);unfold Lt fE;simp only[bo,bF,bV,dy];grind
theorem wq (a9:Rz 2000000 a1) (V:Rz 160000 b1) (a6:Rz 2000000 a2) (a4:Rz 160000 b2) (I:Rz 160000 c) (W:Rz 2000000 p1) (b3:Rz 160000 q1) (a3:Rz 2000000 p2) (b6:Rz 160000 q2) (J:Rz 160000 r) (s1:Rz 160000 (a1-p1)) (s2:Rz 160000 (a2-p2)):cq 21 [.a ((cR a1++cR b1++cR a2++cR b2++cR c)),.a ((cR p1++cR q1++cR p2++cR q2++cR r))] [.c (.i .i64 (AP a1 b1 a2 b2 c p1 q1 p2 q2 r))]:=by
 have a5:Rz 160000 (zc b1 c):=gN I (by decide);have b4:Rz 160000 (zc b2 c):=gN I (by decide);have R:Rz 160000 (zc q1 r):=gN J (by decide);have b5:Rz 160000 (zc q2 r):=gN J (by decide);refine bE Tryz.func21 rfl<|cm 6 [] ?_;refine aw rfl nn ?_;refine aw rfl nn ?_;refine aw rfl (CC ‹_› ‹_› ‹_› ‹_› ‹_› ‹_› ‹_›) ?_;refine dg rfl (fun j=>?_) (fun j=>?_)
 .apply ae;rw[YS j];exact aj aa
 .apply cm 6 [];refine aw rfl rf ?_;refine aw rfl rf ?_;refine aw rfl (CC ‹_› ‹_› ‹_› ‹_› ‹_› ‹_› ‹_›)<|ae ?_;rw[VP j];exact aj aa
theorem IP (R:Rz 2000000 a1) (V:Rz 160000 b1) (J:Rz 2000000 a2) (I:Rz 160000 b2) (hc:Rz 160000 c) (W:Rz 2000000 p1) (a3:Rz 160000 q1) (a4:Rz 2000000 p2) (j:Rz 160000 q2) (hr:Rz 160000 r) (s1:Rz 160000 (a1-p1)) (s2:Rz 160000 (a2-p2)):cq 141 [.a ((cR a1++cR b1++cR a2++cR b2++cR c)),.a ((cR p1++cR q1++cR p2++cR q2++cR r))] [.c (.b (AP a1 b1 a2 b2 c p1 q1 p2 q2 r==0))]:=by apply bE Tryz.func141 rfl;refine ac rfl (wq ‹_› ‹_› ‹_› ‹_› ‹_› ‹_› ‹_› ‹_› ‹_› ‹_› ‹_› ‹_›) ?_;exact ae (aj aa)
theorem yv {x:Int}(h:0<x):0<bm x:=by
 have h1:=BL (x:=x) (by omega);have j:=fB x;by_cases e:bm x=0;·rw[e] at h1;omega
 .omega
theorem Rz.rt (h:Rz k c):Rz k (rt c):=Rz.of h.n.isq h.d.isq (by have:=yv (den_pos c);omega)
theorem Cf (h:jy c=true):cQ (if jy c then bm c.num else 0) (if jy c then bm (c.den:Int) else 0)=cR (rt c):=by have:=VL h;unfold dQ dR at this;injection this
def zR:List CellD:=[.b false,.s 0 [],.b false,.s 0 [],.b false,.s 0 [],.b false,.s 0 [],.b false,.s 0 [],.b false,.s 0 []]
theorem CU (V:Rz 1000000 a) (J:Rz 1000000 b) (R:Rz 1000000 c) (h0: ¬c<0) (hs:jy c=true):cq 31 [dR a,dR b,dR c] [.a ((cR (a+b*rt c)++cR 0++cR 0)),.c (.i .i64 0)]:=by
 have ka:Rz 6000000 a:=V.m_;have W:Rz 6000000 b:=J.m_;have kc:Rz 6000000 c:=R.m_;have kt:Rz 1000000 (rt c):=R.rt;refine bE Tryz.func31 rfl<|ac rfl b9 ?_;refine dg rfl (fun j=>?_) (fun j=>?_);·exact absurd (Il j) h0
 .refine ac rfl (sB (az R)) ?_;refine DW.mk<|aJ rfl (fun I=>?_) (fun I=>?_)
  .refine pG (σ':=⟨30,[(3,.p 3 0),(4,.p 4 0),(6,.p 6 0),(8,.p 8 0)],[(3,40,cR a),(4,40,cR b),(6,59,zR),(8,40,cR (rt c))]⟩) (au (bt rfl) ⟨rfl,rfl,rfl,by rw[<-Cf hs];rfl,trivial⟩ rfl)<|th ?_;apply cm 6 [];refine aw rfl (dw (az J) Qg) ?_;refine aw rfl (gW (az V) (az (al J ‹_›))) ?_;refine aw rfl oJ ?_;exact ae (aN gT rfl (aj aa))
  .exact absurd hs (by rw[I];decide)
theorem EO (I:Rz 50 a) (j:Rz 50 b) (J:Rz 50 c) (h0: ¬c<0) (hs:jy c=true):cq 31 [dR a,dR b,dR c] [.a ((cR (a+b*rt c)++cR 0++cR 0)),.c (.i .i64 0)]:=CU (I.mono (by decide)) (j.mono (by decide)) (J.mono (by decide)) h0 hs
theorem Dl (R:Rz 1000000 a) (V:Rz 1000000 b) (J:Rz 1000000 c) (h0: ¬c<0) (hs:jy c=false):cq 31 [dR a,dR b,dR c] [.a ((cR a++cR (rB b c)++cR (rC b c))),.c (.i .i64 0)]:=by
 have ka:Rz 6000000 a:=R.m_;have W:Rz 6000000 b:=V.m_;have kc:Rz 6000000 c:=J.m_;have kt:Rz 1000000 (rt c):=J.rt;refine bE Tryz.func31 rfl<|ac rfl b9 ?_;refine dg rfl (fun j=>?_) (fun j=>?_);·exact absurd (Il j) h0
 .refine ac rfl (sB (az J)) ?_;refine dg rfl (fun I=>?_) (fun I=>?_);·exact absurd I (by rw[hs];decide)
  .refine ac rfl sT ?_;exact ae (aN gT rfl (aj aa))
theorem ET (I:Rz 50 a) (j:Rz 50 b) (J:Rz 50 c) (h0: ¬c<0) (hs:jy c=false):cq 31 [dR a,dR b,dR c] [.a ((cR a++cR (rB b c)++cR (rC b c))),.c (.i .i64 0)]:=Dl (I.mono (by decide)) (j.mono (by decide)) (J.mono (by decide)) h0 hs
theorem C4 (j:Rz 6000000 c1) (W:Rz 6000000 c2) (J: ¬MT b1 c1 b2 c2):cq 227 [.a ((cR a1++cR b1++cR c1)),.a ((cR a2++cR b2++cR c2))] [.a ((cR a1++cR b1++cR a2++cR b2++cR (zcp b1 b2 (cc b1 c1 c2)))),.c (.i .i64 0)]:=by
 have a3:=j;refine dP Tryz.func227 39 [.cell 4 42,.tmp 5] rfl<|ab<|ag<|ab<|ag ?_;refine ab<|ab<|ag ?_;refine ac rfl bU ?_;refine aJ rfl (fun j=>?_) (fun j=>?_)
 .refine ag ?_;refine ab<|bN<|cZ 1 ?_;refine bj (jj (cR a1) br rfl) ?_;apply cZ 1;refine bj (jj (cR b1) br rfl)<|cZ 1 ?_;refine bj (jj (cR a2) br rfl)<|cZ 1 ?_;refine bj (jj (cR b2) br rfl)<|cZ 1 ?_;refine bj (am (us:=(cR a1++cR b1++cR a2++cR b2++cR c2)) D7 Bb rfl rfl rfl) ?_;refine bj (iW rfl tJ)<|gm<|aU ?_;rw[Bj (rb j)];exact ae (aN bb rfl (aj aa))
 .refine ab<|ag ?_;refine ac rfl bU ?_;refine iN (aY rfl) (fun c2 R=>?_);cases c2
  .refine ck rfl<|aA<|ab<|bN<|cZ 1<|bj (jj (cR a1) br rfl)<|cZ 1<|bj (jj (cR b1) br rfl)<|cZ 1<|bj (jj (cR a2) br rfl)<|cZ 1<|bj (jj (cR b2) br rfl)<|cZ 1<|bj (am D7 Bb rfl rfl rfl) ?_;refine bj (iW rfl tJ)<|gm<|aU ?_;rw[sS (n8 j)];exact ae (aN bb rfl (aj aa))
  .refine ac rfl (jG (az a3) (az W)) ?_;refine aJ rfl (fun I=>?_) (fun I=>?_);·exact absurd ⟨n8 j,JY R,JY I⟩ J
   .refine aA<|ab<|bN<|cZ 1<|bj (jj (cR a1) br rfl)<|cZ 1<|bj (jj (cR b1) br rfl)<|cZ 1<|bj (jj (cR a2) br rfl)<|cZ 1<|bj (jj (cR b2) br rfl)<|cZ 1<|bj (am D7 Bb rfl rfl rfl) ?_;refine bj (iW rfl tJ)<|gm<|aU ?_;rw[sS (n8 j)];exact ae (aN bb rfl (aj aa))
theorem LZ (a3:Rz 6000000 c1) (j:Rz 6000000 c2) (R: ¬MT b1 c1 b2 c2):cq 33 [.a ((cR a1++cR b1++cR c1)),.a ((cR a2++cR b2++cR c2))] [.a ((cR a1++cR b1++cR a2++cR b2++cR (zcp b1 b2 (cc b1 c1 c2)))),.c (.i .i64 0)]:=by
 refine bE Tryz.func33 rfl<|ac rfl b9 ?_;refine iN (aY rfl) (fun c1 a6=>?_);cases c1
 .refine ar (aY rfl)<|mL rfl<|ac rfl b9 ?_;refine dg rfl (fun j=>?_) (fun j=>?_)
  .refine ac rfl km ?_;apply ae;rw[Bj (rb j)];exact aN bb rfl (aj aa)
  .refine ac rfl km ?_;apply ae;rw[sS (n8 j)];exact aN bb rfl (aj aa)
 .refine ac rfl b9 ?_;refine iN (aY rfl) (fun c3 W=>?_);cases c3
  .refine mL rfl<|ac rfl b9 ?_;refine dg rfl (fun J=>?_) (fun J=>?_)
   .refine ac rfl km ?_;apply ae;rw[Bj (rb J)];exact aN bb rfl (aj aa)
   .refine ac rfl km ?_;apply ae;rw[sS (n8 J)];exact aN bb rfl (aj aa)
  .refine ac rfl (iG (az a3) (az j)) ?_;refine dg rfl (fun V=>?_) (fun V=>?_);·exact absurd ⟨JY a6,JY W,JY V⟩ R
   .refine ac rfl b9 ?_;refine dg rfl (fun I=>?_) (fun I=>?_)
    .refine ac rfl km ?_;apply ae;rw[Bj (rb I)];exact aN bb rfl (aj aa)
    .refine ac rfl km ?_;apply ae;rw[sS (n8 I)];exact aN bb rfl (aj aa)
theorem EW (I:Rz 300 c1) (J:Rz 300 c2) (j: ¬MT b1 c1 b2 c2):cq 33 [.a ((cR a1++cR b1++cR c1)),.a ((cR a2++cR b2++cR c2))] [.a ((cR a1++cR b1++cR a2++cR b2++cR (zcp b1 b2 (cc b1 c1 c2)))),.c (.i .i64 0)]:=LZ (I.mono (by decide)) (J.mono (by decide)) j
theorem aex {x:Rat}(h:(decide (-1000000000<x.num)&&(decide (x.num<1000000000)&&(decide ((x.den:Int)<1000000000)&&decide (1<=k))))=true):Rz k x:=by
 simp only[di,decide_eq_true_eq] at h;have h1:=nC h.2.2.2;have e:pw 1=1000000000:=by decide+kernel
 have j:=den_pos x;exact⟨⟨by omega,by omega⟩,⟨by omega,by omega⟩⟩
theorem Rz.zcp (h:Rz k c) (j:1<=k):Rz k (zcp b1 b2 c):=by
 unfold Go.Proofs.YtegeknjkgadehaaGreat.zcp;split;·exact iH j
 .exact h
theorem Rz.cc (h:Rz k c1) (j:Rz k c2):Rz k (cc b1 c1 c2):=by
 unfold Go.Proofs.YtegeknjkgadehaaGreat.cc;split;·exact j
 .exact h
theorem ye (h:xm b1 b2 c=true):0<=c:=by
 unfold xm at h;split at h;·grind
 grind
theorem lP (h:0<=c):0<=zc b c:=by unfold zc;split<;>grind
def y7 (a b c:Rat):Re:=fE a b (zc b c)
theorem pp {q:Rat}(j:0<=c) (I:0<=r):Bh a b c p q r=bz (y7 a b c-y7 p q r):=AA (lP j) (lP I)
theorem QX {q:Rat}(j:0<=c) (I:0<=r):tC a b (zc b c) p q (zc q r)=bz (y7 a b c-y7 p q r):=Nq (lP j) (lP I)
section
variable {a1 b1 a2 b2 c p1 q1 p2 q2 r:Rat}
theorem JH (j:0<=c) (I:0<=r):AP a1 b1 a2 b2 c p1 q1 p2 q2 r=nR a1 b1 a2 b2 c p1 q1 p2 q2 r:=by unfold AP nR;rw[QX j I,QX j I,pp j I,pp j I]
theorem AD (x y:Re):bz (y-x)= -bz (x-y):=by rw[<-fq];exact congrArg bz (fj fun k=>by simp only[bo,cr];grind)
theorem BZ (x:Re):bz (x-x)=0:=by have h:=AD x x;omega
theorem KR (j:0<=c) (I:0<=r):nR p1 q1 p2 q2 r a1 b1 a2 b2 c= -nR a1 b1 a2 b2 c p1 q1 p2 q2 r:=by unfold nR;rw[pp j I,pp j I,pp I j,pp I j,AD (y7 a1 b1 c),AD (y7 a2 b2 c)];grind
theorem LC (j:0<=c):nR a1 b1 a2 b2 c a1 b1 a2 b2 c=0:=by unfold nR;rw[pp j j,pp j j,BZ,BZ];simp
end
theorem Q1 (n:Int):Bw (n*n)=true:=by
 have h:bm (n*n)=(n.natAbs:Int):=by
  have e:(n.natAbs:Int)*(n.natAbs:Int)=n*n:=by grind
  refine qk ?_ (by omega) (by omega) ?_;·grind
  grind
 unfold Bw;grind
theorem Qc (x:Rat):jy (x*x)=true:=by
 have e:x*x=Rat.divInt (x.num*x.num) ((x.den:Int)*(x.den:Int)):=by
  conv=>lhs;rw[<-Rat.num_divInt_den x]
  exact Rat.divInt_mul_divInt _ _
 have J:=den_pos x;have V:Int.gcd (x.num*x.num) ((x.den:Int)*(x.den:Int))=1:=by have j:Nat.Coprime x.num.natAbs x.den:=x.reduced;show Nat.gcd (x.num*x.num).natAbs ((x.den:Int)*(x.den:Int)).natAbs=1;rw[Int.natAbs_mul,Int.natAbs_mul,Int.natAbs_natCast];exact(j.mul_left j).mul_right (j.mul_left j)
 have R:vQ (x.num*x.num) ((x.den:Int)*(x.den:Int))=true:=by unfold vQ;rw[V,decide_eq_true (Int.mul_pos J J)];rfl
 obtain⟨h1,I⟩:=TL R;rw[<-e] at h1 I;unfold jy;rw[h1,I,Q1,Q1];rfl
theorem Tq (hc:0<=c) (hv:b≠0->0<c/\jy c=false):s3 a b c=bz (fE a b c):=by
 rw[<-io hc];unfold s3 b8 p7;by_cases j:b=0
 .have h0:aG b 0=0:=r7.2 j;rw[if_pos (.inr h0),h0,nQ,if_pos (.inl rfl)]
 .obtain⟨hp,hs⟩:=hv j;have h1:aG c 0=1:=by unfold aG;rw[if_neg (by grind),if_pos hp]
  have h2:aG b 0≠0:=fun e=>j (r7.1 e);rw[h1,Int.mul_one];by_cases h3:aG a 0=aG b 0;·grind
  .have R: ¬(aG a 0=aG b 0\/aG b 0=0):=by omega
   have V: ¬(aG b 0=0\/aG a 0=aG b 0):=by omega
   rw[if_neg R,if_neg V];by_cases J:aG a 0=0;·grind
   .rw[if_neg J,if_neg J];have hn:a*a≠b*b*c:=by
     intro e;have W:c=(a/b)*(a/b):=by grind
     rw[W,Qc] at hs;grind
    have a1:=dH a 0;have b1:=dH b 0;by_cases I:0<a*a-b*b*c
    .have:aG (a*a) (b*b*c)=1:=by unfold aG;rw[if_neg (by grind),if_pos (by grind)]
     rw[if_pos I,this,Int.mul_one]
    .have:aG (a*a) (b*b*c)= -1:=by unfold aG;rw[if_pos (by grind)]
     rw[if_neg I,this];omega
theorem Dd (a b c:Rat):y7 a b c=Re.of a+Re.of b*Re.rt c:=by
 unfold y7 fE;by_cases h:b=0
 .subst h;exact fj fun k=>by simp only[bF,bV,dy];grind
 .rw[j6 h]
def MB (x y b1 b2 c:Rat):Rat:=x*x+y*y+(b1*b1+b2*b2)*c
def Pw (x y b1 b2:Rat):Rat:=(x*b1+y*b2)+(x*b1+y*b2)
theorem RT {x y:Rat}(j:xm b1 b2 c=true) (h:Pw x y b1 b2≠0):0<c/\jy c=false:=by
 have I: ¬(b1=0/\b2=0):=by rintro⟨rfl,rfl⟩;apply h;unfold Pw;grind
 unfold xm at j;grind
theorem ago:a*a+b*b*cc b (zc b c) (zc b c)=a*a+b*b*c:=by
 by_cases h:b=0;·grind
 .rw[sS h,j6 h]
theorem aeu (I:b≠0->c≠0):rB (a*b+b*a) (cc b (zc b c) (zc b c))=a*b+a*b:=by
 unfold rB;split
 .rename_i h;by_cases j:b=0;·grind
  .rw[sS j,j6 j] at h;rcases h with h|h;·grind
   grind
 grind
theorem afx (I:b≠0->c≠0):rC (a*b+b*a) (cc b (zc b c) (zc b c))=zc (a*b+a*b) c:=by
 have e:a*b+b*a=a*b+a*b:=by grind
 rw[e];unfold rC;by_cases j:b=0
 .subst j;rw[if_pos (.inl (by grind)),D6 (by grind)]
 .rw[sS j,j6 j];by_cases h:a*b+a*b=0;·rw[if_pos (.inl h),D6 h]
  .rw[if_neg (fun e=>e.elim h (I j)),j6 h]
theorem acj: ¬MT B1 (zc B1 c) B2 (zc B2 c):=by rintro⟨h1,I,j⟩;rw[j6 h1,j6 I] at j;exact j rfl
theorem aim (I:B1+B2≠0->c≠0):rB (B1+B2) (cc B1 (zc B1 c) (zc B2 c))=B1+B2:=by
 unfold rB;split
 .rename_i h;by_cases hs:B1+B2=0;·grind
  .exfalso;rcases h with h|h;·grind
   .by_cases h1:B1=0
    .rw[Bj h1] at h;have j:B2≠0:=by grind
     rw[j6 j] at h;grind
    .rw[sS h1,j6 h1] at h;exact I hs h
 .rfl
theorem aix (j:B1+B2≠0->c≠0):rC (B1+B2) (cc B1 (zc B1 c) (zc B2 c))=zc (B1+B2) c:=by
 unfold rC;by_cases hs:B1+B2=0;·rw[if_pos (.inl hs),D6 hs]
 .have e:cc B1 (zc B1 c) (zc B2 c)=c:=by
   by_cases h1:B1=0;·rw[Bj h1,j6 (fun e=>hs (by grind))]
   .rw[sS h1,j6 h1]
  rw[e,if_neg (fun e=>e.elim hs (j hs)),j6 hs]
theorem E1 (a v:Rat):a+ -v=a-v:=by grind
section
variable {P:Program}{f:FuncId}{ds rs:List D0}{x y z x' y' z':Rat}
theorem qT (h:Ok P f ds (.a (cR x++cR y++cR z)::rs)) (e1:x=x') (j:y=y') (I:z=z'):Ok P f ds (.a (cR x'++cR y'++cR z')::rs):=by subst e1 j I;exact h
end
theorem aej (x y b1 b2 c:Rat):(x*x+b1*b1*c)+(y*y+b2*b2*c)=MB x y b1 b2 c:=by unfold MB;grind
theorem Qa (x y b1 b2:Rat):(x*b1+x*b1)+(y*b2+y*b2)=Pw x y b1 b2:=by unfold Pw;grind
theorem aeC (h:xm b1 b2 c=true):(b1≠0->c≠0)/\(b2≠0->c≠0):=by
 have j: ¬(b1=0/\b2=0)->c≠0:=by unfold xm at h;grind
 grind
section
variable {P:Program}{eO:Array Oper}{T:TF}{B:BF}{av:Nat->Prop}{w0:Ent}{w:World}{N:Nat}{β:Nat->Nat}{a:Act}
theorem Rel.ren (h:Rel av w0 N T B β a w) {d:Nat}(a4:d<N) (hk:B k≠none) (hd:d=k\/B d=none):Rel av w0 N (nN k T) (fun l=>if l=d then B k else if l=k then none else B l) (fun l=>if l=d then β k else β l) a w:=by
 have hB: ∀l,(if l=d then B k else if l=k then none else B l)≠none->(l=d\/(l≠d/\l≠k/\B l≠none)):=by grind
 have I: ∀l,B l≠none->l≠k->l≠d:=by grind
 have hV:(fun b=>av b\/ ∃l,(if l=d then B k else if l=k then none else B l)≠none/\(if l=d then β k else β l)=b)=(fun b=>av b\/ ∃l,B l≠none/\β l=b):=by grind
 have hT: ∀t x,nN k T t=some x->x=.n\/(T t=some x/\jR x≠some k):=by intro t x W;unfold nN at W;grind
 refine⟨h.dfr,h.siz,h.bel,h.avl,h.avE,h.big,fun b hb hK=>?_,?_,?_,?_,?_⟩
 .have a3:w0.K≠d:=by have:=h.big;omega
  rcases hB _ hK with e|⟨_,_,e⟩
  .grind
  .rw[if_neg a3];exact h.fix b hb e
 .intro l m hl hm e
  rcases hB l hl with e1|⟨e1,e2,e3⟩<;>rcases hB m hm with f1|⟨f1,f2,f3⟩
  .grind
  .rw[if_pos e1,if_neg f1] at e
   exact absurd (h.inj k m hk f3 e).symm f2
  .rw[if_neg e1,if_pos f1] at e
   exact absurd (h.inj l k e3 hk e) e2
  .rw[if_neg e1,if_neg f1] at e
   exact h.inj l m e3 f3 e
 .intro l hl
  rcases hB l hl with e1|⟨e1,e2,e3⟩
  .rw[if_pos e1];exact h.own k hk
  .rw[if_neg e1];exact h.own l e3
 .intro t x l W hx
  rcases hT t x W with rfl|⟨h1,h2⟩
  .cases hx
  .have R:=h.wf t x l h1 hx
   grind
 .rw[hV]
  refine⟨h.sees.av,?_,?_⟩
  .intro l U cs hl
   have J:(if l=d then B k else if l=k then none else B l)=some (U,cs):=hl
   by_cases e:l=d
   .rw[if_pos e] at J
    rw[if_pos e];exact h.sees.box k U cs J
   .rw[if_neg e] at J
    rw[if_neg e]
    by_cases e2:l=k
    .grind
    .rw[if_neg e2] at J;exact h.sees.box l U cs J
  .intro t x hL W
   rcases hT t x W with rfl|⟨h1,h2⟩
   .unfold nN at W
    split at W
    .rename_i y hy
     obtain⟨v,e,_⟩:=h.sees.tmp t y hL hy
     exact⟨v,e,trivial⟩
    grind
   .obtain⟨v,e,j⟩:=h.sees.tmp t x hL h1
    refine⟨v,e,?_⟩
    cases x with
    |p l off=>
     have V:l≠k:=fun e=>h2 (by rw[e];rfl)
     show v=.pointer (some ⟨if l=d then β k else β l,off,none⟩)
     rw[if_neg (I l (h.wf t _ l h1 rfl) V)];exact j
    |o l n c=>
     have V:l≠k:=fun e=>h2 (by rw[e];rfl)
     show v=.slice (some ⟨if l=d then β k else β l,0,none⟩) n c
     rw[if_neg (I l (h.wf t _ l h1 rfl) V)];exact j
    |w l off n c=>
     have V:l≠k:=fun e=>h2 (by rw[e];rfl)
     show v=.slice (some ⟨if l=d then β k else β l,off,none⟩) n c
     rw[if_neg (I l (h.wf t _ l h1 rfl) V)];exact j
    |v d=>exact j
    |t ds=>exact j
    |q us=>exact j
    |u=>exact j
    |n=>trivial
    |z=>exact j
    |f n us=>exact j
    |tn l n c ds=>
     have R:=h.wf t _ l h1 rfl
     have V:l≠k:=fun e=>h2 (by rw[e];rfl)
     obtain⟨xs,e,h⟩:=j
     exact⟨xs,by show v=Value.tuple (Value.slice (some ⟨if l=d then β k else β l,0,none⟩) n c::xs).toArray;rw[if_neg (I l R V)];exact e,h⟩
    |oe l n c u=>
     have V:l≠k:=fun e=>h2 (by rw[e];rfl)
     exact⟨by show v=.slice (some ⟨if l=d then β k else β l,0,none⟩) n c;rw[if_neg (I l (h.wf t _ l h1 rfl) V)];exact j.1,j.2⟩
theorem Bo (a:Act) (d:Nat) (v v':Value):(a.put (some d) v).put (some d) v'=a.put (some d) v':=by simp[Act.put]
theorem Sr {x:DV}:(⟨N,(t,x)::jQ k tm,bx⟩:St).T=fun s=>if some t=some s then some x else nN k (fun s=>look s tm) s:=by
 funext s;show look s ((t,x)::jQ k tm)=_;rw[aW,lv];by_cases e:t=s;·grind
 .rw[if_neg e,if_neg (by simpa using e)];rfl
theorem SQ {x:TypeId×List CellD}:(⟨N,tm,(t,x)::jf k bx⟩:St).B=fun l=>if some t=some l then some x else if l=k then none else look l bx:=by funext s;show look s ((t,x)::jf k bx)=(if some t=some s then some x else if s=k then none else look s bx);rw[aW,j5];grind
theorem RO {z:Value}(R:zs.length=m) (W: ∀(V:Nat->Prop) (w:World),RdCs V w z.cells.toList zs) (r:Nat):∃eD:List CellD,eD.length=r*m/\ ∀(V:Nat->Prop) (w:World),RdCs V w (Builtin.zeroCells z.cells r).toList eD:=by
 have I:z.cells.size=m:=by have:=(W (fun _=>False) default).1;rw[R] at this;simpa using this
 have J: ∀(r:Nat) (V:Nat->Prop) (w:World),RdCs V w ((List.range (r*m)).map (fun j=>z.cells[j%z.cells.size]!)) (List.replicate r zs).flatten:=by
  intro r V w;induction r with
  |zero=>simp;exact qB
  |succ r ih=>
   rw[Nat.succ_mul,List.range_add,zO,List.replicate_succ',List.flatten_append];refine kP ih ?_;have e2:(List.map (fun x=>r*m+x) (List.range m)).map (fun j=>z.cells[j%z.cells.size]!)=z.cells.toList:=by apply Ai (by simp[I]);intro j h1 h2;simp at h1;simp only[List.getElem_map,Cu,I];rw[Nat.mul_comm r,Nat.mul_add_mod,Nat.mod_eq_of_lt (by omega),getElem!_pos z.cells j (by omega)];simp
   grind
 refine⟨(List.replicate r zs).flatten,?_,fun V w=>?_⟩
 .simp_all
 .have:=J r V w
  unfold Builtin.zeroCells
  simpa [I] using this
variable {tm:List (Nat×DV)}{bx:List (Nat×TypeId×List CellD)}
theorem F3 {c:Nat} (hU:uV P U=some (e,m,by_,zs)) (hx:cE (fun s=>look s tm) x=some (.o k n c)) (f3: ∀V β a w,Sees V (ek eO ⟨some t,.call ⟨.builtin .append,#[x,y],#[U,U]⟩,ty,pos,af,g⟩) (fun s=>look s tm) (fun l=>look l bx) β a w-> ∃er,Src P m U (a.eval y) q er w/\RdCs V w er ys) (hb:look k bx=some (e,cs)) (b5:cs.length=c*m) (g8:ys.length=q*m) (hm:0<m) (b7:n<=c) (f2:c<=maxLen) (g1:c<n+q->Builtin.nextslicecap (n+q) c*by_<=281474976710656) (g3:n+q<=maxLen) (e3:cs.take (n*m)=pre) (hd:t=k\/look t bx=none) (hg:gd eO ⟨some t,.call ⟨.builtin .append,#[x,y],#[U,U]⟩,ty,pos,af,g⟩ (fun s=>look s tm)=some true):Jd P eO ⟨some t,.call ⟨.builtin .append,#[x,y],#[U,U]⟩,ty,pos,af,g⟩ ⟨N,tm,bx⟩ (fun σ'=> ∃c' eD,n+q<=c'/\c'<=maxLen/\eD.length=(c'-(n+q))*m/\σ'=⟨N,(t,.o t (n+q) c')::jQ k tm,(t,e,pre++ys++eD)::jf k bx⟩):=by
 intro av w0 β a w hrel c8
 have hs:=Sees.of hrel.sees (L:=ek eO ⟨some t,.call ⟨.builtin .append,#[x,y],#[U,U]⟩,ty,pos,af,g⟩) (fun _ _=>trivial) (fun _ _ _ h=>h) (fun _ _ h=>h)
 refine⟨eK hs hg,?_⟩
 have e1:a.eval x=.slice (some ⟨β k,0,none⟩) n c:=ap hs (x:=x) (by simp[Op.operands,Call.operands]) hx
 obtain⟨er,I,c6⟩:=f3 _ _ _ _ hs
 obtain⟨hu,i,z,hi,hz,e9,e4,f4,e6⟩:=i5 hU
 obtain⟨g7,vs,ev,hr⟩:=hs.box k e cs hb
 subst e9
 have d7:(look k bx)≠none:=by rw[hb];simp
 have g6:n*i.size<=cs.length:=by rw[b5];exact nD _ b7
 have d4:vs.size=c*i.size:=by have:=hr.1;rw[b5] at this;simpa using this
 have b4:=hr.take (n*i.size)
 rw[e3] at b4
 have d6:(vs.toList.take (n*i.size)).length=n*i.size:=by rw[fF,Array.length_toList,d4];exact jh (nD _ b7)
 have ht:t<N:=c8 t rfl
 have d3:er.length=q*i.size:=I.newsLen
 unfold Gives
 by_cases R:n+q<=c
 ·--in place
  have c7:0+n*i.size+0+er.length<=vs.size:=by rw[d4,d3];have:=nD i.size R;rw[mS] at this;omega
  have d5:=run_storeCells_at P (β k) (0+n*i.size) e er 0 vs w ev c7 I.one
  simp only[dN,ru] at d5
  have a4:(Builtin.append_ #[U,U] ty #[.slice (some ⟨β k,0,none⟩) n c,a.eval y]).run P w=.ok (.slice (some ⟨β k,0,none⟩) (n+q) c) (w.setRow (β k) (vs.toList.take (n*i.size)++er++vs.toList.drop (n*i.size+er.length)).toArray):=by rcases I.kind with⟨e',hk⟩|hk<;>simp[Builtin.append_,run_underlying hu,sizeOf,typeInfo,hi,I.len,R,I.cells,Addr.add_lit,d5]
  have W:(execOp a.eval ⟨some t,.call ⟨.builtin .append,#[x,y],#[U,U]⟩,ty,pos,af,g⟩).run P w=.ok (.value (.slice (some ⟨β k,0,none⟩) (n+q) c)) (w.setRow (β k) (vs.toList.take (n*i.size)++er++vs.toList.drop (n*i.size+er.length)).toArray):=by simp only[execOp,resolve,invoke,builtin,fh,dA,ft,qe,lQ,qv,e1];rw[a4];rfl
  rw[W]
  have b3:((cs.drop (n*i.size+er.length))).length=(c-(n+q))*i.size:=by rw[jD,b5,d3,<-mS,<-Nat.sub_mul]
  refine⟨⟨N,(t,.o t (n+q) c)::jQ k tm,(t,e,pre++ys++cs.drop (n*i.size+er.length))::jf k bx⟩,fun l=>if l=t then β k else β l,⟨c,_,R,f2,b3,rfl⟩,rfl,?_⟩
  have c3:=hrel.ren (k:=k) (d:=t) (c8 t rfl) d7 hd
  have a6:=c3.store (k:=t) (U:=e) (cs0:=cs) (cs:=pre++ys++cs.drop (n*i.size+er.length)) (vs:=(vs.toList.take (n*i.size)++er++vs.toList.drop (n*i.size+er.length)).toArray)
   (w':=w.setRow (β k) (vs.toList.take (n*i.size)++er++vs.toList.drop (n*i.size+er.length)).toArray) (by rw[if_pos rfl];exact hb) (by rw[if_pos rfl];exact f7 ev) rfl rfl rfl ?_
  .have a3:=a6.value (d:=some t) (x:=.o t (n+q) c) (v:=.slice (some ⟨β k,0,none⟩) (n+q) c) (by intro s hs;injection hs with hs;subst hs;exact ht) (fe _ _) (by show _=Value.slice (some ⟨if t=t then β k else β t,0,none⟩) _ _;rw[if_pos rfl]) (by intro l hl;injection hl with hl;subst hl;rw[if_pos rfl];simp)
   refine a3.congr (fun s=>?_) (fun l=>?_)
   .rw[Sr];rfl
   .rw[SQ]
    show(if some t=some l then _ else _)=(if t=l then _ else if l=t then _ else _)
    by_cases e:t=l
    .rw[if_pos (by rw[e]),if_pos e]
    .rw[if_neg (show ¬some t=some l by simpa using e),if_neg e,if_neg (Ne.symm e)];rfl
  .have b6:RdCs (fun b=>av b\/ ∃k,look k bx≠none/\β k=b) w (vs.toList.take (n*i.size)++er++vs.toList.drop (n*i.size+er.length)) (pre++ys++cs.drop (n*i.size+er.length)):=(b4.append c6).append (hr.drop _)
   refine RdCs.keep (av:=fun b=>av b\/ ∃k,look k bx≠none/\β k=b) ⟨Nat.le_refl _,fun _ _ _=>rfl,?_⟩ b6
   rintro b _ (J|⟨l,hl,J⟩)
   .exact .inl J
   .try dsimp only at hl J
    by_cases e:l=t
    .rw[if_pos e] at J;exact .inr ⟨k,d7,J⟩
    .rw[if_neg e] at hl J
     by_cases e2:l=k
     .rw[if_pos e2] at hl;exact absurd rfl hl
     .rw[if_neg e2] at hl;exact .inr ⟨l,hl,J⟩
 ·--new memory
  have a5:c<n+q:=by omega
  have d2:(Builtin.firstCells i.size n (.slice (some ⟨β k,0,none⟩) n c)).run P w.drew=.ok (vs.toList.take (n*i.size)).toArray w.drew:=by
   have:=run_loadCells_list (P:=P) w.drew ⟨β k,0,none⟩ (vs.toList.take (n*i.size)) (fun j u hj=>by
    rw[fI,dN];show w.cell? _=_;rw[kS] at hj;split at hj;·rw[bR ev,<-hj];simp
    .cases hj)
   rw[d6] at this;exact this
  have a4:=run_append_grow_src (P:=P) (w:=w) U U ty e i z hu hi hz (some ⟨β k,0,none⟩) n c _ d2 (a.eval y) q er I a5 (by have:maxLen=9223372036854775807:=rfl;omega) (by rw[e4];exact g1 a5)
  generalize a9:grownCap w (n+q) c e=c' at a4
  have e5:n+q<=c':=by rw[<-a9];exact grownCap_ge _ _ _ _
  have g4:c'<=maxLen:=by rw[<-a9];exact grownCap_le_maxLen _ _ _ _ g3
  have W:(execOp a.eval ⟨some t,.call ⟨.builtin .append,#[x,y],#[U,U]⟩,ty,pos,af,g⟩).run P w=.ok (.value (.slice (some ⟨w.heap.size,0,none⟩) (n+q) c'))
   (w.drew.alloc (.cells ((vs.toList.take (n*i.size)++er).toArray++Builtin.zeroCells z.cells (c'-(n+q))) e)):=by
   simp only[execOp,resolve,invoke,builtin,fh,dA,ft,qe,lQ,qv,e1]
   rw[a4]
   rfl
  rw[W]
  have g5:=(hrel.drop k).drew
  obtain⟨eD,g2,g0⟩:=RO f4 e6 (c'-(n+q))
  have b6:RdCs (fun b=>av b\/ ∃l,(if l=k then none else look l bx)≠none/\β l=b) w.drew ((vs.toList.take (n*i.size)++er).toArray++Builtin.zeroCells z.cells (c'-(n+q))).toList (pre++ys++eD):=by have h0:RdCs (fun b=>av b\/ ∃k,look k bx≠none/\β k=b) w (vs.toList.take (n*i.size)++er) (pre++ys):=b4.append c6;have h1:=kP (RdCs.keep (av:=fun b=>av b\/ ∃k,look k bx≠none/\β k=b) (w:=w) (av':=fun b=>av b\/ ∃l,(if l=k then none else look l bx)≠none/\β l=b) (w':=w.drew) ⟨Nat.le_refl _,fun _ _ _=>rfl,fun b _ J=>J.imp id fun⟨l,hl,e⟩=>⟨l,fun h0=>by rw[h0] at hl;exact hl (by split<;>rfl),e⟩⟩ h0) (g0 (fun b=>av b\/ ∃l,(if l=k then none else look l bx)≠none/\β l=b) w.drew);simpa using h1
  have c5:=g5.box ht (by
   show(if t=k then none else look t bx)=none;rcases hd with hd|hd;·rw[if_pos hd]
   .rw[hd];split<;>rfl) (U:=e) (sl:=some c') b6
  refine⟨⟨N,(t,.o t (n+q) c')::jQ k tm,(t,e,pre++ys++eD)::jf k bx⟩,fun l=>if l=t then w.drew.heap.size else β l,⟨c',_,e5,g4,g2,rfl⟩,rfl,?_⟩
  have a3:=c5.value (d:=some t) (x:=.o t (n+q) c') (v:=.slice (some ⟨w.heap.size,0,none⟩) (n+q) c') (by intro s hs;injection hs with hs;subst hs;exact ht) (fe _ _) (by show _=Value.slice (some ⟨if t=t then w.drew.heap.size else β t,0,none⟩) _ _;rw[if_pos rfl];rfl) (by intro l hl;injection hl with hl;subst hl;rw[if_pos rfl];simp)
  rw[Bo] at a3
  refine a3.congr (fun s=>?_) (fun l=>?_)
  .rw[Sr]
   show(if some t=some s then _ else _)=(if some t=some s then _ else if some t=some s then _ else nN k _ s)
   by_cases e:some t=some s
   .rw[if_pos e,if_pos e]
   .rw[if_neg e,if_neg e,if_neg e];rfl
  .rw[SQ];rfl
theorem F6 {c:Nat} (hU:uV P U=some (e,m,by_,zs)) (hx:cE (fun s=>look s tm) x=some (.o k n c)) (a9: ∀V β a w,Sees V (ek eO ⟨some t,.call ⟨.builtin .append,#[x,y],#[U,U]⟩,ty,pos,af,g⟩) (fun s=>look s tm) (fun l=>look l bx) β a w-> ∃V',RdC V' w (a.eval y) (.s q ys)/\ ∀er,RdCs V' w er ys->RdCs V w er ys) (hb:look k bx=some (e,cs)) (a6:cs.length=c*m) (J:ys.length=q*m) (hm:0<m) (a4:n<=c) (a5:c<=maxLen) (j:(n+q)*by_<=140737488355328) (b3:n+q<=maxLen) (W:cs.take (n*m)=pre) (hd:t=k\/look t bx=none) (hg:gd eO ⟨some t,.call ⟨.builtin .append,#[x,y],#[U,U]⟩,ty,pos,af,g⟩ (fun s=>look s tm)=some true):Jd P eO ⟨some t,.call ⟨.builtin .append,#[x,y],#[U,U]⟩,ty,pos,af,g⟩ ⟨N,tm,bx⟩ (fun σ'=> ∃c' eD,n+q<=c'/\c'<=maxLen/\eD.length=(c'-(n+q))*m/\σ'=⟨N,(t,.o t (n+q) c')::jQ k tm,(t,e,pre++ys++eD)::jf k bx⟩):=
 F3 hU hx (fun V β a w hs=>by obtain⟨V',h2,I⟩:=a9 _ _ _ _ hs;obtain⟨er,a3,R⟩:=uG hU h2 J;exact⟨er,a3,I _ R⟩) hb a6 J hm a4 a5 (fun h=>growslice_fits h j) b3 W hd hg
theorem AS {c:Nat} (hU:uV P U=some (e,m,by_,zs)) (hx:cE (fun s=>look s tm) x=some (.o k n c)) (hy:cE (fun s=>look s tm) y=some (.v (.c (.s q ys)))) (hb:look k bx=some (e,cs)) (a3:cs.length=c*m) (R:ys.length=q*m) (hm:0<m) (J:n<=c) (W:c<=maxLen) (j:(n+q)*by_<=140737488355328) (a4:n+q<=maxLen) (I:cs.take (n*m)=pre) (hd:t=k\/look t bx=none) (hg:gd eO ⟨some t,.call ⟨.builtin .append,#[x,y],#[U,U]⟩,ty,pos,af,g⟩ (fun s=>look s tm)=some true):Jd P eO ⟨some t,.call ⟨.builtin .append,#[x,y],#[U,U]⟩,ty,pos,af,g⟩ ⟨N,tm,bx⟩ (fun σ'=> ∃c' eD,n+q<=c'/\c'<=maxLen/\eD.length=(c'-(n+q))*m/\σ'=⟨N,(t,.o t (n+q) c')::jQ k tm,(t,e,pre++ys++eD)::jf k bx⟩):=by exact F6 hU hx (fun V β a w hs=>⟨V,ap hs (by simp[Op.operands,Call.operands]) hy,fun _ h=>h⟩) hb a3 R hm J W j a4 I hd hg
theorem FE  (hU:uV P U=some (e,m,by_,zs)) (hx:cE (fun s=>look s tm) x=some .z) (hy:cE (fun s=>look s tm) y=some (.v (.c (.s q ys)))) (c6:ys.length=q*m) (hq:0<q) (J:q*by_<=140737488355328) (c8:q<=maxLen) (hd:look t bx=none) (hg:gd eO ⟨some t,.call ⟨.builtin .append,#[x,y],#[U,U]⟩,ty,pos,af,g⟩ (fun s=>look s tm)=some true):Jd P eO ⟨some t,.call ⟨.builtin .append,#[x,y],#[U,U]⟩,ty,pos,af,g⟩ ⟨N,tm,bx⟩ (fun σ'=> ∃c' eD,q<=c'/\c'<=maxLen/\eD.length=(c'-q)*m/\σ'=⟨N,(t,.o t q c')::tm,(t,e,ys++eD)::bx⟩):=by
 intro av w0 β a w hrel b3
 have hs:=Sees.of hrel.sees (L:=ek eO ⟨some t,.call ⟨.builtin .append,#[x,y],#[U,U]⟩,ty,pos,af,g⟩) (fun _ _=>trivial) (fun _ _ _ h=>h) (fun _ _ h=>h)
 refine⟨eK hs hg,?_⟩
 have e1:a.eval x=.slice none 0 0:=ap hs (by simp[Op.operands,Call.operands]) hx
 obtain⟨er,a4,c3⟩:=uG hU (ap hs (by simp[Op.operands,Call.operands]) hy) c6
 obtain⟨hu,i,z,hi,hz,c5,b4,a6,b7⟩:=i5 hU
 subst c5
 have ht:t<N:=b3 t rfl
 unfold Gives
 have a3:(Builtin.firstCells i.size 0 (.slice none 0 0)).run P w.drew=.ok ([]:List Value).toArray w.drew:=rfl
 have I:0<0+q:=by omega
 have j:=run_append_grow_src (w:=w) U U ty e i z hu hi hz none 0 0 _ a3 (a.eval y) q er a4 I (by have:maxLen=9223372036854775807:=rfl;omega) (growslice_fits I (by rw[b4,dN];exact J))
 rw[dN] at j
 generalize R:grownCap w q 0 e=c' at j
 have b5:q<=c':=by rw[<-R];exact grownCap_ge _ _ _ _
 have d2:c'<=maxLen:=by rw[<-R];exact grownCap_le_maxLen _ _ _ _ c8
 have W:(execOp a.eval ⟨some t,.call ⟨.builtin .append,#[x,y],#[U,U]⟩,ty,pos,af,g⟩).run P w=.ok (.value (.slice (some ⟨w.heap.size,0,none⟩) q c'))
  (w.drew.alloc (.cells (([]++er).toArray++Builtin.zeroCells z.cells (c'-q)) e)):=by
  simp only[execOp,resolve,invoke,builtin,fh,dA,ft,qe,lQ,qv,e1]
  rw[j]
  rfl
 rw[W]
 obtain⟨eD,b6,a9⟩:=RO a6 b7 (c'-q)
 have c7:RdCs (fun b=>av b\/ ∃k,look k bx≠none/\β k=b) w.drew (([]++er).toArray++Builtin.zeroCells z.cells (c'-q)).toList (ys++eD):=by have h1:RdCs (fun b=>av b\/ ∃k,look k bx≠none/\β k=b) w.drew (er++(Builtin.zeroCells z.cells (c'-q)).toList) (ys++eD):=kP (RdCs.keep (Keep.below (fe _ w).drew) c3) (a9 (fun b=>av b\/ ∃k,look k bx≠none/\β k=b) w.drew);grind
 refine⟨⟨N,(t,.o t q c')::tm,(t,e,ys++eD)::bx⟩,fun l=>if l=t then w.drew.heap.size else β l,⟨c',_,b5,d2,b6,rfl⟩,rfl,?_⟩
 have V:=(hrel.drew.box ht hd (U:=e) (sl:=some c') c7).value (d:=some t) (x:=.o t q c') (v:=.slice (some ⟨w.heap.size,0,none⟩) q c') (by intro s hs;injection hs with hs;subst hs;exact ht) (fe _ _) (by show _=Value.slice (some ⟨if t=t then w.drew.heap.size else β t,0,none⟩) _ _;rw[if_pos rfl];rfl) (by intro l hl;injection hl with hl;subst hl;rw[if_pos rfl];simp)
 rw[Bo] at V
 refine V.congr (fun s=>?_) (fun l=>?_)
 .show look s ((t,DV.o t q c')::tm)=(if some t=some s then _ else if some t=some s then _ else look s tm)
  rw[aW]
  grind
 .show look l ((t,e,ys++eD)::bx)=(if some t=some l then _ else look l bx)
  rw[aW]
  grind
variable {os:List Oper}{K:St->Prop}
theorem yU {c:Nat} (hU:uV P U=some (e,m,by_,zs)) (hx:cE (fun s=>look s tm) x=some (.o k n c)) (hy:cE (fun s=>look s tm) y=some (.v (.c (.s q ys)))) (hb:look k bx=some (e,us++eD)) (J:us.length=n*m) (hr:eD.length=(c-n)*m) (V:ys.length=q*m) (hm:0<m) (R:n<=c) (W:c<=maxLen) (I:(n+q)*by_<=140737488355328) (a3:n+q<=maxLen) (hd:t=k\/look t bx=none) (hg:gd eO ⟨some t,.call ⟨.builtin .append,#[x,y],#[U,U]⟩,ty,pos,af,g⟩ (fun s=>look s tm)=some true) (hk: ∀c' j,n+q<=c'->c'<=maxLen->j.length=(c'-(n+q))*m->dl P eO os ⟨N,(t,.o t (n+q) c')::jQ k tm,(t,e,us++ys++j)::jf k bx⟩ K):dl P eO (⟨some t,.call ⟨.builtin .append,#[x,y],#[U,U]⟩,ty,pos,af,g⟩::os) ⟨N,tm,bx⟩ K:=
 .inr ⟨_,AS (pre:=us) hU hx hy hb (by rw[dB,J,hr,<-mS];congr 1;omega) V hm R W I a3 (by rw[<-J];simp) hd hg,fun σ' ⟨c',j,h1,h2,h3,e⟩=>by subst e;exact hk c' j h1 h2 h3⟩
theorem u3  (hU:uV P U=some (e,m,by_,zs)) (W:cE (fun s=>look s tm) x=some .z) (hy:cE (fun s=>look s tm) y=some (.v (.c (.s q ys)))) (J:ys.length=q*m) (hq:0<q) (I:q*by_<=140737488355328) (R:q<=maxLen) (hd:look t bx=none) (hg:gd eO ⟨some t,.call ⟨.builtin .append,#[x,y],#[U,U]⟩,ty,pos,af,g⟩ (fun s=>look s tm)=some true) (hk: ∀c' j,q<=c'->c'<=maxLen->j.length=(c'-q)*m->dl P eO os ⟨N,(t,.o t q c')::tm,(t,e,ys++j)::bx⟩ K):dl P eO (⟨some t,.call ⟨.builtin .append,#[x,y],#[U,U]⟩,ty,pos,af,g⟩::os) ⟨N,tm,bx⟩ K:=
 .inr ⟨_,FE hU W hy J hq I R hd hg,fun σ' ⟨c',j,h1,V,h3,e⟩=>by subst e;exact hk c' j h1 V h3⟩
theorem my {T:TF}{B:BF}{dst:Option Nat} (j:gd eO ⟨dst,.assign (.const (.slice none 0 0)),ty,pos,af,g⟩ T=some true):Sem P eO ⟨dst,.assign (.const (.slice none 0 0)),ty,pos,af,g⟩ T B (.r .z):=
 bv j (fun k e=>by cases e) (fun V β a w hs=>⟨.slice none 0 0,rfl,rfl⟩)
theorem Tp {c:Code}(V:look t tm=some .z) (h:Dw P c ⟨N,(t,.v (.c (.s 0 [])))::tm,bx⟩ Q):Dw P c ⟨N,tm,bx⟩ Q:=fun av w0 β a w I=>by obtain⟨v,R,j⟩:=I.sees.tmp t _ trivial V;have j:v=.slice none 0 0:=j;subst j;refine h av w0 β a w ((I.upd (x:=.v (.c (.s 0 []))) R (.s0 _ _ (by decide)) rfl).congr (fun s=>?_) (fun _=>rfl));show look s ((t,.v (.c (.s 0 [])))::tm)=_;rw[aW];rfl
theorem TZ {ι:Type}{c:Code}{V:St}(I:ι->St) (J:ι->Nat) (M:Nat) (first:Dw P c V (Fl (fun σ'=> ∃j,Sub σ' (I j)/\J j<M) Q)) (round: ∀i,Dw P c (I i) (Fl (fun σ'=> ∃j,Sub σ' (I j)/\J j<J i) Q)):Dw P (.loop c) V Q:=fun av w0 β a w W=>by
 refine bK (ι:=Option ι) (fun i=>match i with|none=>V|some i=>I i) (fun i=>match i with|none=>M|some i=>J i) none ⟨rfl,fun _ _ h=>h,fun _ _ h=>h,W.wf⟩ (fun i=>?_) av w0 β a w W
 cases i with
 |none=>
  refine first.mono fun e σ' h=>?_
  cases e with
  |normal=>obtain⟨j,h1,R⟩:=h;exact⟨some j,h1,R⟩
  |_=>exact h
 |some i=>
  refine(round i).mono fun e σ' h=>?_
  cases e with
  |normal=>obtain⟨j,h1,R⟩:=h;exact⟨some j,h1,R⟩
  |_=>exact h
theorem qX {c:Nat}(h:us.length=n*m) (j:eD.length=(c-n)*m) (I:n<=c):(us++eD).length=c*m:=by rw[dB,h,j,<-mS];congr 1;omega
theorem mC (h:us.length=n*m):(us++eD).take (n*m)=us:=by rw[<-h];simp
theorem rJ (h:n<=1000000):n<=maxLen:=gG h (by decide)
end
inductive Wk:List CellD->List CellD->Prop
 |nil:Wk [] []
 |same {us us':List CellD}(u:CellD):Wk us us'->Wk (u::us) (u::us')
 |any {us us':List CellD}(u:CellD):Wk us us'->Wk (u::us) (.x::us')
theorem Wk.refl: ∀us:List CellD,Wk us us
 |[]=>.nil
 |u::us=>.same u (Wk.refl us)
theorem Wk.app {a b I:List CellD}(h:Wk a a') (g:Wk b I):Wk (a++b) (a'++I):=by
 induction h with
 |nil=>exact g
 |same u _ j=>exact .same u j
 |any u _ j=>exact .any u j
theorem Wk.len {a:List CellD}(h:Wk a a'):a.length=a'.length:=by
 induction h with
 |nil=>rfl
 |same u _ j=>simp[j]
 |any u _ j=>simp[j]
section
variable {av:Nat->Prop}{w:World}
theorem RdCs.wk (I:Wk us us'): ∀ {vs:List Value},RdCs av w vs us->RdCs av w vs us':=by
 induction I with
 |nil=>exact fun h=>h
 |same u _ j=>
  intro vs h;cases vs with
  |nil=>exact absurd h.1 (by simp)
  |cons v vs=>exact lG h.uncons.1 (j h.uncons.2)
 |any u _ j=>
  intro vs h;cases vs with
  |nil=>exact absurd h.1 (by simp)
  |cons v vs=>exact lG (.x v h.uncons.1.one.1 h.uncons.1.one.2) (j h.uncons.2)
theorem RdC.wks {v:Value}(J:Wk us us') (h:RdC av w v (.s n us)):RdC av w v (.s n us'):=by
 cases h with
 |s0 A c hc=>cases J;exact .s0 A c hc
 |s b off c sz n xs R h0 h1 h2 h3 h4 h5 h6 h7=>
  refine .s b off c sz n us' R h0 h1 h2 (J.len▸h3) h4 h5 h6 fun j u I=>?_;have hj:j<us.length:=by rw[J.len];exact(fM.1 I).1
  have V:RdCs av w ((List.range us.length).map R) us':=RdCs.wk J ⟨by simp,fun i v u W I=>by simp only[pU] at W;have hi:i<us.length:=(fM.1 I).1;rw[List.getElem?_range hi] at W;cases W;exact h7 i u I⟩
  exact V.2 j (R j) u (by simp only[pU];rw[List.getElem?_range hj];rfl) I
end
section
variable {P:Program}{f:FuncId}{ds:List D0}{us us':List CellD}
theorem Ok.wks (h:Ok P f ds [.c (.s n us)]) (I:Wk us us'):Ok P f ds [.c (.s n us')]:=⟨h.cal,fun av vs w j J=>(h.run av vs w j J).mono fun _e _w' ⟨v,W,R,V⟩=>⟨v,W,RdC.wks I R,V⟩⟩
theorem Ok.wk2 {d:D0}(h:Ok P f ds [.a us,d]) (V:Wk us us'):Ok P f ds [.a us',d]:=⟨h.cal,fun av vs w J W=>(h.run av vs w J W).mono fun e w' ⟨v,he,I,hb⟩=>⟨v,he,by
 obtain⟨vs,e,g⟩:=I;refine⟨vs,e,g.1,fun j v d I R=>?_⟩;cases j with
 |zero=>cases R;obtain⟨cs,e2,g2⟩:=g.2 0 v _ I rfl;exact⟨cs,e2,RdCs.wk V g2⟩
 |succ j=>exact g.2 (j+1) v d I R,hb⟩⟩
end
end Go.Proofs.YtegeknjkgadehaaGreat
