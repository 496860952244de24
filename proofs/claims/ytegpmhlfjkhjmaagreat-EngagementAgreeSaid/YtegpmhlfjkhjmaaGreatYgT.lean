/-Plain:two curves of the law's list have no common point inside of both. -/
import Derived.Test.YtegpmhlfjkhjmaaGreatYgS
namespace Go.Proofs.YtegpmhlfjkhjmaaGreat
open Go Go.RowKit
variable {P Q m n p q:Int}{K h k ka kb km:Nat}{B C M N U V a b c d e t w x y z:Rat}{S S':Rat→Prop}{X Y u u' v:Re}
theorem s6:type_of% @Rat.mul_one:=@Rat.mul_one
theorem xx:type_of% @Rat.mul_lt_mul_of_pos_right:=@Rat.mul_lt_mul_of_pos_right
theorem xh:type_of% @Rat.mul_le_mul_of_nonneg_left:=@Rat.mul_le_mul_of_nonneg_left
theorem iB {U:Re}(hX:0≤aO X) (h:ck Y U):ck (X*Y) (X*U):=by
 unfold ck at*
 rw[show X*U-X*Y=X*(U-Y) from ba fun k=>by simp only[ao,aD];grind,bj]
 exact fK hX h
theorem jL {x y z:Re}(h:aO (y-z)=0) (g:ck x y):ck x z:=by
 unfold ck at*
 rw[←dC (x:=y-x) (y:=z-x) (by rw[show y-x-(z-x)=y-z from ba fun k=>by simp only[ao];grind];exact h)]
 grind
theorem Q8 {x y:Re}(h:ck x y):ck (-y) (-x):=by
 unfold ck at*
 rw[show-x- -y=y-x from ba fun k=>by simp only[ao,bg];grind];exact h
theorem gh (x:Re):ck x x:=by
 unfold ck
 have h:aO (Re.of 0)=0:=by rw[ca];decide
 rw[show x-x=Re.of 0 from ba fun k=>by simp only[ao,aV];grind,h];exact pP _
theorem Lg {W:Re}(hX:aO X=1) (hw:aO (X*Y-W)=0) (hU1:ck Y (Re.of U)) (hU2:ck (-Y) (Re.of U)) (he:ck (Re.of e) W∨ck (Re.of e) (-W)):ck (Re.of e) (Re.of U*X):=by
 have hc:Re.of U*X=X*Re.of U:=ba fun k=>by simp only[aD];grind
 rw[hc]
 rcases he with he|he
 ·have h1:aO (W-X*Y)=0:=by rw[show W-X*Y= -(X*Y-W) from ba fun k=>by simp only[ao,bg];grind,b8,hw];rfl
  exact dW (jL h1 he) (iB (by omega) hU1)
 ·have h1:aO (-W-X* -Y)=0:=by rw[show-W-X* -Y=X*Y-W from ba fun k=>by simp only[ao,bg,aD];grind];exact hw
  exact dW (jL h1 he) (iB (by omega) hU2)
theorem Jc (h:Rz k x) (hx:0<x):1/((pw k:Int):Rat)≤x:=by
 have hp:=cH k
 have hpr:(0:Rat)<((pw k:Int):Rat):=iv.2 hp
 apply fH
 intro hn
 have h1:=xx (show x<1/((pw k:Int):Rat) by grind) hpr
 have hd:=den_pos x
 have hdr:(0:Rat)<((x.den:Int):Rat):=iv.2 hd
 have h2:((x.den:Int):Rat)≤((pw k:Int):Rat):=ef.2 (by obtain⟨g1,g2⟩:=h.d;omega)
 have h3:=xh h2 (show 0≤x by grind)
 rw[tN] at h3
 have h0:0<x.num:=by
  have:=cY hx hdr
  rw[tN] at this
  exact iv.1 (show((0:Int):Rat)<((x.num:Int):Rat) from this)
 have h4:((1:Int):Rat)≤((x.num:Int):Rat):=ef.2 (by omega)
 grind
theorem yx (h:Rz k x):x≤((pw k:Int):Rat)∧ -((pw k:Int):Rat)≤x:=by
 have hd:=den_pos x
 have hdr:((1:Int):Rat)≤((x.den:Int):Rat):=ef.2 (by omega)
 have hn1:((x.num:Int):Rat)≤((pw k:Int):Rat):=ef.2 (by obtain⟨g1,g2⟩:=h.n;omega)
 have hn2:((-(pw k):Int):Rat)≤((x.num:Int):Rat):=ef.2 (by obtain⟨g1,g2⟩:=h.n;omega)
 have e:=tN x
 constructor
 ·apply fH
  intro hn
  have h1:=xh hdr (show 0≤x by grind)
  grind
 ·apply fH
  intro hn
  have h1:=xh hdr (show 0≤ -x by grind)
  grind
theorem ZE (h:0≤M):ck (Re.rt M) (Re.of (M+1)):=by
 refine pG (uk M) (by rw[ca];exact jJ (by grind)) ?_
 have e:aO (Re.of (M+1)*Re.of (M+1)-Re.rt M*Re.rt M)=aO (Re.of ((M+1)*(M+1)-M)):=dC (by
  rw[show Re.of (M+1)*Re.of (M+1)-Re.rt M*Re.rt M-Re.of ((M+1)*(M+1)-M)= -(Re.rt M*Re.rt M-Re.of M) from ba fun k=>by simp only[ao,aD,aV,bg];grind,b8,my h];rfl)
 rw[e,ca]
 exact jJ (by have:=f7 h h;grind)
theorem IB (h:0≤M) (h1:b*(M+1)≤V) (h0:0≤V):ck (Re.of b*Re.rt M) (Re.of V):=by
 by_cases hb:0≤b
 ·have:=iB (X:=Re.of b) (by rw[ca];exact jJ hb) (ZE h)
  exact dW this (by rw[gg];exact of_le h1)
 ·have h2:ck (Re.of b*Re.rt M) (Re.of 0):=by
   unfold ck
   rw[show Re.of 0-Re.of b*Re.rt M=Re.of (-b)*Re.rt M from ba fun k=>by simp only[ao,aD,aV];grind,bj]
   exact fK (by rw[ca];exact jJ (by grind)) (uk M)
  exact dW h2 (of_le h0)
theorem JH (h:0≤M) (h1:b*(M+1)≤U-a) (h0:a≤U):ck (am a b M) (Re.of U):=by
 have:=IB (b:=b) h h1 (by grind)
 have h2:=eB (gh (Re.of a)) this
 unfold am
 refine dW h2 ?_
 rw[show Re.of a+Re.of (U-a)=Re.of U from ba fun k=>by simp only[aI,aV];grind]
 exact gh _
theorem Mf (h:0≤M):aO (am a b M*am a (-b) M-Re.of (a*a-b*b*M))=0:=by
 rw[show am a b M*am a (-b) M-Re.of (a*a-b*b*M)=Re.of (-(b*b))*(Re.rt M*Re.rt M-Re.of M) from ba fun k=>by simp only[am,ao,aD,aV,aI];grind,bj,my h,og]
theorem jg (a b M:Rat):am (-a) (-b) M= -(am a b M):=ba fun k=>by simp only[am,aI,aD,aV,bg];grind
theorem D6 (a b:Nat):((pw (a+b):Int):Rat)=((pw a:Int):Rat)*((pw b:Int):Rat):=by rw[←fE,pf]
theorem oI (k:Nat):(0:Rat)<((pw k:Int):Rat):=iv.2 (cH k)
theorem ET (k:Nat):(1:Rat)≤((pw k:Int):Rat):=by
 have h:((1:Int):Rat)≤((pw k:Int):Rat):=ef.2 (by have:=cH k;omega)
 grind
theorem Ni (h1:b≤B) (h2: -B≤b) (c0:0≤c) (c1:c≤C):b*c≤B*C∧ -(B*C)≤b*c:=by
 have g1:b*c≤B*c:=rQ h1 c0
 have g2:B*c≤B*C:=xh c1 (by grind)
 have g3: -B*c≤b*c:=rQ h2 c0
 grind
theorem Eu (ha:Rz ka a) (hb:Rz kb b) (hm:Rz km M) (h0:0≤M) (hU:((pw ka:Int):Rat)+((pw kb:Int):Rat)*(((pw km:Int):Rat)+1)≤U):ck (am a b M) (Re.of U)∧ck (-(am a b M)) (Re.of U):=by
 obtain⟨a1,a2⟩:=yx ha
 obtain⟨b1,b2⟩:=yx hb
 obtain⟨m1,_⟩:=yx hm
 obtain⟨g1,g2⟩:=Ni (c:=M+1) (C:=((pw km:Int):Rat)+1) b1 b2 (by grind) (by grind)
 refine⟨JH h0 (by grind) (by grind),?_⟩
 rw[←jg]
 exact JH h0 (by grind) (by grind)
theorem Xr (hx:0<x) (h:x≤y):1/y≤1/x:=by
 apply fH
 intro hn
 have h0:0<1/y:=by
  apply fH
  intro hc
  have:=rQ (show 1/y≤0 by grind) (show 0≤y by grind)
  grind
 have h1:=xx (show 1/x<1/y by grind) hx
 have h2:=xh h (show 0≤1/y by grind)
 grind
theorem Xe (h:0<a):a≤2*a:=by grind
theorem M2 (h:x<0):0< -x:=by grind
theorem Sk (h:0<2*a):0<a:=by grind
theorem K9 (h:0≤c):0≤c+1:=by grind
theorem SB (h:c≤d):c+1≤d+1:=by grind
theorem R8 (h: -y≤x): -x≤y:=by grind
theorem Ro (h:aw x 0=1):0<x:=by
 unfold aw at h
 split at h
 ·cases h
 grind
theorem yY (h:0<x):0≤x:=by grind
theorem Xk (h:x≠0):x<0∨0<x:=by grind
theorem D5 (h:aO u=0) (g:aO v=0):aO (u+v)=0:=by
 rw[dC (x:=u+v) (y:=v) (by rw[show u+v-v=u from ba fun k=>by simp only[ao,aI];grind];exact h)]
 grind
theorem R7 (a b:Nat):1/((pw (a+b):Int):Rat)*((pw b:Int):Rat)=1/((pw a:Int):Rat):=by
 have h2:=oI b
 rw[D6]
 grind
theorem Ko {a b:Nat}(h:ck (Re.of (1/((pw a:Int):Rat))) (Re.of ((pw b:Int):Rat)*X)):ck (Re.of (1/((pw (a+b):Int):Rat))) X:=by
 refine rU (oI b) ?_
 rw[gg,Rat.mul_comm,R7]
 grind
theorem Jd {a b:Nat}(h:a≤b):1/((pw b:Int):Rat)≤1/((pw a:Int):Rat):=Xr (oI a) (ef.2 (lq h))
theorem pw1:((pw 1:Int):Rat)=1000000000:=by
 have:pw 1=1000000000:=by decide+kernel
 rw[this];rfl
theorem E2 (ka kb km:Nat):((pw ka:Int):Rat)+((pw kb:Int):Rat)*(((pw km:Int):Rat)+1)≤((pw (ka+kb+km+1):Int):Rat):=by
 rw[D6,D6,D6,pw1]
 have a:=ET ka
 have b:=ET kb
 have m:=ET km
 generalize ((pw ka:Int):Rat)=x at*
 generalize ((pw kb:Int):Rat)=y at*
 generalize ((pw km:Int):Rat)=z at*
 have h1:=xh b (show 0≤x by grind)
 have h2:=xh m (show 0≤x*y by grind)
 have h3:=rQ a (show 0≤y by grind)
 have h4:=rQ h3 (show 0≤z by grind)
 grind
def K2 (ka kb km:Nat):Nat:=(ka+ka+(kb+kb+km)+1)+(ka+kb+km+1)
theorem Qx (ha:Rz ka a) (hb:Rz kb b) (hm:Rz km M) (h0:0≤M) (hX:aO (am a b M)=1):ck (Re.of (1/((pw (K2 ka kb km):Int):Rat))) (am a b M):=by
 have hr:Rz (ka+ka+(kb+kb+km)+1) (a*a-b*b*M):=(ha.mul ha).sub ((hb.mul hb).mul hm)
 obtain⟨u1,u2⟩:=Eu ha hb.neg hm h0 (E2 ka kb km)
 have hc:=Mf (a:=a) (b:=b) h0
 by_cases hz:a*a-b*b*M=0
 ·--the conjugate is 0
  have hY:aO (am a (-b) M)=0:=by
   have h1:aO (am a b M*am a (-b) M)=0:=by
    rw[dC hc,ca,hz];decide
   rw[bj,hX,oi] at h1
   grind
  have h2:aO (am a b M-Re.of (2*a))=0:=by
   rw[show am a b M-Re.of (2*a)= -(am a (-b) M) from ba fun k=>by simp only[am,ao,aI,aD,aV,bg];grind,b8,hY];rfl
  have h3:aO (Re.of (2*a))=1:=by rw[←dC h2];exact hX
  have ha0:0<a:=Sk (Ro (by rw[←ca];exact h3))
  have h4:=Jc ha ha0
  have h5:=Jd (a:=ka) (b:=K2 ka kb km) (by unfold K2;omega)
  have h6:ck (Re.of (1/((pw (K2 ka kb km):Int):Rat))) (Re.of (2*a)):=of_le (Rat.le_trans h5 (Rat.le_trans h4 (Xe ha0)))
  refine jL ?_ h6
  rw[show Re.of (2*a)-am a b M= -(am a b M-Re.of (2*a)) from ba fun k=>by simp only[ao,bg];grind,b8,h2];rfl
 ·refine Ko (Lg hX hc u1 u2 ?_)
  rcases Xk hz with h|h
  ·right
   rw[show-Re.of (a*a-b*b*M)=Re.of (-(a*a-b*b*M)) from ba fun k=>by simp only[bg,aV]]
   exact of_le (Jc hr.neg (M2 h))
  ·left
   exact of_le (Jc hr h)
theorem abu (ha:Rz ka a) (hb:Rz kb b) (hm:Rz km M) (h0:0≤M) (hX:aO (am a b M)≠0):ck (Re.of (1/((pw (K2 ka kb km):Int):Rat))) (am a b M)∨ck (Re.of (1/((pw (K2 ka kb km):Int):Rat))) (-(am a b M)):=by
 rcases bp (am a b M) with h|h|h
 ·exact .inl (Qx ha hb hm h0 h)
 ·grind
 ·right
  rw[←jg]
  exact Qx ha.neg hb.neg hm h0 (by rw[jg,b8,h];rfl)
def K4 (kA kB kC kM kN:Nat):Nat:=K2 (kA+kA+(kB+kB+kM)+1+(kC+kC+kN)+1) (1+(kA+kB)) kM+(kA+kB+kM+1+kC+kN+1)
theorem S2 (kA kB kC kM kN:Nat):((pw (kA+kB+kM+1):Int):Rat)+((pw kC:Int):Rat)*(((pw kN:Int):Rat)+1)≤((pw (kA+kB+kM+1+kC+kN+1):Int):Rat):=E2 _ kC kN
theorem aa0 {kA kB kC kM kN:Nat}{A:Rat}(hA:Rz kA A) (hB:Rz kB B) (hC:Rz kC C) (hM:Rz kM M) (hN:Rz kN N) (m0:0≤M) (n0:0≤N) (hX:aO (jo A B C 0 M N)=1):ck (Re.of (1/((pw (K4 kA kB kC kM kN):Int):Rat))) (jo A B C 0 M N):=by
 have two:Rz 1 (2:Rat):=n6 (by decide+kernel)
 have hw1:Rz (kA+kA+(kB+kB+kM)+1+(kC+kC+kN)+1) (A*A+B*B*M-C*C*N):=((hA.mul hA).add ((hB.mul hB).mul hM)).sub ((hC.mul hC).mul hN)
 have hw2:Rz (1+(kA+kB)) (2*(A*B)):=two.mul (hA.mul hB)
 have hconj:aO (jo A B C 0 M N*jo A B (-C) 0 M N-am (A*A+B*B*M-C*C*N) (2*(A*B)) M)=0:=by
  rw[show jo A B C 0 M N*jo A B (-C) 0 M N-am (A*A+B*B*M-C*C*N) (2*(A*B)) M=Re.of (B*B)*(Re.rt M*Re.rt M-Re.of M)+Re.of (-(C*C))*(Re.rt N*Re.rt N-Re.of N) from ba fun k=>by simp only[jo,am,ao,aD,aV,aI];grind]
  refine D5 ?_ ?_
  ·rw[bj,my m0,og]
  ·rw[bj,my n0,og]
 have hP:=E2 kA kB kM
 obtain⟨u1,u2⟩:=Eu hA hB hM m0 hP
 obtain⟨c1,c2⟩:=yx hC
 obtain⟨k1,_⟩:=yx hN
 obtain⟨g1,g2⟩:=Ni (c:=N+1) (C:=((pw kN:Int):Rat)+1) c1 c2 (K9 n0) (SB k1)
 have hQ0:=f7 (yY (oI kC)) (K9 (yY (oI kN)))
 have v1:ck (Re.of C*Re.rt N) (Re.of (((pw kC:Int):Rat)*(((pw kN:Int):Rat)+1))):=IB n0 g1 hQ0
 have v2:ck (Re.of (-C)*Re.rt N) (Re.of (((pw kC:Int):Rat)*(((pw kN:Int):Rat)+1))):=IB n0 (by rw[Rat.neg_mul];exact R8 g2) hQ0
 have hS:=of_le (S2 kA kB kC kM kN)
 have up1:ck (jo A B (-C) 0 M N) (Re.of ((pw (kA+kB+kM+1+kC+kN+1):Int):Rat)):=by
  refine dW ?_ hS
  have:=eB u1 v2
  rw[show jo A B (-C) 0 M N=am A B M+Re.of (-C)*Re.rt N from ba fun k=>by simp only[jo,am,aD,aV,aI];grind,
   show Re.of (((pw (kA+kB+kM+1):Int):Rat)+((pw kC:Int):Rat)*(((pw kN:Int):Rat)+1))=Re.of ((pw (kA+kB+kM+1):Int):Rat)+Re.of (((pw kC:Int):Rat)*(((pw kN:Int):Rat)+1)) from ba fun k=>by simp only[aV,aI]]
  grind
 have up2:ck (-(jo A B (-C) 0 M N)) (Re.of ((pw (kA+kB+kM+1+kC+kN+1):Int):Rat)):=by
  refine dW ?_ hS
  have:=eB u2 v1
  rw[show-(jo A B (-C) 0 M N)= -(am A B M)+Re.of C*Re.rt N from ba fun k=>by simp only[jo,am,aD,aV,aI,bg];grind,
   show Re.of (((pw (kA+kB+kM+1):Int):Rat)+((pw kC:Int):Rat)*(((pw kN:Int):Rat)+1))=Re.of ((pw (kA+kB+kM+1):Int):Rat)+Re.of (((pw kC:Int):Rat)*(((pw kN:Int):Rat)+1)) from ba fun k=>by simp only[aV,aI]]
  grind
 by_cases hz:aO (am (A*A+B*B*M-C*C*N) (2*(A*B)) M)=0
 ·have hY:aO (jo A B (-C) 0 M N)=0:=by
   have h1:aO (jo A B C 0 M N*jo A B (-C) 0 M N)=0:=by rw[dC hconj];exact hz
   rw[bj,hX,oi] at h1
   grind
  have h2:aO (jo A B C 0 M N-Re.of 2*am A B M)=0:=by
   rw[show jo A B C 0 M N-Re.of 2*am A B M= -(jo A B (-C) 0 M N) from ba fun k=>by simp only[jo,am,ao,aI,aD,aV,bg];grind,b8,hY];rfl
  have h3:aO (am A B M)=1:=by
   have h4:=dC h2
   rw[hX,bj,ca,show aw 2 0=1 from by decide,oi] at h4
   grind
  have h4:=Qx hA hB hM m0 h3
  have h5:ck (am A B M) (Re.of 2*am A B M):=by
   unfold ck
   rw[show Re.of 2*am A B M-am A B M=am A B M from ba fun k=>by simp only[ao,aD,aV];grind,h3];decide
  have h6:ck (Re.of (1/((pw (K4 kA kB kC kM kN):Int):Rat))) (am A B M):=dW (of_le (Jd (by unfold K4 K2;omega))) h4
  refine jL ?_ (dW h6 h5)
  rw[show Re.of 2*am A B M-jo A B C 0 M N= -(jo A B C 0 M N-Re.of 2*am A B M) from ba fun k=>by simp only[ao,bg];grind,b8,h2];rfl
 ·exact Ko (Lg hX hconj up1 up2 (abu hw1 hw2 hM m0 hz))
structure Mob (A0 B0 C:Rat) (p q r s:Int) (A B:Rat):Prop where
 e1:((p:Rat)-(r:Rat)*A0)*A-(r:Rat)*B0*B*C=(s:Rat)*A0-(q:Rat)
 e2:((p:Rat)-(r:Rat)*A0)*B-(r:Rat)*B0*A=(s:Rat)*B0
 det:p*s-q*r=1∨p*s-q*r= -1
section
variable {A0 B0 C A B:Rat}{p q r s:Int}
theorem Mob.init (A0 B0 C:Rat):Mob A0 B0 C 1 0 0 1 A0 B0:=by
 refine⟨?_,?_,.inl (by decide)⟩
 ·grind
 grind
theorem Mob.shift (h:Mob A0 B0 C p q r s A B) (n:Int):Mob A0 B0 C p (p*n+q) r (r*n+s) (A-(n:Rat)) B:=by
 obtain⟨e1,e2,hd⟩:=h
 refine⟨?_,?_,?_⟩
 ·grind
 ·grind
 grind
theorem Mob.inv (h:Mob A0 B0 C p q r s A B) (hw:(A*A-B*B*C)*w=1):Mob A0 B0 C q p s r (A*w) (-B*w):=by
 obtain⟨e1,e2,hd⟩:=h
 refine⟨?_,?_,?_⟩
 ·grind
 ·grind
 grind
theorem Mob.sol (h:Mob A0 B0 C p q r s A B):A*(((p:Rat)-(r:Rat)*A0)*((p:Rat)-(r:Rat)*A0)-(r:Rat)*(r:Rat)*(B0*B0*C))=((s:Rat)*A0-(q:Rat))*((p:Rat)-(r:Rat)*A0)+(s:Rat)*(r:Rat)*(B0*B0*C)∧
 B*(((p:Rat)-(r:Rat)*A0)*((p:Rat)-(r:Rat)*A0)-(r:Rat)*(r:Rat)*(B0*B0*C))=B0*((p*s-q*r:Int):Rat):=by
 obtain⟨e1,e2,hd⟩:=h
 grind
theorem Mob.ne (h:Mob A0 B0 C p q r s A B) (_hv:B0≠0→0<C∧iC C=false):((p:Rat)-(r:Rat)*A0)*((p:Rat)-(r:Rat)*A0)-(r:Rat)*(r:Rat)*(B0*B0*C)≠0:=by
 obtain⟨e1,e2,hd⟩:=h
 have hdr:((p*s-q*r:Int):Rat)≠0:=by
  rcases hd with hd|hd<;>rw[hd]<;>decide
 by_cases hb:B0=0
 ·grind
 grind
theorem Mob.sz (h:Mob A0 B0 C p q r s A B) (hv:B0≠0→0<C∧iC C=false) {m kp kq kr ks:Nat}(hA:Rz m A0) (hB:Rz m B0) (hC:Rz m C) (hp:Rz kp (p:Rat)) (hq:Rz kq (q:Rat)) (hr:Rz kr (r:Rat)) (hs:Rz ks (s:Rat)):
 Rz (((ks+m+kq+1)+(kp+(kr+m)+1)+(ks+kr+(m+m+m))+1)+((kp+(kr+m)+1)+(kp+(kr+m)+1)+(kr+kr+(m+m+m))+1)) A∧Rz ((m+1)+((kp+(kr+m)+1)+(kp+(kr+m)+1)+(kr+kr+(m+m+m))+1)) B:=by
 have hne:=h.ne hv
 obtain⟨s1,s2⟩:=h.sol
 have hd:=h.det
 have z1:=hp.sub (hr.mul hA)
 have z2:=(z1.mul z1).sub ((hr.mul hr).mul ((hB.mul hB).mul hC))
 have z3:=(((hs.mul hA).sub hq).mul z1).add ((hs.mul hr).mul ((hB.mul hB).mul hC))
 have z4:Rz 1 ((p*s-q*r:Int):Rat):=by rcases hd with hd|hd<;>rw[hd]<;>exact n6 (by decide+kernel)
 have z5:=(hB.mul z4).div z2 hne
 have z6:=z3.div z2 hne
 grind
theorem Mob.real (h:Mob A0 B0 C p q r s A B) (hc:0≤C):aO (am A0 B0 C*(Re.of (r:Rat)*am A B C+Re.of (s:Rat))-(Re.of (p:Rat)*am A B C+Re.of (q:Rat)))=0:=by
 obtain⟨e1,e2,hd⟩:=h
 rw[show am A0 B0 C*(Re.of (r:Rat)*am A B C+Re.of (s:Rat))-(Re.of (p:Rat)*am A B C+Re.of (q:Rat))=Re.of ((r:Rat)*B0*B)*(Re.rt C*Re.rt C-Re.of C) from ba fun k=>by simp only[am,ao,aI,aD,aV];grind,bj,my hc,og]
end
theorem uO (v:Re) (h:aO u=0):aO (v*u)=0:=by rw[bj,h,og]
theorem r8 (h:aO u=0):aO (-u)=0:=by rw[b8,h];rfl
theorem Cf {x y z:Re}(h:aO (y-x)=0) (g:ck x z):ck y z:=by
 unfold ck at*
 rw[dC (x:=z-y) (y:=z-x) (by rw[show z-y-(z-x)= -(y-x) from ba fun k=>by simp only[ao,bg];grind];exact r8 h)]
 grind
theorem yP {a b c d:Re}(ha:0≤aO c) (h:ck a b) (hb:0≤aO b) (g:ck c d):ck (a*c) (b*d):=by
 have h1:ck (c*a) (c*b):=iB ha h
 have h2:ck (b*c) (b*d):=iB hb g
 rw[show a*c=c*a from ba fun k=>by simp only[aD];grind]
 rw[show c*b=b*c from ba fun k=>by simp only[aD];grind] at h1
 exact dW h1 h2
theorem wL {x:Re}(h:ck (Re.of 0) x):0≤aO x:=by
 unfold ck at h
 rw[show x-Re.of 0=x from ba fun k=>by simp only[ao,aV];grind] at h;exact h
theorem xC {x:Re}(h:0≤aO x):ck (Re.of 0) x:=by
 unfold ck
 rw[show x-Re.of 0=x from ba fun k=>by simp only[ao,aV];grind];exact h
theorem DS (h:0≤x):0≤aO (Re.of x):=by rw[ca];exact jJ h
theorem Ag (h:0≤n):(0:Rat)≤(n:Rat):=by
 have:((0:Int):Rat)≤(n:Rat):=ef.2 h
 grind
theorem MU (h:0<x) :1/x*y*x=y:=by grind
theorem II (h:0<x):0≤1/x:=by
 apply fH
 intro hc
 have:=rQ (show 1/x≤0 by grind) (show 0≤x by grind)
 grind
section
variable {X Y V W Z Z':Re}{p q r s n:Int}
theorem EB (hr:0≤r) (h:ck (Re.of (n:Rat)) X):ck (Re.of ((r*n+s:Int):Rat)) (Re.of (r:Rat)*X+Re.of (s:Rat)):=by
 have h1:=iB (X:=Re.of (r:Rat)) (DS (Ag hr)) h
 have h2:=eB h1 (gh (Re.of (s:Rat)))
 rw[show Re.of (r:Rat)*Re.of (n:Rat)+Re.of (s:Rat)=Re.of ((r*n+s:Int):Rat) from ba fun k=>by simp only[aI,aD,aV,iE,fE]] at h2
 grind
theorem KW (hX:aO (V*(Re.of (r:Rat)*X+Re.of (s:Rat))-(Re.of (p:Rat)*X+Re.of (q:Rat)))=0) (hY:aO (W*(Re.of (r:Rat)*Y+Re.of (s:Rat))-(Re.of (p:Rat)*Y+Re.of (q:Rat)))=0):
 aO ((V-W)*((Re.of (r:Rat)*X+Re.of (s:Rat))*(Re.of (r:Rat)*Y+Re.of (s:Rat)))-Re.of ((p*s-q*r:Int):Rat)*(X-Y))=0:=by
 rw[show(V-W)*((Re.of (r:Rat)*X+Re.of (s:Rat))*(Re.of (r:Rat)*Y+Re.of (s:Rat)))-Re.of ((p*s-q*r:Int):Rat)*(X-Y)=
  (Re.of (r:Rat)*Y+Re.of (s:Rat))*(V*(Re.of (r:Rat)*X+Re.of (s:Rat))-(Re.of (p:Rat)*X+Re.of (q:Rat)))+ -((Re.of (r:Rat)*X+Re.of (s:Rat))*(W*(Re.of (r:Rat)*Y+Re.of (s:Rat))-(Re.of (p:Rat)*Y+Re.of (q:Rat)))) from
  ba fun k=>by simp only[ao,aI,aD,aV,bg,pi,fE];grind]
 exact D5 (uO _ hX) (r8 (uO _ hY))
theorem BC {a b:Re}(h1:ck a (Re.of ((n+1:Int):Rat))) (h2:ck (Re.of (n:Rat)) b):ck (a-b) (Re.of 1):=by
 have:=eB h1 (Q8 h2)
 rw[show a+ -b=a-b from ba fun k=>by simp only[ao,aI,bg];try grind,show Re.of ((n+1:Int):Rat)+ -Re.of (n:Rat)=Re.of 1 from ba fun k=>by
  simp only[aI,aV,bg,iE];try grind] at this
 grind
theorem DP (hr:0≤r) (hs:0≤s) (hn:0≤n) (hd:p*s-q*r=1∨p*s-q*r= -1)
 (hX:aO (V*(Re.of (r:Rat)*X+Re.of (s:Rat))-(Re.of (p:Rat)*X+Re.of (q:Rat)))=0) (hY:aO (W*(Re.of (r:Rat)*Y+Re.of (s:Rat))-(Re.of (p:Rat)*Y+Re.of (q:Rat)))=0)
 (x0:ck (Re.of (n:Rat)) X) (x1:ck X (Re.of ((n+1:Int):Rat))) (y0:ck (Re.of (n:Rat)) Y) (y1:ck Y (Re.of ((n+1:Int):Rat)))
 (he:ck (Re.of (1/((pw K:Int):Rat))) (V-W)):(r*n+s)*(r*n+s)≤pw K:=by
 have hR0:0≤r*n+s:=by have:=fK hr hn;omega
 have e1:=KW hX hY
 have lx:=EB (s:=s) hr x0
 have ly:=EB (s:=s) hr y0
 have nR:=DS (Ag hR0)
 have zx:0≤aO (Re.of (r:Rat)*X+Re.of (s:Rat)):=wL (dW (of_le (Ag hR0)) lx)
 have m1:=yP nR lx zx ly
 have hp:=oI K
 have ie:(0:Rat)≤1/((pw K:Int):Rat):=II hp
 have dp:0≤aO (V-W):=wL (dW (of_le ie) he)
 have nRR:0≤aO (Re.of ((r*n+s:Int):Rat)*Re.of ((r*n+s:Int):Rat)):=by rw[bj];exact fK nR nR
 have m2:=yP nRR he dp m1
 have t1:ck (Re.of ((p*s-q*r:Int):Rat)*(X-Y)) (Re.of 1):=by
  rcases hd with hd|hd<;>rw[hd]
  ·rw[show Re.of ((1:Int):Rat)*(X-Y)=X-Y from ba fun k=>by
    have h1:((1:Int):Rat)=1:=rfl
    simp only[ao,aD,aV,h1];grind]
   exact BC x1 y0
  ·rw[show Re.of ((-1:Int):Rat)*(X-Y)=Y-X from ba fun k=>by
    have h1:((-1:Int):Rat)= -1:=rfl
    simp only[ao,aD,aV,h1];grind]
   exact BC y1 x0
 have m3:=dW m2 (Cf e1 t1)
 rw[gg,gg,←fE] at m3
 have m4:=fN m3
 have m5:=rQ m4 (yY hp)
 rw[MU hp,Rat.one_mul] at m5
 exact ef.1 m5
theorem UY {U:Int}(hq:0≤q) (hs:0≤s) (hr:0≤r) (hX:aO (V*(Re.of (r:Rat)*X+Re.of (s:Rat))-(Re.of (p:Rat)*X+Re.of (q:Rat)))=0) (x1:ck (Re.of 1) X) (v0:0≤aO V) (v1:ck V (Re.of (U:Rat))):p≤U*(r+s):=by
 have xp:0<aO X:=by
  have h1:ck (Re.of 1) X:=x1
  rcases bp X with h|h|h
  ·omega
  ·exfalso
   have h2:ck (Re.of 1) (Re.of 0):=jL (by rw[show X-Re.of 0=X from ba fun k=>by simp only[ao,aV];grind];exact h) h1
   exact absurd (fN h2) (by decide)
  ·exfalso
   have h3:ck X (Re.of 0):=by unfold ck;rw[show Re.of 0-X= -X from ba fun k=>by simp only[ao,aV,bg];grind,b8,h];decide
   exact absurd (fN (dW h1 h3)) (by decide)
 have a1:ck (Re.of (p:Rat)*X) (Re.of (p:Rat)*X+Re.of (q:Rat)):=by
  unfold ck
  rw[show Re.of (p:Rat)*X+Re.of (q:Rat)-Re.of (p:Rat)*X=Re.of (q:Rat) from ba fun k=>by simp only[ao,aI,aV];grind]
  exact DS (Ag hq)
 have a2:=jL (z:=V*(Re.of (r:Rat)*X+Re.of (s:Rat))) (by rw[show Re.of (p:Rat)*X+Re.of (q:Rat)-V*(Re.of (r:Rat)*X+Re.of (s:Rat))= -(V*(Re.of (r:Rat)*X+Re.of (s:Rat))-(Re.of (p:Rat)*X+Re.of (q:Rat))) from ba fun k=>by simp only[ao,bg];grind];exact r8 hX) a1
 have a3:ck (Re.of (r:Rat)*X+Re.of (s:Rat)) (Re.of ((r+s:Int):Rat)*X):=by
  have h1:=iB (X:=Re.of (s:Rat)) (DS (Ag hs)) x1
  have h2:=eB (gh (Re.of (r:Rat)*X)) h1
  rw[show Re.of (s:Rat)*Re.of 1=Re.of (s:Rat) from ba fun k=>by simp only[aD,aV];grind,show Re.of (r:Rat)*X+Re.of (s:Rat)*X=Re.of ((r+s:Int):Rat)*X from ba fun k=>by simp only[aD,aI,aV,iE];grind] at h2
  grind
 have a4:=iB v0 a3
 have rsX:0≤aO (Re.of ((r+s:Int):Rat)*X):=by rw[bj];exact fK (DS (Ag (by omega))) (by omega)
 have a5:ck (V*(Re.of ((r+s:Int):Rat)*X)) (Re.of (U:Rat)*(Re.of ((r+s:Int):Rat)*X)):=by
  have:=iB rsX v1
  rw[show Re.of ((r+s:Int):Rat)*X*V=V*(Re.of ((r+s:Int):Rat)*X) from ba fun k=>by simp only[aD];grind,show Re.of ((r+s:Int):Rat)*X*Re.of (U:Rat)=Re.of (U:Rat)*(Re.of ((r+s:Int):Rat)*X) from ba fun k=>by simp only[aD];grind] at this
  grind
 have a6:=dW a2 (dW a4 a5)
 unfold ck at a6
 rw[show Re.of (U:Rat)*(Re.of ((r+s:Int):Rat)*X)-Re.of (p:Rat)*X=Re.of ((U*(r+s)-p:Int):Rat)*X from ba fun k=>by simp only[ao,aD,aV,pi,fE];grind,bj] at a6
 apply fH
 intro hn
 have h7:aO (Re.of ((U*(r+s)-p:Int):Rat))= -1:=by
  rw[ca]
  unfold aw
  rw[if_pos (by
   have:((U*(r+s)-p:Int):Rat)<((0:Int):Rat):=iv.2 (by omega)
   exact this)]
 grind
end
def fr (p q:Int):Rat:=(p:Rat)/(q:Rat)
theorem nT (h:0<q):(0:Rat)<(q:Rat):=iv.2 h
theorem JS (h:q≠0):(q:Rat)≠0:=fun e=>h (Rat.intCast_inj.1 (e.trans Rat.intCast_zero.symm))
theorem fZ (h:0<q):fr p q*(q:Rat)=(p:Rat):=no (JS (by omega))
theorem uM (h:0<q) (e:x*(q:Rat)=(p:Rat)):fr p q=x:=by
 have h1:=fZ (p:=p) h
 have h2:(fr p q-x)*(q:Rat)=0:=by grind
 rcases qE.1 h2 with h3|h3
 ·grind
 ·exact absurd h3 (JS (by omega))
theorem wU (x:Rat):fr x.num (x.den:Int)=x:=uM (by have:=x.den_pos;omega) (by
 have:=Rat.num_divInt_den x
 rw[Rat.divInt_eq_div] at this
 have h2:=no (a:=(x.num:Rat)) (b:=((x.den:Int):Rat)) (JS (by have:=x.den_pos;omega))
 rw[this] at h2;exact h2)
structure TMin (S:Rat→Prop) (P Q:Int):Prop where
 p:0<P
 q:0<Q
 mem:S (fr P Q)
 min: ∀p q:Int,0<q→S (fr p q)→P≤p∧Q≤q
theorem vj (hP:0<P) (hQ:0<Q):fr (n*P+Q) P=(n:Rat)+1/fr P Q:=by
 refine uM hP ?_
 have h1:=fZ (p:=P) hQ
 have h0:fr P Q≠0:=by
  have:=nT hP
  grind
 grind
theorem TMin.step (hn:0≤n) (h:TMin S' P Q) (h1: ∀x,S x↔(n:Rat)<x∧S' (1/(x-(n:Rat)))):TMin S (n*P+Q) P:=by
 have hP:=h.p
 have hQ:=h.q
 have hf:=fZ (p:=P) hQ
 have hfp:0<fr P Q:=by
  apply fH
  intro hn
  have:=rQ (show fr P Q≤0 by grind) (show 0≤(Q:Rat) by have:=nT hQ;grind)
  have:=nT hP
  grind
 have hi:1/fr P Q*fr P Q=1:=by grind
 have hip:0<1/fr P Q:=by
  apply fH
  intro hn
  have:=rQ (show 1/fr P Q≤0 by grind) (show 0≤fr P Q by grind)
  grind
 refine⟨by have:=fK hn (show 0≤P by omega);omega,hP,?_,fun p q hq hs=>?_⟩
 ·rw[h1,vj hP hQ]
  refine⟨by grind,?_⟩
  rw[show(n:Rat)+1/fr P Q-(n:Rat)=1/fr P Q by grind]
  rw[show 1/(1/fr P Q)=fr P Q from by
   have h3:1/(1/fr P Q)*(1/fr P Q)*fr P Q=fr P Q:=by grind
   rw[Rat.mul_assoc,hi,s6] at h3
   exact h3]
  exact h.mem
 ·obtain⟨g1,g2⟩:=(h1 _).1 hs
  have e1:=fZ (p:=p) hq
  have hqp:=nT hq
  have hk:0<p-n*q:=by
   have:=xx g1 hqp
   rw[e1,←fE] at this
   have:=iv.1 this
   omega
  have e2:fr q (p-n*q)=1/(fr p q-(n:Rat)):=by
   refine uM hk ?_
   grind
  rw[←e2] at g2
  obtain⟨m1,m2⟩:=h.min q (p-n*q) hk g2
  have:=lZ m1 hn
  omega
theorem TMin.whole (hn:0≤n) (h1:S ((n+1:Int):Rat)) (h2: ∀x,S x→(n:Rat)<x):TMin S (n+1) 1:=by
 refine⟨by omega,by omega,?_,fun p q hq hs=>⟨?_,by omega⟩⟩
 ·rw[show fr (n+1) 1=((n+1:Int):Rat) from uM (by omega) (by rw[Rat.intCast_one,s6])];exact h1
 ·have e1:=fZ (p:=p) hq
  have:=xx (h2 _ hs) (nT hq)
  rw[e1,←fE] at this
  have h3:=iv.1 this
  have:=lZ (show 1≤q by omega) hn
  omega
theorem TMin.den (h:TMin S P Q):(fr P Q).num=P∧((fr P Q).den:Int)=Q:=by
 have e:=wU (fr P Q)
 have hd:0<((fr P Q).den:Int):=by have:=(fr P Q).den_pos;omega
 have hm:=h.min (fr P Q).num ((fr P Q).den:Int) hd (by rw[e];exact h.mem)
 have h1:=fZ (p:=P) h.q
 have h2:=fZ (p:=(fr P Q).num) hd
 have h3:P*((fr P Q).den:Int)=(fr P Q).num*Q:=by
  have:((P*((fr P Q).den:Int):Int):Rat)=(((fr P Q).num*Q:Int):Rat):=by grind
  exact Rat.intCast_inj.1 this
 have h4:(fr P Q).num.natAbs∣P.natAbs*(fr P Q).den:=⟨Q.natAbs,by
  have:=congrArg Int.natAbs h3
  rw[rW,rW,xz] at this
  exact this⟩
 have h5:=Nat.le_of_dvd (by have:=h.p;omega) (Nat.Coprime.dvd_of_dvd_mul_right (fr P Q).reduced h4)
 have hP:(fr P Q).num=P:=by have:=h.p;omega
 refine⟨hP,?_⟩
 rw[hP] at h3
 have:=h.p
 exact Int.eq_of_mul_eq_mul_left (by omega) h3
theorem Lp (hc: ∀x y z:Rat,S x→S y→x≤z→z≤y→S z) {k:Int}(hQ:2≤Q) (hm:S (fr m Q)) (hk:S (fr k Q)) (hmin: ∀p q:Int,0<q→S (fr p q)→Q≤q):m=k:=by
 have key: ∀m k:Int,S (fr m Q)→S (fr k Q)→m<k→False:=by
  intro m k hm hk hlt
  have e1:Q*(m/Q)+m%Q=m:=qV m Q
  have r0:0≤m%Q:=n9 m (by omega)
  have r1:m%Q<Q:=nB m (by omega)
  generalize m/Q=t at e1
  generalize m%Q=r at e1 r0 r1
  have hQ1:0<Q-1:=by omega
  have hfm:=fZ (p:=m) (q:=Q) (by omega)
  have hfk:=fZ (p:=k) (q:=Q) (by omega)
  have hfj:=fZ (p:=t*(Q-1)+r) (q:=Q-1) hQ1
  have p1:=nT (show 0<Q by omega)
  have p2:=nT hQ1
  have le1:fr m Q≤fr (t*(Q-1)+r) (Q-1):=by
   apply fH
   intro hn
   have h1:=xx (show fr (t*(Q-1)+r) (Q-1)<fr m Q by grind) (cY p1 p2)
   have h2:fr (t*(Q-1)+r) (Q-1)*((Q:Rat)*((Q-1:Int):Rat))=(((t*(Q-1)+r)*Q:Int):Rat):=by grind
   have h3:fr m Q*((Q:Rat)*((Q-1:Int):Rat))=((m*(Q-1):Int):Rat):=by grind
   rw[h2,h3] at h1
   have h4:=iv.1 h1
   have h5:(t*(Q-1)+r)*Q=m*(Q-1)+r:=by grind
   omega
  have le2:fr (t*(Q-1)+r) (Q-1)≤fr k Q:=by
   have h1:=xx (show fr k Q<fr (t*(Q-1)+r) (Q-1) by grind) (cY p1 p2)
   have h2:fr (t*(Q-1)+r) (Q-1)*((Q:Rat)*((Q-1:Int):Rat))=(((t*(Q-1)+r)*Q:Int):Rat):=by grind
   have h3:fr k Q*((Q:Rat)*((Q-1:Int):Rat))=((k*(Q-1):Int):Rat):=by grind
   rw[h2,h3] at h1
   have h4:=iv.1 h1
   have h5:(t*(Q-1)+r)*Q=m*(Q-1)+r:=by grind
   have h6:=zw (show m+1≤k by omega) (show 0≤Q-1 by omega)
   grind
  grind
 rcases qM m k with h|h|h
 ·grind
 ·exact h
 grind
theorem KE (h:aw x 0=0):x=0:=Eb (by rw[h];rfl)
section
variable {x y z:Rat}
theorem FS (hz:0≤z) (hv:y≠0→0<z):vi x y z=aO (am x y z):=by
 rw[←iD hz]
 unfold vi bd rf
 have e:aw y 0*aw z 0=aw y 0:=by
  by_cases hy:y=0
  ·subst hy;rw[show aw 0 0=0 from by decide];omega
  ·rw[show aw z 0=1 from by unfold aw;rw[if_neg (by have:=hv hy;grind),if_pos (hv hy)]];omega
 rw[e,f9]
end
def tI (a b:Re) (x:Rat):Prop:=aO (Re.of x-a)=1∧aO (b-Re.of x)=1
theorem uZ (h:0<x):aO (Re.of x)=1:=by rw[ca];unfold aw;rw[if_neg (by grind),if_pos h]
theorem zO (h:aO (u*u'-Re.of 1)=0) (hu:aO u'=1) (ht:0<t):aO (Re.of t-u)=aO (u'-Re.of (1/t)):=by
 have h1:aO ((Re.of t-u)*u'-Re.of t*(u'-Re.of (1/t)))=0:=by
  rw[show(Re.of t-u)*u'-Re.of t*(u'-Re.of (1/t))= -(u*u'-Re.of 1) from ba fun k=>by
   simp only[ao,aD,aV,bg]
   grind]
  exact r8 h
 have h2:=dC h1
 rw[bj,bj,hu,uZ ht,ri,oi] at h2
 grind
theorem pq {a:Re}(ha:ck (Re.of (n:Rat)) a) (h:aO (Re.of x-a)=1):(n:Rat)<x:=by
 have h1:ck a (Re.of x):=by unfold ck;omega
 have h2:=fN (dW ha h1)
 apply fH
 intro hn
 have he:x=(n:Rat):=by grind
 subst he
 have h3:0≤aO (a-Re.of (n:Rat)):=ha
 rw[show a-Re.of (n:Rat)= -(Re.of (n:Rat)-a) from ba fun k=>by simp only[ao,bg];grind,b8,h] at h3
 omega
section
variable {a b a' b':Re}{n:Int}
theorem BY (x:Rat):Re.of x-a=Re.of (x-(n:Rat))-(a-Re.of (n:Rat)):=ba fun k=>by simp only[ao,aV];grind
theorem vz (x:Rat):b-Re.of x= -(Re.of (x-(n:Rat))-(b-Re.of (n:Rat))):=ba fun k=>by simp only[ao,aV,bg];grind
theorem d7 (u v:Re):aO (u-v)= -aO (v-u):=by rw[←b8];exact congrArg aO (ba fun k=>by simp only[ao,bg];grind)
theorem M1 (ha:ck (Re.of (n:Rat)) a) (h1:aO ((a-Re.of (n:Rat))*a'-Re.of 1)=0) (ha':aO a'=1) (h2:aO ((b-Re.of (n:Rat))*b'-Re.of 1)=0) (hb':aO b'=1) (x:Rat):
 tI a b x↔(n:Rat)<x∧tI b' a' (1/(x-(n:Rat))):=by
 constructor
 ·intro ⟨g1,g2⟩
  have hx:=pq ha g1
  have ht:0<x-(n:Rat):=by grind
  refine⟨hx,?_,?_⟩
  ·rw[vz (n:=n),b8,zO h2 hb' ht] at g2
   rw[d7];exact g2
  ·rw[BY (n:=n),zO h1 ha' ht] at g1;exact g1
 ·intro ⟨hx,g1,g2⟩
  have ht:0<x-(n:Rat):=by grind
  refine⟨?_,?_⟩
  ·rw[BY (n:=n),zO h1 ha' ht];exact g2
  ·rw[vz (n:=n),b8,zO h2 hb' ht,←d7];exact g1
theorem O4 (ha:aO (a-Re.of (n:Rat))=0) (h2:aO ((b-Re.of (n:Rat))*b'-Re.of 1)=0) (hb':aO b'=1) (x:Rat):
 tI a b x↔(n:Rat)<x∧aO (Re.of (1/(x-(n:Rat)))-b')=1:=by
 have hl:ck (Re.of (n:Rat)) a:=by unfold ck;omega
 constructor
 ·intro ⟨g1,g2⟩
  have hx:=pq hl g1
  have ht:0<x-(n:Rat):=by grind
  refine⟨hx,?_⟩
  rw[vz (n:=n),b8,zO h2 hb' ht] at g2
  rw[d7];exact g2
 ·intro ⟨hx,g1⟩
  have ht:0<x-(n:Rat):=by grind
  refine⟨?_,?_⟩
  ·rw[BY (n:=n)]
   have h3:aO (Re.of (x-(n:Rat))-(a-Re.of (n:Rat)))=aO (Re.of (x-(n:Rat))):=dC (by
    rw[show Re.of (x-(n:Rat))-(a-Re.of (n:Rat))-Re.of (x-(n:Rat))= -(a-Re.of (n:Rat)) from ba fun k=>by simp only[ao,bg];grind]
    exact r8 ha)
   rw[h3];exact uZ ht
  ·rw[vz (n:=n),b8,zO h2 hb' ht,←d7];exact g1
theorem Ie (hn:0≤n) (ha:ck (Re.of (n:Rat)) a) (h1:aO (Re.of ((n+1:Int):Rat)-a)=1) (h2:aO (b-Re.of ((n+1:Int):Rat))=1):TMin (tI a b) (n+1) 1:=
 TMin.whole hn ⟨h1,h2⟩ fun _x hx=>pq ha hx.1
theorem Jl (hm:0≤m) (hb:ck (Re.of (m:Rat)) b') (h1:aO (Re.of ((m+1:Int):Rat)-b')=1):TMin (fun x=>aO (Re.of x-b')=1) (m+1) 1:=
 TMin.whole hm h1 fun _x hx=>pq hb hx
end
theorem XE (hy:y≠0) (hv:0<z∧iC z=false) (m:Rat):aO (am x y z-Re.of m)≠0:=by
 obtain⟨z0,zs⟩:=hv
 have hz:0≤z:=by grind
 intro h
 have h8:aO (am (x-m) y z)=0:=by
  rw[show am (x-m) y z=am x y z-Re.of m from ba fun k=>by simp only[am,aI,aD,aV,ao];grind]
  grind
 rw[←FS hz (fun _=>z0)] at h8
 have hyn:aw y 0≠0:=fun e=>hy (KE e)
 unfold vi at h8
 split at h8
 ·grind
 ·split at h8
  ·grind
  ·rename_i g1 g2
   have h9:aw ((x-m)*(x-m)-y*y*z) 0=0:=(t9.1 h8).resolve_left g2
   have h10:=KE h9
   have h11:z=(x-m)/y*((x-m)/y):=by grind
   rw[h11,xE] at zs
   grind
theorem ud (hz:0≤z) (hv:y≠0→0<z∧iC z=false):aO (Re.of ((nK x y z+1:Int):Rat)-am x y z)=1:=by
 have h:=(sC (a:=x) (b:=y) hz).2
 have h0:0≤aO (Re.of ((nK x y z+1:Int):Rat)-am x y z):=h
 by_cases hy:y=0
 ·subst hy
  have hd:=den_pos x
  rw[P5 rfl] at*
  have hf:=(JQ (Z:=x.num) hd).2
  rw[show Re.of (((x.num.fdiv (x.den:Int)+1:Int)):Rat)-am x 0 z=Re.of (((x.num.fdiv (x.den:Int)+1:Int):Rat)-x) from ba fun k=>by simp only[am,ao,aI,aD,aV];grind]
  refine uZ ?_
  apply fH
  intro hn
  have h2:=rQ (show((x.num.fdiv (x.den:Int)+1:Int):Rat)≤x by grind) (Ag (show 0≤(x.den:Int) by omega))
  rw[tN,←fE] at h2
  have h3:=ef.1 h2
  omega
 ·have h1:=XE (x:=x) hy (hv hy) ((nK x y z+1:Int):Rat)
  rw[d7] at h1
  rcases bp (Re.of ((nK x y z+1:Int):Rat)-am x y z) with g|g|g<;>omega
structure Vl (B C:Rat):Prop where
 c0:0≤C
 v:B≠0→0<C∧iC C=false
 z:B=0→C=0
theorem KN (hv:y≠0→0<z∧iC z=false) (h:aO (am x y z)≠0):x*x-y*y*z≠0:=by
 intro e
 by_cases hy:y=0
 ·subst hy
  have h2:x=0:=by grind
  apply h
  rw[h2,show am 0 0 z=Re.of 0 from ba fun k=>by simp only[am,aI,aD,aV];grind,ca]
  decide
 ·obtain⟨_,zs⟩:=hv hy
  have h11:z=x/y*(x/y):=by grind
  rw[h11,xE] at zs
  grind
theorem AB (hz:0≤z) (hw:(x*x-y*y*z)*w=1):aO (am x y z*am (x*w) (-y*w) z-Re.of 1)=0:=by
 rw[show am x y z*am (x*w) (-y*w) z-Re.of 1=Re.of (-(w*y*y))*(Re.rt z*Re.rt z-Re.of z) from ba fun k=>by simp only[am,ao,aI,aD,aV];grind]
 exact uO _ (my hz)
theorem inv_pos (h:aO (u*u'-Re.of 1)=0) (hu:aO u=1):aO u'=1:=by
 have h2:=dC h
 rw[bj,hu,oi,uZ (by decide)] at h2
 grind
theorem Qp (h:aO (u*u'-Re.of 1)=0) (hu:aO u=1) (h1:ck u (Re.of 1)):ck (Re.of 1) u':=by
 have hp:=inv_pos h hu
 have h2:=iB (X:=u') (by omega) h1
 have h3:ck (Re.of 1) (u'*u):=by
  refine jL (y:=Re.of 1) ?_ (gh _)
  rw[d7,show u'*u-Re.of 1=u*u'-Re.of 1 from ba fun k=>by simp only[ao,aD];grind,h];rfl
 have h4:=dW h3 h2
 rw[show u'*Re.of 1=u' from ba fun k=>by simp only[aD,aV];grind] at h4
 grind
theorem LW {v':Re}(h1:aO (u*u'-Re.of 1)=0) (h2:aO (v*v'-Re.of 1)=0) (hu:aO u=1) (hv:aO v=1) (h:aO (v-u)=1):aO (u'-v')=1:=by
 have h3:aO (u*v*(u'-v')-(v-u))=0:=by
  rw[show u*v*(u'-v')-(v-u)=v*(u*u'-Re.of 1)+ -(u*(v*v'-Re.of 1)) from ba fun k=>by simp only[ao,aI,aD,aV,bg];grind]
  exact D5 (uO _ h1) (r8 (uO _ h2))
 have h4:=dC h3
 rw[bj,bj,hu,hv,h] at h4
 omega
theorem Ue (h:0<x):0<1/x:=by
 have h1:=II h
 grind
section
variable {A0 B0 C D0 E0 F A B D E:Rat}{p q r s:Int}
theorem Mob.vl (m:Mob A0 B0 C p q r s A B) (h:Vl B0 C):Vl B C:=by
 have hs:=m.sol.2
 have hne:=m.ne h.v
 have hdr:((p*s-q*r:Int):Rat)≠0:=by rcases m.det with hd|hd<;>rw[hd]<;>decide
 refine⟨h.c0,fun hb=>h.v ?_,fun hb=>h.z ?_⟩
 ·grind
 grind
structure BSt (U:Int) (h:Nat) (A0 B0 C D0 E0 F:Rat) (p q r s:Int) (A B D E:Rat):Prop where
 m1:Mob A0 B0 C p q r s A B
 m2:Mob D0 E0 F p q r s D E
 v1:Vl B0 C
 v2:Vl E0 F
 p0:0≤p
 q0:0≤q
 r0:0≤r
 s0:0≤s
 u1:1≤U
 pU:p≤U*(r+s)
 qU:q≤U*(r+s)
 rh:r≤pw h
 sh:s≤pw h
 V0:0≤aO (am A0 B0 C)
 W0:0≤aO (am D0 E0 F)
 VU:ck (am A0 B0 C) (Re.of (U:Rat))
 WU:ck (am D0 E0 F) (Re.of (U:Rat))
 sep:ck (Re.of (1/((pw (h+h):Int):Rat))) (am A0 B0 C-am D0 E0 F)∨ck (Re.of (1/((pw (h+h):Int):Rat))) (am D0 E0 F-am A0 B0 C)
 a0:0≤aO (am A B C)
 au:ck (am A B C) (Re.of ((pw (h+h):Int):Rat))
 ab:aO (am D E F-am A B C)=1
 st:(r=0∧s=1)∨(1≤r∧ck (Re.of 1) (am A B C))
theorem QJ {x:Int}(hx:0≤x) (hs:x*x≤pw (h+h)):x≤pw h:=by
 rw[pf] at hs
 apply fH
 intro hn
 have hp:=cH h
 have h1:(pw h+1)*(pw h+1)≤x*x:=pu (by omega) (by omega) (by omega) (by omega)
 grind
variable {U:Int}{h:Nat}{n:Int}
theorem fI (x y z:Rat) (n:Int):am (x-(n:Rat)) y z=am x y z-Re.of (n:Rat):=ba fun k=>by simp only[am,ao,aI,aD,aV];grind
theorem BSt.n0 (S:BSt U h A0 B0 C D0 E0 F p q r s A B D E) (hx:aO (Re.of ((n+1:Int):Rat)-am A B C)=1):0≤n∧(1≤r→1≤n):=by
 have key: ∀m:Int,ck (Re.of (m:Rat)) (am A B C)→m<n+1:=by
  intro m hm
  have:=pq (x:=((n+1:Int):Rat)) hm hx
  exact iv.1 this
 refine⟨?_,fun hr=>?_⟩
 ·have:=key 0 (xC S.a0);omega
 ·rcases S.st with⟨e,_⟩|⟨_,e⟩
  ·omega
  ·have:=key 1 e;omega
theorem BSt.next_r (S:BSt U h A0 B0 C D0 E0 F p q r s A B D E) (hn:0≤n) (x0:ck (Re.of (n:Rat)) (am A B C)) (x1:ck (am A B C) (Re.of ((n+1:Int):Rat))) (y1:ck (am D E F) (Re.of ((n+1:Int):Rat))):r*n+s≤pw h:=by
 have hR0:0≤r*n+s:=by have:=fK S.r0 hn;have:=S.s0;omega
 have y0:ck (Re.of (n:Rat)) (am D E F):=dW x0 (by unfold ck;have:=S.ab;omega)
 refine QJ hR0 ?_
 rcases S.sep with e|e
 ·exact DP S.r0 S.s0 hn S.m1.det (S.m1.real S.v1.c0) (S.m2.real S.v2.c0) x0 x1 y0 y1 e
 ·exact DP S.r0 S.s0 hn S.m2.det (S.m2.real S.v2.c0) (S.m1.real S.v1.c0) y0 y1 x0 x1 e
theorem BSt.z1 (S:BSt U h A0 B0 C D0 E0 F p q r s A B D E) (hX:ck (am A B C) X):ck (Re.of 1) (Re.of (r:Rat)*X+Re.of (s:Rat)):=by
 rcases S.st with⟨e1,e2⟩|⟨e1,e2⟩
 ·rw[e1,e2]
  have h0:((0:Int):Rat)=0:=rfl
  have h1:((1:Int):Rat)=1:=rfl
  rw[h0,h1,show Re.of 0*X+Re.of 1=Re.of 1 from ba fun k=>by simp only[aI,aD,aV];grind]
  exact gh _
 ·have h1:((1:Int):Rat)=1:=rfl
  have:=EB (s:=s) (n:=1) S.r0 (dW (by rw[h1];exact e2) hX)
  refine dW (of_le ?_) this
  have h2:((1:Int):Rat)≤((r*1+s:Int):Rat):=ef.2 (by have:=S.s0;omega)
  grind
theorem BSt.gap (S:BSt U h A0 B0 C D0 E0 F p q r s A B D E):ck (Re.of (1/((pw (h+h):Int):Rat))) (am D E F-am A B C):=by
 have hab:ck (am A B C) (am D E F):=by unfold ck;have:=S.ab;omega
 have zx:=S.z1 (gh _)
 have zy:=S.z1 hab
 have ie:(0:Rat)≤1/((pw (h+h):Int):Rat):=II (oI _)
 have one0:0≤aO (Re.of 1):=DS (by decide)
 have m1:=yP one0 zx (wL (dW (of_le (by decide)) zx)) zy
 have e11:Re.of 1*Re.of 1=Re.of 1:=by rw[gg,s6]
 rw[e11] at m1
 have main: ∀ {A0 B0 C0 D0 E0 F0:Rat}{X Y:Re},aO (am A0 B0 C0*(Re.of (r:Rat)*X+Re.of (s:Rat))-(Re.of (p:Rat)*X+Re.of (q:Rat)))=0→aO (am D0 E0 F0*(Re.of (r:Rat)*Y+Re.of (s:Rat))-(Re.of (p:Rat)*Y+Re.of (q:Rat)))=0→
  ck (Re.of 1) ((Re.of (r:Rat)*X+Re.of (s:Rat))*(Re.of (r:Rat)*Y+Re.of (s:Rat)))→ck (Re.of (1/((pw (h+h):Int):Rat))) (am A0 B0 C0-am D0 E0 F0)→ck (Re.of (1/((pw (h+h):Int):Rat))) (X-Y)∨ck (Re.of (1/((pw (h+h):Int):Rat))) (Y-X):=by
  intro A0 B0 C0 D0 E0 F0 X Y hX hY hm he
  have e1:=KW hX hY
  have dp:0≤aO (am A0 B0 C0-am D0 E0 F0):=wL (dW (of_le ie) he)
  have m2:=yP one0 he dp hm
  rw[show Re.of (1/((pw (h+h):Int):Rat))*Re.of 1=Re.of (1/((pw (h+h):Int):Rat)) from by rw[gg,s6]] at m2
  have m3:=jL e1 m2
  rcases S.m1.det with hd|hd<;>rw[hd] at m3
  ·left
   rw[show Re.of ((1:Int):Rat)*(X-Y)=X-Y from ba fun k=>by
    have h1:((1:Int):Rat)=1:=rfl
    simp only[ao,aD,aV,h1];grind] at m3
   grind
  ·right
   rw[show Re.of ((-1:Int):Rat)*(X-Y)=Y-X from ba fun k=>by
    have h1:((-1:Int):Rat)= -1:=rfl
    simp only[ao,aD,aV,h1];grind] at m3
   grind
 have fin:ck (Re.of (1/((pw (h+h):Int):Rat))) (am A B C-am D E F)→ck (Re.of (1/((pw (h+h):Int):Rat))) (am D E F-am A B C):=by
  intro hq
  have:=wL (dW (of_le ie) hq)
  rw[d7,S.ab] at this
  omega
 rcases S.sep with e|e
 ·rcases main (S.m1.real S.v1.c0) (S.m2.real S.v2.c0) m1 e with g|g
  ·grind
  grind
 ·have m1':ck (Re.of 1) ((Re.of (r:Rat)*am D E F+Re.of (s:Rat))*(Re.of (r:Rat)*am A B C+Re.of (s:Rat))):=by
   rw[show(Re.of (r:Rat)*am D E F+Re.of (s:Rat))*(Re.of (r:Rat)*am A B C+Re.of (s:Rat))=(Re.of (r:Rat)*am A B C+Re.of (s:Rat))*(Re.of (r:Rat)*am D E F+Re.of (s:Rat)) from ba fun k=>by simp only[aD];grind];exact m1
  rcases main (S.m2.real S.v2.c0) (S.m1.real S.v1.c0) m1' e with g|g
  ·exact g
  ·exact fin g
theorem PJ (h:aO (u*u'-Re.of 1)=0) (hu:aO u=1) (h1:ck (Re.of (1/((pw K:Int):Rat))) u):ck u' (Re.of ((pw K:Int):Rat)):=by
 have hp:=inv_pos h hu
 have hk:=oI K
 have h2:=iB (X:=u') (by omega) h1
 have h3:ck (u'*u) (Re.of 1):=by
  refine Cf (x:=Re.of 1) ?_ (gh _)
  rw[show u'*u-Re.of 1=u*u'-Re.of 1 from ba fun k=>by simp only[ao,aD];grind];exact h
 have h4:=dW h2 h3
 have e:1/((pw K:Int):Rat)*((pw K:Int):Rat)=1:=by grind
 refine rU (d:=1/((pw K:Int):Rat)) (Ue hk) ?_
 rw[gg,e,show Re.of (1/((pw K:Int):Rat))*u'=u'*Re.of (1/((pw K:Int):Rat)) from ba fun k=>by simp only[aD];grind]
 grind
theorem BSt.step (S:BSt U h A0 B0 C D0 E0 F p q r s A B D E) (x0:ck (Re.of (n:Rat)) (am A B C)) (x1:aO (Re.of ((n+1:Int):Rat)-am A B C)=1) (y1:ck (am D E F) (Re.of ((n+1:Int):Rat))) (hz:aO (am A B C-Re.of (n:Rat))=1)
 {w1 w2:Rat}(hw1:((A-(n:Rat))*(A-(n:Rat))-B*B*C)*w1=1) (hw2:((D-(n:Rat))*(D-(n:Rat))-E*E*F)*w2=1):
 BSt U h D0 E0 F A0 B0 C (p*n+q) p (r*n+s) r ((D-(n:Rat))*w2) (-E*w2) ((A-(n:Rat))*w1) (-B*w1)∧2*r+s<2*(r*n+s)+r∧0≤n:=by
 obtain⟨hn,hn1⟩:=S.n0 x1
 have hrn:=fK S.r0 hn
 have hpn:=fK S.p0 hn
 have s0:=S.s0
 have r0:=S.r0
 have q0:=S.q0
 have hbn:aO (am D E F-Re.of (n:Rat))=1:=by
  have h1:=eB (x:=Re.of 0) (y:=am A B C-Re.of (n:Rat)) (u:=Re.of 0) (v:=am D E F-am A B C) (xC (by omega)) (xC (by have:=S.ab;omega))
  rcases bp (am D E F-Re.of (n:Rat)) with g|g|g
  ·exact g
  ·exfalso
   have h2:=S.ab
   have h3:aO (am D E F-am A B C- -(am A B C-Re.of (n:Rat)))=0:=by
    rw[show am D E F-am A B C- -(am A B C-Re.of (n:Rat))=am D E F-Re.of (n:Rat) from ba fun k=>by simp only[ao,bg];grind];exact g
   have h4:=dC h3
   rw[b8,hz,h2] at h4
   omega
  ·exfalso
   have h2:ck (am D E F) (Re.of (n:Rat)):=by unfold ck;rw[d7,g];decide
   have h3:=dW (dW (by unfold ck;have:=S.ab;omega:ck (am A B C) (am D E F)) h2) (gh _)
   have h4:0≤aO (Re.of (n:Rat)-am A B C):=h3
   rw[d7,hz] at h4
   omega
 have i1:aO ((am A B C-Re.of (n:Rat))*am ((A-(n:Rat))*w1) (-B*w1) C-Re.of 1)=0:=by
  rw[←fI];exact AB S.v1.c0 hw1
 have i2:aO ((am D E F-Re.of (n:Rat))*am ((D-(n:Rat))*w2) (-E*w2) F-Re.of 1)=0:=by
  rw[←fI];exact AB S.v2.c0 hw2
 have le1:ck (am D E F-Re.of (n:Rat)) (Re.of 1):=by
  refine BC (n:=n) y1 (gh _)
 have t1:=Qp i2 hbn le1
 have gb:ck (am D E F-am A B C) (am D E F-Re.of (n:Rat)):=by
  unfold ck
  rw[show am D E F-Re.of (n:Rat)-(am D E F-am A B C)=am A B C-Re.of (n:Rat) from ba fun k=>by simp only[ao];grind];omega
 have tp:=inv_pos i2 hbn
 have hr1:1≤r*n+s:=by
  rcases S.st with⟨e1,e2⟩|⟨e1,_⟩
  ·grind
  ·have:=pu e1 (hn1 e1) (by omega) (by omega);omega
 have x1':ck (am A B C) (Re.of ((n+1:Int):Rat)):=by unfold ck;omega
 have hrb:=S.next_r hn x0 x1' y1
 have m1':=(S.m2.shift n).inv hw2
 have m2':=(S.m1.shift n).inv hw1
 refine⟨⟨m1',m2',S.v2,S.v1,by omega,S.p0,by omega,r0,S.u1,?_,?_,hrb,S.rh,S.W0,S.V0,S.WU,S.VU,S.sep.symm,by omega,PJ i2 hbn (dW S.gap gb),LW i1 i2 hz hbn (by
  rw[show am D E F-Re.of (n:Rat)-(am A B C-Re.of (n:Rat))=am D E F-am A B C from ba fun k=>by simp only[ao];grind];exact S.ab),.inr ⟨hr1,t1⟩⟩,?_,hn⟩
 ·exact UY S.p0 r0 (by omega) (m1'.real S.v2.c0) t1 S.W0 S.WU
 ·have h1:=lZ (show r+s≤r*n+s+r by omega) (show 0≤U by have:=S.u1;omega)
  have:=S.pU
  omega
 ·rcases S.st with⟨e1,e2⟩|⟨e1,_⟩
  ·grind
  ·have:=pu (pP r) (hn1 e1) (by omega) r0;omega
end
theorem LU (he:0<e) (h:ck (Re.of e) X):aO X=1:=by
 have h0:=wL (dW (of_le (show(0:Rat)≤e by grind)) h)
 rcases bp X with g|g|g
 ·exact g
 ·exfalso
  have h1:aO (X-Re.of e- -(Re.of e))=0:=by
   rw[show X-Re.of e- -(Re.of e)=X from ba fun k=>by simp only[ao,bg];grind];exact g
  have h2:=dC h1
  rw[b8,uZ he] at h2
  have h3:0≤aO (X-Re.of e):=h
  omega
 grind
theorem VE {x y:Re}(h:0≤aO x) (g:0≤aO y):0≤aO (x+y):=by
 have:=eB (xC h) (xC g)
 rw[show Re.of 0+Re.of 0=Re.of 0 from ba fun k=>by simp only[aI,aV];grind] at this
 exact wL this
theorem SE (h:0<x):1/(x+1)<1/x:=by
 have h1:0<x+1:=by grind
 have e1:1/x*x=1:=by grind
 have e2:1/(x+1)*(x+1)=1:=by grind
 have p1:=Ue h1
 generalize 1/x=u at*
 generalize 1/(x+1)=v at*
 apply fH
 intro hn
 have h2:=rQ (show u≤v by grind) (show 0≤x by grind)
 grind
theorem Tj {k N:Int}(h:0<N):fr (k+1) N=fr k N+1/(N:Rat):=by
 refine uM h ?_
 have e1:=fZ (p:=k) h
 have e2:1/(N:Rat)*(N:Rat)=1:=no (JS (by omega))
 grind
theorem AS (K:Nat):pw K+1<pw (K+1):=by
 rw[dB];have:=cH K;omega
theorem VX (K:Nat):(pw K+1)*pw K+1<pw (K+K+1):=by
 rw[dB,pf]
 have h:=cH K
 have h1:=lZ h (show 0≤pw K by omega)
 grind
theorem TMin.bound {b:Re}(hv:Vl y z) (h:TMin (tI (am x y z) b) P Q) (au:ck (am x y z) (Re.of ((pw K:Int):Rat))) (gap:ck (Re.of (1/((pw K:Int):Rat))) (b-am x y z)):P<pw (K+K+1)∧Q<pw (K+1):=by
 have hp:=cH K
 have p1:=AS K
 have p2:=VX K
 have hN:0<pw K+1:=by omega
 have hNr:=nT hN
 have hK:=oI K
 have hg:=SE hK
 have hvs:y*((pw K+1:Int):Rat)≠0→0<z∧iC z=false:=fun e=>hv.v (by intro e2;apply e;rw[e2,Rat.zero_mul])
 have es:am (x*((pw K+1:Int):Rat)) (y*((pw K+1:Int):Rat)) z=Re.of ((pw K+1:Int):Rat)*am x y z:=ba fun i=>by simp only[am,aI,aD,aV];grind
 have f1:ck (Re.of ((nK (x*((pw K+1:Int):Rat)) (y*((pw K+1:Int):Rat)) z:Int):Rat)) (am (x*((pw K+1:Int):Rat)) (y*((pw K+1:Int):Rat)) z):=(sC hv.c0).1
 have f2:=ud (x:=x*((pw K+1:Int):Rat)) (y:=y*((pw K+1:Int):Rat)) hv.c0 hvs
 rw[es] at f1 f2
 have f3:=dW f1 (Jm hNr au)
 rw[gg,←fE] at f3
 have f4:=ef.1 (fN f3)
 generalize nK (x*((pw K+1:Int):Rat)) (y*((pw K+1:Int):Rat)) z=k at*
 have e0:=fZ (p:=k) hN
 have e1:=fZ (p:=k+1) hN
 have e3:=Tj (k:=k) hN
 have g1:aO (Re.of (fr (k+1) (pw K+1))-am x y z)=1:=by
  rw[show Re.of ((k+1:Int):Rat)-Re.of ((pw K+1:Int):Rat)*am x y z=Re.of ((pw K+1:Int):Rat)*(Re.of (fr (k+1) (pw K+1))-am x y z) from ba fun i=>by
   simp only[ao,aD,aV];rw[←e1];grind,bj,uZ hNr,oi] at f2
  grind
 have g3:0≤aO (am x y z-Re.of (fr k (pw K+1))):=by
  refine rU (d:=((pw K+1:Int):Rat)) hNr ?_
  rw[gg,show((pw K+1:Int):Rat)*fr k (pw K+1)=(k:Rat) from by rw[Rat.mul_comm];exact e0]
  grind
 have g2:aO (b-Re.of (fr (k+1) (pw K+1)))=1:=by
  have h0:0<1/((pw K:Int):Rat)-1/((pw K+1:Int):Rat):=by grind
  refine LU h0 ?_
  have h1:0≤aO (b-am x y z-Re.of (1/((pw K:Int):Rat))):=gap
  have h2:=VE h1 g3
  show 0≤aO _
  rw[e3]
  rw[show b-Re.of (fr k (pw K+1)+1/((pw K+1:Int):Rat))-Re.of (1/((pw K:Int):Rat)-1/((pw K+1:Int):Rat))=b-am x y z-Re.of (1/((pw K:Int):Rat))+(am x y z-Re.of (fr k (pw K+1))) from ba fun i=>by
   simp only[ao,aI,aV];grind]
  grind
 obtain⟨m1,m2⟩:=h.min (k+1) (pw K+1) hN ⟨g1,g2⟩
 grind
theorem TMin.rz (h:TMin S P Q) (hP:P<pw k) (hQ:Q<pw k):Rz k (fr P Q):=by
 obtain⟨e1,e2⟩:=h.den
 have:=h.p
 exact⟨by rw[e1];exact⟨by omega,by omega⟩,by rw[e2];exact⟨by omega,by omega⟩⟩
section
variable {A0 B0 C D0 E0 F A B D E:Rat}{p q r s n:Int}
theorem Af {x:Int}(h0:0≤x) (h:x≤pw k):Rz (k+1) (x:Rat):=by
 have:=AS k
 exact dm ⟨by omega,by omega⟩ (by omega)
theorem Ww {r s:Int}(hr:r≤pw 1710) (hs:s≤pw 1710):pw 213*(r+s)≤pw 1924:=by
 have h1:=lZ (show r+s≤2*pw 1710 by omega) (show 0≤pw 213 by have:=cH 213;omega)
 have h2:pw 1923=pw 213*pw 1710:=pf 213 1710
 have h3:pw 1924=1000000000*pw 1923:=dB 1923
 have h5:=cH 1923
 grind
theorem BSt.szs (S:BSt (pw 213) 1710 A0 B0 C D0 E0 F p q r s A B D E) (hA:Rz 330 A0) (hB:Rz 330 B0) (hC:Rz 330 C) (hD:Rz 330 D0) (hE:Rz 330 E0) (hF:Rz 330 F):(Rz 25000 A∧Rz 25000 B)∧Rz 25000 D∧Rz 25000 E:=by
 have hu:=Ww S.rh S.sh
 have rp:=Af S.p0 (xD S.pU hu)
 have rq:=Af S.q0 (xD S.qU hu)
 have rr:=Af S.r0 S.rh
 have rs:=Af S.s0 S.sh
 obtain⟨a1,a2⟩:=S.m1.sz S.v1.v hA hB hC rp rq rr rs
 obtain⟨b1,b2⟩:=S.m2.sz S.v2.v hD hE hF rp rq rr rs
 exact⟨⟨a1.mono (by decide),a2.mono (by decide)⟩,b1.mono (by decide),b2.mono (by decide)⟩
theorem BSt.last_sz (S:BSt (pw 213) 1710 A0 B0 C D0 E0 F p q r s A B D E) (hD:Rz 330 D0) (hE:Rz 330 E0) (hF:Rz 330 F) (hn:0≤n) (x0:ck (Re.of (n:Rat)) (am A B C)) (x1:ck (am A B C) (Re.of ((n+1:Int):Rat))) (y1:ck (am D E F) (Re.of ((n+1:Int):Rat)))
 {w2:Rat}(hw2:((D-(n:Rat))*(D-(n:Rat))-E*E*F)*w2=1) (t1:ck (Re.of 1) (am ((D-(n:Rat))*w2) (-E*w2) F)):Rz 25000 ((D-(n:Rat))*w2)∧Rz 25000 (-E*w2):=by
 have hrn:=fK S.r0 hn
 have hpn:=fK S.p0 hn
 have s0:=S.s0
 have r0:=S.r0
 have q0:=S.q0
 have hrb:=S.next_r hn x0 x1 y1
 have m1':=(S.m2.shift n).inv hw2
 have hp:=UY S.p0 r0 (by omega) (m1'.real S.v2.c0) t1 S.W0 S.WU
 have rp:=Af (show 0≤p*n+q by omega) (xD hp (Ww hrb S.rh))
 have rq:=Af S.p0 (xD S.pU (Ww S.rh S.sh))
 have rr:=Af (show 0≤r*n+s by omega) hrb
 have rs:=Af S.r0 S.rh
 obtain⟨a1,a2⟩:=m1'.sz S.v2.v hD hE hF rp rq rr rs
 exact⟨a1.mono (by decide),a2.mono (by decide)⟩
end
structure Lv (A B C D E F:Rat) (n:Int):Prop where
 hA:Rz 25000 A
 hB:Rz 25000 B
 hC:Rz 330 C
 hD:Rz 25000 D
 hE:Rz 25000 E
 hF:Rz 330 F
 v1:Vl B C
 v2:Vl E F
 ab:aO (am D E F-am A B C)=1
 nf:n=nK A B C
 nz:Sz 3421 n
section
variable {A B C D E F w:Rat}{n:Int}
theorem Lv.kA (L:Lv A B C D E F n):Rz 160000 A:=L.hA.mono (by decide)
theorem Lv.kB (L:Lv A B C D E F n):Rz 160000 B:=L.hB.mono (by decide)
theorem Lv.kC (L:Lv A B C D E F n):Rz 160000 C:=L.hC.mono (by decide)
theorem Lv.kD (L:Lv A B C D E F n):Rz 160000 D:=L.hD.mono (by decide)
theorem Lv.kE (L:Lv A B C D E F n):Rz 160000 E:=L.hE.mono (by decide)
theorem Lv.kF (L:Lv A B C D E F n):Rz 160000 F:=L.hF.mono (by decide)
theorem Lv.zn (L:Lv A B C D E F n):Rz 3421 (n:Rat):=dm L.nz (by decide)
theorem Lv.zn1 (L:Lv A B C D E F n):Rz 3423 ((n:Rat)+1):=L.zn.add (l:=1) (n6 (by decide+kernel))
theorem Lv.dn (L:Lv A B C D E F n):Rz 160000 (D-(n:Rat)):=(L.hD.sub L.zn).mono (by decide)
theorem Lv.an (L:Lv A B C D E F n):Rz 160000 (A-(n:Rat)):=(L.hA.sub L.zn).mono (by decide)
theorem Lv.dn1 (L:Lv A B C D E F n):Rz 160000 (D-((n:Rat)+1)):=(L.hD.sub L.zn1).mono (by decide)
theorem LZ:((1:Int):Rat)=1:=rfl
theorem Ak (n:Int):Re.of ((n+1:Int):Rat)=Re.of ((n:Rat)+1):=by rw[iE];rfl
theorem wO (hz:0≤z):eE (x-d) y (-0) 0 z 0=aO (am x y z-Re.of d):=by
 rw[mW (d:=d) (e:=0) hz kO]
 exact congrArg aO (ba fun k=>by simp only[am,ao,aI,aD,aV];grind)
theorem sx (hz:0≤z):bd (x-d) y z=aO (am x y z-Re.of d):=by
 rw[iD hz]
 exact congrArg aO (ba fun k=>by simp only[am,ao,aI,aD,aV];grind)
theorem Pw {w:Rat}(h:N*w=1):1/N=w∧N≠0:=by grind
theorem Uh {w:Rat}(x:Rat) (h:N*w=1):x/N=x*w:=by grind
theorem ML {w:Rat}(hv:Vl y z) (hw:((x-d)*(x-d)-y*y*z)*w=1):Vl (-y*w) z:=by
 refine⟨hv.c0,fun e=>hv.v fun e2=>e (by rw[e2];grind),fun e=>hv.z ?_⟩
 grind
theorem Jk {w:Rat}(hv:Vl y z) (hs:aO (am x y z-Re.of d)=1) (hw:((x-d)*(x-d)-y*y*z)*w=1):
 vi (x-d) y z≠0∧(x-d)*(x-d)-y*y*z≠0∧GC (x-d) y z=w∧zc (-y*w) z=z:=by
 obtain⟨h1,h2⟩:=Pw hw
 refine⟨?_,h2,h1,?_⟩
 ·rw[FS hv.c0 (fun e=>(hv.v e).1),show am (x-d) y z=am x y z-Re.of d from ba fun k=>by simp only[am,ao,aI,aD,aV];grind,hs];decide
 ·unfold zc
  split
  ·rename_i e
   have hw0:w≠0:=fun e2=>by rw[e2,Rat.mul_zero] at hw;exact absurd hw (by decide)
   rcases qE.1 e with g|g
   ·exact(hv.z (by grind)).symm
   ·exact absurd g hw0
  ·rfl
end
inductive Res:Rat→Rat→Rat→Rat→Rat→Rat→Int→Int→Prop
 |whole {A B C D E F:Rat}{n:Int}(L:Lv A B C D E F n) (a0:0≤aO (am A B C)) (h:aO (am D E F-Re.of ((n+1:Int):Rat))=1):Res A B C D E F (n+1) 1
 |last {A B C D E F w:Rat}{n m:Int}(L:Lv A B C D E F n) (a0:0≤aO (am A B C)) (h:aO (am D E F-Re.of ((n+1:Int):Rat))≤0) (hb:aO (am D E F-Re.of (n:Rat))=1) (hz:aO (am A B C-Re.of (n:Rat))=0)
   (hw:((D-(n:Rat))*(D-(n:Rat))-E*E*F)*w=1) (hm:m=nK ((D-(n:Rat))*w) (-E*w) F) (tA:Rz 25000 ((D-(n:Rat))*w)) (tB:Rz 25000 (-E*w)) (m0:0≤m) (mz:Sz 3421 m):Res A B C D E F (n*(m+1)+1) (m+1)
 |step {A B C D E F w1 w2:Rat}{n P Q:Int}(L:Lv A B C D E F n) (a0:0≤aO (am A B C)) (h:aO (am D E F-Re.of ((n+1:Int):Rat))≤0) (hb:aO (am D E F-Re.of (n:Rat))=1) (hz:aO (am A B C-Re.of (n:Rat))=1)
   (hw1:((A-(n:Rat))*(A-(n:Rat))-B*B*C)*w1=1) (hw2:((D-(n:Rat))*(D-(n:Rat))-E*E*F)*w2=1) (R:Res ((D-(n:Rat))*w2) (-E*w2) F ((A-(n:Rat))*w1) (-B*w1) C P Q)
   (p0:0<P) (q0:0<Q) (z:Rz 6841 (fr P Q)):Res A B C D E F (n*P+Q) P
section
variable {A0 B0 C D0 E0 F A B D E:Rat}{p q r s:Int}
theorem jv {x y:Re}(h:0≤aO x) (g:aO y=1):aO (x+y)=1:=by
 rcases Int.lt_or_eq_of_le h with e|e
 ·have:aO x=1:=by rcases bp x with c|c|c<;>omega
  rw[jf (by omega)];exact this
 ·rw[show x+y=y+x from ba fun k=>by simp only[aI];grind,dE _ e.symm];exact g
theorem UW {x:Int}(h0:0≤x) (h:x≤pw (1710+1710)):Sz 3421 x:=by
 have h1:pw 3420+1<pw 3421:=AS 3420
 have h2:x≤pw 3420:=h
 exact⟨by omega,by omega⟩
theorem BSt.res (hA:Rz 330 A0) (hB:Rz 330 B0) (hC:Rz 330 C) (hD:Rz 330 D0) (hE:Rz 330 E0) (hF:Rz 330 F) (S:BSt (pw 213) 1710 A0 B0 C D0 E0 F p q r s A B D E) (k:Nat) (hk:3*pw 1710<2*r+s+k):
 ∃P Q:Int,Res A B C D E F P Q∧TMin (tI (am A B C) (am D E F)) P Q:=by
 induction k generalizing A0 B0 C D0 E0 F p q r s A B D E with
 |zero=>exfalso;have:=S.rh;have:=S.sh;omega
 |succ k ih=>
  obtain⟨⟨zA,zB⟩,zD,zE⟩:=S.szs hA hB hC hD hE hF
  have vA:=S.m1.vl S.v1
  have vD:=S.m2.vl S.v2
  have f1:ck (Re.of ((nK A B C:Int):Rat)) (am A B C):=(sC vA.c0).1
  have f2:=ud (x:=A) (y:=B) vA.c0 vA.v
  obtain⟨hn0,_⟩:=S.n0 f2
  have hnu:=ef.1 (fN (dW f1 S.au))
  have L:Lv A B C D E F (nK A B C):=⟨zA,zB,hC,zD,zE,hF,vA,vD,S.ab,rfl,UW hn0 hnu⟩
  generalize nK A B C=n at*
  by_cases hb:aO (am D E F-Re.of ((n+1:Int):Rat))=1
  ·exact⟨_,_,.whole L S.a0 hb,Ie hn0 f1 f2 hb⟩
  have hb':aO (am D E F-Re.of ((n+1:Int):Rat))≤0:=by rcases bp (am D E F-Re.of ((n+1:Int):Rat)) with c|c|c<;>omega
  have y1:ck (am D E F) (Re.of ((n+1:Int):Rat)):=by unfold ck;rw[d7];omega
  have hbn:aO (am D E F-Re.of (n:Rat))=1:=by
   rw[show am D E F-Re.of (n:Rat)=(am A B C-Re.of (n:Rat))+(am D E F-am A B C) from ba fun k=>by simp only[ao,aI];grind]
   exact jv f1 S.ab
  have nb:(D-(n:Rat))*(D-(n:Rat))-E*E*F≠0:=KN vD.v (by rw[fI,hbn];decide)
  have hw2:((D-(n:Rat))*(D-(n:Rat))-E*E*F)*(1/((D-(n:Rat))*(D-(n:Rat))-E*E*F))=1:=by rw[Rat.mul_comm];exact no nb
  generalize 1/((D-(n:Rat))*(D-(n:Rat))-E*E*F)=w2 at hw2
  have i2:aO ((am D E F-Re.of (n:Rat))*am ((D-(n:Rat))*w2) (-E*w2) F-Re.of 1)=0:=by
   rw[←fI];exact AB S.v2.c0 hw2
  have b1:=inv_pos i2 hbn
  have gb:ck (Re.of (1/((pw (1710+1710):Int):Rat))) (am D E F-Re.of (n:Rat)):=by
   refine dW S.gap ?_
   show 0≤aO _
   rw[show am D E F-Re.of (n:Rat)-(am D E F-am A B C)=am A B C-Re.of (n:Rat) from ba fun k=>by simp only[ao];grind]
   exact f1
  have bu:=PJ i2 hbn gb
  by_cases hz:aO (am A B C-Re.of (n:Rat))=0
  ·have vI:Vl (-E*w2) F:=((S.m2.shift n).inv hw2).vl S.v2
   have g1:ck (Re.of ((nK ((D-(n:Rat))*w2) (-E*w2) F:Int):Rat)) (am ((D-(n:Rat))*w2) (-E*w2) F):=(sC vI.c0).1
   have g2:=ud (x:=(D-(n:Rat))*w2) (y:= -E*w2) vI.c0 vI.v
   have hmu:=ef.1 (fN (dW g1 bu))
   have hm0:0≤nK ((D-(n:Rat))*w2) (-E*w2) F:=by
    have:=pq (x:=((nK ((D-(n:Rat))*w2) (-E*w2) F+1:Int):Rat)) (n:=0) (xC (by omega)) g2
    have:=iv.1 this
    omega
   have le1:ck (am D E F-Re.of (n:Rat)) (Re.of 1):=BC (n:=n) y1 (gh _)
   obtain⟨tA,tB⟩:=S.last_sz hD hE hF hn0 f1 (by unfold ck;omega) y1 hw2 (Qp i2 hbn le1)
   have R:=Res.last L S.a0 hb' hbn hz hw2 rfl tA tB hm0 (UW hm0 hmu)
   refine⟨_,_,R,?_⟩
   exact TMin.step hn0 (Jl hm0 g1 g2) (O4 hz i2 b1)
  ·have hz1:aO (am A B C-Re.of (n:Rat))=1:=by
    have h0:0≤aO (am A B C-Re.of (n:Rat)):=f1
    rcases bp (am A B C-Re.of (n:Rat)) with c|c|c<;>omega
   have na:(A-(n:Rat))*(A-(n:Rat))-B*B*C≠0:=KN vA.v (by rw[fI,hz1];decide)
   have hw1:((A-(n:Rat))*(A-(n:Rat))-B*B*C)*(1/((A-(n:Rat))*(A-(n:Rat))-B*B*C))=1:=by grind
   generalize 1/((A-(n:Rat))*(A-(n:Rat))-B*B*C)=w1 at hw1
   have i1:aO ((am A B C-Re.of (n:Rat))*am ((A-(n:Rat))*w1) (-B*w1) C-Re.of 1)=0:=by
    rw[←fI];exact AB S.v1.c0 hw1
   have a1:=inv_pos i1 hz1
   obtain⟨S',hlt,_⟩:=S.step f1 f2 y1 hz1 hw1 hw2
   obtain⟨P,Q,R,T⟩:=ih hD hE hF hA hB hC S' (by omega)
   obtain⟨t1,t2⟩:=T.bound (S'.m1.vl S'.v1) S'.au S'.gap
   have t3:pw (1710+1710+1)≤pw (1710+1710+(1710+1710)+1):=lq (by decide)
   have z:=T.rz t1 (Int.lt_of_lt_of_le t2 t3)
   exact⟨_,_,.step L S.a0 hb' hbn hz1 hw1 hw2 R T.p T.q z,TMin.step hn0 T (M1 f1 i1 a1 i2 b1)⟩
end
theorem bU (ha:Rz 6000000 a) (hd:Rz 6000000 d) (h1:Rz 2000000 (a-d)) (hb:Rz 2000000 b) (hc:Rz 2000000 c):Ok Tryz.prog 86 [.a ((cR a++cR b++cR c)),dR d] [.c (.i .i64 (bd (a-d) b c))]:=by
 refine bW Tryz.func86 rfl<|cz 10 [] ?_
 refine aC rfl (eo ha hd) ?_
 refine aC rfl (uG h1 hb hc) ?_
 exact ah (ak aa)
theorem DC:Ok Tryz.prog 372 [dI n] [dR (n:Rat)]:=by
 refine bW Tryz.func372 rfl<|cz 3 [] ?_
 refine aC rfl ((show Ok Tryz.prog 66 [.c (.i .i64 1)] [dI 1] from pF (by decide) (by decide))) ?_
 refine aq (az (us:=cQ n 1) qj qe rfl rfl rfl) ?_
 refine ah ?_
 rw[Ir]
 exact aQ aX rfl aa
theorem nG (ha:Rz 6000000 a) (hd:Rz 6000000 d):Ok Tryz.prog 338 [.a ((cR a++cR b++cR c)),dR d] [.a ((cR (a-d)++cR b++cR c))]:=by
 refine bW Tryz.func338 rfl<|ac rfl (eo ha hd) ?_
 refine nM (aY (us:=(cR (a-d)++cR b++cR c)) aX rfl rfl rfl rfl (dO rfl) rfl rfl) ?_
 exact ah (aQ cG rfl aa)
theorem mZ (ha:Rz 400000 a) (hb:Rz 400000 b) (hc:Rz 400000 c) (hw:(a*a-b*b*c)*w=1):Ok Tryz.prog 339 [.a ((cR a++cR b++cR c))] [.a ((cR (a*w)++cR (-b*w)++cR c))]:=by
 have ka:Rz 6000000 a:=ha.m_
 have kb:Rz 6000000 b:=hb.m_
 have kc:Rz 6000000 c:=hc.m_
 have kn:Rz 6000000 (a*a-b*b*c):=((ha.mul ha).sub ((hb.mul hb).mul hc)).m_
 refine bW Tryz.func339 rfl<|cz 15 [] ?_
 refine aC rfl (cm (aE ha) (aE ha)) ?_
 refine aC rfl (cm (aE hb) (aE hb)) ?_
 refine aC rfl (cm (aE (aF hb hb)) (aE hc)) ?_
 refine aC rfl (eo (aE (aF ha ha)) (aE (aF (aF hb hb) hc))) ?_
 refine ac rfl (wd (pR ka kn (Pw hw).2) (Uh _ hw))<|cz 11 [6,999999] ?_
 refine aC rfl (gU kb) ?_
 refine aC rfl (wd (pR kb.neg kn (Pw hw).2) (Uh _ hw)) ?_
 refine DQ.mk<|fp (dL aX rfl) rfl rfl rfl rfl<|dc ?_
 refine ar (az (us:=(cR (a*w)++cR (-b*w)++cR c)) kT js rfl rfl rfl) ?_
 exact ah (aQ cG rfl aa)
theorem Sz.near {x:Int}(h:Sz k x) (h1:x-3≤n) (h2:n≤x+3):Sz (k+1) n:=by
 have e:=dB k
 have p:=cH k
 have a:=h.1
 have b:=h.2
 exact⟨by omega,by omega⟩
theorem yfl (ha:Rz 160000 a) (hb:Rz 160000 b) (hc:Rz 160000 c) {s N F:Int}(h1:aw b 0<0→s= -bO ((b*b*c).num.fdiv ((b*b*c).den:Int))) (h2: ¬aw b 0<0→s=bO ((b*b*c).num.fdiv ((b*b*c).den:Int))) (ss:Sz 480000 s) (en:((a.num.fdiv (a.den:Int):Int):Rat)+((s:Int):Rat)=(N:Rat)) (hn:Sz 500000 N) (h0:F-1≤N∧N≤F+1) (hF: ∀m:Int,bd (a-(m:Rat)) b c<0↔F<m):Ok Tryz.prog 337 [.a ((cR a++cR b++cR c))] [dR (((F:Int):Rat))]:=by
 have o1:Rz 6000000 (1:Rat):=n6 (by decide+kernel)
 have ka:Rz 6000000 a:=ha.m_
 have pb:Rz 480000 (b*b*c):=((hb.mul hb).mul hc).m_
 have q1:Rz 6000000 (b*b):=(hb.mul hb).m_
 have kb:Rz 6000000 b:=hb.m_
 have kc:Rz 6000000 c:=hc.m_
 have kq:Rz 6000000 (b*b*c):=pb.m_
 have fq:Sz 480000 ((b*b*c).num.fdiv ((b*b*c).den:Int)):=pb.n.fdiv
 have tq:Sz 480000 (bO ((b*b*c).num.fdiv ((b*b*c).den:Int))):=fq.isq
 have ku:Rz 6000000 ((a.num.fdiv (a.den:Int):Int):Rat):=(dm (ha.n.fdiv (y:=(a.den:Int))) (by decide)).m_
 have kt:Rz 6000000 ((s:Int):Rat):=(dm ss (by decide)).m_
 have Y: ∀m:Int,N-3≤m→m≤N+3→Rz 500003 (m:Rat):=fun m q1 q2=>dm ((hn.near q1 q2).m_) (by decide)
 have K: ∀m:Int,N-3≤m→m≤N+3→Rz 6000000 (m:Rat):=fun m q1 q2=>(Y m q1 q2).m_
 have Z: ∀m:Int,N-3≤m→m≤N+3→Rz 2000000 (a-(m:Rat)):=fun m q1 q2=>(ha.sub (Y m q1 q2)).m_
 refine ex Tryz.func337 51 [.cell 2 38] rfl<|ae<|ag<|ae<|fb 16 [3,999999] ?_
 refine aC rfl (cm kb kb) ?_
 refine aC rfl (cm q1 kc) ?_
 refine aC rfl (A6 kq) ?_
 refine aC rfl (HH (fq.m_)) ?_
 refine DQ.mk<|fp (dL dJ rfl) rfl rfl rfl rfl<|dc ?_
 refine oO (ι:=Unit) (fun i=>⟨51,[(1,.p 1 0),(2,.p 2 0),(3,.p 3 0)],[(1,129,(cR a++cR b++cR c)),(2,38,(([.b false]++[.s 0 []])++([.b false]++[.s 0 []]))),(3,36,cI s)]⟩) ?_ ?_
 ·refine ae<|ag ?_
  refine ac rfl (iA) ?_
  refine aS rfl (fun hc1=>?_) (fun hc1=>?_)
  ·have es:s= -bO ((b*b*c).num.fdiv ((b*b*c).den:Int)):=h1 (of_decide_eq_true hc1)
   refine ag ?_
   refine ac rfl (xT (tq.m_)) ?_
   exact⟨(),aA ⟨rfl,rfl,rfl,trivial⟩ ⟨rfl,rfl,congrArg (fun q=>some (36,cI q)) (es.symm),trivial⟩ rfl⟩
  ·have es:s=bO ((b*b*c).num.fdiv ((b*b*c).den:Int)):=h2 (of_decide_eq_false hc1)
   refine aB ?_
   exact⟨(),aA ⟨rfl,rfl,rfl,trivial⟩ ⟨rfl,rfl,congrArg (fun q=>some (36,cI q)) (es.symm),trivial⟩ rfl⟩
 ·rintro⟨⟩
  try dsimp only
  refine ae<|ag<|ac rfl ((show Ok Tryz.prog 18 [.c (.i .i64 1)] [dR 1] from dH (by omega) (by omega)))<|ae<|fb 8 [] ?_
  refine aC rfl (A6 ka) ?_
  refine aC rfl (DC) ?_
  refine aC rfl (DC) ?_
  refine aC rfl (lh (cK ku kt) en) ?_
  refine ae<|aP<|bF (ι:={n:Int // F-1≤n∧n≤F+1}) (fun i=>⟨51,[(1,.p 1 0),(2,.p 2 0),(5,.p 5 0),(6,.p 6 0)],[(1,129,(cR a++cR b++cR c)),(2,38,(([.b false]++[.s 0 []])++([.b false]++[.s 0 []]))),(5,38,cR 1),(6,38,cR (((i.1:Int):Rat)))]⟩) (fun i=>(i.1-F).toNat) ⟨N,h0⟩ (aA ⟨rfl,rfl,rfl,rfl,trivial⟩ ⟨rfl,rfl,rfl,rfl,trivial⟩ rfl) ?_
  rintro⟨n,k1,k2⟩
  replace k1:F-1≤n:=k1
  replace k2:n≤F+1:=k2
  dsimp only
  refine ae<|ae<|ag ?_
  refine ac rfl (bU ka (K _ (by omega) (by omega)) (Z _ (by omega) (by omega)) (hb.m_) (hc.m_)) ?_
  refine aS rfl (fun hc2=>?_) (fun hc2=>?_)
  ·have g1:F<n:=(hF n).1 (of_decide_eq_true hc2)
   refine aB<|aP<|ag ?_
   refine ac rfl (lh (eo (K _ (by omega) (by omega)) o1) (pi n 1).symm) ?_
   exact⟨⟨n-1,by omega⟩,aA ⟨rfl,rfl,rfl,rfl,trivial⟩ ⟨rfl,rfl,rfl,rfl,trivial⟩ rfl,by show(n-1-F).toNat<(n-F).toNat;omega⟩
  ·have g1: ¬F<n:=fun q=>of_decide_eq_false hc2 ((hF n).2 q)
   refine b7<|ae<|aP<|bF (ι:={n:Int // F-1≤n∧n≤F}) (fun i=>⟨51,[(1,.p 1 0),(2,.p 2 0),(5,.p 5 0),(6,.p 6 0)],[(1,129,(cR a++cR b++cR c)),(2,38,(([.b false]++[.s 0 []])++([.b false]++[.s 0 []]))),(5,38,cR 1),(6,38,cR (((i.1:Int):Rat)))]⟩) (fun i=>(F-i.1).toNat) ⟨n,by omega⟩ (aA ⟨rfl,rfl,rfl,rfl,trivial⟩ ⟨rfl,rfl,rfl,rfl,trivial⟩ rfl) ?_
   rintro⟨n,k1,k2⟩
   replace k1:F-1≤n:=k1
   replace k2:n≤F:=k2
   dsimp only
   refine ae<|ae<|fb 6 [] ?_
   refine aC rfl (lh (cK (K _ (by omega) (by omega)) o1) (iE n 1).symm) ?_
   refine aC rfl (bU ka (K _ (by omega) (by omega)) (Z _ (by omega) (by omega)) (hb.m_) (hc.m_)) ?_
   refine aS rfl (fun hc3=>?_) (fun hc3=>?_)
   ·have g2: ¬F<n+1:=fun q=>by have:=of_decide_eq_true hc3;have:=(hF (n+1)).2 q;omega
    refine aB<|aP<|ag ?_
    refine ac rfl (lh (cK (K _ (by omega) (by omega)) o1) (iE n 1).symm) ?_
    exact⟨⟨n+1,by omega⟩,aA ⟨rfl,rfl,rfl,rfl,trivial⟩ ⟨rfl,rfl,rfl,rfl,trivial⟩ rfl,by show(F-(n+1)).toNat<(F-n).toNat;omega⟩
   ·have g2:F<n+1:=(hF (n+1)).1 (by have:=of_decide_eq_false hc3;omega)
    refine b7<|ae<|ag ?_
    refine a9 ?_
    rw[show F=n from by omega]
    exact ah (aQ aX rfl aa)
end Go.Proofs.YtegpmhlfjkhjmaaGreat
