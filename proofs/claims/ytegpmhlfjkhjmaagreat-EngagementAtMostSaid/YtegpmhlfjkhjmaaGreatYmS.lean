/-Plain:two curves of the law's list have no common point inside of both. -/
import Derived.Test.YtegpmhlfjkhjmaaGreatYmR
namespace Go.Proofs.YtegpmhlfjkhjmaaGreat
open Go Go.RowKit
variable {P Q m n p q:Int}{K h k ka kb km:Nat}{B C M N U V a b c d e t w x y z:Rat}{S S':Rat→Prop}{X Y u u' v:Re}
theorem sN:type_of% @Rat.mul_le_mul_of_nonneg_right:=@Rat.mul_le_mul_of_nonneg_right
theorem tT:type_of% @Rat.mul_one:=@Rat.mul_one
theorem xW:type_of% @Rat.mul_lt_mul_of_pos_right:=@Rat.mul_lt_mul_of_pos_right
theorem yr:type_of% @Rat.mul_le_mul_of_nonneg_left:=@Rat.mul_le_mul_of_nonneg_left
theorem iV {U:Re}(hX:0≤aT X) (h:cD Y U):cD (X*Y) (X*U):=by
 unfold cD at*
 rw[show X*U-X*Y=X*(U-Y) from br fun k=>by simp only[aI,aR];grind,bH]
 exact fZ hX h
theorem jZ {x y z:Re}(h:aT (y-z)=0) (g:cD x y):cD x z:=by
 unfold cD at*
 rw[←dV (x:=y-x) (y:=z-x) (by rw[show y-x-(z-x)=y-z from br fun k=>by simp only[aI];grind];exact h)]
 grind
theorem S9 {x y:Re}(h:cD x y):cD (-y) (-x):=by
 unfold cD at*
 rw[show-x- -y=y-x from br fun k=>by simp only[aI,bD];grind];exact h
theorem gZ (x:Re):cD x x:=by
 unfold cD
 have h:aT (Re.of 0)=0:=by rw[cV];decide
 rw[show x-x=Re.of 0 from br fun k=>by simp only[aI,bc];grind,h];exact qw _
theorem Lq {W:Re}(hX:aT X=1) (hw:aT (X*Y-W)=0) (hU1:cD Y (Re.of U)) (hU2:cD (-Y) (Re.of U)) (he:cD (Re.of e) W∨cD (Re.of e) (-W)):cD (Re.of e) (Re.of U*X):=by
 have hc:Re.of U*X=X*Re.of U:=br fun k=>by simp only[aR];grind
 rw[hc]
 rcases he with he|he
 ·have h1:aT (W-X*Y)=0:=by rw[show W-X*Y= -(X*Y-W) from br fun k=>by simp only[aI,bD];grind,cj,hw];rfl
  exact ex (jZ h1 he) (iV (by omega) hU1)
 ·have h1:aT (-W-X* -Y)=0:=by rw[show-W-X* -Y=X*Y-W from br fun k=>by simp only[aI,bD,aR];grind];exact hw
  exact ex (jZ h1 he) (iV (by omega) hU2)
theorem KF (h:Rz k x) (hx:0<x):1/((pw k:Int):Rat)≤x:=by
 have hp:=db k
 have hpr:(0:Rat)<((pw k:Int):Rat):=iM.2 hp
 apply gg
 intro hn
 have h1:=xW (show x<1/((pw k:Int):Rat) by grind) hpr
 have hd:=den_pos x
 have hdr:(0:Rat)<((x.den:Int):Rat):=iM.2 hd
 have h2:((x.den:Int):Rat)≤((pw k:Int):Rat):=fI.2 (by obtain⟨g1,g2⟩:=h.d;omega)
 have h3:=yr h2 (show 0≤x by grind)
 rw[uM] at h3
 have h0:0<x.num:=by
  have:=kw hx hdr
  rw[uM] at this
  exact iM.1 (show((0:Int):Rat)<((x.num:Int):Rat) from this)
 have h4:((1:Int):Rat)≤((x.num:Int):Rat):=fI.2 (by omega)
 grind
theorem zI (h:Rz k x):x≤((pw k:Int):Rat)∧ -((pw k:Int):Rat)≤x:=by
 have hd:=den_pos x
 have hdr:((1:Int):Rat)≤((x.den:Int):Rat):=fI.2 (by omega)
 have hn1:((x.num:Int):Rat)≤((pw k:Int):Rat):=fI.2 (by obtain⟨g1,g2⟩:=h.n;omega)
 have hn2:((-(pw k):Int):Rat)≤((x.num:Int):Rat):=fI.2 (by obtain⟨g1,g2⟩:=h.n;omega)
 have e:=uM x
 constructor
 ·apply gg
  intro hn
  have h1:=yr hdr (show 0≤x by grind)
  grind
 ·apply gg
  intro hn
  have h1:=yr hdr (show 0≤ -x by grind)
  grind
theorem aa5 (h:0≤M):cD (Re.rt M) (Re.of (M+1)):=by
 refine qP (xy M) (by rw[cV];exact kJ (by grind)) ?_
 have e:aT (Re.of (M+1)*Re.of (M+1)-Re.rt M*Re.rt M)=aT (Re.of ((M+1)*(M+1)-M)):=dV (by
  rw[show Re.of (M+1)*Re.of (M+1)-Re.rt M*Re.rt M-Re.of ((M+1)*(M+1)-M)= -(Re.rt M*Re.rt M-Re.of M) from br fun k=>by simp only[aI,aR,bc,bD];grind,cj,oE h];rfl)
 rw[e,cV]
 exact kJ (by have:=jo h h;grind)
theorem KQ (h:0≤M) (h1:b*(M+1)≤V) (h0:0≤V):cD (Re.of b*Re.rt M) (Re.of V):=by
 by_cases hb:0≤b
 ·have:=iV (X:=Re.of b) (by rw[cV];exact kJ hb) (aa5 h)
  exact ex this (by rw[ia];exact of_le h1)
 ·have h2:cD (Re.of b*Re.rt M) (Re.of 0):=by
   unfold cD
   rw[show Re.of 0-Re.of b*Re.rt M=Re.of (-b)*Re.rt M from br fun k=>by simp only[aI,aR,bc];grind,bH]
   exact fZ (by rw[cV];exact kJ (by grind)) (xy M)
  exact ex h2 (of_le h0)
theorem Lb (h:0≤M) (h1:b*(M+1)≤U-a) (h0:a≤U):cD (aB a b M) (Re.of U):=by
 have:=KQ (b:=b) h h1 (by grind)
 have h2:=fA (gZ (Re.of a)) this
 unfold aB
 refine ex h2 ?_
 rw[show Re.of a+Re.of (U-a)=Re.of U from br fun k=>by simp only[aQ,bc];grind]
 exact gZ _
theorem Nj (h:0≤M):aT (aB a b M*aB a (-b) M-Re.of (a*a-b*b*M))=0:=by
 rw[show aB a b M*aB a (-b) M-Re.of (a*a-b*b*M)=Re.of (-(b*b))*(Re.rt M*Re.rt M-Re.of M) from br fun k=>by simp only[aB,aI,aR,bc,aQ];grind,bH,oE h,pF]
theorem jA (a b M:Rat):aB (-a) (-b) M= -(aB a b M):=br fun k=>by simp only[aB,aQ,aR,bc,bD];grind
theorem Gm (a b:Nat):((pw (a+b):Int):Rat)=((pw a:Int):Rat)*((pw b:Int):Rat):=by rw[←f8,qY]
theorem pI (k:Nat):(0:Rat)<((pw k:Int):Rat):=iM.2 (db k)
theorem GV (k:Nat):(1:Rat)≤((pw k:Int):Rat):=by
 have h:((1:Int):Rat)≤((pw k:Int):Rat):=fI.2 (by have:=db k;omega)
 grind
theorem SM (h1:b≤B) (h2: -B≤b) (c0:0≤c) (c1:c≤C):b*c≤B*C∧ -(B*C)≤b*c:=by
 have g1:b*c≤B*c:=sN h1 c0
 have g2:B*c≤B*C:=yr c1 (by grind)
 have g3: -B*c≤b*c:=sN h2 c0
 grind
theorem FZ (ha:Rz ka a) (hb:Rz kb b) (hm:Rz km M) (h0:0≤M) (hU:((pw ka:Int):Rat)+((pw kb:Int):Rat)*(((pw km:Int):Rat)+1)≤U):cD (aB a b M) (Re.of U)∧cD (-(aB a b M)) (Re.of U):=by
 obtain⟨a1,a2⟩:=zI ha
 obtain⟨b1,b2⟩:=zI hb
 obtain⟨m1,_⟩:=zI hm
 obtain⟨g1,g2⟩:=SM (c:=M+1) (C:=((pw km:Int):Rat)+1) b1 b2 (by grind) (by grind)
 refine⟨Lb h0 (by grind) (by grind),?_⟩
 rw[←jA]
 exact Lb h0 (by grind) (by grind)
theorem XK (hx:0<x) (h:x≤y):1/y≤1/x:=by
 apply gg
 intro hn
 have h0:0<1/y:=by
  apply gg
  intro hc
  have:=sN (show 1/y≤0 by grind) (show 0≤y by grind)
  grind
 have h1:=xW (show 1/x<1/y by grind) hx
 have h2:=yr h (show 0≤1/y by grind)
 grind
theorem XV (h:0<a):a≤2*a:=by grind
theorem Py (h:x<0):0< -x:=by grind
theorem UQ (h:0<2*a):0<a:=by grind
theorem Ms (h:0≤c):0≤c+1:=by grind
theorem Vi (h:c≤d):c+1≤d+1:=by grind
theorem Vu (h: -y≤x): -x≤y:=by grind
theorem T9 (h:aM x 0=1):0<x:=by
 unfold aM at h
 split at h
 ·cases h
 grind
theorem Ax (h:0<x):0≤x:=by grind
theorem YP (h:x≠0):x<0∨0<x:=by grind
theorem Ff (h:aT u=0) (g:aT v=0):aT (u+v)=0:=by
 rw[dV (x:=u+v) (y:=v) (by rw[show u+v-v=u from br fun k=>by simp only[aI,aQ];grind];exact h)]
 grind
theorem Tw (a b:Nat):1/((pw (a+b):Int):Rat)*((pw b:Int):Rat)=1/((pw a:Int):Rat):=by
 have h2:=pI b
 rw[Gm]
 grind
theorem Le {a b:Nat}(h:cD (Re.of (1/((pw a:Int):Rat))) (Re.of ((pw b:Int):Rat)*X)):cD (Re.of (1/((pw (a+b):Int):Rat))) X:=by
 refine sF (pI b) ?_
 rw[ia,Rat.mul_comm,Tw]
 grind
theorem KT {a b:Nat}(h:a≤b):1/((pw b:Int):Rat)≤1/((pw a:Int):Rat):=XK (pI a) (fI.2 (mH h))
theorem pw1:((pw 1:Int):Rat)=1000000000:=by
 have:pw 1=1000000000:=by decide+kernel
 rw[this];rfl
theorem GN (ka kb km:Nat):((pw ka:Int):Rat)+((pw kb:Int):Rat)*(((pw km:Int):Rat)+1)≤((pw (ka+kb+km+1):Int):Rat):=by
 rw[Gm,Gm,Gm,pw1]
 have a:=GV ka
 have b:=GV kb
 have m:=GV km
 generalize ((pw ka:Int):Rat)=x at*
 generalize ((pw kb:Int):Rat)=y at*
 generalize ((pw km:Int):Rat)=z at*
 have h1:=yr b (show 0≤x by grind)
 have h2:=yr m (show 0≤x*y by grind)
 have h3:=sN a (show 0≤y by grind)
 have h4:=sN h3 (show 0≤z by grind)
 grind
def K2 (ka kb km:Nat):Nat:=(ka+ka+(kb+kb+km)+1)+(ka+kb+km+1)
theorem RM (ha:Rz ka a) (hb:Rz kb b) (hm:Rz km M) (h0:0≤M) (hX:aT (aB a b M)=1):cD (Re.of (1/((pw (K2 ka kb km):Int):Rat))) (aB a b M):=by
 have hr:Rz (ka+ka+(kb+kb+km)+1) (a*a-b*b*M):=(ha.mul ha).sub ((hb.mul hb).mul hm)
 obtain⟨u1,u2⟩:=FZ ha hb.neg hm h0 (GN ka kb km)
 have hc:=Nj (a:=a) (b:=b) h0
 by_cases hz:a*a-b*b*M=0
 ·--the conjugate is 0
  have hY:aT (aB a (-b) M)=0:=by
   have h1:aT (aB a b M*aB a (-b) M)=0:=by
    rw[dV hc,cV,hz];decide
   rw[bH,hX,pn] at h1
   grind
  have h2:aT (aB a b M-Re.of (2*a))=0:=by
   rw[show aB a b M-Re.of (2*a)= -(aB a (-b) M) from br fun k=>by simp only[aB,aI,aQ,aR,bc,bD];grind,cj,hY];rfl
  have h3:aT (Re.of (2*a))=1:=by rw[←dV h2];exact hX
  have ha0:0<a:=UQ (T9 (by rw[←cV];exact h3))
  have h4:=KF ha ha0
  have h5:=KT (a:=ka) (b:=K2 ka kb km) (by unfold K2;omega)
  have h6:cD (Re.of (1/((pw (K2 ka kb km):Int):Rat))) (Re.of (2*a)):=of_le (Rat.le_trans h5 (Rat.le_trans h4 (XV ha0)))
  refine jZ ?_ h6
  rw[show Re.of (2*a)-aB a b M= -(aB a b M-Re.of (2*a)) from br fun k=>by simp only[aI,bD];grind,cj,h2];rfl
 ·refine Le (Lq hX hc u1 u2 ?_)
  rcases YP hz with h|h
  ·right
   rw[show-Re.of (a*a-b*b*M)=Re.of (-(a*a-b*b*M)) from br fun k=>by simp only[bD,bc]]
   exact of_le (KF hr.neg (Py h))
  ·left
   exact of_le (KF hr h)
theorem adj (ha:Rz ka a) (hb:Rz kb b) (hm:Rz km M) (h0:0≤M) (hX:aT (aB a b M)≠0):cD (Re.of (1/((pw (K2 ka kb km):Int):Rat))) (aB a b M)∨cD (Re.of (1/((pw (K2 ka kb km):Int):Rat))) (-(aB a b M)):=by
 rcases bJ (aB a b M) with h|h|h
 ·exact .inl (RM ha hb hm h0 h)
 ·grind
 ·right
  rw[←jA]
  exact RM ha.neg hb.neg hm h0 (by rw[jA,cj,h];rfl)
def K4 (kA kB kC kM kN:Nat):Nat:=K2 (kA+kA+(kB+kB+kM)+1+(kC+kC+kN)+1) (1+(kA+kB)) kM+(kA+kB+kM+1+kC+kN+1)
theorem Tg (kA kB kC kM kN:Nat):((pw (kA+kB+kM+1):Int):Rat)+((pw kC:Int):Rat)*(((pw kN:Int):Rat)+1)≤((pw (kA+kB+kM+1+kC+kN+1):Int):Rat):=GN _ kC kN
theorem adN {kA kB kC kM kN:Nat}{A:Rat}(hA:Rz kA A) (hB:Rz kB B) (hC:Rz kC C) (hM:Rz kM M) (hN:Rz kN N) (m0:0≤M) (n0:0≤N) (hX:aT (jH A B C 0 M N)=1):cD (Re.of (1/((pw (K4 kA kB kC kM kN):Int):Rat))) (jH A B C 0 M N):=by
 have two:Rz 1 (2:Rat):=pe (by decide+kernel)
 have hw1:Rz (kA+kA+(kB+kB+kM)+1+(kC+kC+kN)+1) (A*A+B*B*M-C*C*N):=((hA.mul hA).add ((hB.mul hB).mul hM)).sub ((hC.mul hC).mul hN)
 have hw2:Rz (1+(kA+kB)) (2*(A*B)):=two.mul (hA.mul hB)
 have hconj:aT (jH A B C 0 M N*jH A B (-C) 0 M N-aB (A*A+B*B*M-C*C*N) (2*(A*B)) M)=0:=by
  rw[show jH A B C 0 M N*jH A B (-C) 0 M N-aB (A*A+B*B*M-C*C*N) (2*(A*B)) M=Re.of (B*B)*(Re.rt M*Re.rt M-Re.of M)+Re.of (-(C*C))*(Re.rt N*Re.rt N-Re.of N) from br fun k=>by simp only[jH,aB,aI,aR,bc,aQ];grind]
  refine Ff ?_ ?_
  ·rw[bH,oE m0,pF]
  ·rw[bH,oE n0,pF]
 have hP:=GN kA kB kM
 obtain⟨u1,u2⟩:=FZ hA hB hM m0 hP
 obtain⟨c1,c2⟩:=zI hC
 obtain⟨k1,_⟩:=zI hN
 obtain⟨g1,g2⟩:=SM (c:=N+1) (C:=((pw kN:Int):Rat)+1) c1 c2 (Ms n0) (Vi k1)
 have hQ0:=jo (Ax (pI kC)) (Ms (Ax (pI kN)))
 have v1:cD (Re.of C*Re.rt N) (Re.of (((pw kC:Int):Rat)*(((pw kN:Int):Rat)+1))):=KQ n0 g1 hQ0
 have v2:cD (Re.of (-C)*Re.rt N) (Re.of (((pw kC:Int):Rat)*(((pw kN:Int):Rat)+1))):=KQ n0 (by rw[Rat.neg_mul];exact Vu g2) hQ0
 have hS:=of_le (Tg kA kB kC kM kN)
 have up1:cD (jH A B (-C) 0 M N) (Re.of ((pw (kA+kB+kM+1+kC+kN+1):Int):Rat)):=by
  refine ex ?_ hS
  have:=fA u1 v2
  rw[show jH A B (-C) 0 M N=aB A B M+Re.of (-C)*Re.rt N from br fun k=>by simp only[jH,aB,aR,bc,aQ];grind,
   show Re.of (((pw (kA+kB+kM+1):Int):Rat)+((pw kC:Int):Rat)*(((pw kN:Int):Rat)+1))=Re.of ((pw (kA+kB+kM+1):Int):Rat)+Re.of (((pw kC:Int):Rat)*(((pw kN:Int):Rat)+1)) from br fun k=>by simp only[bc,aQ]]
  grind
 have up2:cD (-(jH A B (-C) 0 M N)) (Re.of ((pw (kA+kB+kM+1+kC+kN+1):Int):Rat)):=by
  refine ex ?_ hS
  have:=fA u2 v1
  rw[show-(jH A B (-C) 0 M N)= -(aB A B M)+Re.of C*Re.rt N from br fun k=>by simp only[jH,aB,aR,bc,aQ,bD];grind,
   show Re.of (((pw (kA+kB+kM+1):Int):Rat)+((pw kC:Int):Rat)*(((pw kN:Int):Rat)+1))=Re.of ((pw (kA+kB+kM+1):Int):Rat)+Re.of (((pw kC:Int):Rat)*(((pw kN:Int):Rat)+1)) from br fun k=>by simp only[bc,aQ]]
  grind
 by_cases hz:aT (aB (A*A+B*B*M-C*C*N) (2*(A*B)) M)=0
 ·have hY:aT (jH A B (-C) 0 M N)=0:=by
   have h1:aT (jH A B C 0 M N*jH A B (-C) 0 M N)=0:=by rw[dV hconj];exact hz
   rw[bH,hX,pn] at h1
   grind
  have h2:aT (jH A B C 0 M N-Re.of 2*aB A B M)=0:=by
   rw[show jH A B C 0 M N-Re.of 2*aB A B M= -(jH A B (-C) 0 M N) from br fun k=>by simp only[jH,aB,aI,aQ,aR,bc,bD];grind,cj,hY];rfl
  have h3:aT (aB A B M)=1:=by
   have h4:=dV h2
   rw[hX,bH,cV,show aM 2 0=1 from by decide,pn] at h4
   grind
  have h4:=RM hA hB hM m0 h3
  have h5:cD (aB A B M) (Re.of 2*aB A B M):=by
   unfold cD
   rw[show Re.of 2*aB A B M-aB A B M=aB A B M from br fun k=>by simp only[aI,aR,bc];grind,h3];decide
  have h6:cD (Re.of (1/((pw (K4 kA kB kC kM kN):Int):Rat))) (aB A B M):=ex (of_le (KT (by unfold K4 K2;omega))) h4
  refine jZ ?_ (ex h6 h5)
  rw[show Re.of 2*aB A B M-jH A B C 0 M N= -(jH A B C 0 M N-Re.of 2*aB A B M) from br fun k=>by simp only[aI,bD];grind,cj,h2];rfl
 ·exact Le (Lq hX hconj up1 up2 (adj hw1 hw2 hM m0 hz))
structure Mob (A0 B0 C:Rat) (p q r s:Int) (A B:Rat):Prop where
 e1:((p:Rat)-(r:Rat)*A0)*A-(r:Rat)*B0*B*C=(s:Rat)*A0-(q:Rat)
 e2:((p:Rat)-(r:Rat)*A0)*B-(r:Rat)*B0*A=(s:Rat)*B0
 det:p*s-q*r=1∨p*s-q*r= -1
section
variable {A0 B0 C A B:Rat}{p q r s:Int}
theorem Mob.init (A0 B0 C:Rat):Mob A0 B0 C 1 0 0 1 A0 B0:=by
 refine⟨?_,?_,.inl (by decide)⟩
 ·grind
 grind
theorem Mob.shift (h:Mob A0 B0 C p q r s A B) (n:Int):Mob A0 B0 C p (p*n+q) r (r*n+s) (A-(n:Rat)) B:=by
 obtain⟨e1,e2,hd⟩:=h
 refine⟨?_,?_,?_⟩
 ·grind
 ·grind
 grind
theorem Mob.inv (h:Mob A0 B0 C p q r s A B) (hw:(A*A-B*B*C)*w=1):Mob A0 B0 C q p s r (A*w) (-B*w):=by
 obtain⟨e1,e2,hd⟩:=h
 refine⟨?_,?_,?_⟩
 ·grind
 ·grind
 grind
theorem Mob.sol (h:Mob A0 B0 C p q r s A B):A*(((p:Rat)-(r:Rat)*A0)*((p:Rat)-(r:Rat)*A0)-(r:Rat)*(r:Rat)*(B0*B0*C))=((s:Rat)*A0-(q:Rat))*((p:Rat)-(r:Rat)*A0)+(s:Rat)*(r:Rat)*(B0*B0*C)∧
 B*(((p:Rat)-(r:Rat)*A0)*((p:Rat)-(r:Rat)*A0)-(r:Rat)*(r:Rat)*(B0*B0*C))=B0*((p*s-q*r:Int):Rat):=by
 obtain⟨e1,e2,hd⟩:=h
 grind
theorem Mob.ne (h:Mob A0 B0 C p q r s A B) (_hv:B0≠0→0<C∧je C=false):((p:Rat)-(r:Rat)*A0)*((p:Rat)-(r:Rat)*A0)-(r:Rat)*(r:Rat)*(B0*B0*C)≠0:=by
 obtain⟨e1,e2,hd⟩:=h
 have hdr:((p*s-q*r:Int):Rat)≠0:=by
  rcases hd with hd|hd<;>rw[hd]<;>decide
 by_cases hb:B0=0
 ·grind
 grind
theorem Mob.sz (h:Mob A0 B0 C p q r s A B) (hv:B0≠0→0<C∧je C=false) {m kp kq kr ks:Nat}(hA:Rz m A0) (hB:Rz m B0) (hC:Rz m C) (hp:Rz kp (p:Rat)) (hq:Rz kq (q:Rat)) (hr:Rz kr (r:Rat)) (hs:Rz ks (s:Rat)):
 Rz (((ks+m+kq+1)+(kp+(kr+m)+1)+(ks+kr+(m+m+m))+1)+((kp+(kr+m)+1)+(kp+(kr+m)+1)+(kr+kr+(m+m+m))+1)) A∧Rz ((m+1)+((kp+(kr+m)+1)+(kp+(kr+m)+1)+(kr+kr+(m+m+m))+1)) B:=by
 have hne:=h.ne hv
 obtain⟨s1,s2⟩:=h.sol
 have hd:=h.det
 have z1:=hp.sub (hr.mul hA)
 have z2:=(z1.mul z1).sub ((hr.mul hr).mul ((hB.mul hB).mul hC))
 have z3:=(((hs.mul hA).sub hq).mul z1).add ((hs.mul hr).mul ((hB.mul hB).mul hC))
 have z4:Rz 1 ((p*s-q*r:Int):Rat):=by rcases hd with hd|hd<;>rw[hd]<;>exact pe (by decide+kernel)
 have z5:=(hB.mul z4).div z2 hne
 have z6:=z3.div z2 hne
 grind
theorem Mob.real (h:Mob A0 B0 C p q r s A B) (hc:0≤C):aT (aB A0 B0 C*(Re.of (r:Rat)*aB A B C+Re.of (s:Rat))-(Re.of (p:Rat)*aB A B C+Re.of (q:Rat)))=0:=by
 obtain⟨e1,e2,hd⟩:=h
 rw[show aB A0 B0 C*(Re.of (r:Rat)*aB A B C+Re.of (s:Rat))-(Re.of (p:Rat)*aB A B C+Re.of (q:Rat))=Re.of ((r:Rat)*B0*B)*(Re.rt C*Re.rt C-Re.of C) from br fun k=>by simp only[aB,aI,aQ,aR,bc];grind,bH,oE hc,pF]
end
theorem vo (v:Re) (h:aT u=0):aT (v*u)=0:=by rw[bH,h,pF]
theorem sK (h:aT u=0):aT (-u)=0:=by rw[cj,h];rfl
theorem Dk {x y z:Re}(h:aT (y-x)=0) (g:cD x z):cD y z:=by
 unfold cD at*
 rw[dV (x:=z-y) (y:=z-x) (by rw[show z-y-(z-x)= -(y-x) from br fun k=>by simp only[aI,bD];grind];exact sK h)]
 grind
theorem yU {a b c d:Re}(ha:0≤aT c) (h:cD a b) (hb:0≤aT b) (g:cD c d):cD (a*c) (b*d):=by
 have h1:cD (c*a) (c*b):=iV ha h
 have h2:cD (b*c) (b*d):=iV hb g
 rw[show a*c=c*a from br fun k=>by simp only[aR];grind]
 rw[show c*b=b*c from br fun k=>by simp only[aR];grind] at h1
 exact ex h1 h2
theorem yg {x:Re}(h:cD (Re.of 0) x):0≤aT x:=by
 unfold cD at h
 rw[show x-Re.of 0=x from br fun k=>by simp only[aI,bc];grind] at h;exact h
theorem xK {x:Re}(h:0≤aT x):cD (Re.of 0) x:=by
 unfold cD
 rw[show x-Re.of 0=x from br fun k=>by simp only[aI,bc];grind];exact h
theorem EX (h:0≤x):0≤aT (Re.of x):=by rw[cV];exact kJ h
theorem Bj (h:0≤n):(0:Rat)≤(n:Rat):=by
 have:((0:Int):Rat)≤(n:Rat):=fI.2 h
 grind
theorem Q6 (h:0<x) :1/x*y*x=y:=by grind
theorem JN (h:0<x):0≤1/x:=by
 apply gg
 intro hc
 have:=sN (show 1/x≤0 by grind) (show 0≤x by grind)
 grind
section
variable {X Y V W Z Z':Re}{p q r s n:Int}
theorem GU (hr:0≤r) (h:cD (Re.of (n:Rat)) X):cD (Re.of ((r*n+s:Int):Rat)) (Re.of (r:Rat)*X+Re.of (s:Rat)):=by
 have h1:=iV (X:=Re.of (r:Rat)) (EX (Bj hr)) h
 have h2:=fA h1 (gZ (Re.of (s:Rat)))
 rw[show Re.of (r:Rat)*Re.of (n:Rat)+Re.of (s:Rat)=Re.of ((r*n+s:Int):Rat) from br fun k=>by simp only[aQ,aR,bc,kW,f8]] at h2
 grind
theorem LC (hX:aT (V*(Re.of (r:Rat)*X+Re.of (s:Rat))-(Re.of (p:Rat)*X+Re.of (q:Rat)))=0) (hY:aT (W*(Re.of (r:Rat)*Y+Re.of (s:Rat))-(Re.of (p:Rat)*Y+Re.of (q:Rat)))=0):
 aT ((V-W)*((Re.of (r:Rat)*X+Re.of (s:Rat))*(Re.of (r:Rat)*Y+Re.of (s:Rat)))-Re.of ((p*s-q*r:Int):Rat)*(X-Y))=0:=by
 rw[show(V-W)*((Re.of (r:Rat)*X+Re.of (s:Rat))*(Re.of (r:Rat)*Y+Re.of (s:Rat)))-Re.of ((p*s-q*r:Int):Rat)*(X-Y)=
  (Re.of (r:Rat)*Y+Re.of (s:Rat))*(V*(Re.of (r:Rat)*X+Re.of (s:Rat))-(Re.of (p:Rat)*X+Re.of (q:Rat)))+ -((Re.of (r:Rat)*X+Re.of (s:Rat))*(W*(Re.of (r:Rat)*Y+Re.of (s:Rat))-(Re.of (p:Rat)*Y+Re.of (q:Rat)))) from
  br fun k=>by simp only[aI,aQ,aR,bc,bD,qE,f8];grind]
 exact Ff (vo _ hX) (sK (vo _ hY))
theorem Cw {a b:Re}(h1:cD a (Re.of ((n+1:Int):Rat))) (h2:cD (Re.of (n:Rat)) b):cD (a-b) (Re.of 1):=by
 have:=fA h1 (S9 h2)
 rw[show a+ -b=a-b from br fun k=>by simp only[aI,aQ,bD];try grind,show Re.of ((n+1:Int):Rat)+ -Re.of (n:Rat)=Re.of 1 from br fun k=>by
  simp only[aQ,bc,bD,kW];try grind] at this
 grind
theorem E9 (hr:0≤r) (hs:0≤s) (hn:0≤n) (hd:p*s-q*r=1∨p*s-q*r= -1)
 (hX:aT (V*(Re.of (r:Rat)*X+Re.of (s:Rat))-(Re.of (p:Rat)*X+Re.of (q:Rat)))=0) (hY:aT (W*(Re.of (r:Rat)*Y+Re.of (s:Rat))-(Re.of (p:Rat)*Y+Re.of (q:Rat)))=0)
 (x0:cD (Re.of (n:Rat)) X) (x1:cD X (Re.of ((n+1:Int):Rat))) (y0:cD (Re.of (n:Rat)) Y) (y1:cD Y (Re.of ((n+1:Int):Rat)))
 (he:cD (Re.of (1/((pw K:Int):Rat))) (V-W)):(r*n+s)*(r*n+s)≤pw K:=by
 have hR0:0≤r*n+s:=by have:=fZ hr hn;omega
 have e1:=LC hX hY
 have lx:=GU (s:=s) hr x0
 have ly:=GU (s:=s) hr y0
 have nR:=EX (Bj hR0)
 have zx:0≤aT (Re.of (r:Rat)*X+Re.of (s:Rat)):=yg (ex (of_le (Bj hR0)) lx)
 have m1:=yU nR lx zx ly
 have hp:=pI K
 have ie:(0:Rat)≤1/((pw K:Int):Rat):=JN hp
 have dp:0≤aT (V-W):=yg (ex (of_le ie) he)
 have nRR:0≤aT (Re.of ((r*n+s:Int):Rat)*Re.of ((r*n+s:Int):Rat)):=by rw[bH];exact fZ nR nR
 have m2:=yU nRR he dp m1
 have t1:cD (Re.of ((p*s-q*r:Int):Rat)*(X-Y)) (Re.of 1):=by
  rcases hd with hd|hd<;>rw[hd]
  ·rw[show Re.of ((1:Int):Rat)*(X-Y)=X-Y from br fun k=>by
    have h1:((1:Int):Rat)=1:=rfl
    simp only[aI,aR,bc,h1];grind]
   exact Cw x1 y0
  ·rw[show Re.of ((-1:Int):Rat)*(X-Y)=Y-X from br fun k=>by
    have h1:((-1:Int):Rat)= -1:=rfl
    simp only[aI,aR,bc,h1];grind]
   exact Cw y1 x0
 have m3:=ex m2 (Dk e1 t1)
 rw[ia,ia,←f8] at m3
 have m4:=gl m3
 have m5:=sN m4 (Ax hp)
 rw[Q6 hp,Rat.one_mul] at m5
 exact fI.1 m5
theorem Wv {U:Int}(hq:0≤q) (hs:0≤s) (hr:0≤r) (hX:aT (V*(Re.of (r:Rat)*X+Re.of (s:Rat))-(Re.of (p:Rat)*X+Re.of (q:Rat)))=0) (x1:cD (Re.of 1) X) (v0:0≤aT V) (v1:cD V (Re.of (U:Rat))):p≤U*(r+s):=by
 have xp:0<aT X:=by
  have h1:cD (Re.of 1) X:=x1
  rcases bJ X with h|h|h
  ·omega
  ·exfalso
   have h2:cD (Re.of 1) (Re.of 0):=jZ (by rw[show X-Re.of 0=X from br fun k=>by simp only[aI,bc];grind];exact h) h1
   exact absurd (gl h2) (by decide)
  ·exfalso
   have h3:cD X (Re.of 0):=by unfold cD;rw[show Re.of 0-X= -X from br fun k=>by simp only[aI,bc,bD];grind,cj,h];decide
   exact absurd (gl (ex h1 h3)) (by decide)
 have a1:cD (Re.of (p:Rat)*X) (Re.of (p:Rat)*X+Re.of (q:Rat)):=by
  unfold cD
  rw[show Re.of (p:Rat)*X+Re.of (q:Rat)-Re.of (p:Rat)*X=Re.of (q:Rat) from br fun k=>by simp only[aI,aQ,bc];grind]
  exact EX (Bj hq)
 have a2:=jZ (z:=V*(Re.of (r:Rat)*X+Re.of (s:Rat))) (by rw[show Re.of (p:Rat)*X+Re.of (q:Rat)-V*(Re.of (r:Rat)*X+Re.of (s:Rat))= -(V*(Re.of (r:Rat)*X+Re.of (s:Rat))-(Re.of (p:Rat)*X+Re.of (q:Rat))) from br fun k=>by simp only[aI,bD];grind];exact sK hX) a1
 have a3:cD (Re.of (r:Rat)*X+Re.of (s:Rat)) (Re.of ((r+s:Int):Rat)*X):=by
  have h1:=iV (X:=Re.of (s:Rat)) (EX (Bj hs)) x1
  have h2:=fA (gZ (Re.of (r:Rat)*X)) h1
  rw[show Re.of (s:Rat)*Re.of 1=Re.of (s:Rat) from br fun k=>by simp only[aR,bc];grind,show Re.of (r:Rat)*X+Re.of (s:Rat)*X=Re.of ((r+s:Int):Rat)*X from br fun k=>by simp only[aR,aQ,bc,kW];grind] at h2
  grind
 have a4:=iV v0 a3
 have rsX:0≤aT (Re.of ((r+s:Int):Rat)*X):=by rw[bH];exact fZ (EX (Bj (by omega))) (by omega)
 have a5:cD (V*(Re.of ((r+s:Int):Rat)*X)) (Re.of (U:Rat)*(Re.of ((r+s:Int):Rat)*X)):=by
  have:=iV rsX v1
  rw[show Re.of ((r+s:Int):Rat)*X*V=V*(Re.of ((r+s:Int):Rat)*X) from br fun k=>by simp only[aR];grind,show Re.of ((r+s:Int):Rat)*X*Re.of (U:Rat)=Re.of (U:Rat)*(Re.of ((r+s:Int):Rat)*X) from br fun k=>by simp only[aR];grind] at this
  grind
 have a6:=ex a2 (ex a4 a5)
 unfold cD at a6
 rw[show Re.of (U:Rat)*(Re.of ((r+s:Int):Rat)*X)-Re.of (p:Rat)*X=Re.of ((U*(r+s)-p:Int):Rat)*X from br fun k=>by simp only[aI,aR,bc,qE,f8];grind,bH] at a6
 apply gg
 intro hn
 have h7:aT (Re.of ((U*(r+s)-p:Int):Rat))= -1:=by
  rw[cV]
  unfold aM
  rw[if_pos (by
   have:((U*(r+s)-p:Int):Rat)<((0:Int):Rat):=iM.2 (by omega)
   exact this)]
 grind
end
def fr (p q:Int):Rat:=(p:Rat)/(q:Rat)
theorem pc (h:0<q):(0:Rat)<(q:Rat):=iM.2 h
theorem Ld (h:q≠0):(q:Rat)≠0:=fun e=>h (Rat.intCast_inj.1 (e.trans Rat.intCast_zero.symm))
theorem gU (h:0<q):fr p q*(q:Rat)=(p:Rat):=o9 (Ld (by omega))
theorem wg (h:0<q) (e:x*(q:Rat)=(p:Rat)):fr p q=x:=by
 have h1:=gU (p:=p) h
 have h2:(fr p q-x)*(q:Rat)=0:=by grind
 rcases AL.1 h2 with h3|h3
 ·grind
 ·exact absurd h3 (Ld (by omega))
theorem xU (x:Rat):fr x.num (x.den:Int)=x:=wg (by have:=x.den_pos;omega) (by
 have:=Rat.num_divInt_den x
 rw[Bf] at this
 have h2:=o9 (a:=(x.num:Rat)) (b:=((x.den:Int):Rat)) (Ld (by have:=x.den_pos;omega))
 rw[this] at h2;exact h2)
structure TMin (S:Rat→Prop) (P Q:Int):Prop where
 p:0<P
 q:0<Q
 mem:S (fr P Q)
 min: ∀p q:Int,0<q→S (fr p q)→P≤p∧Q≤q
theorem wj (hP:0<P) (hQ:0<Q):fr (n*P+Q) P=(n:Rat)+1/fr P Q:=by
 refine wg hP ?_
 have h1:=gU (p:=P) hQ
 have h0:fr P Q≠0:=by
  have:=pc hP
  grind
 grind
theorem TMin.step (hn:0≤n) (h:TMin S' P Q) (h1: ∀x,S x↔(n:Rat)<x∧S' (1/(x-(n:Rat)))):TMin S (n*P+Q) P:=by
 have hP:=h.p
 have hQ:=h.q
 have hf:=gU (p:=P) hQ
 have hfp:0<fr P Q:=by
  apply gg
  intro hn
  have:=sN (show fr P Q≤0 by grind) (show 0≤(Q:Rat) by have:=pc hQ;grind)
  have:=pc hP
  grind
 have hi:1/fr P Q*fr P Q=1:=by grind
 have hip:0<1/fr P Q:=by
  apply gg
  intro hn
  have:=sN (show 1/fr P Q≤0 by grind) (show 0≤fr P Q by grind)
  grind
 refine⟨by have:=fZ hn (show 0≤P by omega);omega,hP,?_,fun p q hq hs=>?_⟩
 ·rw[h1,wj hP hQ]
  refine⟨by grind,?_⟩
  rw[show(n:Rat)+1/fr P Q-(n:Rat)=1/fr P Q by grind]
  rw[show 1/(1/fr P Q)=fr P Q from by
   have h3:1/(1/fr P Q)*(1/fr P Q)*fr P Q=fr P Q:=by grind
   rw[Rat.mul_assoc,hi,tT] at h3
   exact h3]
  exact h.mem
 ·obtain⟨g1,g2⟩:=(h1 _).1 hs
  have e1:=gU (p:=p) hq
  have hqp:=pc hq
  have hk:0<p-n*q:=by
   have:=xW g1 hqp
   rw[e1,←f8] at this
   have:=iM.1 this
   omega
  have e2:fr q (p-n*q)=1/(fr p q-(n:Rat)):=by
   refine wg hk ?_
   grind
  rw[←e2] at g2
  obtain⟨m1,m2⟩:=h.min q (p-n*q) hk g2
  have:=no m1 hn
  omega
theorem TMin.whole (hn:0≤n) (h1:S ((n+1:Int):Rat)) (h2: ∀x,S x→(n:Rat)<x):TMin S (n+1) 1:=by
 refine⟨by omega,by omega,?_,fun p q hq hs=>⟨?_,by omega⟩⟩
 ·rw[show fr (n+1) 1=((n+1:Int):Rat) from wg (by omega) (by rw[Rat.intCast_one,tT])];exact h1
 ·have e1:=gU (p:=p) hq
  have:=xW (h2 _ hs) (pc hq)
  rw[e1,←f8] at this
  have h3:=iM.1 this
  have:=no (show 1≤q by omega) hn
  omega
theorem TMin.den (h:TMin S P Q):(fr P Q).num=P∧((fr P Q).den:Int)=Q:=by
 have e:=xU (fr P Q)
 have hd:0<((fr P Q).den:Int):=by have:=(fr P Q).den_pos;omega
 have hm:=h.min (fr P Q).num ((fr P Q).den:Int) hd (by rw[e];exact h.mem)
 have h1:=gU (p:=P) h.q
 have h2:=gU (p:=(fr P Q).num) hd
 have h3:P*((fr P Q).den:Int)=(fr P Q).num*Q:=by
  have:((P*((fr P Q).den:Int):Int):Rat)=(((fr P Q).num*Q:Int):Rat):=by grind
  exact Rat.intCast_inj.1 this
 have h4:(fr P Q).num.natAbs∣P.natAbs*(fr P Q).den:=⟨Q.natAbs,by
  have:=congrArg Int.natAbs h3
  rw[s6,s6,yw] at this
  exact this⟩
 have h5:=Nat.le_of_dvd (by have:=h.p;omega) (Nat.Coprime.dvd_of_dvd_mul_right (fr P Q).reduced h4)
 have hP:(fr P Q).num=P:=by have:=h.p;omega
 refine⟨hP,?_⟩
 rw[hP] at h3
 have:=h.p
 exact Int.eq_of_mul_eq_mul_left (by omega) h3
theorem No (hc: ∀x y z:Rat,S x→S y→x≤z→z≤y→S z) {k:Int}(hQ:2≤Q) (hm:S (fr m Q)) (hk:S (fr k Q)) (hmin: ∀p q:Int,0<q→S (fr p q)→Q≤q):m=k:=by
 have key: ∀m k:Int,S (fr m Q)→S (fr k Q)→m<k→False:=by
  intro m k hm hk hlt
  have e1:Q*(m/Q)+m%Q=m:=sr m Q
  have r0:0≤m%Q:=pG m (by omega)
  have r1:m%Q<Q:=oR m (by omega)
  generalize m/Q=t at e1
  generalize m%Q=r at e1 r0 r1
  have hQ1:0<Q-1:=by omega
  have hfm:=gU (p:=m) (q:=Q) (by omega)
  have hfk:=gU (p:=k) (q:=Q) (by omega)
  have hfj:=gU (p:=t*(Q-1)+r) (q:=Q-1) hQ1
  have p1:=pc (show 0<Q by omega)
  have p2:=pc hQ1
  have le1:fr m Q≤fr (t*(Q-1)+r) (Q-1):=by
   apply gg
   intro hn
   have h1:=xW (show fr (t*(Q-1)+r) (Q-1)<fr m Q by grind) (kw p1 p2)
   have h2:fr (t*(Q-1)+r) (Q-1)*((Q:Rat)*((Q-1:Int):Rat))=(((t*(Q-1)+r)*Q:Int):Rat):=by grind
   have h3:fr m Q*((Q:Rat)*((Q-1:Int):Rat))=((m*(Q-1):Int):Rat):=by grind
   rw[h2,h3] at h1
   have h4:=iM.1 h1
   have h5:(t*(Q-1)+r)*Q=m*(Q-1)+r:=by grind
   omega
  have le2:fr (t*(Q-1)+r) (Q-1)≤fr k Q:=by
   have h1:=xW (show fr k Q<fr (t*(Q-1)+r) (Q-1) by grind) (kw p1 p2)
   have h2:fr (t*(Q-1)+r) (Q-1)*((Q:Rat)*((Q-1:Int):Rat))=(((t*(Q-1)+r)*Q:Int):Rat):=by grind
   have h3:fr k Q*((Q:Rat)*((Q-1:Int):Rat))=((k*(Q-1):Int):Rat):=by grind
   rw[h2,h3] at h1
   have h4:=iM.1 h1
   have h5:(t*(Q-1)+r)*Q=m*(Q-1)+r:=by grind
   have h6:=AR (show m+1≤k by omega) (show 0≤Q-1 by omega)
   grind
  grind
 rcases rE m k with h|h|h
 ·grind
 ·exact h
 grind
theorem L3 (h:aM x 0=0):x=0:=GJ (by rw[h];rfl)
section
variable {x y z:Rat}
theorem Io (hz:0≤z) (hv:y≠0→0<z):vJ x y z=aT (aB x y z):=by
 rw[←iX hz]
 unfold vJ bF sx
 have e:aM y 0*aM z 0=aM y 0:=by
  by_cases hy:y=0
  ·subst hy;rw[show aM 0 0=0 from by decide];omega
  ·rw[show aM z 0=1 from by unfold aM;rw[if_neg (by have:=hv hy;grind),if_pos (hv hy)]];omega
 rw[e,oK]
end
def uL (a b:Re) (x:Rat):Prop:=aT (Re.of x-a)=1∧aT (b-Re.of x)=1
theorem wn (h:0<x):aT (Re.of x)=1:=by rw[cV];unfold aM;rw[if_neg (by grind),if_pos h]
theorem A3 (h:aT (u*u'-Re.of 1)=0) (hu:aT u'=1) (ht:0<t):aT (Re.of t-u)=aT (u'-Re.of (1/t)):=by
 have h1:aT ((Re.of t-u)*u'-Re.of t*(u'-Re.of (1/t)))=0:=by
  rw[show(Re.of t-u)*u'-Re.of t*(u'-Re.of (1/t))= -(u*u'-Re.of 1) from br fun k=>by
   simp only[aI,aR,bc,bD]
   grind]
  exact sK h
 have h2:=dV h1
 rw[bH,bH,hu,wn ht,Int.mul_one,pn] at h2
 grind
theorem qq {a:Re}(ha:cD (Re.of (n:Rat)) a) (h:aT (Re.of x-a)=1):(n:Rat)<x:=by
 have h1:cD a (Re.of x):=by unfold cD;omega
 have h2:=gl (ex ha h1)
 apply gg
 intro hn
 have he:x=(n:Rat):=by grind
 subst he
 have h3:0≤aT (a-Re.of (n:Rat)):=ha
 rw[show a-Re.of (n:Rat)= -(Re.of (n:Rat)-a) from br fun k=>by simp only[aI,bD];grind,cj,h] at h3
 omega
section
variable {a b a' b':Re}{n:Int}
theorem Dl (x:Rat):Re.of x-a=Re.of (x-(n:Rat))-(a-Re.of (n:Rat)):=br fun k=>by simp only[aI,bc];grind
theorem xc (x:Rat):b-Re.of x= -(Re.of (x-(n:Rat))-(b-Re.of (n:Rat))):=br fun k=>by simp only[aI,bc,bD];grind
theorem eM (u v:Re):aT (u-v)= -aT (v-u):=by rw[←cj];exact congrArg aT (br fun k=>by simp only[aI,bD];grind)
theorem Qx (ha:cD (Re.of (n:Rat)) a) (h1:aT ((a-Re.of (n:Rat))*a'-Re.of 1)=0) (ha':aT a'=1) (h2:aT ((b-Re.of (n:Rat))*b'-Re.of 1)=0) (hb':aT b'=1) (x:Rat):
 uL a b x↔(n:Rat)<x∧uL b' a' (1/(x-(n:Rat))):=by
 constructor
 ·intro ⟨g1,g2⟩
  have hx:=qq ha g1
  have ht:0<x-(n:Rat):=by grind
  refine⟨hx,?_,?_⟩
  ·rw[xc (n:=n),cj,A3 h2 hb' ht] at g2
   rw[eM];exact g2
  ·rw[Dl (n:=n),A3 h1 ha' ht] at g1;exact g1
 ·intro ⟨hx,g1,g2⟩
  have ht:0<x-(n:Rat):=by grind
  refine⟨?_,?_⟩
  ·rw[Dl (n:=n),A3 h1 ha' ht];exact g2
  ·rw[xc (n:=n),cj,A3 h2 hb' ht,←eM];exact g1
theorem Qh (ha:aT (a-Re.of (n:Rat))=0) (h2:aT ((b-Re.of (n:Rat))*b'-Re.of 1)=0) (hb':aT b'=1) (x:Rat):
 uL a b x↔(n:Rat)<x∧aT (Re.of (1/(x-(n:Rat)))-b')=1:=by
 have hl:cD (Re.of (n:Rat)) a:=by unfold cD;omega
 constructor
 ·intro ⟨g1,g2⟩
  have hx:=qq hl g1
  have ht:0<x-(n:Rat):=by grind
  refine⟨hx,?_⟩
  rw[xc (n:=n),cj,A3 h2 hb' ht] at g2
  rw[eM];exact g2
 ·intro ⟨hx,g1⟩
  have ht:0<x-(n:Rat):=by grind
  refine⟨?_,?_⟩
  ·rw[Dl (n:=n)]
   have h3:aT (Re.of (x-(n:Rat))-(a-Re.of (n:Rat)))=aT (Re.of (x-(n:Rat))):=dV (by
    rw[show Re.of (x-(n:Rat))-(a-Re.of (n:Rat))-Re.of (x-(n:Rat))= -(a-Re.of (n:Rat)) from br fun k=>by simp only[aI,bD];grind]
    exact sK ha)
   rw[h3];exact wn ht
  ·rw[xc (n:=n),cj,A3 h2 hb' ht,←eM];exact g1
theorem JG (hn:0≤n) (ha:cD (Re.of (n:Rat)) a) (h1:aT (Re.of ((n+1:Int):Rat)-a)=1) (h2:aT (b-Re.of ((n+1:Int):Rat))=1):TMin (uL a b) (n+1) 1:=
 TMin.whole hn ⟨h1,h2⟩ fun _x hx=>qq ha hx.1
theorem KH (hm:0≤m) (hb:cD (Re.of (m:Rat)) b') (h1:aT (Re.of ((m+1:Int):Rat)-b')=1):TMin (fun x=>aT (Re.of x-b')=1) (m+1) 1:=
 TMin.whole hm h1 fun _x hx=>qq hb hx
end
theorem XR (hy:y≠0) (hv:0<z∧je z=false) (m:Rat):aT (aB x y z-Re.of m)≠0:=by
 obtain⟨z0,zs⟩:=hv
 have hz:0≤z:=by grind
 intro h
 have h8:aT (aB (x-m) y z)=0:=by
  rw[show aB (x-m) y z=aB x y z-Re.of m from br fun k=>by simp only[aB,aQ,aR,bc,aI];grind]
  grind
 rw[←Io hz (fun _=>z0)] at h8
 have hyn:aM y 0≠0:=fun e=>hy (L3 e)
 unfold vJ at h8
 split at h8
 ·grind
 ·split at h8
  ·grind
  ·rename_i g1 g2
   have h9:aM ((x-m)*(x-m)-y*y*z) 0=0:=(v6.1 h8).resolve_left g2
   have h10:=L3 h9
   have h11:z=(x-m)/y*((x-m)/y):=by grind
   rw[h11,JB] at zs
   grind
theorem vn (hz:0≤z) (hv:y≠0→0<z∧je z=false):aT (Re.of ((oX x y z+1:Int):Rat)-aB x y z)=1:=by
 have h:=(uz (a:=x) (b:=y) hz).2
 have h0:0≤aT (Re.of ((oX x y z+1:Int):Rat)-aB x y z):=h
 by_cases hy:y=0
 ·subst hy
  have hd:=den_pos x
  rw[RD rfl] at*
  have hf:=(MO (Z:=x.num) hd).2
  rw[show Re.of (((x.num.fdiv (x.den:Int)+1:Int)):Rat)-aB x 0 z=Re.of (((x.num.fdiv (x.den:Int)+1:Int):Rat)-x) from br fun k=>by simp only[aB,aI,aQ,aR,bc];grind]
  refine wn ?_
  apply gg
  intro hn
  have h2:=sN (show((x.num.fdiv (x.den:Int)+1:Int):Rat)≤x by grind) (Bj (show 0≤(x.den:Int) by omega))
  rw[uM,←f8] at h2
  have h3:=fI.1 h2
  omega
 ·have h1:=XR (x:=x) hy (hv hy) ((oX x y z+1:Int):Rat)
  rw[eM] at h1
  rcases bJ (Re.of ((oX x y z+1:Int):Rat)-aB x y z) with g|g|g<;>omega
structure Vl (B C:Rat):Prop where
 c0:0≤C
 v:B≠0→0<C∧je C=false
 z:B=0→C=0
theorem L7 (hv:y≠0→0<z∧je z=false) (h:aT (aB x y z)≠0):x*x-y*y*z≠0:=by
 intro e
 by_cases hy:y=0
 ·subst hy
  have h2:x=0:=by grind
  apply h
  rw[h2,show aB 0 0 z=Re.of 0 from br fun k=>by simp only[aB,aQ,aR,bc];grind,cV]
  decide
 ·obtain⟨_,zs⟩:=hv hy
  have h11:z=x/y*(x/y):=by grind
  rw[h11,JB] at zs
  grind
theorem BV (hz:0≤z) (hw:(x*x-y*y*z)*w=1):aT (aB x y z*aB (x*w) (-y*w) z-Re.of 1)=0:=by
 rw[show aB x y z*aB (x*w) (-y*w) z-Re.of 1=Re.of (-(w*y*y))*(Re.rt z*Re.rt z-Re.of z) from br fun k=>by simp only[aB,aI,aQ,aR,bc];grind]
 exact vo _ (oE hz)
theorem inv_pos (h:aT (u*u'-Re.of 1)=0) (hu:aT u=1):aT u'=1:=by
 have h2:=dV h
 rw[bH,hu,pn,wn (by decide)] at h2
 grind
theorem R8 (h:aT (u*u'-Re.of 1)=0) (hu:aT u=1) (h1:cD u (Re.of 1)):cD (Re.of 1) u':=by
 have hp:=inv_pos h hu
 have h2:=iV (X:=u') (by omega) h1
 have h3:cD (Re.of 1) (u'*u):=by
  refine jZ (y:=Re.of 1) ?_ (gZ _)
  rw[eM,show u'*u-Re.of 1=u*u'-Re.of 1 from br fun k=>by simp only[aI,aR];grind,h];rfl
 have h4:=ex h3 h2
 rw[show u'*Re.of 1=u' from br fun k=>by simp only[aR,bc];grind] at h4
 grind
theorem Od {v':Re}(h1:aT (u*u'-Re.of 1)=0) (h2:aT (v*v'-Re.of 1)=0) (hu:aT u=1) (hv:aT v=1) (h:aT (v-u)=1):aT (u'-v')=1:=by
 have h3:aT (u*v*(u'-v')-(v-u))=0:=by
  rw[show u*v*(u'-v')-(v-u)=v*(u*u'-Re.of 1)+ -(u*(v*v'-Re.of 1)) from br fun k=>by simp only[aI,aQ,aR,bc,bD];grind]
  exact Ff (vo _ h1) (sK (vo _ h2))
 have h4:=dV h3
 rw[bH,bH,hu,hv,h] at h4
 omega
theorem O9 (h:0<x):0<1/x:=by
 have h1:=JN h
 grind
section
variable {A0 B0 C D0 E0 F A B D E:Rat}{p q r s:Int}
theorem Mob.vl (m:Mob A0 B0 C p q r s A B) (h:Vl B0 C):Vl B C:=by
 have hs:=m.sol.2
 have hne:=m.ne h.v
 have hdr:((p*s-q*r:Int):Rat)≠0:=by rcases m.det with hd|hd<;>rw[hd]<;>decide
 refine⟨h.c0,fun hb=>h.v ?_,fun hb=>h.z ?_⟩
 ·grind
 grind
structure BSt (U:Int) (h:Nat) (A0 B0 C D0 E0 F:Rat) (p q r s:Int) (A B D E:Rat):Prop where
 m1:Mob A0 B0 C p q r s A B
 m2:Mob D0 E0 F p q r s D E
 v1:Vl B0 C
 v2:Vl E0 F
 p0:0≤p
 q0:0≤q
 r0:0≤r
 s0:0≤s
 u1:1≤U
 pU:p≤U*(r+s)
 qU:q≤U*(r+s)
 rh:r≤pw h
 sh:s≤pw h
 V0:0≤aT (aB A0 B0 C)
 W0:0≤aT (aB D0 E0 F)
 VU:cD (aB A0 B0 C) (Re.of (U:Rat))
 WU:cD (aB D0 E0 F) (Re.of (U:Rat))
 sep:cD (Re.of (1/((pw (h+h):Int):Rat))) (aB A0 B0 C-aB D0 E0 F)∨cD (Re.of (1/((pw (h+h):Int):Rat))) (aB D0 E0 F-aB A0 B0 C)
 a0:0≤aT (aB A B C)
 au:cD (aB A B C) (Re.of ((pw (h+h):Int):Rat))
 ab:aT (aB D E F-aB A B C)=1
 st:(r=0∧s=1)∨(1≤r∧cD (Re.of 1) (aB A B C))
theorem QQ {x:Int}(hx:0≤x) (hs:x*x≤pw (h+h)):x≤pw h:=by
 rw[qY] at hs
 apply gg
 intro hn
 have hp:=db h
 have h1:(pw h+1)*(pw h+1)≤x*x:=rm (by omega) (by omega) (by omega) (by omega)
 grind
variable {U:Int}{h:Nat}{n:Int}
theorem fY (x y z:Rat) (n:Int):aB (x-(n:Rat)) y z=aB x y z-Re.of (n:Rat):=br fun k=>by simp only[aB,aI,aQ,aR,bc];grind
theorem BSt.n0 (S:BSt U h A0 B0 C D0 E0 F p q r s A B D E) (hx:aT (Re.of ((n+1:Int):Rat)-aB A B C)=1):0≤n∧(1≤r→1≤n):=by
 have key: ∀m:Int,cD (Re.of (m:Rat)) (aB A B C)→m<n+1:=by
  intro m hm
  have:=qq (x:=((n+1:Int):Rat)) hm hx
  exact iM.1 this
 refine⟨?_,fun hr=>?_⟩
 ·have:=key 0 (xK S.a0);omega
 ·rcases S.st with⟨e,_⟩|⟨_,e⟩
  ·omega
  ·have:=key 1 e;omega
theorem BSt.next_r (S:BSt U h A0 B0 C D0 E0 F p q r s A B D E) (hn:0≤n) (x0:cD (Re.of (n:Rat)) (aB A B C)) (x1:cD (aB A B C) (Re.of ((n+1:Int):Rat))) (y1:cD (aB D E F) (Re.of ((n+1:Int):Rat))):r*n+s≤pw h:=by
 have hR0:0≤r*n+s:=by have:=fZ S.r0 hn;have:=S.s0;omega
 have y0:cD (Re.of (n:Rat)) (aB D E F):=ex x0 (by unfold cD;have:=S.ab;omega)
 refine QQ hR0 ?_
 rcases S.sep with e|e
 ·exact E9 S.r0 S.s0 hn S.m1.det (S.m1.real S.v1.c0) (S.m2.real S.v2.c0) x0 x1 y0 y1 e
 ·exact E9 S.r0 S.s0 hn S.m2.det (S.m2.real S.v2.c0) (S.m1.real S.v1.c0) y0 y1 x0 x1 e
theorem BSt.z1 (S:BSt U h A0 B0 C D0 E0 F p q r s A B D E) (hX:cD (aB A B C) X):cD (Re.of 1) (Re.of (r:Rat)*X+Re.of (s:Rat)):=by
 rcases S.st with⟨e1,e2⟩|⟨e1,e2⟩
 ·rw[e1,e2]
  have h0:((0:Int):Rat)=0:=rfl
  have h1:((1:Int):Rat)=1:=rfl
  rw[h0,h1,show Re.of 0*X+Re.of 1=Re.of 1 from br fun k=>by simp only[aQ,aR,bc];grind]
  exact gZ _
 ·have h1:((1:Int):Rat)=1:=rfl
  have:=GU (s:=s) (n:=1) S.r0 (ex (by rw[h1];exact e2) hX)
  refine ex (of_le ?_) this
  have h2:((1:Int):Rat)≤((r*1+s:Int):Rat):=fI.2 (by have:=S.s0;omega)
  grind
theorem BSt.gap (S:BSt U h A0 B0 C D0 E0 F p q r s A B D E):cD (Re.of (1/((pw (h+h):Int):Rat))) (aB D E F-aB A B C):=by
 have hab:cD (aB A B C) (aB D E F):=by unfold cD;have:=S.ab;omega
 have zx:=S.z1 (gZ _)
 have zy:=S.z1 hab
 have ie:(0:Rat)≤1/((pw (h+h):Int):Rat):=JN (pI _)
 have one0:0≤aT (Re.of 1):=EX (by decide)
 have m1:=yU one0 zx (yg (ex (of_le (by decide)) zx)) zy
 have e11:Re.of 1*Re.of 1=Re.of 1:=by rw[ia,tT]
 rw[e11] at m1
 have main: ∀ {A0 B0 C0 D0 E0 F0:Rat}{X Y:Re},aT (aB A0 B0 C0*(Re.of (r:Rat)*X+Re.of (s:Rat))-(Re.of (p:Rat)*X+Re.of (q:Rat)))=0→aT (aB D0 E0 F0*(Re.of (r:Rat)*Y+Re.of (s:Rat))-(Re.of (p:Rat)*Y+Re.of (q:Rat)))=0→
  cD (Re.of 1) ((Re.of (r:Rat)*X+Re.of (s:Rat))*(Re.of (r:Rat)*Y+Re.of (s:Rat)))→cD (Re.of (1/((pw (h+h):Int):Rat))) (aB A0 B0 C0-aB D0 E0 F0)→cD (Re.of (1/((pw (h+h):Int):Rat))) (X-Y)∨cD (Re.of (1/((pw (h+h):Int):Rat))) (Y-X):=by
  intro A0 B0 C0 D0 E0 F0 X Y hX hY hm he
  have e1:=LC hX hY
  have dp:0≤aT (aB A0 B0 C0-aB D0 E0 F0):=yg (ex (of_le ie) he)
  have m2:=yU one0 he dp hm
  rw[show Re.of (1/((pw (h+h):Int):Rat))*Re.of 1=Re.of (1/((pw (h+h):Int):Rat)) from by rw[ia,tT]] at m2
  have m3:=jZ e1 m2
  rcases S.m1.det with hd|hd<;>rw[hd] at m3
  ·left
   rw[show Re.of ((1:Int):Rat)*(X-Y)=X-Y from br fun k=>by
    have h1:((1:Int):Rat)=1:=rfl
    simp only[aI,aR,bc,h1];grind] at m3
   grind
  ·right
   rw[show Re.of ((-1:Int):Rat)*(X-Y)=Y-X from br fun k=>by
    have h1:((-1:Int):Rat)= -1:=rfl
    simp only[aI,aR,bc,h1];grind] at m3
   grind
 have fin:cD (Re.of (1/((pw (h+h):Int):Rat))) (aB A B C-aB D E F)→cD (Re.of (1/((pw (h+h):Int):Rat))) (aB D E F-aB A B C):=by
  intro hq
  have:=yg (ex (of_le ie) hq)
  rw[eM,S.ab] at this
  omega
 rcases S.sep with e|e
 ·rcases main (S.m1.real S.v1.c0) (S.m2.real S.v2.c0) m1 e with g|g
  ·grind
  grind
 ·have m1':cD (Re.of 1) ((Re.of (r:Rat)*aB D E F+Re.of (s:Rat))*(Re.of (r:Rat)*aB A B C+Re.of (s:Rat))):=by
   rw[show(Re.of (r:Rat)*aB D E F+Re.of (s:Rat))*(Re.of (r:Rat)*aB A B C+Re.of (s:Rat))=(Re.of (r:Rat)*aB A B C+Re.of (s:Rat))*(Re.of (r:Rat)*aB D E F+Re.of (s:Rat)) from br fun k=>by simp only[aR];grind];exact m1
  rcases main (S.m2.real S.v2.c0) (S.m1.real S.v1.c0) m1' e with g|g
  ·exact g
  ·exact fin g
theorem QS (h:aT (u*u'-Re.of 1)=0) (hu:aT u=1) (h1:cD (Re.of (1/((pw K:Int):Rat))) u):cD u' (Re.of ((pw K:Int):Rat)):=by
 have hp:=inv_pos h hu
 have hk:=pI K
 have h2:=iV (X:=u') (by omega) h1
 have h3:cD (u'*u) (Re.of 1):=by
  refine Dk (x:=Re.of 1) ?_ (gZ _)
  rw[show u'*u-Re.of 1=u*u'-Re.of 1 from br fun k=>by simp only[aI,aR];grind];exact h
 have h4:=ex h2 h3
 have e:1/((pw K:Int):Rat)*((pw K:Int):Rat)=1:=by grind
 refine sF (d:=1/((pw K:Int):Rat)) (O9 hk) ?_
 rw[ia,e,show Re.of (1/((pw K:Int):Rat))*u'=u'*Re.of (1/((pw K:Int):Rat)) from br fun k=>by simp only[aR];grind]
 grind
theorem BSt.step (S:BSt U h A0 B0 C D0 E0 F p q r s A B D E) (x0:cD (Re.of (n:Rat)) (aB A B C)) (x1:aT (Re.of ((n+1:Int):Rat)-aB A B C)=1) (y1:cD (aB D E F) (Re.of ((n+1:Int):Rat))) (hz:aT (aB A B C-Re.of (n:Rat))=1)
 {w1 w2:Rat}(hw1:((A-(n:Rat))*(A-(n:Rat))-B*B*C)*w1=1) (hw2:((D-(n:Rat))*(D-(n:Rat))-E*E*F)*w2=1):
 BSt U h D0 E0 F A0 B0 C (p*n+q) p (r*n+s) r ((D-(n:Rat))*w2) (-E*w2) ((A-(n:Rat))*w1) (-B*w1)∧2*r+s<2*(r*n+s)+r∧0≤n:=by
 obtain⟨hn,hn1⟩:=S.n0 x1
 have hrn:=fZ S.r0 hn
 have hpn:=fZ S.p0 hn
 have s0:=S.s0
 have r0:=S.r0
 have q0:=S.q0
 have hbn:aT (aB D E F-Re.of (n:Rat))=1:=by
  have h1:=fA (x:=Re.of 0) (y:=aB A B C-Re.of (n:Rat)) (u:=Re.of 0) (v:=aB D E F-aB A B C) (xK (by omega)) (xK (by have:=S.ab;omega))
  rcases bJ (aB D E F-Re.of (n:Rat)) with g|g|g
  ·exact g
  ·exfalso
   have h2:=S.ab
   have h3:aT (aB D E F-aB A B C- -(aB A B C-Re.of (n:Rat)))=0:=by
    rw[show aB D E F-aB A B C- -(aB A B C-Re.of (n:Rat))=aB D E F-Re.of (n:Rat) from br fun k=>by simp only[aI,bD];grind];exact g
   have h4:=dV h3
   rw[cj,hz,h2] at h4
   omega
  ·exfalso
   have h2:cD (aB D E F) (Re.of (n:Rat)):=by unfold cD;rw[eM,g];decide
   have h3:=ex (ex (by unfold cD;have:=S.ab;omega:cD (aB A B C) (aB D E F)) h2) (gZ _)
   have h4:0≤aT (Re.of (n:Rat)-aB A B C):=h3
   rw[eM,hz] at h4
   omega
 have i1:aT ((aB A B C-Re.of (n:Rat))*aB ((A-(n:Rat))*w1) (-B*w1) C-Re.of 1)=0:=by
  rw[←fY];exact BV S.v1.c0 hw1
 have i2:aT ((aB D E F-Re.of (n:Rat))*aB ((D-(n:Rat))*w2) (-E*w2) F-Re.of 1)=0:=by
  rw[←fY];exact BV S.v2.c0 hw2
 have le1:cD (aB D E F-Re.of (n:Rat)) (Re.of 1):=by
  refine Cw (n:=n) y1 (gZ _)
 have t1:=R8 i2 hbn le1
 have gb:cD (aB D E F-aB A B C) (aB D E F-Re.of (n:Rat)):=by
  unfold cD
  rw[show aB D E F-Re.of (n:Rat)-(aB D E F-aB A B C)=aB A B C-Re.of (n:Rat) from br fun k=>by simp only[aI];grind];omega
 have tp:=inv_pos i2 hbn
 have hr1:1≤r*n+s:=by
  rcases S.st with⟨e1,e2⟩|⟨e1,_⟩
  ·grind
  ·have:=rm e1 (hn1 e1) (by omega) (by omega);omega
 have x1':cD (aB A B C) (Re.of ((n+1:Int):Rat)):=by unfold cD;omega
 have hrb:=S.next_r hn x0 x1' y1
 have m1':=(S.m2.shift n).inv hw2
 have m2':=(S.m1.shift n).inv hw1
 refine⟨⟨m1',m2',S.v2,S.v1,by omega,S.p0,by omega,r0,S.u1,?_,?_,hrb,S.rh,S.W0,S.V0,S.WU,S.VU,S.sep.symm,by omega,QS i2 hbn (ex S.gap gb),Od i1 i2 hz hbn (by
  rw[show aB D E F-Re.of (n:Rat)-(aB A B C-Re.of (n:Rat))=aB D E F-aB A B C from br fun k=>by simp only[aI];grind];exact S.ab),.inr ⟨hr1,t1⟩⟩,?_,hn⟩
 ·exact Wv S.p0 r0 (by omega) (m1'.real S.v2.c0) t1 S.W0 S.WU
 ·have h1:=no (show r+s≤r*n+s+r by omega) (show 0≤U by have:=S.u1;omega)
  have:=S.pU
  omega
 ·rcases S.st with⟨e1,e2⟩|⟨e1,_⟩
  ·grind
  ·have:=rm (qw r) (hn1 e1) (by omega) r0;omega
end
theorem NX (he:0<e) (h:cD (Re.of e) X):aT X=1:=by
 have h0:=yg (ex (of_le (show(0:Rat)≤e by grind)) h)
 rcases bJ X with g|g|g
 ·exact g
 ·exfalso
  have h1:aT (X-Re.of e- -(Re.of e))=0:=by
   rw[show X-Re.of e- -(Re.of e)=X from br fun k=>by simp only[aI,bD];grind];exact g
  have h2:=dV h1
  rw[cj,wn he] at h2
  have h3:0≤aT (X-Re.of e):=h
  omega
 grind
theorem Zp {x y:Re}(h:0≤aT x) (g:0≤aT y):0≤aT (x+y):=by
 have:=fA (xK h) (xK g)
 rw[show Re.of 0+Re.of 0=Re.of 0 from br fun k=>by simp only[aQ,bc];grind] at this
 exact yg this
theorem T1 (h:0<x):1/(x+1)<1/x:=by
 have h1:0<x+1:=by grind
 have e1:1/x*x=1:=by grind
 have e2:1/(x+1)*(x+1)=1:=by grind
 have p1:=O9 h1
 generalize 1/x=u at*
 generalize 1/(x+1)=v at*
 apply gg
 intro hn
 have h2:=sN (show u≤v by grind) (show 0≤x by grind)
 grind
theorem Uu {k N:Int}(h:0<N):fr (k+1) N=fr k N+1/(N:Rat):=by
 refine wg h ?_
 have e1:=gU (p:=k) h
 have e2:1/(N:Rat)*(N:Rat)=1:=o9 (Ld (by omega))
 grind
theorem BO (K:Nat):pw K+1<pw (K+1):=by
 rw[dY];have:=db K;omega
theorem Y9 (K:Nat):(pw K+1)*pw K+1<pw (K+K+1):=by
 rw[dY,qY]
 have h:=db K
 have h1:=no h (show 0≤pw K by omega)
 grind
theorem TMin.bound {b:Re}(hv:Vl y z) (h:TMin (uL (aB x y z) b) P Q) (au:cD (aB x y z) (Re.of ((pw K:Int):Rat))) (gap:cD (Re.of (1/((pw K:Int):Rat))) (b-aB x y z)):P<pw (K+K+1)∧Q<pw (K+1):=by
 have hp:=db K
 have p1:=BO K
 have p2:=Y9 K
 have hN:0<pw K+1:=by omega
 have hNr:=pc hN
 have hK:=pI K
 have hg:=T1 hK
 have hvs:y*((pw K+1:Int):Rat)≠0→0<z∧je z=false:=fun e=>hv.v (by intro e2;apply e;rw[e2,Rat.zero_mul])
 have es:aB (x*((pw K+1:Int):Rat)) (y*((pw K+1:Int):Rat)) z=Re.of ((pw K+1:Int):Rat)*aB x y z:=br fun i=>by simp only[aB,aQ,aR,bc];grind
 have f1:cD (Re.of ((oX (x*((pw K+1:Int):Rat)) (y*((pw K+1:Int):Rat)) z:Int):Rat)) (aB (x*((pw K+1:Int):Rat)) (y*((pw K+1:Int):Rat)) z):=(uz hv.c0).1
 have f2:=vn (x:=x*((pw K+1:Int):Rat)) (y:=y*((pw K+1:Int):Rat)) hv.c0 hvs
 rw[es] at f1 f2
 have f3:=ex f1 (Kr hNr au)
 rw[ia,←f8] at f3
 have f4:=fI.1 (gl f3)
 generalize oX (x*((pw K+1:Int):Rat)) (y*((pw K+1:Int):Rat)) z=k at*
 have e0:=gU (p:=k) hN
 have e1:=gU (p:=k+1) hN
 have e3:=Uu (k:=k) hN
 have g1:aT (Re.of (fr (k+1) (pw K+1))-aB x y z)=1:=by
  rw[show Re.of ((k+1:Int):Rat)-Re.of ((pw K+1:Int):Rat)*aB x y z=Re.of ((pw K+1:Int):Rat)*(Re.of (fr (k+1) (pw K+1))-aB x y z) from br fun i=>by
   simp only[aI,aR,bc];rw[←e1];grind,bH,wn hNr,pn] at f2
  grind
 have g3:0≤aT (aB x y z-Re.of (fr k (pw K+1))):=by
  refine sF (d:=((pw K+1:Int):Rat)) hNr ?_
  rw[ia,show((pw K+1:Int):Rat)*fr k (pw K+1)=(k:Rat) from by rw[Rat.mul_comm];exact e0]
  grind
 have g2:aT (b-Re.of (fr (k+1) (pw K+1)))=1:=by
  have h0:0<1/((pw K:Int):Rat)-1/((pw K+1:Int):Rat):=by grind
  refine NX h0 ?_
  have h1:0≤aT (b-aB x y z-Re.of (1/((pw K:Int):Rat))):=gap
  have h2:=Zp h1 g3
  show 0≤aT _
  rw[e3]
  rw[show b-Re.of (fr k (pw K+1)+1/((pw K+1:Int):Rat))-Re.of (1/((pw K:Int):Rat)-1/((pw K+1:Int):Rat))=b-aB x y z-Re.of (1/((pw K:Int):Rat))+(aB x y z-Re.of (fr k (pw K+1))) from br fun i=>by
   simp only[aI,aQ,bc];grind]
  grind
 obtain⟨m1,m2⟩:=h.min (k+1) (pw K+1) hN ⟨g1,g2⟩
 grind
theorem TMin.rz (h:TMin S P Q) (hP:P<pw k) (hQ:Q<pw k):Rz k (fr P Q):=by
 obtain⟨e1,e2⟩:=h.den
 have:=h.p
 exact⟨by rw[e1];exact⟨by omega,by omega⟩,by rw[e2];exact⟨by omega,by omega⟩⟩
section
variable {A0 B0 C D0 E0 F A B D E:Rat}{p q r s n:Int}
theorem Bm {x:Int}(h0:0≤x) (h:x≤pw k):Rz (k+1) (x:Rat):=by
 have:=BO k
 exact eG ⟨by omega,by omega⟩ (by omega)
theorem Xu {r s:Int}(hr:r≤pw 1710) (hs:s≤pw 1710):pw 213*(r+s)≤pw 1924:=by
 have h1:=no (show r+s≤2*pw 1710 by omega) (show 0≤pw 213 by have:=db 213;omega)
 have h2:pw 1923=pw 213*pw 1710:=qY 213 1710
 have h3:pw 1924=1000000000*pw 1923:=dY 1923
 have h5:=db 1923
 grind
theorem BSt.szs (S:BSt (pw 213) 1710 A0 B0 C D0 E0 F p q r s A B D E) (hA:Rz 330 A0) (hB:Rz 330 B0) (hC:Rz 330 C) (hD:Rz 330 D0) (hE:Rz 330 E0) (hF:Rz 330 F):(Rz 25000 A∧Rz 25000 B)∧Rz 25000 D∧Rz 25000 E:=by
 have hu:=Xu S.rh S.sh
 have rp:=Bm S.p0 (Int.le_trans S.pU hu)
 have rq:=Bm S.q0 (Int.le_trans S.qU hu)
 have rr:=Bm S.r0 S.rh
 have rs:=Bm S.s0 S.sh
 obtain⟨a1,a2⟩:=S.m1.sz S.v1.v hA hB hC rp rq rr rs
 obtain⟨b1,b2⟩:=S.m2.sz S.v2.v hD hE hF rp rq rr rs
 exact⟨⟨a1.mono (by decide),a2.mono (by decide)⟩,b1.mono (by decide),b2.mono (by decide)⟩
theorem BSt.last_sz (S:BSt (pw 213) 1710 A0 B0 C D0 E0 F p q r s A B D E) (hD:Rz 330 D0) (hE:Rz 330 E0) (hF:Rz 330 F) (hn:0≤n) (x0:cD (Re.of (n:Rat)) (aB A B C)) (x1:cD (aB A B C) (Re.of ((n+1:Int):Rat))) (y1:cD (aB D E F) (Re.of ((n+1:Int):Rat)))
 {w2:Rat}(hw2:((D-(n:Rat))*(D-(n:Rat))-E*E*F)*w2=1) (t1:cD (Re.of 1) (aB ((D-(n:Rat))*w2) (-E*w2) F)):Rz 25000 ((D-(n:Rat))*w2)∧Rz 25000 (-E*w2):=by
 have hrn:=fZ S.r0 hn
 have hpn:=fZ S.p0 hn
 have s0:=S.s0
 have r0:=S.r0
 have q0:=S.q0
 have hrb:=S.next_r hn x0 x1 y1
 have m1':=(S.m2.shift n).inv hw2
 have hp:=Wv S.p0 r0 (by omega) (m1'.real S.v2.c0) t1 S.W0 S.WU
 have rp:=Bm (show 0≤p*n+q by omega) (Int.le_trans hp (Xu hrb S.rh))
 have rq:=Bm S.p0 (Int.le_trans S.pU (Xu S.rh S.sh))
 have rr:=Bm (show 0≤r*n+s by omega) hrb
 have rs:=Bm S.r0 S.rh
 obtain⟨a1,a2⟩:=m1'.sz S.v2.v hD hE hF rp rq rr rs
 exact⟨a1.mono (by decide),a2.mono (by decide)⟩
end
structure Lv (A B C D E F:Rat) (n:Int):Prop where
 hA:Rz 25000 A
 hB:Rz 25000 B
 hC:Rz 330 C
 hD:Rz 25000 D
 hE:Rz 25000 E
 hF:Rz 330 F
 v1:Vl B C
 v2:Vl E F
 ab:aT (aB D E F-aB A B C)=1
 nf:n=oX A B C
 nz:Sz 3421 n
section
variable {A B C D E F w:Rat}{n:Int}
theorem Lv.kA (L:Lv A B C D E F n):Rz 160000 A:=L.hA.mono (by decide)
theorem Lv.kB (L:Lv A B C D E F n):Rz 160000 B:=L.hB.mono (by decide)
theorem Lv.kC (L:Lv A B C D E F n):Rz 160000 C:=L.hC.mono (by decide)
theorem Lv.kD (L:Lv A B C D E F n):Rz 160000 D:=L.hD.mono (by decide)
theorem Lv.kE (L:Lv A B C D E F n):Rz 160000 E:=L.hE.mono (by decide)
theorem Lv.kF (L:Lv A B C D E F n):Rz 160000 F:=L.hF.mono (by decide)
theorem Lv.zn (L:Lv A B C D E F n):Rz 3421 (n:Rat):=eG L.nz (by decide)
theorem Lv.zn1 (L:Lv A B C D E F n):Rz 3423 ((n:Rat)+1):=L.zn.add (l:=1) (pe (by decide+kernel))
theorem Lv.dn (L:Lv A B C D E F n):Rz 160000 (D-(n:Rat)):=(L.hD.sub L.zn).mono (by decide)
theorem Lv.an (L:Lv A B C D E F n):Rz 160000 (A-(n:Rat)):=(L.hA.sub L.zn).mono (by decide)
theorem Lv.dn1 (L:Lv A B C D E F n):Rz 160000 (D-((n:Rat)+1)):=(L.hD.sub L.zn1).mono (by decide)
theorem On:((1:Int):Rat)=1:=rfl
theorem Bv (n:Int):Re.of ((n+1:Int):Rat)=Re.of ((n:Rat)+1):=by rw[kW];rfl
theorem xO (hz:0≤z):fD (x-d) y (-0) 0 z 0=aT (aB x y z-Re.of d):=by
 rw[nP (d:=d) (e:=0) hz tI]
 exact congrArg aT (br fun k=>by simp only[aB,aI,aQ,aR,bc];grind)
theorem uj (hz:0≤z):bF (x-d) y z=aT (aB x y z-Re.of d):=by
 rw[iX hz]
 exact congrArg aT (br fun k=>by simp only[aB,aI,aQ,aR,bc];grind)
theorem QW {w:Rat}(h:N*w=1):1/N=w∧N≠0:=by grind
theorem WR {w:Rat}(x:Rat) (h:N*w=1):x/N=x*w:=by grind
theorem Rp {w:Rat}(hv:Vl y z) (hw:((x-d)*(x-d)-y*y*z)*w=1):Vl (-y*w) z:=by
 refine⟨hv.c0,fun e=>hv.v fun e2=>e (by rw[e2];grind),fun e=>hv.z ?_⟩
 grind
theorem JJ {w:Rat}(hv:Vl y z) (hs:aT (aB x y z-Re.of d)=1) (hw:((x-d)*(x-d)-y*y*z)*w=1):
 vJ (x-d) y z≠0∧(x-d)*(x-d)-y*y*z≠0∧HM (x-d) y z=w∧zc (-y*w) z=z:=by
 obtain⟨h1,h2⟩:=QW hw
 refine⟨?_,h2,h1,?_⟩
 ·rw[Io hv.c0 (fun e=>(hv.v e).1),show aB (x-d) y z=aB x y z-Re.of d from br fun k=>by simp only[aB,aI,aQ,aR,bc];grind,hs];decide
 ·unfold zc
  split
  ·rename_i e
   have hw0:w≠0:=fun e2=>by rw[e2,Rat.mul_zero] at hw;exact absurd hw (by decide)
   rcases AL.1 e with g|g
   ·exact(hv.z (by grind)).symm
   ·exact absurd g hw0
  ·rfl
end
inductive Res:Rat→Rat→Rat→Rat→Rat→Rat→Int→Int→Prop
 |whole {A B C D E F:Rat}{n:Int}(L:Lv A B C D E F n) (a0:0≤aT (aB A B C)) (h:aT (aB D E F-Re.of ((n+1:Int):Rat))=1):Res A B C D E F (n+1) 1
 |last {A B C D E F w:Rat}{n m:Int}(L:Lv A B C D E F n) (a0:0≤aT (aB A B C)) (h:aT (aB D E F-Re.of ((n+1:Int):Rat))≤0) (hb:aT (aB D E F-Re.of (n:Rat))=1) (hz:aT (aB A B C-Re.of (n:Rat))=0)
   (hw:((D-(n:Rat))*(D-(n:Rat))-E*E*F)*w=1) (hm:m=oX ((D-(n:Rat))*w) (-E*w) F) (tA:Rz 25000 ((D-(n:Rat))*w)) (tB:Rz 25000 (-E*w)) (m0:0≤m) (mz:Sz 3421 m):Res A B C D E F (n*(m+1)+1) (m+1)
 |step {A B C D E F w1 w2:Rat}{n P Q:Int}(L:Lv A B C D E F n) (a0:0≤aT (aB A B C)) (h:aT (aB D E F-Re.of ((n+1:Int):Rat))≤0) (hb:aT (aB D E F-Re.of (n:Rat))=1) (hz:aT (aB A B C-Re.of (n:Rat))=1)
   (hw1:((A-(n:Rat))*(A-(n:Rat))-B*B*C)*w1=1) (hw2:((D-(n:Rat))*(D-(n:Rat))-E*E*F)*w2=1) (R:Res ((D-(n:Rat))*w2) (-E*w2) F ((A-(n:Rat))*w1) (-B*w1) C P Q)
   (p0:0<P) (q0:0<Q) (z:Rz 6841 (fr P Q)):Res A B C D E F (n*P+Q) P
section
variable {A0 B0 C D0 E0 F A B D E:Rat}{p q r s:Int}
theorem jR {x y:Re}(h:0≤aT x) (g:aT y=1):aT (x+y)=1:=by
 rcases Int.lt_or_eq_of_le h with e|e
 ·have:aT x=1:=by rcases bJ x with c|c|c<;>omega
  rw[jD (by omega)];exact this
 ·rw[show x+y=y+x from br fun k=>by simp only[aQ];grind,dT _ e.symm];exact g
theorem VY {x:Int}(h0:0≤x) (h:x≤pw (1710+1710)):Sz 3421 x:=by
 have h1:pw 3420+1<pw 3421:=BO 3420
 have h2:x≤pw 3420:=h
 exact⟨by omega,by omega⟩
theorem BSt.res (hA:Rz 330 A0) (hB:Rz 330 B0) (hC:Rz 330 C) (hD:Rz 330 D0) (hE:Rz 330 E0) (hF:Rz 330 F) (S:BSt (pw 213) 1710 A0 B0 C D0 E0 F p q r s A B D E) (k:Nat) (hk:3*pw 1710<2*r+s+k):
 ∃P Q:Int,Res A B C D E F P Q∧TMin (uL (aB A B C) (aB D E F)) P Q:=by
 induction k generalizing A0 B0 C D0 E0 F p q r s A B D E with
 |zero=>exfalso;have:=S.rh;have:=S.sh;omega
 |succ k ih=>
  obtain⟨⟨zA,zB⟩,zD,zE⟩:=S.szs hA hB hC hD hE hF
  have vA:=S.m1.vl S.v1
  have vD:=S.m2.vl S.v2
  have f1:cD (Re.of ((oX A B C:Int):Rat)) (aB A B C):=(uz vA.c0).1
  have f2:=vn (x:=A) (y:=B) vA.c0 vA.v
  obtain⟨hn0,_⟩:=S.n0 f2
  have hnu:=fI.1 (gl (ex f1 S.au))
  have L:Lv A B C D E F (oX A B C):=⟨zA,zB,hC,zD,zE,hF,vA,vD,S.ab,rfl,VY hn0 hnu⟩
  generalize oX A B C=n at*
  by_cases hb:aT (aB D E F-Re.of ((n+1:Int):Rat))=1
  ·exact⟨_,_,.whole L S.a0 hb,JG hn0 f1 f2 hb⟩
  have hb':aT (aB D E F-Re.of ((n+1:Int):Rat))≤0:=by rcases bJ (aB D E F-Re.of ((n+1:Int):Rat)) with c|c|c<;>omega
  have y1:cD (aB D E F) (Re.of ((n+1:Int):Rat)):=by unfold cD;rw[eM];omega
  have hbn:aT (aB D E F-Re.of (n:Rat))=1:=by
   rw[show aB D E F-Re.of (n:Rat)=(aB A B C-Re.of (n:Rat))+(aB D E F-aB A B C) from br fun k=>by simp only[aI,aQ];grind]
   exact jR f1 S.ab
  have nb:(D-(n:Rat))*(D-(n:Rat))-E*E*F≠0:=L7 vD.v (by rw[fY,hbn];decide)
  have hw2:((D-(n:Rat))*(D-(n:Rat))-E*E*F)*(1/((D-(n:Rat))*(D-(n:Rat))-E*E*F))=1:=by rw[Rat.mul_comm];exact o9 nb
  generalize 1/((D-(n:Rat))*(D-(n:Rat))-E*E*F)=w2 at hw2
  have i2:aT ((aB D E F-Re.of (n:Rat))*aB ((D-(n:Rat))*w2) (-E*w2) F-Re.of 1)=0:=by
   rw[←fY];exact BV S.v2.c0 hw2
  have b1:=inv_pos i2 hbn
  have gb:cD (Re.of (1/((pw (1710+1710):Int):Rat))) (aB D E F-Re.of (n:Rat)):=by
   refine ex S.gap ?_
   show 0≤aT _
   rw[show aB D E F-Re.of (n:Rat)-(aB D E F-aB A B C)=aB A B C-Re.of (n:Rat) from br fun k=>by simp only[aI];grind]
   exact f1
  have bu:=QS i2 hbn gb
  by_cases hz:aT (aB A B C-Re.of (n:Rat))=0
  ·have vI:Vl (-E*w2) F:=((S.m2.shift n).inv hw2).vl S.v2
   have g1:cD (Re.of ((oX ((D-(n:Rat))*w2) (-E*w2) F:Int):Rat)) (aB ((D-(n:Rat))*w2) (-E*w2) F):=(uz vI.c0).1
   have g2:=vn (x:=(D-(n:Rat))*w2) (y:= -E*w2) vI.c0 vI.v
   have hmu:=fI.1 (gl (ex g1 bu))
   have hm0:0≤oX ((D-(n:Rat))*w2) (-E*w2) F:=by
    have:=qq (x:=((oX ((D-(n:Rat))*w2) (-E*w2) F+1:Int):Rat)) (n:=0) (xK (by omega)) g2
    have:=iM.1 this
    omega
   have le1:cD (aB D E F-Re.of (n:Rat)) (Re.of 1):=Cw (n:=n) y1 (gZ _)
   obtain⟨tA,tB⟩:=S.last_sz hD hE hF hn0 f1 (by unfold cD;omega) y1 hw2 (R8 i2 hbn le1)
   have R:=Res.last L S.a0 hb' hbn hz hw2 rfl tA tB hm0 (VY hm0 hmu)
   refine⟨_,_,R,?_⟩
   exact TMin.step hn0 (KH hm0 g1 g2) (Qh hz i2 b1)
  ·have hz1:aT (aB A B C-Re.of (n:Rat))=1:=by
    have h0:0≤aT (aB A B C-Re.of (n:Rat)):=f1
    rcases bJ (aB A B C-Re.of (n:Rat)) with c|c|c<;>omega
   have na:(A-(n:Rat))*(A-(n:Rat))-B*B*C≠0:=L7 vA.v (by rw[fY,hz1];decide)
   have hw1:((A-(n:Rat))*(A-(n:Rat))-B*B*C)*(1/((A-(n:Rat))*(A-(n:Rat))-B*B*C))=1:=by grind
   generalize 1/((A-(n:Rat))*(A-(n:Rat))-B*B*C)=w1 at hw1
   have i1:aT ((aB A B C-Re.of (n:Rat))*aB ((A-(n:Rat))*w1) (-B*w1) C-Re.of 1)=0:=by
    rw[←fY];exact BV S.v1.c0 hw1
   have a1:=inv_pos i1 hz1
   obtain⟨S',hlt,_⟩:=S.step f1 f2 y1 hz1 hw1 hw2
   obtain⟨P,Q,R,T⟩:=ih hD hE hF hA hB hC S' (by omega)
   obtain⟨t1,t2⟩:=T.bound (S'.m1.vl S'.v1) S'.au S'.gap
   have t3:pw (1710+1710+1)≤pw (1710+1710+(1710+1710)+1):=mH (by decide)
   have z:=T.rz t1 (Int.lt_of_lt_of_le t2 t3)
   exact⟨_,_,.step L S.a0 hb' hbn hz1 hw1 hw2 R T.p T.q z,TMin.step hn0 T (Qx f1 i1 a1 i2 b1)⟩
end
theorem b6 (ha:Rz 6000000 a) (hd:Rz 6000000 d) (h1:Rz 2000000 (a-d)) (hb:Rz 2000000 b) (hc:Rz 2000000 c):Ok Tryz.prog 86 [.a ((cR a++cR b++cR c)),dR d] [.c (.i .i64 (bF (a-d) b c))]:=by
 refine bX Tryz.func86 rfl<|cJ 10 [] ?_
 refine aK rfl (dM ha hd) ?_
 refine aK rfl (vN h1 hb hc) ?_
 exact ah (az ae)
theorem EE:Ok Tryz.prog 372 [dI n] [dR (n:Rat)]:=by
 refine bX Tryz.func372 rfl<|cJ 3 [] ?_
 refine aK rfl ((show Ok Tryz.prog 66 [.c (.i .i64 1)] [dI 1] from qA (by decide) (by decide))) ?_
 refine aq (aG (us:=cQ n 1) vk uP rfl rfl rfl) ?_
 refine ah ?_
 rw[Ky]
 exact aS aZ rfl ae
theorem ol (ha:Rz 6000000 a) (hd:Rz 6000000 d):Ok Tryz.prog 338 [.a ((cR a++cR b++cR c)),dR d] [.a ((cR (a-d)++cR b++cR c))]:=by
 refine bX Tryz.func338 rfl<|ac rfl (dM ha hd) ?_
 refine pu (aY (us:=(cR (a-d)++cR b++cR c)) aZ rfl rfl rfl rfl (fe rfl) rfl rfl) ?_
 exact ah (aS df rfl ae)
theorem nU (ha:Rz 400000 a) (hb:Rz 400000 b) (hc:Rz 400000 c) (hw:(a*a-b*b*c)*w=1):Ok Tryz.prog 339 [.a ((cR a++cR b++cR c))] [.a ((cR (a*w)++cR (-b*w)++cR c))]:=by
 have ka:Rz 6000000 a:=ha.m_
 have kb:Rz 6000000 b:=hb.m_
 have kc:Rz 6000000 c:=hc.m_
 have kn:Rz 6000000 (a*a-b*b*c):=((ha.mul ha).sub ((hb.mul hb).mul hc)).m_
 refine bX Tryz.func339 rfl<|cJ 15 [] ?_
 refine aK rfl (co (aO ha) (aO ha)) ?_
 refine aK rfl (co (aO hb) (aO hb)) ?_
 refine aK rfl (co (aO (aP hb hb)) (aO hc)) ?_
 refine aK rfl (dM (aO (aP ha ha)) (aO (aP (aP hb hb) hc))) ?_
 refine ac rfl (wW (oB ka kn (QW hw).2) (WR _ hw))<|cJ 11 [6,999999] ?_
 refine aK rfl (iy kb) ?_
 refine aK rfl (wW (oB kb.neg kn (QW hw).2) (WR _ hw)) ?_
 refine DQ.mk<|f5 (eh aZ rfl) rfl rfl rfl rfl<|dF ?_
 refine ar (aG (us:=(cR (a*w)++cR (-b*w)++cR c)) lU jL rfl rfl rfl) ?_
 exact ah (aS df rfl ae)
theorem Sz.near {x:Int}(h:Sz k x) (h1:x-3≤n) (h2:n≤x+3):Sz (k+1) n:=by
 have e:=dY k
 have p:=db k
 have a:=h.1
 have b:=h.2
 exact⟨by omega,by omega⟩
theorem yfl (ha:Rz 160000 a) (hb:Rz 160000 b) (hc:Rz 160000 c) {s N F:Int}(h1:aM b 0<0→s= -bY ((b*b*c).num.fdiv ((b*b*c).den:Int))) (h2: ¬aM b 0<0→s=bY ((b*b*c).num.fdiv ((b*b*c).den:Int))) (ss:Sz 480000 s) (en:((a.num.fdiv (a.den:Int):Int):Rat)+((s:Int):Rat)=(N:Rat)) (hn:Sz 500000 N) (h0:F-1≤N∧N≤F+1) (hF: ∀m:Int,bF (a-(m:Rat)) b c<0↔F<m):Ok Tryz.prog 337 [.a ((cR a++cR b++cR c))] [dR (((F:Int):Rat))]:=by
 have o1:Rz 6000000 (1:Rat):=pe (by decide+kernel)
 have ka:Rz 6000000 a:=ha.m_
 have pb:Rz 480000 (b*b*c):=((hb.mul hb).mul hc).m_
 have q1:Rz 6000000 (b*b):=(hb.mul hb).m_
 have kb:Rz 6000000 b:=hb.m_
 have kc:Rz 6000000 c:=hc.m_
 have kq:Rz 6000000 (b*b*c):=pb.m_
 have fq:Sz 480000 ((b*b*c).num.fdiv ((b*b*c).den:Int)):=pb.n.fdiv
 have tq:Sz 480000 (bY ((b*b*c).num.fdiv ((b*b*c).den:Int))):=fq.isq
 have ku:Rz 6000000 ((a.num.fdiv (a.den:Int):Int):Rat):=(eG (ha.n.fdiv (y:=(a.den:Int))) (by decide)).m_
 have kt:Rz 6000000 ((s:Int):Rat):=(eG ss (by decide)).m_
 have Y: ∀m:Int,N-3≤m→m≤N+3→Rz 500003 (m:Rat):=fun m q1 q2=>eG ((hn.near q1 q2).m_) (by decide)
 have K: ∀m:Int,N-3≤m→m≤N+3→Rz 6000000 (m:Rat):=fun m q1 q2=>(Y m q1 q2).m_
 have Z: ∀m:Int,N-3≤m→m≤N+3→Rz 2000000 (a-(m:Rat)):=fun m q1 q2=>(ha.sub (Y m q1 q2)).m_
 refine eo Tryz.func337 51 [.cell 2 38] rfl<|aa<|ag<|aa<|dC 16 [3,999999] ?_
 refine aK rfl (co kb kb) ?_
 refine aK rfl (co q1 kc) ?_
 refine aK rfl (Dr kq) ?_
 refine aK rfl (IT (fq.m_)) ?_
 refine DQ.mk<|f5 (eh d9 rfl) rfl rfl rfl rfl<|dF ?_
 refine m8 (ι:=Unit) (fun i=>⟨51,[(1,.p 1 0),(2,.p 2 0),(3,.p 3 0)],[(1,129,(cR a++cR b++cR c)),(2,38,(([.b false]++[.s 0 []])++([.b false]++[.s 0 []]))),(3,36,cI s)]⟩) ?_ ?_
 ·refine aa<|ag ?_
  refine ac rfl (jz) ?_
  refine aJ rfl (fun hc1=>?_) (fun hc1=>?_)
  ·have es:s= -bY ((b*b*c).num.fdiv ((b*b*c).den:Int)):=h1 (of_decide_eq_true hc1)
   refine ag ?_
   refine ac rfl (ze (tq.m_)) ?_
   exact⟨(),ap ⟨rfl,rfl,rfl,trivial⟩ ⟨rfl,rfl,congrArg (fun q=>some (36,cI q)) (es.symm),trivial⟩ rfl⟩
  ·have es:s=bY ((b*b*c).num.fdiv ((b*b*c).den:Int)):=h2 (of_decide_eq_false hc1)
   refine aA ?_
   exact⟨(),ap ⟨rfl,rfl,rfl,trivial⟩ ⟨rfl,rfl,congrArg (fun q=>some (36,cI q)) (es.symm),trivial⟩ rfl⟩
 ·rintro⟨⟩
  try dsimp only
  refine aa<|ag<|ac rfl ((show Ok Tryz.prog 18 [.c (.i .i64 1)] [dR 1] from d8 (by omega) (by omega)))<|aa<|dC 8 [] ?_
  refine aK rfl (Dr ka) ?_
  refine aK rfl (EE) ?_
  refine aK rfl (EE) ?_
  refine aK rfl (jJ (cS ku kt) en) ?_
  refine aa<|aE<|bn (ι:={n:Int // F-1≤n∧n≤F+1}) (fun i=>⟨51,[(1,.p 1 0),(2,.p 2 0),(5,.p 5 0),(6,.p 6 0)],[(1,129,(cR a++cR b++cR c)),(2,38,(([.b false]++[.s 0 []])++([.b false]++[.s 0 []]))),(5,38,cR 1),(6,38,cR (((i.1:Int):Rat)))]⟩) (fun i=>(i.1-F).toNat) ⟨N,h0⟩ (ap ⟨rfl,rfl,rfl,rfl,trivial⟩ ⟨rfl,rfl,rfl,rfl,trivial⟩ rfl) ?_
  rintro⟨n,k1,k2⟩
  replace k1:F-1≤n:=k1
  replace k2:n≤F+1:=k2
  dsimp only
  refine aa<|aa<|ag ?_
  refine ac rfl (b6 ka (K _ (by omega) (by omega)) (Z _ (by omega) (by omega)) (hb.m_) (hc.m_)) ?_
  refine aJ rfl (fun hc2=>?_) (fun hc2=>?_)
  ·have g1:F<n:=(hF n).1 (of_decide_eq_true hc2)
   refine aA<|aE<|ag ?_
   refine ac rfl (jJ (dM (K _ (by omega) (by omega)) o1) (qE n 1).symm) ?_
   exact⟨⟨n-1,by omega⟩,ap ⟨rfl,rfl,rfl,rfl,trivial⟩ ⟨rfl,rfl,rfl,rfl,trivial⟩ rfl,by show(n-1-F).toNat<(n-F).toNat;omega⟩
  ·have g1: ¬F<n:=fun q=>of_decide_eq_false hc2 ((hF n).2 q)
   refine bi<|aa<|aE<|bn (ι:={n:Int // F-1≤n∧n≤F}) (fun i=>⟨51,[(1,.p 1 0),(2,.p 2 0),(5,.p 5 0),(6,.p 6 0)],[(1,129,(cR a++cR b++cR c)),(2,38,(([.b false]++[.s 0 []])++([.b false]++[.s 0 []]))),(5,38,cR 1),(6,38,cR (((i.1:Int):Rat)))]⟩) (fun i=>(F-i.1).toNat) ⟨n,by omega⟩ (ap ⟨rfl,rfl,rfl,rfl,trivial⟩ ⟨rfl,rfl,rfl,rfl,trivial⟩ rfl) ?_
   rintro⟨n,k1,k2⟩
   replace k1:F-1≤n:=k1
   replace k2:n≤F:=k2
   dsimp only
   refine aa<|aa<|dC 6 [] ?_
   refine aK rfl (jJ (cS (K _ (by omega) (by omega)) o1) (kW n 1).symm) ?_
   refine aK rfl (b6 ka (K _ (by omega) (by omega)) (Z _ (by omega) (by omega)) (hb.m_) (hc.m_)) ?_
   refine aJ rfl (fun hc3=>?_) (fun hc3=>?_)
   ·have g2: ¬F<n+1:=fun q=>by have:=of_decide_eq_true hc3;have:=(hF (n+1)).2 q;omega
    refine aA<|aE<|ag ?_
    refine ac rfl (jJ (cS (K _ (by omega) (by omega)) o1) (kW n 1).symm) ?_
    exact⟨⟨n+1,by omega⟩,ap ⟨rfl,rfl,rfl,rfl,trivial⟩ ⟨rfl,rfl,rfl,rfl,trivial⟩ rfl,by show(F-(n+1)).toNat<(F-n).toNat;omega⟩
   ·have g2:F<n+1:=(hF (n+1)).1 (by have:=of_decide_eq_false hc3;omega)
    refine bi<|aa<|ag ?_
    refine a7 ?_
    rw[show F=n from by omega]
    exact ah (aS aZ rfl ae)
end Go.Proofs.YtegpmhlfjkhjmaaGreat
