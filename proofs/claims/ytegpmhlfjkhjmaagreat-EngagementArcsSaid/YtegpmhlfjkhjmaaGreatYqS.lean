/-Plain:two curves of the law's list have no common point inside of both. -/
import Derived.Test.YtegpmhlfjkhjmaaGreatYqR
namespace Go.Proofs.YtegpmhlfjkhjmaaGreat
open Go Go.RowKit
variable {P Q m n p q:Int}{K h k ka kb km:Nat}{B C M N U V a b c d e t w x y z:Rat}{S S':Rat→Prop}{X Y u u' v:Re}
theorem s7:type_of% @Rat.mul_le_mul_of_nonneg_right:=@Rat.mul_le_mul_of_nonneg_right
theorem tz:type_of% @Rat.mul_one:=@Rat.mul_one
theorem xZ:type_of% @Rat.mul_lt_mul_of_pos_right:=@Rat.mul_lt_mul_of_pos_right
theorem xF:type_of% @Rat.mul_le_mul_of_nonneg_left:=@Rat.mul_le_mul_of_nonneg_left
theorem iV {U:Re}(hX:0≤aS X) (h:cD Y U):cD (X*Y) (X*U):=by
 unfold cD at*
 rw[show X*U-X*Y=X*(U-Y) from bt fun k=>by simp only[aG,aT];grind,bJ]
 exact f5 hX h
theorem kK {x y z:Re}(h:aS (y-z)=0) (g:cD x y):cD x z:=by
 unfold cD at*
 rw[←dP (x:=y-x) (y:=z-x) (by rw[show y-x-(z-x)=y-z from bt fun k=>by simp only[aG];grind];exact h)]
 grind
theorem SH {x y:Re}(h:cD x y):cD (-y) (-x):=by
 unfold cD at*
 rw[show-x- -y=y-x from bt fun k=>by simp only[aG,bE];grind];exact h
theorem ig (x:Re):cD x x:=by
 unfold cD
 have h:aS (Re.of 0)=0:=by rw[cO];decide
 rw[show x-x=Re.of 0 from bt fun k=>by simp only[aG,bi];grind,h];exact nH _
theorem J2 {W:Re}(hX:aS X=1) (hw:aS (X*Y-W)=0) (hU1:cD Y (Re.of U)) (hU2:cD (-Y) (Re.of U)) (he:cD (Re.of e) W∨cD (Re.of e) (-W)):cD (Re.of e) (Re.of U*X):=by
 have hc:Re.of U*X=X*Re.of U:=bt fun k=>by simp only[aT];grind
 rw[hc]
 rcases he with he|he
 ·have h1:aS (W-X*Y)=0:=by rw[show W-X*Y= -(X*Y-W) from bt fun k=>by simp only[aG,bE];grind,cm,hw];rfl
  exact eo (kK h1 he) (iV (by omega) hU1)
 ·have h1:aS (-W-X* -Y)=0:=by rw[show-W-X* -Y=X*Y-W from bt fun k=>by simp only[aG,bE,aT];grind];exact hw
  exact eo (kK h1 he) (iV (by omega) hU2)
theorem Jj (h:Rz k x) (hx:0<x):1/((pw k:Int):Rat)≤x:=by
 have hp:=cX k
 have hpr:(0:Rat)<((pw k:Int):Rat):=iN.2 hp
 apply f7
 intro hn
 have h1:=xZ (show x<1/((pw k:Int):Rat) by grind) hpr
 have hd:=den_pos x
 have hdr:(0:Rat)<((x.den:Int):Rat):=iN.2 hd
 have h2:((x.den:Int):Rat)≤((pw k:Int):Rat):=fH.2 (by obtain⟨g1,g2⟩:=h.d;omega)
 have h3:=xF h2 (show 0≤x by grind)
 rw[uo] at h3
 have h0:0<x.num:=by
  have:=kG hx hdr
  rw[uo] at this
  exact iN.1 (show((0:Int):Rat)<((x.num:Int):Rat) from this)
 have h4:((1:Int):Rat)≤((x.num:Int):Rat):=fH.2 (by omega)
 grind
theorem yd (h:Rz k x):x≤((pw k:Int):Rat)∧ -((pw k:Int):Rat)≤x:=by
 have hd:=den_pos x
 have hdr:((1:Int):Rat)≤((x.den:Int):Rat):=fH.2 (by omega)
 have hn1:((x.num:Int):Rat)≤((pw k:Int):Rat):=fH.2 (by obtain⟨g1,g2⟩:=h.n;omega)
 have hn2:((-(pw k):Int):Rat)≤((x.num:Int):Rat):=fH.2 (by obtain⟨g1,g2⟩:=h.n;omega)
 have e:=uo x
 constructor
 ·apply f7
  intro hn
  have h1:=xF hdr (show 0≤x by grind)
  grind
 ·apply f7
  intro hn
  have h1:=xF hdr (show 0≤ -x by grind)
  grind
theorem ZB (h:0≤M):cD (Re.rt M) (Re.of (M+1)):=by
 refine qz (xd M) (by rw[cO];exact kO (by grind)) ?_
 have e:aS (Re.of (M+1)*Re.of (M+1)-Re.rt M*Re.rt M)=aS (Re.of ((M+1)*(M+1)-M)):=dP (by
  rw[show Re.of (M+1)*Re.of (M+1)-Re.rt M*Re.rt M-Re.of ((M+1)*(M+1)-M)= -(Re.rt M*Re.rt M-Re.of M) from bt fun k=>by simp only[aG,aT,bi,bE];grind,cm,ow h];rfl)
 rw[e,cO]
 exact kO (by have:=jq h h;grind)
theorem Je (h:0≤M) (h1:b*(M+1)≤V) (h0:0≤V):cD (Re.of b*Re.rt M) (Re.of V):=by
 by_cases hb:0≤b
 ·have:=iV (X:=Re.of b) (by rw[cO];exact kO hb) (ZB h)
  exact eo this (by rw[gZ];exact of_le h1)
 ·have h2:cD (Re.of b*Re.rt M) (Re.of 0):=by
   unfold cD
   rw[show Re.of 0-Re.of b*Re.rt M=Re.of (-b)*Re.rt M from bt fun k=>by simp only[aG,aT,bi];grind,bJ]
   exact f5 (by rw[cO];exact kO (by grind)) (xd M)
  exact eo h2 (of_le h0)
theorem LK (h:0≤M) (h1:b*(M+1)≤U-a) (h0:a≤U):cD (aC a b M) (Re.of U):=by
 have:=Je (b:=b) h h1 (by grind)
 have h2:=fl (ig (Re.of a)) this
 unfold aC
 refine eo h2 ?_
 rw[show Re.of a+Re.of (U-a)=Re.of U from bt fun k=>by simp only[aU,bi];grind]
 exact ig _
theorem MB (h:0≤M):aS (aC a b M*aC a (-b) M-Re.of (a*a-b*b*M))=0:=by
 rw[show aC a b M*aC a (-b) M-Re.of (a*a-b*b*M)=Re.of (-(b*b))*(Re.rt M*Re.rt M-Re.of M) from bt fun k=>by simp only[aC,aG,aT,bi,aU];grind,bJ,ow h,pD]
theorem jz (a b M:Rat):aC (-a) (-b) M= -(aC a b M):=bt fun k=>by simp only[aC,aU,aT,bi,bE];grind
theorem Fb (a b:Nat):((pw (a+b):Int):Rat)=((pw a:Int):Rat)*((pw b:Int):Rat):=by rw[←fZ,qi]
theorem pF (k:Nat):(0:Rat)<((pw k:Int):Rat):=iN.2 (cX k)
theorem Fu (k:Nat):(1:Rat)≤((pw k:Int):Rat):=by
 have h:((1:Int):Rat)≤((pw k:Int):Rat):=fH.2 (by have:=cX k;omega)
 grind
theorem PB (h1:b≤B) (h2: -B≤b) (c0:0≤c) (c1:c≤C):b*c≤B*C∧ -(B*C)≤b*c:=by
 have g1:b*c≤B*c:=s7 h1 c0
 have g2:B*c≤B*C:=xF c1 (by grind)
 have g3: -B*c≤b*c:=s7 h2 c0
 grind
theorem FY (ha:Rz ka a) (hb:Rz kb b) (hm:Rz km M) (h0:0≤M) (hU:((pw ka:Int):Rat)+((pw kb:Int):Rat)*(((pw km:Int):Rat)+1)≤U):cD (aC a b M) (Re.of U)∧cD (-(aC a b M)) (Re.of U):=by
 obtain⟨a1,a2⟩:=yd ha
 obtain⟨b1,b2⟩:=yd hb
 obtain⟨m1,_⟩:=yd hm
 obtain⟨g1,g2⟩:=PB (c:=M+1) (C:=((pw km:Int):Rat)+1) b1 b2 (by grind) (by grind)
 refine⟨LK h0 (by grind) (by grind),?_⟩
 rw[←jz]
 exact LK h0 (by grind) (by grind)
theorem Yx (hx:0<x) (h:x≤y):1/y≤1/x:=by
 apply f7
 intro hn
 have h0:0<1/y:=by
  apply f7
  intro hc
  have:=s7 (show 1/y≤0 by grind) (show 0≤y by grind)
  grind
 have h1:=xZ (show 1/x<1/y by grind) hx
 have h2:=xF h (show 0≤1/y by grind)
 grind
theorem X7 (h:0<a):a≤2*a:=by grind
theorem PY (h:x<0):0< -x:=by grind
theorem Si (h:0<2*a):0<a:=by grind
theorem Kt (h:0≤c):0≤c+1:=by grind
theorem R7 (h:c≤d):c+1≤d+1:=by grind
theorem SE (h: -y≤x): -x≤y:=by grind
theorem Ux (h:aJ x 0=1):0<x:=by
 unfold aJ at h
 split at h
 ·cases h
 grind
theorem zV (h:0<x):0≤x:=by grind
theorem Wx (h:x≠0):x<0∨0<x:=by grind
theorem E2 (h:aS u=0) (g:aS v=0):aS (u+v)=0:=by
 rw[dP (x:=u+v) (y:=v) (by rw[show u+v-v=u from bt fun k=>by simp only[aG,aU];grind];exact h)]
 grind
theorem SD (a b:Nat):1/((pw (a+b):Int):Rat)*((pw b:Int):Rat)=1/((pw a:Int):Rat):=by
 have h2:=pF b
 rw[Fb]
 grind
theorem Kz {a b:Nat}(h:cD (Re.of (1/((pw a:Int):Rat))) (Re.of ((pw b:Int):Rat)*X)):cD (Re.of (1/((pw (a+b):Int):Rat))) X:=by
 refine tc (pF b) ?_
 rw[gZ,Rat.mul_comm,SD]
 grind
theorem IJ {a b:Nat}(h:a≤b):1/((pw b:Int):Rat)≤1/((pw a:Int):Rat):=Yx (pF a) (fH.2 (mK h))
theorem pw1:((pw 1:Int):Rat)=1000000000:=by
 have:pw 1=1000000000:=by decide+kernel
 rw[this];rfl
theorem EG (ka kb km:Nat):((pw ka:Int):Rat)+((pw kb:Int):Rat)*(((pw km:Int):Rat)+1)≤((pw (ka+kb+km+1):Int):Rat):=by
 rw[Fb,Fb,Fb,pw1]
 have a:=Fu ka
 have b:=Fu kb
 have m:=Fu km
 generalize ((pw ka:Int):Rat)=x at*
 generalize ((pw kb:Int):Rat)=y at*
 generalize ((pw km:Int):Rat)=z at*
 have h1:=xF b (show 0≤x by grind)
 have h2:=xF m (show 0≤x*y by grind)
 have h3:=s7 a (show 0≤y by grind)
 have h4:=s7 h3 (show 0≤z by grind)
 grind
def K2 (ka kb km:Nat):Nat:=(ka+ka+(kb+kb+km)+1)+(ka+kb+km+1)
theorem QO (ha:Rz ka a) (hb:Rz kb b) (hm:Rz km M) (h0:0≤M) (hX:aS (aC a b M)=1):cD (Re.of (1/((pw (K2 ka kb km):Int):Rat))) (aC a b M):=by
 have hr:Rz (ka+ka+(kb+kb+km)+1) (a*a-b*b*M):=(ha.mul ha).sub ((hb.mul hb).mul hm)
 obtain⟨u1,u2⟩:=FY ha hb.neg hm h0 (EG ka kb km)
 have hc:=MB (a:=a) (b:=b) h0
 by_cases hz:a*a-b*b*M=0
 ·--the conjugate is 0
  have hY:aS (aC a (-b) M)=0:=by
   have h1:aS (aC a b M*aC a (-b) M)=0:=by
    rw[dP hc,cO,hz];decide
   rw[bJ,hX,pt] at h1
   grind
  have h2:aS (aC a b M-Re.of (2*a))=0:=by
   rw[show aC a b M-Re.of (2*a)= -(aC a (-b) M) from bt fun k=>by simp only[aC,aG,aU,aT,bi,bE];grind,cm,hY];rfl
  have h3:aS (Re.of (2*a))=1:=by rw[←dP h2];exact hX
  have ha0:0<a:=Si (Ux (by rw[←cO];exact h3))
  have h4:=Jj ha ha0
  have h5:=IJ (a:=ka) (b:=K2 ka kb km) (by unfold K2;omega)
  have h6:cD (Re.of (1/((pw (K2 ka kb km):Int):Rat))) (Re.of (2*a)):=of_le (Rat.le_trans h5 (Rat.le_trans h4 (X7 ha0)))
  refine kK ?_ h6
  rw[show Re.of (2*a)-aC a b M= -(aC a b M-Re.of (2*a)) from bt fun k=>by simp only[aG,bE];grind,cm,h2];rfl
 ·refine Kz (J2 hX hc u1 u2 ?_)
  rcases Wx hz with h|h
  ·right
   rw[show-Re.of (a*a-b*b*M)=Re.of (-(a*a-b*b*M)) from bt fun k=>by simp only[bE,bi]]
   exact of_le (Jj hr.neg (PY h))
  ·left
   exact of_le (Jj hr h)
theorem ace (ha:Rz ka a) (hb:Rz kb b) (hm:Rz km M) (h0:0≤M) (hX:aS (aC a b M)≠0):cD (Re.of (1/((pw (K2 ka kb km):Int):Rat))) (aC a b M)∨cD (Re.of (1/((pw (K2 ka kb km):Int):Rat))) (-(aC a b M)):=by
 rcases bL (aC a b M) with h|h|h
 ·exact .inl (QO ha hb hm h0 h)
 ·grind
 ·right
  rw[←jz]
  exact QO ha.neg hb.neg hm h0 (by rw[jz,cm,h];rfl)
def K4 (kA kB kC kM kN:Nat):Nat:=K2 (kA+kA+(kB+kB+kM)+1+(kC+kC+kN)+1) (1+(kA+kB)) kM+(kA+kB+kM+1+kC+kN+1)
theorem Sb (kA kB kC kM kN:Nat):((pw (kA+kB+kM+1):Int):Rat)+((pw kC:Int):Rat)*(((pw kN:Int):Rat)+1)≤((pw (kA+kB+kM+1+kC+kN+1):Int):Rat):=EG _ kC kN
theorem ab7 {kA kB kC kM kN:Nat}{A:Rat}(hA:Rz kA A) (hB:Rz kB B) (hC:Rz kC C) (hM:Rz kM M) (hN:Rz kN N) (m0:0≤M) (n0:0≤N) (hX:aS (ms A B C 0 M N)=1):cD (Re.of (1/((pw (K4 kA kB kC kM kN):Int):Rat))) (ms A B C 0 M N):=by
 have two:Rz 1 (2:Rat):=nr (by decide+kernel)
 have hw1:Rz (kA+kA+(kB+kB+kM)+1+(kC+kC+kN)+1) (A*A+B*B*M-C*C*N):=((hA.mul hA).add ((hB.mul hB).mul hM)).sub ((hC.mul hC).mul hN)
 have hw2:Rz (1+(kA+kB)) (2*(A*B)):=two.mul (hA.mul hB)
 have hconj:aS (ms A B C 0 M N*ms A B (-C) 0 M N-aC (A*A+B*B*M-C*C*N) (2*(A*B)) M)=0:=by
  rw[show ms A B C 0 M N*ms A B (-C) 0 M N-aC (A*A+B*B*M-C*C*N) (2*(A*B)) M=Re.of (B*B)*(Re.rt M*Re.rt M-Re.of M)+Re.of (-(C*C))*(Re.rt N*Re.rt N-Re.of N) from bt fun k=>by simp only[ms,aC,aG,aT,bi,aU];grind]
  refine E2 ?_ ?_
  ·rw[bJ,ow m0,pD]
  ·rw[bJ,ow n0,pD]
 have hP:=EG kA kB kM
 obtain⟨u1,u2⟩:=FY hA hB hM m0 hP
 obtain⟨c1,c2⟩:=yd hC
 obtain⟨k1,_⟩:=yd hN
 obtain⟨g1,g2⟩:=PB (c:=N+1) (C:=((pw kN:Int):Rat)+1) c1 c2 (Kt n0) (R7 k1)
 have hQ0:=jq (zV (pF kC)) (Kt (zV (pF kN)))
 have v1:cD (Re.of C*Re.rt N) (Re.of (((pw kC:Int):Rat)*(((pw kN:Int):Rat)+1))):=Je n0 g1 hQ0
 have v2:cD (Re.of (-C)*Re.rt N) (Re.of (((pw kC:Int):Rat)*(((pw kN:Int):Rat)+1))):=Je n0 (by rw[Rat.neg_mul];exact SE g2) hQ0
 have hS:=of_le (Sb kA kB kC kM kN)
 have up1:cD (ms A B (-C) 0 M N) (Re.of ((pw (kA+kB+kM+1+kC+kN+1):Int):Rat)):=by
  refine eo ?_ hS
  have:=fl u1 v2
  rw[show ms A B (-C) 0 M N=aC A B M+Re.of (-C)*Re.rt N from bt fun k=>by simp only[ms,aC,aT,bi,aU];grind,
   show Re.of (((pw (kA+kB+kM+1):Int):Rat)+((pw kC:Int):Rat)*(((pw kN:Int):Rat)+1))=Re.of ((pw (kA+kB+kM+1):Int):Rat)+Re.of (((pw kC:Int):Rat)*(((pw kN:Int):Rat)+1)) from bt fun k=>by simp only[bi,aU]]
  grind
 have up2:cD (-(ms A B (-C) 0 M N)) (Re.of ((pw (kA+kB+kM+1+kC+kN+1):Int):Rat)):=by
  refine eo ?_ hS
  have:=fl u2 v1
  rw[show-(ms A B (-C) 0 M N)= -(aC A B M)+Re.of C*Re.rt N from bt fun k=>by simp only[ms,aC,aT,bi,aU,bE];grind,
   show Re.of (((pw (kA+kB+kM+1):Int):Rat)+((pw kC:Int):Rat)*(((pw kN:Int):Rat)+1))=Re.of ((pw (kA+kB+kM+1):Int):Rat)+Re.of (((pw kC:Int):Rat)*(((pw kN:Int):Rat)+1)) from bt fun k=>by simp only[bi,aU]]
  grind
 by_cases hz:aS (aC (A*A+B*B*M-C*C*N) (2*(A*B)) M)=0
 ·have hY:aS (ms A B (-C) 0 M N)=0:=by
   have h1:aS (ms A B C 0 M N*ms A B (-C) 0 M N)=0:=by rw[dP hconj];exact hz
   rw[bJ,hX,pt] at h1
   grind
  have h2:aS (ms A B C 0 M N-Re.of 2*aC A B M)=0:=by
   rw[show ms A B C 0 M N-Re.of 2*aC A B M= -(ms A B (-C) 0 M N) from bt fun k=>by simp only[ms,aC,aG,aU,aT,bi,bE];grind,cm,hY];rfl
  have h3:aS (aC A B M)=1:=by
   have h4:=dP h2
   rw[hX,bJ,cO,show aJ 2 0=1 from by decide,pt] at h4
   grind
  have h4:=QO hA hB hM m0 h3
  have h5:cD (aC A B M) (Re.of 2*aC A B M):=by
   unfold cD
   rw[show Re.of 2*aC A B M-aC A B M=aC A B M from bt fun k=>by simp only[aG,aT,bi];grind,h3];decide
  have h6:cD (Re.of (1/((pw (K4 kA kB kC kM kN):Int):Rat))) (aC A B M):=eo (of_le (IJ (by unfold K4 K2;omega))) h4
  refine kK ?_ (eo h6 h5)
  rw[show Re.of 2*aC A B M-ms A B C 0 M N= -(ms A B C 0 M N-Re.of 2*aC A B M) from bt fun k=>by simp only[aG,bE];grind,cm,h2];rfl
 ·exact Kz (J2 hX hconj up1 up2 (ace hw1 hw2 hM m0 hz))
structure Mob (A0 B0 C:Rat) (p q r s:Int) (A B:Rat):Prop where
 e1:((p:Rat)-(r:Rat)*A0)*A-(r:Rat)*B0*B*C=(s:Rat)*A0-(q:Rat)
 e2:((p:Rat)-(r:Rat)*A0)*B-(r:Rat)*B0*A=(s:Rat)*B0
 det:p*s-q*r=1∨p*s-q*r= -1
section
variable {A0 B0 C A B:Rat}{p q r s:Int}
theorem Mob.init (A0 B0 C:Rat):Mob A0 B0 C 1 0 0 1 A0 B0:=by
 refine⟨?_,?_,.inl (by decide)⟩
 ·grind
 grind
theorem Mob.shift (h:Mob A0 B0 C p q r s A B) (n:Int):Mob A0 B0 C p (p*n+q) r (r*n+s) (A-(n:Rat)) B:=by
 obtain⟨e1,e2,hd⟩:=h
 refine⟨?_,?_,?_⟩
 ·grind
 ·grind
 grind
theorem Mob.inv (h:Mob A0 B0 C p q r s A B) (hw:(A*A-B*B*C)*w=1):Mob A0 B0 C q p s r (A*w) (-B*w):=by
 obtain⟨e1,e2,hd⟩:=h
 refine⟨?_,?_,?_⟩
 ·grind
 ·grind
 grind
theorem Mob.sol (h:Mob A0 B0 C p q r s A B):A*(((p:Rat)-(r:Rat)*A0)*((p:Rat)-(r:Rat)*A0)-(r:Rat)*(r:Rat)*(B0*B0*C))=((s:Rat)*A0-(q:Rat))*((p:Rat)-(r:Rat)*A0)+(s:Rat)*(r:Rat)*(B0*B0*C)∧
 B*(((p:Rat)-(r:Rat)*A0)*((p:Rat)-(r:Rat)*A0)-(r:Rat)*(r:Rat)*(B0*B0*C))=B0*((p*s-q*r:Int):Rat):=by
 obtain⟨e1,e2,hd⟩:=h
 grind
theorem Mob.ne (h:Mob A0 B0 C p q r s A B) (_hv:B0≠0→0<C∧jd C=false):((p:Rat)-(r:Rat)*A0)*((p:Rat)-(r:Rat)*A0)-(r:Rat)*(r:Rat)*(B0*B0*C)≠0:=by
 obtain⟨e1,e2,hd⟩:=h
 have hdr:((p*s-q*r:Int):Rat)≠0:=by
  rcases hd with hd|hd<;>rw[hd]<;>decide
 by_cases hb:B0=0
 ·grind
 grind
theorem Mob.sz (h:Mob A0 B0 C p q r s A B) (hv:B0≠0→0<C∧jd C=false) {m kp kq kr ks:Nat}(hA:Rz m A0) (hB:Rz m B0) (hC:Rz m C) (hp:Rz kp (p:Rat)) (hq:Rz kq (q:Rat)) (hr:Rz kr (r:Rat)) (hs:Rz ks (s:Rat)):
 Rz (((ks+m+kq+1)+(kp+(kr+m)+1)+(ks+kr+(m+m+m))+1)+((kp+(kr+m)+1)+(kp+(kr+m)+1)+(kr+kr+(m+m+m))+1)) A∧Rz ((m+1)+((kp+(kr+m)+1)+(kp+(kr+m)+1)+(kr+kr+(m+m+m))+1)) B:=by
 have hne:=h.ne hv
 obtain⟨s1,s2⟩:=h.sol
 have hd:=h.det
 have z1:=hp.sub (hr.mul hA)
 have z2:=(z1.mul z1).sub ((hr.mul hr).mul ((hB.mul hB).mul hC))
 have z3:=(((hs.mul hA).sub hq).mul z1).add ((hs.mul hr).mul ((hB.mul hB).mul hC))
 have z4:Rz 1 ((p*s-q*r:Int):Rat):=by rcases hd with hd|hd<;>rw[hd]<;>exact nr (by decide+kernel)
 have z5:=(hB.mul z4).div z2 hne
 have z6:=z3.div z2 hne
 grind
theorem Mob.real (h:Mob A0 B0 C p q r s A B) (hc:0≤C):aS (aC A0 B0 C*(Re.of (r:Rat)*aC A B C+Re.of (s:Rat))-(Re.of (p:Rat)*aC A B C+Re.of (q:Rat)))=0:=by
 obtain⟨e1,e2,hd⟩:=h
 rw[show aC A0 B0 C*(Re.of (r:Rat)*aC A B C+Re.of (s:Rat))-(Re.of (p:Rat)*aC A B C+Re.of (q:Rat))=Re.of ((r:Rat)*B0*B)*(Re.rt C*Re.rt C-Re.of C) from bt fun k=>by simp only[aC,aG,aU,aT,bi];grind,bJ,ow hc,pD]
end
theorem uU (v:Re) (h:aS u=0):aS (v*u)=0:=by rw[bJ,h,pD]
theorem sI (h:aS u=0):aS (-u)=0:=by rw[cm,h];rfl
theorem Cz {x y z:Re}(h:aS (y-x)=0) (g:cD x z):cD y z:=by
 unfold cD at*
 rw[dP (x:=z-y) (y:=z-x) (by rw[show z-y-(z-x)= -(y-x) from bt fun k=>by simp only[aG,bE];grind];exact sI h)]
 grind
theorem ye {a b c d:Re}(ha:0≤aS c) (h:cD a b) (hb:0≤aS b) (g:cD c d):cD (a*c) (b*d):=by
 have h1:cD (c*a) (c*b):=iV ha h
 have h2:cD (b*c) (b*d):=iV hb g
 rw[show a*c=c*a from bt fun k=>by simp only[aT];grind]
 rw[show c*b=b*c from bt fun k=>by simp only[aT];grind] at h1
 exact eo h1 h2
theorem xw {x:Re}(h:cD (Re.of 0) x):0≤aS x:=by
 unfold cD at h
 rw[show x-Re.of 0=x from bt fun k=>by simp only[aG,bi];grind] at h;exact h
theorem xE {x:Re}(h:0≤aS x):cD (Re.of 0) x:=by
 unfold cD
 rw[show x-Re.of 0=x from bt fun k=>by simp only[aG,bi];grind];exact h
theorem En (h:0≤x):0≤aS (Re.of x):=by rw[cO];exact kO h
theorem AO (h:0≤n):(0:Rat)≤(n:Rat):=by
 have:((0:Int):Rat)≤(n:Rat):=fH.2 h
 grind
theorem OF (h:0<x) :1/x*y*x=y:=by grind
theorem Jy (h:0<x):0≤1/x:=by
 apply f7
 intro hc
 have:=s7 (show 1/x≤0 by grind) (show 0≤x by grind)
 grind
section
variable {X Y V W Z Z':Re}{p q r s n:Int}
theorem Fd (hr:0≤r) (h:cD (Re.of (n:Rat)) X):cD (Re.of ((r*n+s:Int):Rat)) (Re.of (r:Rat)*X+Re.of (s:Rat)):=by
 have h1:=iV (X:=Re.of (r:Rat)) (En (AO hr)) h
 have h2:=fl h1 (ig (Re.of (s:Rat)))
 rw[show Re.of (r:Rat)*Re.of (n:Rat)+Re.of (s:Rat)=Re.of ((r*n+s:Int):Rat) from bt fun k=>by simp only[aU,aT,bi,jw,fZ]] at h2
 grind
theorem Le (hX:aS (V*(Re.of (r:Rat)*X+Re.of (s:Rat))-(Re.of (p:Rat)*X+Re.of (q:Rat)))=0) (hY:aS (W*(Re.of (r:Rat)*Y+Re.of (s:Rat))-(Re.of (p:Rat)*Y+Re.of (q:Rat)))=0):
 aS ((V-W)*((Re.of (r:Rat)*X+Re.of (s:Rat))*(Re.of (r:Rat)*Y+Re.of (s:Rat)))-Re.of ((p*s-q*r:Int):Rat)*(X-Y))=0:=by
 rw[show(V-W)*((Re.of (r:Rat)*X+Re.of (s:Rat))*(Re.of (r:Rat)*Y+Re.of (s:Rat)))-Re.of ((p*s-q*r:Int):Rat)*(X-Y)=
  (Re.of (r:Rat)*Y+Re.of (s:Rat))*(V*(Re.of (r:Rat)*X+Re.of (s:Rat))-(Re.of (p:Rat)*X+Re.of (q:Rat)))+ -((Re.of (r:Rat)*X+Re.of (s:Rat))*(W*(Re.of (r:Rat)*Y+Re.of (s:Rat))-(Re.of (p:Rat)*Y+Re.of (q:Rat)))) from
  bt fun k=>by simp only[aG,aU,aT,bi,bE,oX,fZ];grind]
 exact E2 (uU _ hX) (sI (uU _ hY))
theorem BH {a b:Re}(h1:cD a (Re.of ((n+1:Int):Rat))) (h2:cD (Re.of (n:Rat)) b):cD (a-b) (Re.of 1):=by
 have:=fl h1 (SH h2)
 rw[show a+ -b=a-b from bt fun k=>by simp only[aG,aU,bE];try grind,show Re.of ((n+1:Int):Rat)+ -Re.of (n:Rat)=Re.of 1 from bt fun k=>by
  simp only[aU,bi,bE,jw];try grind] at this
 grind
theorem Em (hr:0≤r) (hs:0≤s) (hn:0≤n) (hd:p*s-q*r=1∨p*s-q*r= -1)
 (hX:aS (V*(Re.of (r:Rat)*X+Re.of (s:Rat))-(Re.of (p:Rat)*X+Re.of (q:Rat)))=0) (hY:aS (W*(Re.of (r:Rat)*Y+Re.of (s:Rat))-(Re.of (p:Rat)*Y+Re.of (q:Rat)))=0)
 (x0:cD (Re.of (n:Rat)) X) (x1:cD X (Re.of ((n+1:Int):Rat))) (y0:cD (Re.of (n:Rat)) Y) (y1:cD Y (Re.of ((n+1:Int):Rat)))
 (he:cD (Re.of (1/((pw K:Int):Rat))) (V-W)):(r*n+s)*(r*n+s)≤pw K:=by
 have hR0:0≤r*n+s:=by have:=f5 hr hn;omega
 have e1:=Le hX hY
 have lx:=Fd (s:=s) hr x0
 have ly:=Fd (s:=s) hr y0
 have nR:=En (AO hR0)
 have zx:0≤aS (Re.of (r:Rat)*X+Re.of (s:Rat)):=xw (eo (of_le (AO hR0)) lx)
 have m1:=ye nR lx zx ly
 have hp:=pF K
 have ie:(0:Rat)≤1/((pw K:Int):Rat):=Jy hp
 have dp:0≤aS (V-W):=xw (eo (of_le ie) he)
 have nRR:0≤aS (Re.of ((r*n+s:Int):Rat)*Re.of ((r*n+s:Int):Rat)):=by rw[bJ];exact f5 nR nR
 have m2:=ye nRR he dp m1
 have t1:cD (Re.of ((p*s-q*r:Int):Rat)*(X-Y)) (Re.of 1):=by
  rcases hd with hd|hd<;>rw[hd]
  ·rw[show Re.of ((1:Int):Rat)*(X-Y)=X-Y from bt fun k=>by
    have h1:((1:Int):Rat)=1:=rfl
    simp only[aG,aT,bi,h1];grind]
   exact BH x1 y0
  ·rw[show Re.of ((-1:Int):Rat)*(X-Y)=Y-X from bt fun k=>by
    have h1:((-1:Int):Rat)= -1:=rfl
    simp only[aG,aT,bi,h1];grind]
   exact BH y1 x0
 have m3:=eo m2 (Cz e1 t1)
 rw[gZ,gZ,←fZ] at m3
 have m4:=gg m3
 have m5:=s7 m4 (zV hp)
 rw[OF hp,Rat.one_mul] at m5
 exact fH.1 m5
theorem UL {U:Int}(hq:0≤q) (hs:0≤s) (hr:0≤r) (hX:aS (V*(Re.of (r:Rat)*X+Re.of (s:Rat))-(Re.of (p:Rat)*X+Re.of (q:Rat)))=0) (x1:cD (Re.of 1) X) (v0:0≤aS V) (v1:cD V (Re.of (U:Rat))):p≤U*(r+s):=by
 have xp:0<aS X:=by
  have h1:cD (Re.of 1) X:=x1
  rcases bL X with h|h|h
  ·omega
  ·exfalso
   have h2:cD (Re.of 1) (Re.of 0):=kK (by rw[show X-Re.of 0=X from bt fun k=>by simp only[aG,bi];grind];exact h) h1
   exact absurd (gg h2) (by decide)
  ·exfalso
   have h3:cD X (Re.of 0):=by unfold cD;rw[show Re.of 0-X= -X from bt fun k=>by simp only[aG,bi,bE];grind,cm,h];decide
   exact absurd (gg (eo h1 h3)) (by decide)
 have a1:cD (Re.of (p:Rat)*X) (Re.of (p:Rat)*X+Re.of (q:Rat)):=by
  unfold cD
  rw[show Re.of (p:Rat)*X+Re.of (q:Rat)-Re.of (p:Rat)*X=Re.of (q:Rat) from bt fun k=>by simp only[aG,aU,bi];grind]
  exact En (AO hq)
 have a2:=kK (z:=V*(Re.of (r:Rat)*X+Re.of (s:Rat))) (by rw[show Re.of (p:Rat)*X+Re.of (q:Rat)-V*(Re.of (r:Rat)*X+Re.of (s:Rat))= -(V*(Re.of (r:Rat)*X+Re.of (s:Rat))-(Re.of (p:Rat)*X+Re.of (q:Rat))) from bt fun k=>by simp only[aG,bE];grind];exact sI hX) a1
 have a3:cD (Re.of (r:Rat)*X+Re.of (s:Rat)) (Re.of ((r+s:Int):Rat)*X):=by
  have h1:=iV (X:=Re.of (s:Rat)) (En (AO hs)) x1
  have h2:=fl (ig (Re.of (r:Rat)*X)) h1
  rw[show Re.of (s:Rat)*Re.of 1=Re.of (s:Rat) from bt fun k=>by simp only[aT,bi];grind,show Re.of (r:Rat)*X+Re.of (s:Rat)*X=Re.of ((r+s:Int):Rat)*X from bt fun k=>by simp only[aT,aU,bi,jw];grind] at h2
  grind
 have a4:=iV v0 a3
 have rsX:0≤aS (Re.of ((r+s:Int):Rat)*X):=by rw[bJ];exact f5 (En (AO (by omega))) (by omega)
 have a5:cD (V*(Re.of ((r+s:Int):Rat)*X)) (Re.of (U:Rat)*(Re.of ((r+s:Int):Rat)*X)):=by
  have:=iV rsX v1
  rw[show Re.of ((r+s:Int):Rat)*X*V=V*(Re.of ((r+s:Int):Rat)*X) from bt fun k=>by simp only[aT];grind,show Re.of ((r+s:Int):Rat)*X*Re.of (U:Rat)=Re.of (U:Rat)*(Re.of ((r+s:Int):Rat)*X) from bt fun k=>by simp only[aT];grind] at this
  grind
 have a6:=eo a2 (eo a4 a5)
 unfold cD at a6
 rw[show Re.of (U:Rat)*(Re.of ((r+s:Int):Rat)*X)-Re.of (p:Rat)*X=Re.of ((U*(r+s)-p:Int):Rat)*X from bt fun k=>by simp only[aG,aT,bi,oX,fZ];grind,bJ] at a6
 apply f7
 intro hn
 have h7:aS (Re.of ((U*(r+s)-p:Int):Rat))= -1:=by
  rw[cO]
  unfold aJ
  rw[if_pos (by
   have:((U*(r+s)-p:Int):Rat)<((0:Int):Rat):=iN.2 (by omega)
   exact this)]
 grind
end
def fr (p q:Int):Rat:=(p:Rat)/(q:Rat)
theorem oZ (h:0<q):(0:Rat)<(q:Rat):=iN.2 h
theorem Lz (h:q≠0):(q:Rat)≠0:=fun e=>h (Rat.intCast_inj.1 (e.trans Rat.intCast_zero.symm))
theorem gU (h:0<q):fr p q*(q:Rat)=(p:Rat):=o8 (Lz (by omega))
theorem vM (h:0<q) (e:x*(q:Rat)=(p:Rat)):fr p q=x:=by
 have h1:=gU (p:=p) h
 have h2:(fr p q-x)*(q:Rat)=0:=by grind
 rcases zJ.1 h2 with h3|h3
 ·grind
 ·exact absurd h3 (Lz (by omega))
theorem xY (x:Rat):fr x.num (x.den:Int)=x:=vM (by have:=x.den_pos;omega) (by
 have:=Rat.num_divInt_den x
 rw[zo] at this
 have h2:=o8 (a:=(x.num:Rat)) (b:=((x.den:Int):Rat)) (Lz (by have:=x.den_pos;omega))
 rw[this] at h2;exact h2)
structure TMin (S:Rat→Prop) (P Q:Int):Prop where
 p:0<P
 q:0<Q
 mem:S (fr P Q)
 min: ∀p q:Int,0<q→S (fr p q)→P≤p∧Q≤q
theorem uO (hP:0<P) (hQ:0<Q):fr (n*P+Q) P=(n:Rat)+1/fr P Q:=by
 refine vM hP ?_
 have h1:=gU (p:=P) hQ
 have h0:fr P Q≠0:=by
  have:=oZ hP
  grind
 grind
theorem TMin.step (hn:0≤n) (h:TMin S' P Q) (h1: ∀x,S x↔(n:Rat)<x∧S' (1/(x-(n:Rat)))):TMin S (n*P+Q) P:=by
 have hP:=h.p
 have hQ:=h.q
 have hf:=gU (p:=P) hQ
 have hfp:0<fr P Q:=by
  apply f7
  intro hn
  have:=s7 (show fr P Q≤0 by grind) (show 0≤(Q:Rat) by have:=oZ hQ;grind)
  have:=oZ hP
  grind
 have hi:1/fr P Q*fr P Q=1:=by grind
 have hip:0<1/fr P Q:=by
  apply f7
  intro hn
  have:=s7 (show 1/fr P Q≤0 by grind) (show 0≤fr P Q by grind)
  grind
 refine⟨by have:=f5 hn (show 0≤P by omega);omega,hP,?_,fun p q hq hs=>?_⟩
 ·rw[h1,uO hP hQ]
  refine⟨by grind,?_⟩
  rw[show(n:Rat)+1/fr P Q-(n:Rat)=1/fr P Q by grind]
  rw[show 1/(1/fr P Q)=fr P Q from by
   have h3:1/(1/fr P Q)*(1/fr P Q)*fr P Q=fr P Q:=by grind
   rw[Rat.mul_assoc,hi,tz] at h3
   exact h3]
  exact h.mem
 ·obtain⟨g1,g2⟩:=(h1 _).1 hs
  have e1:=gU (p:=p) hq
  have hqp:=oZ hq
  have hk:0<p-n*q:=by
   have:=xZ g1 hqp
   rw[e1,←fZ] at this
   have:=iN.1 this
   omega
  have e2:fr q (p-n*q)=1/(fr p q-(n:Rat)):=by
   refine vM hk ?_
   grind
  rw[←e2] at g2
  obtain⟨m1,m2⟩:=h.min q (p-n*q) hk g2
  have:=mY m1 hn
  omega
theorem TMin.whole (hn:0≤n) (h1:S ((n+1:Int):Rat)) (h2: ∀x,S x→(n:Rat)<x):TMin S (n+1) 1:=by
 refine⟨by omega,by omega,?_,fun p q hq hs=>⟨?_,by omega⟩⟩
 ·rw[show fr (n+1) 1=((n+1:Int):Rat) from vM (by omega) (by rw[Rat.intCast_one,tz])];exact h1
 ·have e1:=gU (p:=p) hq
  have:=xZ (h2 _ hs) (oZ hq)
  rw[e1,←fZ] at this
  have h3:=iN.1 this
  have:=mY (show 1≤q by omega) hn
  omega
theorem TMin.den (h:TMin S P Q):(fr P Q).num=P∧((fr P Q).den:Int)=Q:=by
 have e:=xY (fr P Q)
 have hd:0<((fr P Q).den:Int):=by have:=(fr P Q).den_pos;omega
 have hm:=h.min (fr P Q).num ((fr P Q).den:Int) hd (by rw[e];exact h.mem)
 have h1:=gU (p:=P) h.q
 have h2:=gU (p:=(fr P Q).num) hd
 have h3:P*((fr P Q).den:Int)=(fr P Q).num*Q:=by
  have:((P*((fr P Q).den:Int):Int):Rat)=(((fr P Q).num*Q:Int):Rat):=by grind
  exact Rat.intCast_inj.1 this
 have h4:(fr P Q).num.natAbs∣P.natAbs*(fr P Q).den:=⟨Q.natAbs,by
  have:=congrArg Int.natAbs h3
  rw[sV,sV,xS] at this
  exact this⟩
 have h5:=Nat.le_of_dvd (by have:=h.p;omega) (Nat.Coprime.dvd_of_dvd_mul_right (fr P Q).reduced h4)
 have hP:(fr P Q).num=P:=by have:=h.p;omega
 refine⟨hP,?_⟩
 rw[hP] at h3
 have:=h.p
 exact Int.eq_of_mul_eq_mul_left (by omega) h3
theorem Nn (hc: ∀x y z:Rat,S x→S y→x≤z→z≤y→S z) {k:Int}(hQ:2≤Q) (hm:S (fr m Q)) (hk:S (fr k Q)) (hmin: ∀p q:Int,0<q→S (fr p q)→Q≤q):m=k:=by
 have key: ∀m k:Int,S (fr m Q)→S (fr k Q)→m<k→False:=by
  intro m k hm hk hlt
  have e1:Q*(m/Q)+m%Q=m:=rL m Q
  have r0:0≤m%Q:=pu m (by omega)
  have r1:m%Q<Q:=og m (by omega)
  generalize m/Q=t at e1
  generalize m%Q=r at e1 r0 r1
  have hQ1:0<Q-1:=by omega
  have hfm:=gU (p:=m) (q:=Q) (by omega)
  have hfk:=gU (p:=k) (q:=Q) (by omega)
  have hfj:=gU (p:=t*(Q-1)+r) (q:=Q-1) hQ1
  have p1:=oZ (show 0<Q by omega)
  have p2:=oZ hQ1
  have le1:fr m Q≤fr (t*(Q-1)+r) (Q-1):=by
   apply f7
   intro hn
   have h1:=xZ (show fr (t*(Q-1)+r) (Q-1)<fr m Q by grind) (kG p1 p2)
   have h2:fr (t*(Q-1)+r) (Q-1)*((Q:Rat)*((Q-1:Int):Rat))=(((t*(Q-1)+r)*Q:Int):Rat):=by grind
   have h3:fr m Q*((Q:Rat)*((Q-1:Int):Rat))=((m*(Q-1):Int):Rat):=by grind
   rw[h2,h3] at h1
   have h4:=iN.1 h1
   have h5:(t*(Q-1)+r)*Q=m*(Q-1)+r:=by grind
   omega
  have le2:fr (t*(Q-1)+r) (Q-1)≤fr k Q:=by
   have h1:=xZ (show fr k Q<fr (t*(Q-1)+r) (Q-1) by grind) (kG p1 p2)
   have h2:fr (t*(Q-1)+r) (Q-1)*((Q:Rat)*((Q-1:Int):Rat))=(((t*(Q-1)+r)*Q:Int):Rat):=by grind
   have h3:fr k Q*((Q:Rat)*((Q-1:Int):Rat))=((k*(Q-1):Int):Rat):=by grind
   rw[h2,h3] at h1
   have h4:=iN.1 h1
   have h5:(t*(Q-1)+r)*Q=m*(Q-1)+r:=by grind
   have h6:=zL (show m+1≤k by omega) (show 0≤Q-1 by omega)
   grind
  grind
 rcases rK m k with h|h|h
 ·grind
 ·exact h
 grind
theorem KP (h:aJ x 0=0):x=0:=FI (by rw[h];rfl)
section
variable {x y z:Rat}
theorem G5 (hz:0≤z) (hv:y≠0→0<z):uN x y z=aS (aC x y z):=by
 rw[←iX hz]
 unfold uN bo rR
 have e:aJ y 0*aJ z 0=aJ y 0:=by
  by_cases hy:y=0
  ·subst hy;rw[show aJ 0 0=0 from by decide];omega
  ·rw[show aJ z 0=1 from by unfold aJ;rw[if_neg (by have:=hv hy;grind),if_pos (hv hy)]];omega
 rw[e,qb]
end
def uj (a b:Re) (x:Rat):Prop:=aS (Re.of x-a)=1∧aS (b-Re.of x)=1
theorem vt (h:0<x):aS (Re.of x)=1:=by rw[cO];unfold aJ;rw[if_neg (by grind),if_pos h]
theorem zN (h:aS (u*u'-Re.of 1)=0) (hu:aS u'=1) (ht:0<t):aS (Re.of t-u)=aS (u'-Re.of (1/t)):=by
 have h1:aS ((Re.of t-u)*u'-Re.of t*(u'-Re.of (1/t)))=0:=by
  rw[show(Re.of t-u)*u'-Re.of t*(u'-Re.of (1/t))= -(u*u'-Re.of 1) from bt fun k=>by
   simp only[aG,aT,bi,bE]
   grind]
  exact sI h
 have h2:=dP h1
 rw[bJ,bJ,hu,vt ht,Int.mul_one,pt] at h2
 grind
theorem qg {a:Re}(ha:cD (Re.of (n:Rat)) a) (h:aS (Re.of x-a)=1):(n:Rat)<x:=by
 have h1:cD a (Re.of x):=by unfold cD;omega
 have h2:=gg (eo ha h1)
 apply f7
 intro hn
 have he:x=(n:Rat):=by grind
 subst he
 have h3:0≤aS (a-Re.of (n:Rat)):=ha
 rw[show a-Re.of (n:Rat)= -(Re.of (n:Rat)-a) from bt fun k=>by simp only[aG,bE];grind,cm,h] at h3
 omega
section
variable {a b a' b':Re}{n:Int}
theorem Cc (x:Rat):Re.of x-a=Re.of (x-(n:Rat))-(a-Re.of (n:Rat)):=bt fun k=>by simp only[aG,bi];grind
theorem wj (x:Rat):b-Re.of x= -(Re.of (x-(n:Rat))-(b-Re.of (n:Rat))):=bt fun k=>by simp only[aG,bi,bE];grind
theorem eJ (u v:Re):aS (u-v)= -aS (v-u):=by rw[←cm];exact congrArg aS (bt fun k=>by simp only[aG,bE];grind)
theorem Od (ha:cD (Re.of (n:Rat)) a) (h1:aS ((a-Re.of (n:Rat))*a'-Re.of 1)=0) (ha':aS a'=1) (h2:aS ((b-Re.of (n:Rat))*b'-Re.of 1)=0) (hb':aS b'=1) (x:Rat):
 uj a b x↔(n:Rat)<x∧uj b' a' (1/(x-(n:Rat))):=by
 constructor
 ·intro ⟨g1,g2⟩
  have hx:=qg ha g1
  have ht:0<x-(n:Rat):=by grind
  refine⟨hx,?_,?_⟩
  ·rw[wj (n:=n),cm,zN h2 hb' ht] at g2
   rw[eJ];exact g2
  ·rw[Cc (n:=n),zN h1 ha' ht] at g1;exact g1
 ·intro ⟨hx,g1,g2⟩
  have ht:0<x-(n:Rat):=by grind
  refine⟨?_,?_⟩
  ·rw[Cc (n:=n),zN h1 ha' ht];exact g2
  ·rw[wj (n:=n),cm,zN h2 hb' ht,←eJ];exact g1
theorem NB (ha:aS (a-Re.of (n:Rat))=0) (h2:aS ((b-Re.of (n:Rat))*b'-Re.of 1)=0) (hb':aS b'=1) (x:Rat):
 uj a b x↔(n:Rat)<x∧aS (Re.of (1/(x-(n:Rat)))-b')=1:=by
 have hl:cD (Re.of (n:Rat)) a:=by unfold cD;omega
 constructor
 ·intro ⟨g1,g2⟩
  have hx:=qg hl g1
  have ht:0<x-(n:Rat):=by grind
  refine⟨hx,?_⟩
  rw[wj (n:=n),cm,zN h2 hb' ht] at g2
  rw[eJ];exact g2
 ·intro ⟨hx,g1⟩
  have ht:0<x-(n:Rat):=by grind
  refine⟨?_,?_⟩
  ·rw[Cc (n:=n)]
   have h3:aS (Re.of (x-(n:Rat))-(a-Re.of (n:Rat)))=aS (Re.of (x-(n:Rat))):=dP (by
    rw[show Re.of (x-(n:Rat))-(a-Re.of (n:Rat))-Re.of (x-(n:Rat))= -(a-Re.of (n:Rat)) from bt fun k=>by simp only[aG,bE];grind]
    exact sI ha)
   rw[h3];exact vt ht
  ·rw[wj (n:=n),cm,zN h2 hb' ht,←eJ];exact g1
theorem Jp (hn:0≤n) (ha:cD (Re.of (n:Rat)) a) (h1:aS (Re.of ((n+1:Int):Rat)-a)=1) (h2:aS (b-Re.of ((n+1:Int):Rat))=1):TMin (uj a b) (n+1) 1:=
 TMin.whole hn ⟨h1,h2⟩ fun _x hx=>qg ha hx.1
theorem JK (hm:0≤m) (hb:cD (Re.of (m:Rat)) b') (h1:aS (Re.of ((m+1:Int):Rat)-b')=1):TMin (fun x=>aS (Re.of x-b')=1) (m+1) 1:=
 TMin.whole hm h1 fun _x hx=>qg hb hx
end
theorem Wj (hy:y≠0) (hv:0<z∧jd z=false) (m:Rat):aS (aC x y z-Re.of m)≠0:=by
 obtain⟨z0,zs⟩:=hv
 have hz:0≤z:=by grind
 intro h
 have h8:aS (aC (x-m) y z)=0:=by
  rw[show aC (x-m) y z=aC x y z-Re.of m from bt fun k=>by simp only[aC,aU,aT,bi,aG];grind]
  grind
 rw[←G5 hz (fun _=>z0)] at h8
 have hyn:aJ y 0≠0:=fun e=>hy (KP e)
 unfold uN at h8
 split at h8
 ·grind
 ·split at h8
  ·grind
  ·rename_i g1 g2
   have h9:aJ ((x-m)*(x-m)-y*y*z) 0=0:=(u9.1 h8).resolve_left g2
   have h10:=KP h9
   have h11:z=(x-m)/y*((x-m)/y):=by grind
   rw[h11,IF] at zs
   grind
theorem vn (hz:0≤z) (hv:y≠0→0<z∧jd z=false):aS (Re.of ((ou x y z+1:Int):Rat)-aC x y z)=1:=by
 have h:=(t8 (a:=x) (b:=y) hz).2
 have h0:0≤aS (Re.of ((ou x y z+1:Int):Rat)-aC x y z):=h
 by_cases hy:y=0
 ·subst hy
  have hd:=den_pos x
  rw[QP rfl] at*
  have hf:=(J1 (Z:=x.num) hd).2
  rw[show Re.of (((x.num.fdiv (x.den:Int)+1:Int)):Rat)-aC x 0 z=Re.of (((x.num.fdiv (x.den:Int)+1:Int):Rat)-x) from bt fun k=>by simp only[aC,aG,aU,aT,bi];grind]
  refine vt ?_
  apply f7
  intro hn
  have h2:=s7 (show((x.num.fdiv (x.den:Int)+1:Int):Rat)≤x by grind) (AO (show 0≤(x.den:Int) by omega))
  rw[uo,←fZ] at h2
  have h3:=fH.1 h2
  omega
 ·have h1:=Wj (x:=x) hy (hv hy) ((ou x y z+1:Int):Rat)
  rw[eJ] at h1
  rcases bL (Re.of ((ou x y z+1:Int):Rat)-aC x y z) with g|g|g<;>omega
structure Vl (B C:Rat):Prop where
 c0:0≤C
 v:B≠0→0<C∧jd C=false
 z:B=0→C=0
theorem KI (hv:y≠0→0<z∧jd z=false) (h:aS (aC x y z)≠0):x*x-y*y*z≠0:=by
 intro e
 by_cases hy:y=0
 ·subst hy
  have h2:x=0:=by grind
  apply h
  rw[h2,show aC 0 0 z=Re.of 0 from bt fun k=>by simp only[aC,aU,aT,bi];grind,cO]
  decide
 ·obtain⟨_,zs⟩:=hv hy
  have h11:z=x/y*(x/y):=by grind
  rw[h11,IF] at zs
  grind
theorem Bt (hz:0≤z) (hw:(x*x-y*y*z)*w=1):aS (aC x y z*aC (x*w) (-y*w) z-Re.of 1)=0:=by
 rw[show aC x y z*aC (x*w) (-y*w) z-Re.of 1=Re.of (-(w*y*y))*(Re.rt z*Re.rt z-Re.of z) from bt fun k=>by simp only[aC,aG,aU,aT,bi];grind]
 exact uU _ (ow hz)
theorem inv_pos (h:aS (u*u'-Re.of 1)=0) (hu:aS u=1):aS u'=1:=by
 have h2:=dP h
 rw[bJ,hu,pt,vt (by decide)] at h2
 grind
theorem Rh (h:aS (u*u'-Re.of 1)=0) (hu:aS u=1) (h1:cD u (Re.of 1)):cD (Re.of 1) u':=by
 have hp:=inv_pos h hu
 have h2:=iV (X:=u') (by omega) h1
 have h3:cD (Re.of 1) (u'*u):=by
  refine kK (y:=Re.of 1) ?_ (ig _)
  rw[eJ,show u'*u-Re.of 1=u*u'-Re.of 1 from bt fun k=>by simp only[aG,aT];grind,h];rfl
 have h4:=eo h3 h2
 rw[show u'*Re.of 1=u' from bt fun k=>by simp only[aT,bi];grind] at h4
 grind
theorem Mp {v':Re}(h1:aS (u*u'-Re.of 1)=0) (h2:aS (v*v'-Re.of 1)=0) (hu:aS u=1) (hv:aS v=1) (h:aS (v-u)=1):aS (u'-v')=1:=by
 have h3:aS (u*v*(u'-v')-(v-u))=0:=by
  rw[show u*v*(u'-v')-(v-u)=v*(u*u'-Re.of 1)+ -(u*(v*v'-Re.of 1)) from bt fun k=>by simp only[aG,aU,aT,bi,bE];grind]
  exact E2 (uU _ h1) (sI (uU _ h2))
 have h4:=dP h3
 rw[bJ,bJ,hu,hv,h] at h4
 omega
theorem Q3 (h:0<x):0<1/x:=by
 have h1:=Jy h
 grind
section
variable {A0 B0 C D0 E0 F A B D E:Rat}{p q r s:Int}
theorem Mob.vl (m:Mob A0 B0 C p q r s A B) (h:Vl B0 C):Vl B C:=by
 have hs:=m.sol.2
 have hne:=m.ne h.v
 have hdr:((p*s-q*r:Int):Rat)≠0:=by rcases m.det with hd|hd<;>rw[hd]<;>decide
 refine⟨h.c0,fun hb=>h.v ?_,fun hb=>h.z ?_⟩
 ·grind
 grind
structure BSt (U:Int) (h:Nat) (A0 B0 C D0 E0 F:Rat) (p q r s:Int) (A B D E:Rat):Prop where
 m1:Mob A0 B0 C p q r s A B
 m2:Mob D0 E0 F p q r s D E
 v1:Vl B0 C
 v2:Vl E0 F
 p0:0≤p
 q0:0≤q
 r0:0≤r
 s0:0≤s
 u1:1≤U
 pU:p≤U*(r+s)
 qU:q≤U*(r+s)
 rh:r≤pw h
 sh:s≤pw h
 V0:0≤aS (aC A0 B0 C)
 W0:0≤aS (aC D0 E0 F)
 VU:cD (aC A0 B0 C) (Re.of (U:Rat))
 WU:cD (aC D0 E0 F) (Re.of (U:Rat))
 sep:cD (Re.of (1/((pw (h+h):Int):Rat))) (aC A0 B0 C-aC D0 E0 F)∨cD (Re.of (1/((pw (h+h):Int):Rat))) (aC D0 E0 F-aC A0 B0 C)
 a0:0≤aS (aC A B C)
 au:cD (aC A B C) (Re.of ((pw (h+h):Int):Rat))
 ab:aS (aC D E F-aC A B C)=1
 st:(r=0∧s=1)∨(1≤r∧cD (Re.of 1) (aC A B C))
theorem P9 {x:Int}(hx:0≤x) (hs:x*x≤pw (h+h)):x≤pw h:=by
 rw[qi] at hs
 apply f7
 intro hn
 have hp:=cX h
 have h1:(pw h+1)*(pw h+1)≤x*x:=rG (by omega) (by omega) (by omega) (by omega)
 grind
variable {U:Int}{h:Nat}{n:Int}
theorem fV (x y z:Rat) (n:Int):aC (x-(n:Rat)) y z=aC x y z-Re.of (n:Rat):=bt fun k=>by simp only[aC,aG,aU,aT,bi];grind
theorem BSt.n0 (S:BSt U h A0 B0 C D0 E0 F p q r s A B D E) (hx:aS (Re.of ((n+1:Int):Rat)-aC A B C)=1):0≤n∧(1≤r→1≤n):=by
 have key: ∀m:Int,cD (Re.of (m:Rat)) (aC A B C)→m<n+1:=by
  intro m hm
  have:=qg (x:=((n+1:Int):Rat)) hm hx
  exact iN.1 this
 refine⟨?_,fun hr=>?_⟩
 ·have:=key 0 (xE S.a0);omega
 ·rcases S.st with⟨e,_⟩|⟨_,e⟩
  ·omega
  ·have:=key 1 e;omega
theorem BSt.next_r (S:BSt U h A0 B0 C D0 E0 F p q r s A B D E) (hn:0≤n) (x0:cD (Re.of (n:Rat)) (aC A B C)) (x1:cD (aC A B C) (Re.of ((n+1:Int):Rat))) (y1:cD (aC D E F) (Re.of ((n+1:Int):Rat))):r*n+s≤pw h:=by
 have hR0:0≤r*n+s:=by have:=f5 S.r0 hn;have:=S.s0;omega
 have y0:cD (Re.of (n:Rat)) (aC D E F):=eo x0 (by unfold cD;have:=S.ab;omega)
 refine P9 hR0 ?_
 rcases S.sep with e|e
 ·exact Em S.r0 S.s0 hn S.m1.det (S.m1.real S.v1.c0) (S.m2.real S.v2.c0) x0 x1 y0 y1 e
 ·exact Em S.r0 S.s0 hn S.m2.det (S.m2.real S.v2.c0) (S.m1.real S.v1.c0) y0 y1 x0 x1 e
theorem BSt.z1 (S:BSt U h A0 B0 C D0 E0 F p q r s A B D E) (hX:cD (aC A B C) X):cD (Re.of 1) (Re.of (r:Rat)*X+Re.of (s:Rat)):=by
 rcases S.st with⟨e1,e2⟩|⟨e1,e2⟩
 ·rw[e1,e2]
  have h0:((0:Int):Rat)=0:=rfl
  have h1:((1:Int):Rat)=1:=rfl
  rw[h0,h1,show Re.of 0*X+Re.of 1=Re.of 1 from bt fun k=>by simp only[aU,aT,bi];grind]
  exact ig _
 ·have h1:((1:Int):Rat)=1:=rfl
  have:=Fd (s:=s) (n:=1) S.r0 (eo (by rw[h1];exact e2) hX)
  refine eo (of_le ?_) this
  have h2:((1:Int):Rat)≤((r*1+s:Int):Rat):=fH.2 (by have:=S.s0;omega)
  grind
theorem BSt.gap (S:BSt U h A0 B0 C D0 E0 F p q r s A B D E):cD (Re.of (1/((pw (h+h):Int):Rat))) (aC D E F-aC A B C):=by
 have hab:cD (aC A B C) (aC D E F):=by unfold cD;have:=S.ab;omega
 have zx:=S.z1 (ig _)
 have zy:=S.z1 hab
 have ie:(0:Rat)≤1/((pw (h+h):Int):Rat):=Jy (pF _)
 have one0:0≤aS (Re.of 1):=En (by decide)
 have m1:=ye one0 zx (xw (eo (of_le (by decide)) zx)) zy
 have e11:Re.of 1*Re.of 1=Re.of 1:=by rw[gZ,tz]
 rw[e11] at m1
 have main: ∀ {A0 B0 C0 D0 E0 F0:Rat}{X Y:Re},aS (aC A0 B0 C0*(Re.of (r:Rat)*X+Re.of (s:Rat))-(Re.of (p:Rat)*X+Re.of (q:Rat)))=0→aS (aC D0 E0 F0*(Re.of (r:Rat)*Y+Re.of (s:Rat))-(Re.of (p:Rat)*Y+Re.of (q:Rat)))=0→
  cD (Re.of 1) ((Re.of (r:Rat)*X+Re.of (s:Rat))*(Re.of (r:Rat)*Y+Re.of (s:Rat)))→cD (Re.of (1/((pw (h+h):Int):Rat))) (aC A0 B0 C0-aC D0 E0 F0)→cD (Re.of (1/((pw (h+h):Int):Rat))) (X-Y)∨cD (Re.of (1/((pw (h+h):Int):Rat))) (Y-X):=by
  intro A0 B0 C0 D0 E0 F0 X Y hX hY hm he
  have e1:=Le hX hY
  have dp:0≤aS (aC A0 B0 C0-aC D0 E0 F0):=xw (eo (of_le ie) he)
  have m2:=ye one0 he dp hm
  rw[show Re.of (1/((pw (h+h):Int):Rat))*Re.of 1=Re.of (1/((pw (h+h):Int):Rat)) from by rw[gZ,tz]] at m2
  have m3:=kK e1 m2
  rcases S.m1.det with hd|hd<;>rw[hd] at m3
  ·left
   rw[show Re.of ((1:Int):Rat)*(X-Y)=X-Y from bt fun k=>by
    have h1:((1:Int):Rat)=1:=rfl
    simp only[aG,aT,bi,h1];grind] at m3
   grind
  ·right
   rw[show Re.of ((-1:Int):Rat)*(X-Y)=Y-X from bt fun k=>by
    have h1:((-1:Int):Rat)= -1:=rfl
    simp only[aG,aT,bi,h1];grind] at m3
   grind
 have fin:cD (Re.of (1/((pw (h+h):Int):Rat))) (aC A B C-aC D E F)→cD (Re.of (1/((pw (h+h):Int):Rat))) (aC D E F-aC A B C):=by
  intro hq
  have:=xw (eo (of_le ie) hq)
  rw[eJ,S.ab] at this
  omega
 rcases S.sep with e|e
 ·rcases main (S.m1.real S.v1.c0) (S.m2.real S.v2.c0) m1 e with g|g
  ·grind
  grind
 ·have m1':cD (Re.of 1) ((Re.of (r:Rat)*aC D E F+Re.of (s:Rat))*(Re.of (r:Rat)*aC A B C+Re.of (s:Rat))):=by
   rw[show(Re.of (r:Rat)*aC D E F+Re.of (s:Rat))*(Re.of (r:Rat)*aC A B C+Re.of (s:Rat))=(Re.of (r:Rat)*aC A B C+Re.of (s:Rat))*(Re.of (r:Rat)*aC D E F+Re.of (s:Rat)) from bt fun k=>by simp only[aT];grind];exact m1
  rcases main (S.m2.real S.v2.c0) (S.m1.real S.v1.c0) m1' e with g|g
  ·exact g
  ·exact fin g
theorem RH (h:aS (u*u'-Re.of 1)=0) (hu:aS u=1) (h1:cD (Re.of (1/((pw K:Int):Rat))) u):cD u' (Re.of ((pw K:Int):Rat)):=by
 have hp:=inv_pos h hu
 have hk:=pF K
 have h2:=iV (X:=u') (by omega) h1
 have h3:cD (u'*u) (Re.of 1):=by
  refine Cz (x:=Re.of 1) ?_ (ig _)
  rw[show u'*u-Re.of 1=u*u'-Re.of 1 from bt fun k=>by simp only[aG,aT];grind];exact h
 have h4:=eo h2 h3
 have e:1/((pw K:Int):Rat)*((pw K:Int):Rat)=1:=by grind
 refine tc (d:=1/((pw K:Int):Rat)) (Q3 hk) ?_
 rw[gZ,e,show Re.of (1/((pw K:Int):Rat))*u'=u'*Re.of (1/((pw K:Int):Rat)) from bt fun k=>by simp only[aT];grind]
 grind
theorem BSt.step (S:BSt U h A0 B0 C D0 E0 F p q r s A B D E) (x0:cD (Re.of (n:Rat)) (aC A B C)) (x1:aS (Re.of ((n+1:Int):Rat)-aC A B C)=1) (y1:cD (aC D E F) (Re.of ((n+1:Int):Rat))) (hz:aS (aC A B C-Re.of (n:Rat))=1)
 {w1 w2:Rat}(hw1:((A-(n:Rat))*(A-(n:Rat))-B*B*C)*w1=1) (hw2:((D-(n:Rat))*(D-(n:Rat))-E*E*F)*w2=1):
 BSt U h D0 E0 F A0 B0 C (p*n+q) p (r*n+s) r ((D-(n:Rat))*w2) (-E*w2) ((A-(n:Rat))*w1) (-B*w1)∧2*r+s<2*(r*n+s)+r∧0≤n:=by
 obtain⟨hn,hn1⟩:=S.n0 x1
 have hrn:=f5 S.r0 hn
 have hpn:=f5 S.p0 hn
 have s0:=S.s0
 have r0:=S.r0
 have q0:=S.q0
 have hbn:aS (aC D E F-Re.of (n:Rat))=1:=by
  have h1:=fl (x:=Re.of 0) (y:=aC A B C-Re.of (n:Rat)) (u:=Re.of 0) (v:=aC D E F-aC A B C) (xE (by omega)) (xE (by have:=S.ab;omega))
  rcases bL (aC D E F-Re.of (n:Rat)) with g|g|g
  ·exact g
  ·exfalso
   have h2:=S.ab
   have h3:aS (aC D E F-aC A B C- -(aC A B C-Re.of (n:Rat)))=0:=by
    rw[show aC D E F-aC A B C- -(aC A B C-Re.of (n:Rat))=aC D E F-Re.of (n:Rat) from bt fun k=>by simp only[aG,bE];grind];exact g
   have h4:=dP h3
   rw[cm,hz,h2] at h4
   omega
  ·exfalso
   have h2:cD (aC D E F) (Re.of (n:Rat)):=by unfold cD;rw[eJ,g];decide
   have h3:=eo (eo (by unfold cD;have:=S.ab;omega:cD (aC A B C) (aC D E F)) h2) (ig _)
   have h4:0≤aS (Re.of (n:Rat)-aC A B C):=h3
   rw[eJ,hz] at h4
   omega
 have i1:aS ((aC A B C-Re.of (n:Rat))*aC ((A-(n:Rat))*w1) (-B*w1) C-Re.of 1)=0:=by
  rw[←fV];exact Bt S.v1.c0 hw1
 have i2:aS ((aC D E F-Re.of (n:Rat))*aC ((D-(n:Rat))*w2) (-E*w2) F-Re.of 1)=0:=by
  rw[←fV];exact Bt S.v2.c0 hw2
 have le1:cD (aC D E F-Re.of (n:Rat)) (Re.of 1):=by
  refine BH (n:=n) y1 (ig _)
 have t1:=Rh i2 hbn le1
 have gb:cD (aC D E F-aC A B C) (aC D E F-Re.of (n:Rat)):=by
  unfold cD
  rw[show aC D E F-Re.of (n:Rat)-(aC D E F-aC A B C)=aC A B C-Re.of (n:Rat) from bt fun k=>by simp only[aG];grind];omega
 have tp:=inv_pos i2 hbn
 have hr1:1≤r*n+s:=by
  rcases S.st with⟨e1,e2⟩|⟨e1,_⟩
  ·grind
  ·have:=rG e1 (hn1 e1) (by omega) (by omega);omega
 have x1':cD (aC A B C) (Re.of ((n+1:Int):Rat)):=by unfold cD;omega
 have hrb:=S.next_r hn x0 x1' y1
 have m1':=(S.m2.shift n).inv hw2
 have m2':=(S.m1.shift n).inv hw1
 refine⟨⟨m1',m2',S.v2,S.v1,by omega,S.p0,by omega,r0,S.u1,?_,?_,hrb,S.rh,S.W0,S.V0,S.WU,S.VU,S.sep.symm,by omega,RH i2 hbn (eo S.gap gb),Mp i1 i2 hz hbn (by
  rw[show aC D E F-Re.of (n:Rat)-(aC A B C-Re.of (n:Rat))=aC D E F-aC A B C from bt fun k=>by simp only[aG];grind];exact S.ab),.inr ⟨hr1,t1⟩⟩,?_,hn⟩
 ·exact UL S.p0 r0 (by omega) (m1'.real S.v2.c0) t1 S.W0 S.WU
 ·have h1:=mY (show r+s≤r*n+s+r by omega) (show 0≤U by have:=S.u1;omega)
  have:=S.pU
  omega
 ·rcases S.st with⟨e1,e2⟩|⟨e1,_⟩
  ·grind
  ·have:=rG (nH r) (hn1 e1) (by omega) r0;omega
end
theorem M7 (he:0<e) (h:cD (Re.of e) X):aS X=1:=by
 have h0:=xw (eo (of_le (show(0:Rat)≤e by grind)) h)
 rcases bL X with g|g|g
 ·exact g
 ·exfalso
  have h1:aS (X-Re.of e- -(Re.of e))=0:=by
   rw[show X-Re.of e- -(Re.of e)=X from bt fun k=>by simp only[aG,bE];grind];exact g
  have h2:=dP h1
  rw[cm,vt he] at h2
  have h3:0≤aS (X-Re.of e):=h
  omega
 grind
theorem Xz {x y:Re}(h:0≤aS x) (g:0≤aS y):0≤aS (x+y):=by
 have:=fl (xE h) (xE g)
 rw[show Re.of 0+Re.of 0=Re.of 0 from bt fun k=>by simp only[aU,bi];grind] at this
 exact xw this
theorem Tw (h:0<x):1/(x+1)<1/x:=by
 have h1:0<x+1:=by grind
 have e1:1/x*x=1:=by grind
 have e2:1/(x+1)*(x+1)=1:=by grind
 have p1:=Q3 h1
 generalize 1/x=u at*
 generalize 1/(x+1)=v at*
 apply f7
 intro hn
 have h2:=s7 (show u≤v by grind) (show 0≤x by grind)
 grind
theorem TG {k N:Int}(h:0<N):fr (k+1) N=fr k N+1/(N:Rat):=by
 refine vM h ?_
 have e1:=gU (p:=k) h
 have e2:1/(N:Rat)*(N:Rat)=1:=o8 (Lz (by omega))
 grind
theorem Br (K:Nat):pw K+1<pw (K+1):=by
 rw[d5];have:=cX K;omega
theorem Xg (K:Nat):(pw K+1)*pw K+1<pw (K+K+1):=by
 rw[d5,qi]
 have h:=cX K
 have h1:=mY h (show 0≤pw K by omega)
 grind
theorem TMin.bound {b:Re}(hv:Vl y z) (h:TMin (uj (aC x y z) b) P Q) (au:cD (aC x y z) (Re.of ((pw K:Int):Rat))) (gap:cD (Re.of (1/((pw K:Int):Rat))) (b-aC x y z)):P<pw (K+K+1)∧Q<pw (K+1):=by
 have hp:=cX K
 have p1:=Br K
 have p2:=Xg K
 have hN:0<pw K+1:=by omega
 have hNr:=oZ hN
 have hK:=pF K
 have hg:=Tw hK
 have hvs:y*((pw K+1:Int):Rat)≠0→0<z∧jd z=false:=fun e=>hv.v (by intro e2;apply e;rw[e2,Rat.zero_mul])
 have es:aC (x*((pw K+1:Int):Rat)) (y*((pw K+1:Int):Rat)) z=Re.of ((pw K+1:Int):Rat)*aC x y z:=bt fun i=>by simp only[aC,aU,aT,bi];grind
 have f1:cD (Re.of ((ou (x*((pw K+1:Int):Rat)) (y*((pw K+1:Int):Rat)) z:Int):Rat)) (aC (x*((pw K+1:Int):Rat)) (y*((pw K+1:Int):Rat)) z):=(t8 hv.c0).1
 have f2:=vn (x:=x*((pw K+1:Int):Rat)) (y:=y*((pw K+1:Int):Rat)) hv.c0 hvs
 rw[es] at f1 f2
 have f3:=eo f1 (JF hNr au)
 rw[gZ,←fZ] at f3
 have f4:=fH.1 (gg f3)
 generalize ou (x*((pw K+1:Int):Rat)) (y*((pw K+1:Int):Rat)) z=k at*
 have e0:=gU (p:=k) hN
 have e1:=gU (p:=k+1) hN
 have e3:=TG (k:=k) hN
 have g1:aS (Re.of (fr (k+1) (pw K+1))-aC x y z)=1:=by
  rw[show Re.of ((k+1:Int):Rat)-Re.of ((pw K+1:Int):Rat)*aC x y z=Re.of ((pw K+1:Int):Rat)*(Re.of (fr (k+1) (pw K+1))-aC x y z) from bt fun i=>by
   simp only[aG,aT,bi];rw[←e1];grind,bJ,vt hNr,pt] at f2
  grind
 have g3:0≤aS (aC x y z-Re.of (fr k (pw K+1))):=by
  refine tc (d:=((pw K+1:Int):Rat)) hNr ?_
  rw[gZ,show((pw K+1:Int):Rat)*fr k (pw K+1)=(k:Rat) from by rw[Rat.mul_comm];exact e0]
  grind
 have g2:aS (b-Re.of (fr (k+1) (pw K+1)))=1:=by
  have h0:0<1/((pw K:Int):Rat)-1/((pw K+1:Int):Rat):=by grind
  refine M7 h0 ?_
  have h1:0≤aS (b-aC x y z-Re.of (1/((pw K:Int):Rat))):=gap
  have h2:=Xz h1 g3
  show 0≤aS _
  rw[e3]
  rw[show b-Re.of (fr k (pw K+1)+1/((pw K+1:Int):Rat))-Re.of (1/((pw K:Int):Rat)-1/((pw K+1:Int):Rat))=b-aC x y z-Re.of (1/((pw K:Int):Rat))+(aC x y z-Re.of (fr k (pw K+1))) from bt fun i=>by
   simp only[aG,aU,bi];grind]
  grind
 obtain⟨m1,m2⟩:=h.min (k+1) (pw K+1) hN ⟨g1,g2⟩
 grind
theorem TMin.rz (h:TMin S P Q) (hP:P<pw k) (hQ:Q<pw k):Rz k (fr P Q):=by
 obtain⟨e1,e2⟩:=h.den
 have:=h.p
 exact⟨by rw[e1];exact⟨by omega,by omega⟩,by rw[e2];exact⟨by omega,by omega⟩⟩
section
variable {A0 B0 C D0 E0 F A B D E:Rat}{p q r s n:Int}
theorem AK {x:Int}(h0:0≤x) (h:x≤pw k):Rz (k+1) (x:Rat):=by
 have:=Br k
 exact d6 ⟨by omega,by omega⟩ (by omega)
theorem WN {r s:Int}(hr:r≤pw 1710) (hs:s≤pw 1710):pw 213*(r+s)≤pw 1924:=by
 have h1:=mY (show r+s≤2*pw 1710 by omega) (show 0≤pw 213 by have:=cX 213;omega)
 have h2:pw 1923=pw 213*pw 1710:=qi 213 1710
 have h3:pw 1924=1000000000*pw 1923:=d5 1923
 have h5:=cX 1923
 grind
theorem BSt.szs (S:BSt (pw 213) 1710 A0 B0 C D0 E0 F p q r s A B D E) (hA:Rz 330 A0) (hB:Rz 330 B0) (hC:Rz 330 C) (hD:Rz 330 D0) (hE:Rz 330 E0) (hF:Rz 330 F):(Rz 25000 A∧Rz 25000 B)∧Rz 25000 D∧Rz 25000 E:=by
 have hu:=WN S.rh S.sh
 have rp:=AK S.p0 (Int.le_trans S.pU hu)
 have rq:=AK S.q0 (Int.le_trans S.qU hu)
 have rr:=AK S.r0 S.rh
 have rs:=AK S.s0 S.sh
 obtain⟨a1,a2⟩:=S.m1.sz S.v1.v hA hB hC rp rq rr rs
 obtain⟨b1,b2⟩:=S.m2.sz S.v2.v hD hE hF rp rq rr rs
 exact⟨⟨a1.mono (by decide),a2.mono (by decide)⟩,b1.mono (by decide),b2.mono (by decide)⟩
theorem BSt.last_sz (S:BSt (pw 213) 1710 A0 B0 C D0 E0 F p q r s A B D E) (hD:Rz 330 D0) (hE:Rz 330 E0) (hF:Rz 330 F) (hn:0≤n) (x0:cD (Re.of (n:Rat)) (aC A B C)) (x1:cD (aC A B C) (Re.of ((n+1:Int):Rat))) (y1:cD (aC D E F) (Re.of ((n+1:Int):Rat)))
 {w2:Rat}(hw2:((D-(n:Rat))*(D-(n:Rat))-E*E*F)*w2=1) (t1:cD (Re.of 1) (aC ((D-(n:Rat))*w2) (-E*w2) F)):Rz 25000 ((D-(n:Rat))*w2)∧Rz 25000 (-E*w2):=by
 have hrn:=f5 S.r0 hn
 have hpn:=f5 S.p0 hn
 have s0:=S.s0
 have r0:=S.r0
 have q0:=S.q0
 have hrb:=S.next_r hn x0 x1 y1
 have m1':=(S.m2.shift n).inv hw2
 have hp:=UL S.p0 r0 (by omega) (m1'.real S.v2.c0) t1 S.W0 S.WU
 have rp:=AK (show 0≤p*n+q by omega) (Int.le_trans hp (WN hrb S.rh))
 have rq:=AK S.p0 (Int.le_trans S.pU (WN S.rh S.sh))
 have rr:=AK (show 0≤r*n+s by omega) hrb
 have rs:=AK S.r0 S.rh
 obtain⟨a1,a2⟩:=m1'.sz S.v2.v hD hE hF rp rq rr rs
 exact⟨a1.mono (by decide),a2.mono (by decide)⟩
end
structure Lv (A B C D E F:Rat) (n:Int):Prop where
 hA:Rz 25000 A
 hB:Rz 25000 B
 hC:Rz 330 C
 hD:Rz 25000 D
 hE:Rz 25000 E
 hF:Rz 330 F
 v1:Vl B C
 v2:Vl E F
 ab:aS (aC D E F-aC A B C)=1
 nf:n=ou A B C
 nz:Sz 3421 n
section
variable {A B C D E F w:Rat}{n:Int}
theorem Lv.kA (L:Lv A B C D E F n):Rz 160000 A:=L.hA.mono (by decide)
theorem Lv.kB (L:Lv A B C D E F n):Rz 160000 B:=L.hB.mono (by decide)
theorem Lv.kC (L:Lv A B C D E F n):Rz 160000 C:=L.hC.mono (by decide)
theorem Lv.kD (L:Lv A B C D E F n):Rz 160000 D:=L.hD.mono (by decide)
theorem Lv.kE (L:Lv A B C D E F n):Rz 160000 E:=L.hE.mono (by decide)
theorem Lv.kF (L:Lv A B C D E F n):Rz 160000 F:=L.hF.mono (by decide)
theorem Lv.zn (L:Lv A B C D E F n):Rz 3421 (n:Rat):=d6 L.nz (by decide)
theorem Lv.zn1 (L:Lv A B C D E F n):Rz 3423 ((n:Rat)+1):=L.zn.add (l:=1) (nr (by decide+kernel))
theorem Lv.dn (L:Lv A B C D E F n):Rz 160000 (D-(n:Rat)):=(L.hD.sub L.zn).mono (by decide)
theorem Lv.an (L:Lv A B C D E F n):Rz 160000 (A-(n:Rat)):=(L.hA.sub L.zn).mono (by decide)
theorem Lv.dn1 (L:Lv A B C D E F n):Rz 160000 (D-((n:Rat)+1)):=(L.hD.sub L.zn1).mono (by decide)
theorem L3:((1:Int):Rat)=1:=rfl
theorem AC (n:Int):Re.of ((n+1:Int):Rat)=Re.of ((n:Rat)+1):=by rw[jw];rfl
theorem xC (hz:0≤z):f6 (x-d) y (-0) 0 z 0=aS (aC x y z-Re.of d):=by
 rw[nM (d:=d) (e:=0) hz tD]
 exact congrArg aS (bt fun k=>by simp only[aC,aG,aU,aT,bi];grind)
theorem t5 (hz:0≤z):bo (x-d) y z=aS (aC x y z-Re.of d):=by
 rw[iX hz]
 exact congrArg aS (bt fun k=>by simp only[aC,aG,aU,aT,bi];grind)
theorem QS {w:Rat}(h:N*w=1):1/N=w∧N≠0:=by grind
theorem U4 {w:Rat}(x:Rat) (h:N*w=1):x/N=x*w:=by grind
theorem Qr {w:Rat}(hv:Vl y z) (hw:((x-d)*(x-d)-y*y*z)*w=1):Vl (-y*w) z:=by
 refine⟨hv.c0,fun e=>hv.v fun e2=>e (by rw[e2];grind),fun e=>hv.z ?_⟩
 grind
theorem IC {w:Rat}(hv:Vl y z) (hs:aS (aC x y z-Re.of d)=1) (hw:((x-d)*(x-d)-y*y*z)*w=1):
 uN (x-d) y z≠0∧(x-d)*(x-d)-y*y*z≠0∧HQ (x-d) y z=w∧zc (-y*w) z=z:=by
 obtain⟨h1,h2⟩:=QS hw
 refine⟨?_,h2,h1,?_⟩
 ·rw[G5 hv.c0 (fun e=>(hv.v e).1),show aC (x-d) y z=aC x y z-Re.of d from bt fun k=>by simp only[aC,aG,aU,aT,bi];grind,hs];decide
 ·unfold zc
  split
  ·rename_i e
   have hw0:w≠0:=fun e2=>by rw[e2,Rat.mul_zero] at hw;exact absurd hw (by decide)
   rcases zJ.1 e with g|g
   ·exact(hv.z (by grind)).symm
   ·exact absurd g hw0
  ·rfl
end
inductive Res:Rat→Rat→Rat→Rat→Rat→Rat→Int→Int→Prop
 |whole {A B C D E F:Rat}{n:Int}(L:Lv A B C D E F n) (a0:0≤aS (aC A B C)) (h:aS (aC D E F-Re.of ((n+1:Int):Rat))=1):Res A B C D E F (n+1) 1
 |last {A B C D E F w:Rat}{n m:Int}(L:Lv A B C D E F n) (a0:0≤aS (aC A B C)) (h:aS (aC D E F-Re.of ((n+1:Int):Rat))≤0) (hb:aS (aC D E F-Re.of (n:Rat))=1) (hz:aS (aC A B C-Re.of (n:Rat))=0)
   (hw:((D-(n:Rat))*(D-(n:Rat))-E*E*F)*w=1) (hm:m=ou ((D-(n:Rat))*w) (-E*w) F) (tA:Rz 25000 ((D-(n:Rat))*w)) (tB:Rz 25000 (-E*w)) (m0:0≤m) (mz:Sz 3421 m):Res A B C D E F (n*(m+1)+1) (m+1)
 |step {A B C D E F w1 w2:Rat}{n P Q:Int}(L:Lv A B C D E F n) (a0:0≤aS (aC A B C)) (h:aS (aC D E F-Re.of ((n+1:Int):Rat))≤0) (hb:aS (aC D E F-Re.of (n:Rat))=1) (hz:aS (aC A B C-Re.of (n:Rat))=1)
   (hw1:((A-(n:Rat))*(A-(n:Rat))-B*B*C)*w1=1) (hw2:((D-(n:Rat))*(D-(n:Rat))-E*E*F)*w2=1) (R:Res ((D-(n:Rat))*w2) (-E*w2) F ((A-(n:Rat))*w1) (-B*w1) C P Q)
   (p0:0<P) (q0:0<Q) (z:Rz 6841 (fr P Q)):Res A B C D E F (n*P+Q) P
section
variable {A0 B0 C D0 E0 F A B D E:Rat}{p q r s:Int}
theorem jQ {x y:Re}(h:0≤aS x) (g:aS y=1):aS (x+y)=1:=by
 rcases Int.lt_or_eq_of_le h with e|e
 ·have:aS x=1:=by rcases bL x with c|c|c<;>omega
  rw[jD (by omega)];exact this
 ·rw[show x+y=y+x from bt fun k=>by simp only[aU];grind,dO _ e.symm];exact g
theorem VI {x:Int}(h0:0≤x) (h:x≤pw (1710+1710)):Sz 3421 x:=by
 have h1:pw 3420+1<pw 3421:=Br 3420
 have h2:x≤pw 3420:=h
 exact⟨by omega,by omega⟩
theorem BSt.res (hA:Rz 330 A0) (hB:Rz 330 B0) (hC:Rz 330 C) (hD:Rz 330 D0) (hE:Rz 330 E0) (hF:Rz 330 F) (S:BSt (pw 213) 1710 A0 B0 C D0 E0 F p q r s A B D E) (k:Nat) (hk:3*pw 1710<2*r+s+k):
 ∃P Q:Int,Res A B C D E F P Q∧TMin (uj (aC A B C) (aC D E F)) P Q:=by
 induction k generalizing A0 B0 C D0 E0 F p q r s A B D E with
 |zero=>exfalso;have:=S.rh;have:=S.sh;omega
 |succ k ih=>
  obtain⟨⟨zA,zB⟩,zD,zE⟩:=S.szs hA hB hC hD hE hF
  have vA:=S.m1.vl S.v1
  have vD:=S.m2.vl S.v2
  have f1:cD (Re.of ((ou A B C:Int):Rat)) (aC A B C):=(t8 vA.c0).1
  have f2:=vn (x:=A) (y:=B) vA.c0 vA.v
  obtain⟨hn0,_⟩:=S.n0 f2
  have hnu:=fH.1 (gg (eo f1 S.au))
  have L:Lv A B C D E F (ou A B C):=⟨zA,zB,hC,zD,zE,hF,vA,vD,S.ab,rfl,VI hn0 hnu⟩
  generalize ou A B C=n at*
  by_cases hb:aS (aC D E F-Re.of ((n+1:Int):Rat))=1
  ·exact⟨_,_,.whole L S.a0 hb,Jp hn0 f1 f2 hb⟩
  have hb':aS (aC D E F-Re.of ((n+1:Int):Rat))≤0:=by rcases bL (aC D E F-Re.of ((n+1:Int):Rat)) with c|c|c<;>omega
  have y1:cD (aC D E F) (Re.of ((n+1:Int):Rat)):=by unfold cD;rw[eJ];omega
  have hbn:aS (aC D E F-Re.of (n:Rat))=1:=by
   rw[show aC D E F-Re.of (n:Rat)=(aC A B C-Re.of (n:Rat))+(aC D E F-aC A B C) from bt fun k=>by simp only[aG,aU];grind]
   exact jQ f1 S.ab
  have nb:(D-(n:Rat))*(D-(n:Rat))-E*E*F≠0:=KI vD.v (by rw[fV,hbn];decide)
  have hw2:((D-(n:Rat))*(D-(n:Rat))-E*E*F)*(1/((D-(n:Rat))*(D-(n:Rat))-E*E*F))=1:=by rw[Rat.mul_comm];exact o8 nb
  generalize 1/((D-(n:Rat))*(D-(n:Rat))-E*E*F)=w2 at hw2
  have i2:aS ((aC D E F-Re.of (n:Rat))*aC ((D-(n:Rat))*w2) (-E*w2) F-Re.of 1)=0:=by
   rw[←fV];exact Bt S.v2.c0 hw2
  have b1:=inv_pos i2 hbn
  have gb:cD (Re.of (1/((pw (1710+1710):Int):Rat))) (aC D E F-Re.of (n:Rat)):=by
   refine eo S.gap ?_
   show 0≤aS _
   rw[show aC D E F-Re.of (n:Rat)-(aC D E F-aC A B C)=aC A B C-Re.of (n:Rat) from bt fun k=>by simp only[aG];grind]
   exact f1
  have bu:=RH i2 hbn gb
  by_cases hz:aS (aC A B C-Re.of (n:Rat))=0
  ·have vI:Vl (-E*w2) F:=((S.m2.shift n).inv hw2).vl S.v2
   have g1:cD (Re.of ((ou ((D-(n:Rat))*w2) (-E*w2) F:Int):Rat)) (aC ((D-(n:Rat))*w2) (-E*w2) F):=(t8 vI.c0).1
   have g2:=vn (x:=(D-(n:Rat))*w2) (y:= -E*w2) vI.c0 vI.v
   have hmu:=fH.1 (gg (eo g1 bu))
   have hm0:0≤ou ((D-(n:Rat))*w2) (-E*w2) F:=by
    have:=qg (x:=((ou ((D-(n:Rat))*w2) (-E*w2) F+1:Int):Rat)) (n:=0) (xE (by omega)) g2
    have:=iN.1 this
    omega
   have le1:cD (aC D E F-Re.of (n:Rat)) (Re.of 1):=BH (n:=n) y1 (ig _)
   obtain⟨tA,tB⟩:=S.last_sz hD hE hF hn0 f1 (by unfold cD;omega) y1 hw2 (Rh i2 hbn le1)
   have R:=Res.last L S.a0 hb' hbn hz hw2 rfl tA tB hm0 (VI hm0 hmu)
   refine⟨_,_,R,?_⟩
   exact TMin.step hn0 (JK hm0 g1 g2) (NB hz i2 b1)
  ·have hz1:aS (aC A B C-Re.of (n:Rat))=1:=by
    have h0:0≤aS (aC A B C-Re.of (n:Rat)):=f1
    rcases bL (aC A B C-Re.of (n:Rat)) with c|c|c<;>omega
   have na:(A-(n:Rat))*(A-(n:Rat))-B*B*C≠0:=KI vA.v (by rw[fV,hz1];decide)
   have hw1:((A-(n:Rat))*(A-(n:Rat))-B*B*C)*(1/((A-(n:Rat))*(A-(n:Rat))-B*B*C))=1:=by grind
   generalize 1/((A-(n:Rat))*(A-(n:Rat))-B*B*C)=w1 at hw1
   have i1:aS ((aC A B C-Re.of (n:Rat))*aC ((A-(n:Rat))*w1) (-B*w1) C-Re.of 1)=0:=by
    rw[←fV];exact Bt S.v1.c0 hw1
   have a1:=inv_pos i1 hz1
   obtain⟨S',hlt,_⟩:=S.step f1 f2 y1 hz1 hw1 hw2
   obtain⟨P,Q,R,T⟩:=ih hD hE hF hA hB hC S' (by omega)
   obtain⟨t1,t2⟩:=T.bound (S'.m1.vl S'.v1) S'.au S'.gap
   have t3:pw (1710+1710+1)≤pw (1710+1710+(1710+1710)+1):=mK (by decide)
   have z:=T.rz t1 (Int.lt_of_lt_of_le t2 t3)
   exact⟨_,_,.step L S.a0 hb' hbn hz1 hw1 hw2 R T.p T.q z,TMin.step hn0 T (Od f1 i1 a1 i2 b1)⟩
end
end Go.Proofs.YtegpmhlfjkhjmaaGreat
