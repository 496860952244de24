/-Plain:the simplest fraction between two values:the state of the search,and its step. -/
import Derived.Test.YtkmdgigkbhmilaaGreatBeT
namespace Go.Proofs.YtkmdgigkbhmilaaGreat
open Go Go.RowKit
variable {P P2 Q Q2 c c0 c1 c2 d d0 g m m2 n:Int}{K h k:Nat}{A B C D E F N a b e w w1 w2 x y z:Rat}{X u u':Re}
theorem u4:type_of% @Tryz.func96:=@Tryz.func96
structure Vl (B C:Rat):Prop where
 c0:0≤C
 v:B≠0→0<C∧jp C=false
 z:B=0→C=0
theorem Lp (hv:y≠0→0<z∧jp z=false) (h:aw (aA x y z)≠0):x*x-y*y*z≠0:=by
 intro e
 by_cases hy:y=0
 ·subst hy
  have h2:x=0:=by grind
  apply h
  rw[h2,show aA 0 0 z=Re.of 0 from aS fun k=>by simp only[aA,ao,am,aE];grind,cj]
  decide
 ·obtain⟨_,zs⟩:=hv hy
  have h11:z=x/y*(x/y):=by grind
  rw[h11,FM] at zs
  grind
theorem AR (hz:0≤z) (hw:(x*x-y*y*z)*w=1):aw (aA x y z*aA (x*w) (-y*w) z-Re.of 1)=0:=by
 rw[show aA x y z*aA (x*w) (-y*w) z-Re.of 1=Re.of (-(w*y*y))*(Re.rt z*Re.rt z-Re.of z) from aS fun k=>by simp only[aA,ak,ao,am,aE];grind]
 exact uQ _ (ng hz)
theorem inv_pos (h:aw (u*u'-Re.of 1)=0) (hu:aw u=1):aw u'=1:=by
 have h2:=dJ h
 rw[aQ,hu,m8,xw (by decide)] at h2
 grind
theorem Ri (h:aw (u*u'-Re.of 1)=0) (hu:aw u=1) (h1:cH u (Re.of 1)):cH (Re.of 1) u':=by
 have hp:=inv_pos h hu
 have h2:=jf (X:=u') (by omega) h1
 have h3:cH (Re.of 1) (u'*u):=by
  refine kh (y:=Re.of 1) ?_ (iy _)
  rw[dS,show u'*u-Re.of 1=u*u'-Re.of 1 from aS fun k=>by simp only[ak,am];grind,h];rfl
 have h4:=fb h3 h2
 rw[show u'*Re.of 1=u' from aS fun k=>by simp only[am,aE];grind] at h4
 grind
theorem Nz {v v':Re}(h1:aw (u*u'-Re.of 1)=0) (h2:aw (v*v'-Re.of 1)=0) (hu:aw u=1) (hv:aw v=1) (h:aw (v-u)=1):aw (u'-v')=1:=by
 have h3:aw (u*v*(u'-v')-(v-u))=0:=by
  rw[show u*v*(u'-v')-(v-u)=v*(u*u'-Re.of 1)+ -(u*(v*v'-Re.of 1)) from aS fun k=>by simp only[ak,ao,am,aE,aD];grind]
  exact E8 (uQ _ h1) (rU (uQ _ h2))
 have h4:=dJ h3
 rw[aQ,aQ,hu,hv,h] at h4
 omega
theorem VE (h:0<x):0<1/x:=by
 have h1:=JC h
 grind
section
variable {A0 B0 C D0 E0 F A B D E:Rat}{p q r s:Int}
theorem Mob.vl (m:Mob A0 B0 C p q r s A B) (h:Vl B0 C):Vl B C:=by
 have hs:=m.sol.2
 have hne:=m.ne h.v
 have hdr:((p*s-q*r:Int):Rat)≠0:=by rcases m.det with hd|hd<;>rw[hd]<;>decide
 refine⟨h.c0,fun hb=>h.v ?_,fun hb=>h.z ?_⟩
 ·grind
 grind
structure BSt (U:Int) (h:Nat) (A0 B0 C D0 E0 F:Rat) (p q r s:Int) (A B D E:Rat):Prop where
 m1:Mob A0 B0 C p q r s A B
 m2:Mob D0 E0 F p q r s D E
 v1:Vl B0 C
 v2:Vl E0 F
 p0:0≤p
 q0:0≤q
 r0:0≤r
 s0:0≤s
 u1:1≤U
 pU:p≤U*(r+s)
 qU:q≤U*(r+s)
 rh:r≤pw h
 sh:s≤pw h
 V0:0≤aw (aA A0 B0 C)
 W0:0≤aw (aA D0 E0 F)
 VU:cH (aA A0 B0 C) (Re.of (U:Rat))
 WU:cH (aA D0 E0 F) (Re.of (U:Rat))
 sep:cH (Re.of (1/((pw (h+h):Int):Rat))) (aA A0 B0 C-aA D0 E0 F)∨cH (Re.of (1/((pw (h+h):Int):Rat))) (aA D0 E0 F-aA A0 B0 C)
 a0:0≤aw (aA A B C)
 au:cH (aA A B C) (Re.of ((pw (h+h):Int):Rat))
 ab:aw (aA D E F-aA A B C)=1
 st:(r=0∧s=1)∨(1≤r∧cH (Re.of 1) (aA A B C))
theorem RX {x:Int}(hx:0≤x) (hs:x*x≤pw (h+h)):x≤pw h:=by
 rw[pP] at hs
 apply gT
 intro hn
 have hp:=dw h
 have h1:(pw h+1)*(pw h+1)≤x*x:=qo (by omega) (by omega) (by omega) (by omega)
 grind
variable {U:Int}{h:Nat}{n:Int}
theorem gn (x y z:Rat) (n:Int):aA (x-(n:Rat)) y z=aA x y z-Re.of (n:Rat):=aS fun k=>by simp only[aA,ak,ao,am,aE];grind
theorem BSt.n0 (S:BSt U h A0 B0 C D0 E0 F p q r s A B D E) (hx:aw (Re.of ((n+1:Int):Rat)-aA A B C)=1):0≤n∧(1≤r→1≤n):=by
 have key: ∀m:Int,cH (Re.of (m:Rat)) (aA A B C)→m<n+1:=by
  intro m hm
  have:=pS (x:=((n+1:Int):Rat)) hm hx
  exact kO.1 this
 refine⟨?_,fun hr=>?_⟩
 ·have:=key 0 (xl S.a0);omega
 ·rcases S.st with⟨e,_⟩|⟨_,e⟩
  ·omega
  ·have:=key 1 e;omega
theorem BSt.next_r (S:BSt U h A0 B0 C D0 E0 F p q r s A B D E) (hn:0≤n) (x0:cH (Re.of (n:Rat)) (aA A B C)) (x1:cH (aA A B C) (Re.of ((n+1:Int):Rat))) (y1:cH (aA D E F) (Re.of ((n+1:Int):Rat))):r*n+s≤pw h:=by
 have hR0:0≤r*n+s:=by have:=f9 S.r0 hn;have:=S.s0;omega
 have y0:cH (Re.of (n:Rat)) (aA D E F):=fb x0 (by unfold cH;have:=S.ab;omega)
 refine RX hR0 ?_
 rcases S.sep with e|e
 ·exact DC S.r0 S.s0 hn S.m1.det (S.m1.real S.v1.c0) (S.m2.real S.v2.c0) x0 x1 y0 y1 e
 ·exact DC S.r0 S.s0 hn S.m2.det (S.m2.real S.v2.c0) (S.m1.real S.v1.c0) y0 y1 x0 x1 e
theorem BSt.z1 (S:BSt U h A0 B0 C D0 E0 F p q r s A B D E) (hX:cH (aA A B C) X):cH (Re.of 1) (Re.of (r:Rat)*X+Re.of (s:Rat)):=by
 rcases S.st with⟨e1,e2⟩|⟨e1,e2⟩
 ·rw[e1,e2]
  have h0:((0:Int):Rat)=0:=rfl
  have h1:((1:Int):Rat)=1:=rfl
  rw[h0,h1,show Re.of 0*X+Re.of 1=Re.of 1 from aS fun k=>by simp only[ao,am,aE];grind]
  exact iy _
 ·have h1:((1:Int):Rat)=1:=rfl
  have:=FG (s:=s) (n:=1) S.r0 (fb (by rw[h1];exact e2) hX)
  refine fb (of_le ?_) this
  have h2:((1:Int):Rat)≤((r*1+s:Int):Rat):=gm.2 (by have:=S.s0;omega)
  grind
theorem BSt.gap (S:BSt U h A0 B0 C D0 E0 F p q r s A B D E):cH (Re.of (1/((pw (h+h):Int):Rat))) (aA D E F-aA A B C):=by
 have hab:cH (aA A B C) (aA D E F):=by unfold cH;have:=S.ab;omega
 have zx:=S.z1 (iy _)
 have zy:=S.z1 hab
 have ie:(0:Rat)≤1/((pw (h+h):Int):Rat):=JC (oU _)
 have one0:0≤aw (Re.of 1):=D6 (by decide)
 have m1:=xZ one0 zx (xh (fb (of_le (by decide)) zx)) zy
 have e11:Re.of 1*Re.of 1=Re.of 1:=by rw[fK,Rat.mul_one]
 rw[e11] at m1
 have main: ∀ {A0 B0 C0 D0 E0 F0:Rat}{X Y:Re},aw (aA A0 B0 C0*(Re.of (r:Rat)*X+Re.of (s:Rat))-(Re.of (p:Rat)*X+Re.of (q:Rat)))=0→aw (aA D0 E0 F0*(Re.of (r:Rat)*Y+Re.of (s:Rat))-(Re.of (p:Rat)*Y+Re.of (q:Rat)))=0→
  cH (Re.of 1) ((Re.of (r:Rat)*X+Re.of (s:Rat))*(Re.of (r:Rat)*Y+Re.of (s:Rat)))→cH (Re.of (1/((pw (h+h):Int):Rat))) (aA A0 B0 C0-aA D0 E0 F0)→cH (Re.of (1/((pw (h+h):Int):Rat))) (X-Y)∨cH (Re.of (1/((pw (h+h):Int):Rat))) (Y-X):=by
  intro A0 B0 C0 D0 E0 F0 X Y hX hY hm he
  have e1:=LN hX hY
  have dp:0≤aw (aA A0 B0 C0-aA D0 E0 F0):=xh (fb (of_le ie) he)
  have m2:=xZ one0 he dp hm
  rw[show Re.of (1/((pw (h+h):Int):Rat))*Re.of 1=Re.of (1/((pw (h+h):Int):Rat)) from by rw[fK,Rat.mul_one]] at m2
  have m3:=kh e1 m2
  rcases S.m1.det with hd|hd<;>rw[hd] at m3
  ·left
   rw[show Re.of ((1:Int):Rat)*(X-Y)=X-Y from aS fun k=>by
    have h1:((1:Int):Rat)=1:=rfl
    simp only[ak,am,aE,h1];grind] at m3
   grind
  ·right
   rw[show Re.of ((-1:Int):Rat)*(X-Y)=Y-X from aS fun k=>by
    have h1:((-1:Int):Rat)= -1:=rfl
    simp only[ak,am,aE,h1];grind] at m3
   grind
 have fin:cH (Re.of (1/((pw (h+h):Int):Rat))) (aA A B C-aA D E F)→cH (Re.of (1/((pw (h+h):Int):Rat))) (aA D E F-aA A B C):=by
  intro hq
  have:=xh (fb (of_le ie) hq)
  rw[dS,S.ab] at this
  omega
 rcases S.sep with e|e
 ·rcases main (S.m1.real S.v1.c0) (S.m2.real S.v2.c0) m1 e with g|g
  ·grind
  grind
 ·have m1':cH (Re.of 1) ((Re.of (r:Rat)*aA D E F+Re.of (s:Rat))*(Re.of (r:Rat)*aA A B C+Re.of (s:Rat))):=by
   rw[show(Re.of (r:Rat)*aA D E F+Re.of (s:Rat))*(Re.of (r:Rat)*aA A B C+Re.of (s:Rat))=(Re.of (r:Rat)*aA A B C+Re.of (s:Rat))*(Re.of (r:Rat)*aA D E F+Re.of (s:Rat)) from aS fun k=>by simp only[am];grind];exact m1
  rcases main (S.m2.real S.v2.c0) (S.m1.real S.v1.c0) m1' e with g|g
  ·exact g
  ·exact fin g
theorem Pl (h:aw (u*u'-Re.of 1)=0) (hu:aw u=1) (h1:cH (Re.of (1/((pw K:Int):Rat))) u):cH u' (Re.of ((pw K:Int):Rat)):=by
 have hp:=inv_pos h hu
 have hk:=oU K
 have h2:=jf (X:=u') (by omega) h1
 have h3:cH (u'*u) (Re.of 1):=by
  refine BI (x:=Re.of 1) ?_ (iy _)
  rw[show u'*u-Re.of 1=u*u'-Re.of 1 from aS fun k=>by simp only[ak,am];grind];exact h
 have h4:=fb h2 h3
 have e:1/((pw K:Int):Rat)*((pw K:Int):Rat)=1:=by grind
 refine rO (d:=1/((pw K:Int):Rat)) (VE hk) ?_
 rw[fK,e,show Re.of (1/((pw K:Int):Rat))*u'=u'*Re.of (1/((pw K:Int):Rat)) from aS fun k=>by simp only[am];grind]
 grind
theorem BSt.step (S:BSt U h A0 B0 C D0 E0 F p q r s A B D E) (x0:cH (Re.of (n:Rat)) (aA A B C)) (x1:aw (Re.of ((n+1:Int):Rat)-aA A B C)=1) (y1:cH (aA D E F) (Re.of ((n+1:Int):Rat))) (hz:aw (aA A B C-Re.of (n:Rat))=1)
 {w1 w2:Rat}(hw1:((A-(n:Rat))*(A-(n:Rat))-B*B*C)*w1=1) (hw2:((D-(n:Rat))*(D-(n:Rat))-E*E*F)*w2=1):
 BSt U h D0 E0 F A0 B0 C (p*n+q) p (r*n+s) r ((D-(n:Rat))*w2) (-E*w2) ((A-(n:Rat))*w1) (-B*w1)∧2*r+s<2*(r*n+s)+r∧0≤n:=by
 obtain⟨hn,hn1⟩:=S.n0 x1
 have hrn:=f9 S.r0 hn
 have hpn:=f9 S.p0 hn
 have s0:=S.s0
 have r0:=S.r0
 have q0:=S.q0
 have hbn:aw (aA D E F-Re.of (n:Rat))=1:=by
  have h1:=fH (x:=Re.of 0) (y:=aA A B C-Re.of (n:Rat)) (u:=Re.of 0) (v:=aA D E F-aA A B C) (xl (by omega)) (xl (by have:=S.ab;omega))
  rcases aU (aA D E F-Re.of (n:Rat)) with g|g|g
  ·exact g
  ·exfalso
   have h2:=S.ab
   have h3:aw (aA D E F-aA A B C- -(aA A B C-Re.of (n:Rat)))=0:=by
    rw[show aA D E F-aA A B C- -(aA A B C-Re.of (n:Rat))=aA D E F-Re.of (n:Rat) from aS fun k=>by simp only[ak,aD];grind];exact g
   have h4:=dJ h3
   rw[br,hz,h2] at h4
   omega
  ·exfalso
   have h2:cH (aA D E F) (Re.of (n:Rat)):=by unfold cH;rw[dS,g];decide
   have h3:=fb (fb (by unfold cH;have:=S.ab;omega:cH (aA A B C) (aA D E F)) h2) (iy _)
   have h4:0≤aw (Re.of (n:Rat)-aA A B C):=h3
   rw[dS,hz] at h4
   omega
 have i1:aw ((aA A B C-Re.of (n:Rat))*aA ((A-(n:Rat))*w1) (-B*w1) C-Re.of 1)=0:=by
  rw[←gn];exact AR S.v1.c0 hw1
 have i2:aw ((aA D E F-Re.of (n:Rat))*aA ((D-(n:Rat))*w2) (-E*w2) F-Re.of 1)=0:=by
  rw[←gn];exact AR S.v2.c0 hw2
 have le1:cH (aA D E F-Re.of (n:Rat)) (Re.of 1):=by
  refine Cq (n:=n) y1 (iy _)
 have t1:=Ri i2 hbn le1
 have gb:cH (aA D E F-aA A B C) (aA D E F-Re.of (n:Rat)):=by
  unfold cH
  rw[show aA D E F-Re.of (n:Rat)-(aA D E F-aA A B C)=aA A B C-Re.of (n:Rat) from aS fun k=>by simp only[ak];grind];omega
 have tp:=inv_pos i2 hbn
 have hr1:1≤r*n+s:=by
  rcases S.st with⟨e1,e2⟩|⟨e1,_⟩
  ·grind
  ·have:=qo e1 (hn1 e1) (by omega) (by omega);omega
 have x1':cH (aA A B C) (Re.of ((n+1:Int):Rat)):=by unfold cH;omega
 have hrb:=S.next_r hn x0 x1' y1
 have m1':=(S.m2.shift n).inv hw2
 have m2':=(S.m1.shift n).inv hw1
 refine⟨⟨m1',m2',S.v2,S.v1,by omega,S.p0,by omega,r0,S.u1,?_,?_,hrb,S.rh,S.W0,S.V0,S.WU,S.VU,S.sep.symm,by omega,Pl i2 hbn (fb S.gap gb),Nz i1 i2 hz hbn (by
  rw[show aA D E F-Re.of (n:Rat)-(aA A B C-Re.of (n:Rat))=aA D E F-aA A B C from aS fun k=>by simp only[ak];grind];exact S.ab),.inr ⟨hr1,t1⟩⟩,?_,hn⟩
 ·exact Vi S.p0 r0 (by omega) (m1'.real S.v2.c0) t1 S.W0 S.WU
 ·have h1:=nh (show r+s≤r*n+s+r by omega) (show 0≤U by have:=S.u1;omega)
  have:=S.pU
  omega
 ·rcases S.st with⟨e1,e2⟩|⟨e1,_⟩
  ·grind
  ·have:=qo (mV r) (hn1 e1) (by omega) r0;omega
end
theorem Nf (he:0<e) (h:cH (Re.of e) X):aw X=1:=by
 have h0:=xh (fb (of_le (show(0:Rat)≤e by grind)) h)
 rcases aU X with g|g|g
 ·exact g
 ·exfalso
  have h1:aw (X-Re.of e- -(Re.of e))=0:=by
   rw[show X-Re.of e- -(Re.of e)=X from aS fun k=>by simp only[ak,aD];grind];exact g
  have h2:=dJ h1
  rw[br,xw he] at h2
  have h3:0≤aw (X-Re.of e):=h
  omega
 grind
theorem Xh {x y:Re}(h:0≤aw x) (g:0≤aw y):0≤aw (x+y):=by
 have:=fH (xl h) (xl g)
 rw[show Re.of 0+Re.of 0=Re.of 0 from aS fun k=>by simp only[ao,aE];grind] at this
 exact xh this
theorem SK (h:0<x):1/(x+1)<1/x:=by
 have h1:0<x+1:=by grind
 have e1:1/x*x=1:=by grind
 have e2:1/(x+1)*(x+1)=1:=by grind
 have p1:=VE h1
 generalize 1/x=u at*
 generalize 1/(x+1)=v at*
 apply gT
 intro hn
 have h2:=tW (show u≤v by grind) (show 0≤x by grind)
 grind
theorem Um {k N:Int}(h:0<N):fr (k+1) N=fr k N+1/(N:Rat):=by
 refine yI h ?_
 have e1:=kP (p:=k) h
 have e2:1/(N:Rat)*(N:Rat)=1:=tH (K8 (by omega))
 grind
theorem AW (K:Nat):pw K+1<pw (K+1):=by
 rw[eu];have:=dw K;omega
theorem WW (K:Nat):(pw K+1)*pw K+1<pw (K+K+1):=by
 rw[eu,pP]
 have h:=dw K
 have h1:=nh h (show 0≤pw K by omega)
 grind
theorem TMin.bound {b:Re}(hv:Vl y z) (h:TMin (BW (aA x y z) b) P Q) (au:cH (aA x y z) (Re.of ((pw K:Int):Rat))) (gap:cH (Re.of (1/((pw K:Int):Rat))) (b-aA x y z)):P<pw (K+K+1)∧Q<pw (K+1):=by
 have hp:=dw K
 have p1:=AW K
 have p2:=WW K
 have hN:0<pw K+1:=by omega
 have hNr:=sU hN
 have hK:=oU K
 have hg:=SK hK
 have hvs:y*((pw K+1:Int):Rat)≠0→0<z∧jp z=false:=fun e=>hv.v (by intro e2;apply e;rw[e2,Rat.zero_mul])
 have es:aA (x*((pw K+1:Int):Rat)) (y*((pw K+1:Int):Rat)) z=Re.of ((pw K+1:Int):Rat)*aA x y z:=aS fun i=>by simp only[aA,ao,am,aE];grind
 have f1:cH (Re.of ((oB (x*((pw K+1:Int):Rat)) (y*((pw K+1:Int):Rat)) z:Int):Rat)) (aA (x*((pw K+1:Int):Rat)) (y*((pw K+1:Int):Rat)) z):=(sF hv.c0).1
 have f2:=vr (x:=x*((pw K+1:Int):Rat)) (y:=y*((pw K+1:Int):Rat)) hv.c0 hvs
 rw[es] at f1 f2
 have f3:=fb f1 (IM hNr au)
 rw[fK,←eg] at f3
 have f4:=gm.1 (gK f3)
 generalize oB (x*((pw K+1:Int):Rat)) (y*((pw K+1:Int):Rat)) z=k at*
 have e0:=kP (p:=k) hN
 have e1:=kP (p:=k+1) hN
 have e3:=Um (k:=k) hN
 have g1:aw (Re.of (fr (k+1) (pw K+1))-aA x y z)=1:=by
  rw[show Re.of ((k+1:Int):Rat)-Re.of ((pw K+1:Int):Rat)*aA x y z=Re.of ((pw K+1:Int):Rat)*(Re.of (fr (k+1) (pw K+1))-aA x y z) from aS fun i=>by
   simp only[ak,am,aE];rw[←e1];grind,aQ,xw hNr,m8] at f2
  grind
 have g3:0≤aw (aA x y z-Re.of (fr k (pw K+1))):=by
  refine rO (d:=((pw K+1:Int):Rat)) hNr ?_
  rw[fK,show((pw K+1:Int):Rat)*fr k (pw K+1)=(k:Rat) from by rw[Rat.mul_comm];exact e0]
  grind
 have g2:aw (b-Re.of (fr (k+1) (pw K+1)))=1:=by
  have h0:0<1/((pw K:Int):Rat)-1/((pw K+1:Int):Rat):=by grind
  refine Nf h0 ?_
  have h1:0≤aw (b-aA x y z-Re.of (1/((pw K:Int):Rat))):=gap
  have h2:=Xh h1 g3
  show 0≤aw _
  rw[e3]
  rw[show b-Re.of (fr k (pw K+1)+1/((pw K+1:Int):Rat))-Re.of (1/((pw K:Int):Rat)-1/((pw K+1:Int):Rat))=b-aA x y z-Re.of (1/((pw K:Int):Rat))+(aA x y z-Re.of (fr k (pw K+1))) from aS fun i=>by
   simp only[ak,ao,aE];grind]
  grind
 obtain⟨m1,m2⟩:=h.min (k+1) (pw K+1) hN ⟨g1,g2⟩
 grind
theorem TMin.rz {S:Rat→Prop}(h:TMin S P Q) (hP:P<pw k) (hQ:Q<pw k):Rz k (fr P Q):=by
 obtain⟨e1,e2⟩:=h.den
 have:=h.p
 exact⟨by rw[e1];exact⟨by omega,by omega⟩,by rw[e2];exact⟨by omega,by omega⟩⟩
section
variable {A0 B0 C D0 E0 F A B D E:Rat}{p q r s n:Int}
theorem Aw {x:Int}(h0:0≤x) (h:x≤pw k):Rz (k+1) (x:Rat):=by
 have:=AW k
 exact gY ⟨by omega,by omega⟩ (by omega)
theorem YF {r s:Int}(hr:r≤pw 1710) (hs:s≤pw 1710):pw 213*(r+s)≤pw 1924:=by
 have h1:=nh (show r+s≤2*pw 1710 by omega) (show 0≤pw 213 by have:=dw 213;omega)
 have h2:pw 1923=pw 213*pw 1710:=pP 213 1710
 have h3:pw 1924=1000000000*pw 1923:=eu 1923
 have h5:=dw 1923
 grind
theorem BSt.szs (S:BSt (pw 213) 1710 A0 B0 C D0 E0 F p q r s A B D E) (hA:Rz 330 A0) (hB:Rz 330 B0) (hC:Rz 330 C) (hD:Rz 330 D0) (hE:Rz 330 E0) (hF:Rz 330 F):(Rz 25000 A∧Rz 25000 B)∧Rz 25000 D∧Rz 25000 E:=by
 have hu:=YF S.rh S.sh
 have rp:=Aw S.p0 (Int.le_trans S.pU hu)
 have rq:=Aw S.q0 (Int.le_trans S.qU hu)
 have rr:=Aw S.r0 S.rh
 have rs:=Aw S.s0 S.sh
 obtain⟨a1,a2⟩:=S.m1.sz S.v1.v hA hB hC rp rq rr rs
 obtain⟨b1,b2⟩:=S.m2.sz S.v2.v hD hE hF rp rq rr rs
 exact⟨⟨a1.mono (by decide),a2.mono (by decide)⟩,b1.mono (by decide),b2.mono (by decide)⟩
theorem BSt.last_sz (S:BSt (pw 213) 1710 A0 B0 C D0 E0 F p q r s A B D E) (hD:Rz 330 D0) (hE:Rz 330 E0) (hF:Rz 330 F) (hn:0≤n) (x0:cH (Re.of (n:Rat)) (aA A B C)) (x1:cH (aA A B C) (Re.of ((n+1:Int):Rat))) (y1:cH (aA D E F) (Re.of ((n+1:Int):Rat)))
 {w2:Rat}(hw2:((D-(n:Rat))*(D-(n:Rat))-E*E*F)*w2=1) (t1:cH (Re.of 1) (aA ((D-(n:Rat))*w2) (-E*w2) F)):Rz 25000 ((D-(n:Rat))*w2)∧Rz 25000 (-E*w2):=by
 have hrn:=f9 S.r0 hn
 have hpn:=f9 S.p0 hn
 have s0:=S.s0
 have r0:=S.r0
 have q0:=S.q0
 have hrb:=S.next_r hn x0 x1 y1
 have m1':=(S.m2.shift n).inv hw2
 have hp:=Vi S.p0 r0 (by omega) (m1'.real S.v2.c0) t1 S.W0 S.WU
 have rp:=Aw (show 0≤p*n+q by omega) (Int.le_trans hp (YF hrb S.rh))
 have rq:=Aw S.p0 (Int.le_trans S.pU (YF S.rh S.sh))
 have rr:=Aw (show 0≤r*n+s by omega) hrb
 have rs:=Aw S.r0 S.rh
 obtain⟨a1,a2⟩:=m1'.sz S.v2.v hD hE hF rp rq rr rs
 exact⟨a1.mono (by decide),a2.mono (by decide)⟩
end
structure Lv (A B C D E F:Rat) (n:Int):Prop where
 hA:Rz 25000 A
 hB:Rz 25000 B
 hC:Rz 330 C
 hD:Rz 25000 D
 hE:Rz 25000 E
 hF:Rz 330 F
 v1:Vl B C
 v2:Vl E F
 ab:aw (aA D E F-aA A B C)=1
 nf:n=oB A B C
 nz:Sz 3421 n
section
variable {A B C D E F w:Rat}{n:Int}
theorem Lv.kA (L:Lv A B C D E F n):Rz 160000 A:=L.hA.mono (by decide)
theorem Lv.kB (L:Lv A B C D E F n):Rz 160000 B:=L.hB.mono (by decide)
theorem Lv.kC (L:Lv A B C D E F n):Rz 160000 C:=L.hC.mono (by decide)
theorem Lv.kD (L:Lv A B C D E F n):Rz 160000 D:=L.hD.mono (by decide)
theorem Lv.kE (L:Lv A B C D E F n):Rz 160000 E:=L.hE.mono (by decide)
theorem Lv.kF (L:Lv A B C D E F n):Rz 160000 F:=L.hF.mono (by decide)
theorem Lv.zn (L:Lv A B C D E F n):Rz 3421 (n:Rat):=gY L.nz (by decide)
theorem Lv.zn1 (L:Lv A B C D E F n):Rz 3423 ((n:Rat)+1):=L.zn.add (l:=1) (qe (by decide+kernel))
theorem Lv.dn (L:Lv A B C D E F n):Rz 160000 (D-(n:Rat)):=(L.hD.sub L.zn).mono (by decide)
theorem Lv.an (L:Lv A B C D E F n):Rz 160000 (A-(n:Rat)):=(L.hA.sub L.zn).mono (by decide)
theorem Lv.dn1 (L:Lv A B C D E F n):Rz 160000 (D-((n:Rat)+1)):=(L.hD.sub L.zn1).mono (by decide)
theorem UJ:((1:Int):Rat)=1:=rfl
theorem G6 (n:Int):Re.of ((n+1:Int):Rat)=Re.of ((n:Rat)+1):=by rw[i5];rfl
theorem sV {d:Rat}(hz:0≤z):bi (x-d) y z=aw (aA x y z-Re.of d):=by
 rw[fZ hz]
 exact congrArg aw (aS fun k=>by simp only[aA,ak,ao,am,aE];grind)
theorem UY {w:Rat}(h:N*w=1):1/N=w∧N≠0:=by grind
theorem VV {w:Rat}(x:Rat) (h:N*w=1):x/N=x*w:=by grind
theorem O5 {d w:Rat}(hv:Vl y z) (hw:((x-d)*(x-d)-y*y*z)*w=1):Vl (-y*w) z:=by
 refine⟨hv.c0,fun e=>hv.v fun e2=>e (by rw[e2];grind),fun e=>hv.z ?_⟩
 grind
end
inductive Res:Rat→Rat→Rat→Rat→Rat→Rat→Int→Int→Prop
 |whole {A B C D E F:Rat}{n:Int}(L:Lv A B C D E F n) (a0:0≤aw (aA A B C)) (h:aw (aA D E F-Re.of ((n+1:Int):Rat))=1):Res A B C D E F (n+1) 1
 |last {A B C D E F w:Rat}{n m:Int}(L:Lv A B C D E F n) (a0:0≤aw (aA A B C)) (h:aw (aA D E F-Re.of ((n+1:Int):Rat))≤0) (hb:aw (aA D E F-Re.of (n:Rat))=1) (hz:aw (aA A B C-Re.of (n:Rat))=0)
   (hw:((D-(n:Rat))*(D-(n:Rat))-E*E*F)*w=1) (hm:m=oB ((D-(n:Rat))*w) (-E*w) F) (tA:Rz 25000 ((D-(n:Rat))*w)) (tB:Rz 25000 (-E*w)) (m0:0≤m) (mz:Sz 3421 m):Res A B C D E F (n*(m+1)+1) (m+1)
 |step {A B C D E F w1 w2:Rat}{n P Q:Int}(L:Lv A B C D E F n) (a0:0≤aw (aA A B C)) (h:aw (aA D E F-Re.of ((n+1:Int):Rat))≤0) (hb:aw (aA D E F-Re.of (n:Rat))=1) (hz:aw (aA A B C-Re.of (n:Rat))=1)
   (hw1:((A-(n:Rat))*(A-(n:Rat))-B*B*C)*w1=1) (hw2:((D-(n:Rat))*(D-(n:Rat))-E*E*F)*w2=1) (R:Res ((D-(n:Rat))*w2) (-E*w2) F ((A-(n:Rat))*w1) (-B*w1) C P Q)
   (p0:0<P) (q0:0<Q) (z:Rz 6841 (fr P Q)):Res A B C D E F (n*P+Q) P
section
variable {A0 B0 C D0 E0 F A B D E:Rat}{p q r s:Int}
theorem j8 {x y:Re}(h:0≤aw x) (g:aw y=1):aw (x+y)=1:=by
 rcases Int.lt_or_eq_of_le h with e|e
 ·have:aw x=1:=by rcases aU x with c|c|c<;>omega
  rw[iJ (by omega)];exact this
 ·rw[show x+y=y+x from aS fun k=>by simp only[ao];grind,dP _ e.symm];exact g
theorem Vo {x:Int}(h0:0≤x) (h:x≤pw (1710+1710)):Sz 3421 x:=by
 have h1:pw 3420+1<pw 3421:=AW 3420
 have h2:x≤pw 3420:=h
 exact⟨by omega,by omega⟩
theorem BSt.res (hA:Rz 330 A0) (hB:Rz 330 B0) (hC:Rz 330 C) (hD:Rz 330 D0) (hE:Rz 330 E0) (hF:Rz 330 F) (S:BSt (pw 213) 1710 A0 B0 C D0 E0 F p q r s A B D E) (k:Nat) (hk:3*pw 1710<2*r+s+k):
 ∃P Q:Int,Res A B C D E F P Q∧TMin (BW (aA A B C) (aA D E F)) P Q:=by
 induction k generalizing A0 B0 C D0 E0 F p q r s A B D E with
 |zero=>exfalso;have:=S.rh;have:=S.sh;omega
 |succ k ih=>
  obtain⟨⟨zA,zB⟩,zD,zE⟩:=S.szs hA hB hC hD hE hF
  have vA:=S.m1.vl S.v1
  have vD:=S.m2.vl S.v2
  have f1:cH (Re.of ((oB A B C:Int):Rat)) (aA A B C):=(sF vA.c0).1
  have f2:=vr (x:=A) (y:=B) vA.c0 vA.v
  obtain⟨hn0,_⟩:=S.n0 f2
  have hnu:=gm.1 (gK (fb f1 S.au))
  have L:Lv A B C D E F (oB A B C):=⟨zA,zB,hC,zD,zE,hF,vA,vD,S.ab,rfl,Vo hn0 hnu⟩
  generalize oB A B C=n at*
  by_cases hb:aw (aA D E F-Re.of ((n+1:Int):Rat))=1
  ·exact⟨_,_,.whole L S.a0 hb,I4 hn0 f1 f2 hb⟩
  have hb':aw (aA D E F-Re.of ((n+1:Int):Rat))≤0:=by rcases aU (aA D E F-Re.of ((n+1:Int):Rat)) with c|c|c<;>omega
  have y1:cH (aA D E F) (Re.of ((n+1:Int):Rat)):=by unfold cH;rw[dS];omega
  have hbn:aw (aA D E F-Re.of (n:Rat))=1:=by
   rw[show aA D E F-Re.of (n:Rat)=(aA A B C-Re.of (n:Rat))+(aA D E F-aA A B C) from aS fun k=>by simp only[ak,ao];grind]
   exact j8 f1 S.ab
  have nb:(D-(n:Rat))*(D-(n:Rat))-E*E*F≠0:=Lp vD.v (by rw[gn,hbn];decide)
  have hw2:((D-(n:Rat))*(D-(n:Rat))-E*E*F)*(1/((D-(n:Rat))*(D-(n:Rat))-E*E*F))=1:=by rw[Rat.mul_comm];exact tH nb
  generalize 1/((D-(n:Rat))*(D-(n:Rat))-E*E*F)=w2 at hw2
  have i2:aw ((aA D E F-Re.of (n:Rat))*aA ((D-(n:Rat))*w2) (-E*w2) F-Re.of 1)=0:=by
   rw[←gn];exact AR S.v2.c0 hw2
  have b1:=inv_pos i2 hbn
  have gb:cH (Re.of (1/((pw (1710+1710):Int):Rat))) (aA D E F-Re.of (n:Rat)):=by
   refine fb S.gap ?_
   show 0≤aw _
   rw[show aA D E F-Re.of (n:Rat)-(aA D E F-aA A B C)=aA A B C-Re.of (n:Rat) from aS fun k=>by simp only[ak];grind]
   exact f1
  have bu:=Pl i2 hbn gb
  by_cases hz:aw (aA A B C-Re.of (n:Rat))=0
  ·have vI:Vl (-E*w2) F:=((S.m2.shift n).inv hw2).vl S.v2
   have g1:cH (Re.of ((oB ((D-(n:Rat))*w2) (-E*w2) F:Int):Rat)) (aA ((D-(n:Rat))*w2) (-E*w2) F):=(sF vI.c0).1
   have g2:=vr (x:=(D-(n:Rat))*w2) (y:= -E*w2) vI.c0 vI.v
   have hmu:=gm.1 (gK (fb g1 bu))
   have hm0:0≤oB ((D-(n:Rat))*w2) (-E*w2) F:=by
    have:=pS (x:=((oB ((D-(n:Rat))*w2) (-E*w2) F+1:Int):Rat)) (n:=0) (xl (by omega)) g2
    have:=kO.1 this
    omega
   have le1:cH (aA D E F-Re.of (n:Rat)) (Re.of 1):=Cq (n:=n) y1 (iy _)
   obtain⟨tA,tB⟩:=S.last_sz hD hE hF hn0 f1 (by unfold cH;omega) y1 hw2 (Ri i2 hbn le1)
   have R:=Res.last L S.a0 hb' hbn hz hw2 rfl tA tB hm0 (Vo hm0 hmu)
   refine⟨_,_,R,?_⟩
   exact TMin.step hn0 (Kc hm0 g1 g2) (OK hz i2 b1)
  ·have hz1:aw (aA A B C-Re.of (n:Rat))=1:=by
    have h0:0≤aw (aA A B C-Re.of (n:Rat)):=f1
    rcases aU (aA A B C-Re.of (n:Rat)) with c|c|c<;>omega
   have na:(A-(n:Rat))*(A-(n:Rat))-B*B*C≠0:=Lp vA.v (by rw[gn,hz1];decide)
   have hw1:((A-(n:Rat))*(A-(n:Rat))-B*B*C)*(1/((A-(n:Rat))*(A-(n:Rat))-B*B*C))=1:=by grind
   generalize 1/((A-(n:Rat))*(A-(n:Rat))-B*B*C)=w1 at hw1
   have i1:aw ((aA A B C-Re.of (n:Rat))*aA ((A-(n:Rat))*w1) (-B*w1) C-Re.of 1)=0:=by
    rw[←gn];exact AR S.v1.c0 hw1
   have a1:=inv_pos i1 hz1
   obtain⟨S',hlt,_⟩:=S.step f1 f2 y1 hz1 hw1 hw2
   obtain⟨P,Q,R,T⟩:=ih hD hE hF hA hB hC S' (by omega)
   obtain⟨t1,t2⟩:=T.bound (S'.m1.vl S'.v1) S'.au S'.gap
   have t3:pw (1710+1710+1)≤pw (1710+1710+(1710+1710)+1):=mJ (by decide)
   have z:=T.rz t1 (Int.lt_of_lt_of_le t2 t3)
   exact⟨_,_,.step L S.a0 hb' hbn hz1 hw1 hw2 R T.p T.q z,TMin.step hn0 T (Rs f1 i1 a1 i2 b1)⟩
end
theorem bE {c d:Rat}(ha:Rz 6000000 a) (hd:Rz 6000000 d) (h1:Rz 2000000 (a-d)) (hb:Rz 2000000 b) (hc:Rz 2000000 c):Ok Tryz.prog 173 [.a ((cR a++cR b++cR c)),dR d] [.c (.i .i64 (bi (a-d) b c))]:=by
 refine bU Tryz.func173 rfl ?_
 refine cU 10 [] ?_
 refine aO rfl (gN ha hd) ?_
 refine aO rfl (vn h1 hb hc) ?_
 exact ai (al ae)
theorem mL:Ok Tryz.prog 244 [dI n] [dR (n:Rat)]:=by
 refine bU Tryz.func244 rfl ?_
 refine cU 3 [] ?_
 refine aO rfl ((show Ok Tryz.prog 113 [.c (.i .i64 1)] [dI 1] from p5 (by decide) (by decide))) ?_
 refine aq (aC (us:=cQ n 1) vE ub rfl rfl rfl) ?_
 refine ai ?_
 rw[I6]
 exact a8 bt rfl ae
theorem n8 {c d:Rat}(ha:Rz 6000000 a) (hd:Rz 6000000 d):Ok Tryz.prog 175 [.a ((cR a++cR b++cR c)),dR d] [.a ((cR (a-d)++cR b++cR c))]:=by
 refine bU Tryz.func175 rfl ?_
 refine ac rfl (gN ha hd) ?_
 refine jF (bm (us:=(cR (a-d)++cR b++cR c)) bt rfl rfl rfl rfl (dV rfl) rfl rfl) ?_
 exact ai (a8 ez rfl ae)
theorem nE {c:Rat}(ha:Rz 400000 a) (hb:Rz 400000 b) (hc:Rz 400000 c) (hw:(a*a-b*b*c)*w=1):Ok Tryz.prog 176 [.a ((cR a++cR b++cR c))] [.a ((cR (a*w)++cR (-b*w)++cR c))]:=by
 have ka:Rz 6000000 a:=ha.m_
 have kb:Rz 6000000 b:=hb.m_
 have kc:Rz 6000000 c:=hc.m_
 have kn:Rz 6000000 (a*a-b*b*c):=((ha.mul ha).sub ((hb.mul hb).mul hc)).m_
 refine bU Tryz.func176 rfl ?_
 refine cU 15 [] ?_
 refine aO rfl (cb (aW ha) (aW ha)) ?_
 refine aO rfl (cb (aW hb) (aW hb)) ?_
 refine aO rfl (cb (aW (aF hb hb)) (aW hc)) ?_
 refine aO rfl (gN (aW (aF ha ha)) (aW (aF (aF hb hb) hc))) ?_
 refine ac rfl (Lh (lv ka kn (UY hw).2) (VV _ hw)) ?_
 refine cU 11 [6,999999] ?_
 refine aO rfl (fX kb) ?_
 refine aO rfl (Lh (lv kb.neg kn (UY hw).2) (VV _ hw)) ?_
 refine DQ.mk<|jj (dZ bt rfl) rfl rfl rfl rfl<|dY ?_
 refine ar (aC (us:=(cR (a*w)++cR (-b*w)++cR c)) rG p6 rfl rfl rfl) ?_
 exact ai (a8 ez rfl ae)
theorem WV (n:Int):((n-1:Int):Rat)+1=((n:Int):Rat):=by rw[n6];have:((1:Int):Rat)=1:=rfl;rw[this];grind
theorem Sz.sub1 {x:Int}(h:Sz k x):Sz (k+1) (x-1):=by
 rw[Int.sub_eq_add_neg]
 by_cases hk:1≤k
 ·exact h.add (Sz.one hk).neg
 ·have e:k=0:=by omega
  subst e
  have h1:=h.1;have h2:=h.2
  have p0:pw 0=1:=rfl
  have p1:pw (0+1)=1000000000:=rfl
  exact⟨by omega,by omega⟩
theorem XZ {c:Rat}(ha:Rz 160000 a) (hb:Rz 160000 b) (hc:Rz 160000 c) (hs:aR b 0=g) (hg:decide (g<0)=false) (hn:Sz 500000 n) (en:((a.num.fdiv (a.den:Int):Int):Rat)+((bK ((b*b*c).num.fdiv ((b*b*c).den:Int)):Int):Rat)=(n:Rat)) (ec0:bi (a-((n:Int):Rat)) b c=c0) (g0:decide (c0<0)=false) (ec1:bi (a-((n+1:Int):Rat)) b c=c1) (g1:decide (c1≥0)=false):Ok Tryz.prog 174 [.a ((cR a++cR b++cR c))] [dR (((n:Int):Rat))]:=by
 have o1:Rz 6000000 (1:Rat):=qe (by decide+kernel)
 have ka:Rz 6000000 a:=ha.m_
 have y0:Rz 500003 ((n:Int):Rat):=gY (hn.m_) (by decide)
 have k0:Rz 6000000 ((n:Int):Rat):=y0.m_
 have z0:Rz 2000000 (a-((n:Int):Rat)):=(ha.sub y0).m_
 have y1:Rz 500003 ((n+1:Int):Rat):=gY ((hn.add (Sz.one (k:=500000) (by decide))).m_) (by decide)
 have k1:Rz 6000000 ((n+1:Int):Rat):=y1.m_
 have z1:Rz 2000000 (a-((n+1:Int):Rat)):=(ha.sub y1).m_
 have pb:Rz 480000 (b*b*c):=((hb.mul hb).mul hc).m_
 have q1:Rz 6000000 (b*b):=(hb.mul hb).m_
 have kb:Rz 6000000 b:=hb.m_
 have kc:Rz 6000000 c:=hc.m_
 have kq:Rz 6000000 (b*b*c):=pb.m_
 have fq:Sz 480000 ((b*b*c).num.fdiv ((b*b*c).den:Int)):=pb.n.fdiv
 have tq:Sz 480000 (bK ((b*b*c).num.fdiv ((b*b*c).den:Int))):=fq.isq
 have ku:Rz 6000000 ((a.num.fdiv (a.den:Int):Int):Rat):=(gY (ha.n.fdiv (y:=(a.den:Int))) (by decide)).m_
 have kt:Rz 6000000 ((bK ((b*b*c).num.fdiv ((b*b*c).den:Int)):Int):Rat):=(gY (k:=480000) tq (by decide)).m_
 refine fD Tryz.func174 51 [.cell 2 35] rfl ?_
 refine aa ?_
 refine ah ?_
 refine aa ?_
 refine di 16 [3,999999] ?_
 refine aO rfl (cb kb kb) ?_
 refine aO rfl (cb q1 kc) ?_
 refine aO rfl (kS kq) ?_
 refine aO rfl (uN (fq.m_)) ?_
 refine DQ.mk<|jj (dZ fh rfl) rfl rfl rfl rfl<|dY ?_
 refine aa<|aa<|bo<|bR 1<|a7 (ji (cR b) bt rfl)<|a7 (dt rfl (ck om hs))<|a7 (aZ (fe rfl) hg) ?_
 refine bj ?_
 refine ba rfl ?_
 refine aJ ?_
 refine aa ?_
 refine ah ?_
 refine ac rfl ((show Ok Tryz.prog 46 [.c (.i .i64 1)] [dR 1] from dO (by omega) (by omega))) ?_
 refine aa ?_
 refine di 8 [] ?_
 refine aO rfl (kS ka) ?_
 refine aO rfl (mL) ?_
 refine aO rfl (mL) ?_
 refine aO rfl (cW (ci ku kt) en)<|aa<|aT ?_
 refine bF (ι:=Nat) (fun i=>match i with|_=>⟨51,[(1,.p 1 0),(2,.p 2 0),(5,.p 5 0),(6,.p 6 0)],[(1,49,(cR a++cR b++cR c)),(2,35,(([.b false]++[.s 0 []])++([.b false]++[.s 0 []]))),(5,35,cR 1),(6,35,cR (((n:Int):Rat)))]⟩) (fun i=>0-i) 0 (aB ⟨rfl,rfl,rfl,rfl,trivial⟩ ⟨rfl,rfl,rfl,rfl,trivial⟩ rfl) ?_
 intro i
 match i with
 |_=>
  show Dw _ _ ⟨51,[(1,.p 1 0),(2,.p 2 0),(5,.p 5 0),(6,.p 6 0)],[(1,49,(cR a++cR b++cR c)),(2,35,(([.b false]++[.s 0 []])++([.b false]++[.s 0 []]))),(5,35,cR 1),(6,35,cR (((n:Int):Rat)))]⟩ _
  refine aa<|aa<|bo<|bR 2<|a7 (dt rfl (ck (bE ka k0 z0 (hb.m_) (hc.m_)) ec0))<|a7 (aZ (fe rfl) g0) ?_
  refine bj<|ba rfl<|bG<|aa<|aT ?_
  refine bF (ι:=Nat) (fun i=>match i with|_=>⟨51,[(1,.p 1 0),(2,.p 2 0),(5,.p 5 0),(6,.p 6 0)],[(1,49,(cR a++cR b++cR c)),(2,35,(([.b false]++[.s 0 []])++([.b false]++[.s 0 []]))),(5,35,cR 1),(6,35,cR (((n:Int):Rat)))]⟩) (fun i=>0-i) 0 (aB ⟨rfl,rfl,rfl,rfl,trivial⟩ ⟨rfl,rfl,rfl,rfl,trivial⟩ rfl) ?_
  intro i
  match i with
  |_=>
   show Dw _ _ ⟨51,[(1,.p 1 0),(2,.p 2 0),(5,.p 5 0),(6,.p 6 0)],[(1,49,(cR a++cR b++cR c)),(2,35,(([.b false]++[.s 0 []])++([.b false]++[.s 0 []]))),(5,35,cR 1),(6,35,cR (((n:Int):Rat)))]⟩ _
   refine aa<|aa<|lq 6 rfl rfl<|dU 3<|bH (dt rfl (cW (ci k0 o1) (i5 n 1).symm))<|bH (dt rfl (ck (bE ka k1 z1 (hb.m_) (hc.m_)) ec1))<|bH (aZ (fe rfl) g1) ?_
   refine kj ?_
   refine dz ?_
   refine bj ?_
   refine ba rfl ?_
   refine bG ?_
   refine aa ?_
   refine ah ?_
   refine bb ?_
   exact ai (a8 bt rfl ae)
theorem Xl {c:Rat}(ha:Rz 160000 a) (hb:Rz 160000 b) (hc:Rz 160000 c) (hs:aR b 0=g) (hg:decide (g<0)=false) (hn:Sz 500000 n) (en:((a.num.fdiv (a.den:Int):Int):Rat)+((bK ((b*b*c).num.fdiv ((b*b*c).den:Int)):Int):Rat)=(n:Rat)) (ec0:bi (a-((n:Int):Rat)) b c=c0) (g0:decide (c0<0)=false) (ec1:bi (a-((n+1:Int):Rat)) b c=c1) (g1:decide (c1≥0)=true) (ec2:bi (a-((n+1+1:Int):Rat)) b c=c2) (g2:decide (c2≥0)=false):Ok Tryz.prog 174 [.a ((cR a++cR b++cR c))] [dR (((n+1:Int):Rat))]:=by
 have o1:Rz 6000000 (1:Rat):=qe (by decide+kernel)
 have ka:Rz 6000000 a:=ha.m_
 have y0:Rz 500003 ((n:Int):Rat):=gY (hn.m_) (by decide)
 have k0:Rz 6000000 ((n:Int):Rat):=y0.m_
 have z0:Rz 2000000 (a-((n:Int):Rat)):=(ha.sub y0).m_
 have y1:Rz 500003 ((n+1:Int):Rat):=gY ((hn.add (Sz.one (k:=500000) (by decide))).m_) (by decide)
 have k1:Rz 6000000 ((n+1:Int):Rat):=y1.m_
 have z1:Rz 2000000 (a-((n+1:Int):Rat)):=(ha.sub y1).m_
 have y3:Rz 500003 ((n+1+1:Int):Rat):=gY (((hn.add (Sz.one (k:=500000) (by decide))).add (Sz.one (k:=500001) (by decide))).m_) (by decide)
 have k3:Rz 6000000 ((n+1+1:Int):Rat):=y3.m_
 have z3:Rz 2000000 (a-((n+1+1:Int):Rat)):=(ha.sub y3).m_
 have pb:Rz 480000 (b*b*c):=((hb.mul hb).mul hc).m_
 have q1:Rz 6000000 (b*b):=(hb.mul hb).m_
 have kb:Rz 6000000 b:=hb.m_
 have kc:Rz 6000000 c:=hc.m_
 have kq:Rz 6000000 (b*b*c):=pb.m_
 have fq:Sz 480000 ((b*b*c).num.fdiv ((b*b*c).den:Int)):=pb.n.fdiv
 have tq:Sz 480000 (bK ((b*b*c).num.fdiv ((b*b*c).den:Int))):=fq.isq
 have ku:Rz 6000000 ((a.num.fdiv (a.den:Int):Int):Rat):=(gY (ha.n.fdiv (y:=(a.den:Int))) (by decide)).m_
 have kt:Rz 6000000 ((bK ((b*b*c).num.fdiv ((b*b*c).den:Int)):Int):Rat):=(gY (k:=480000) tq (by decide)).m_
 refine fD Tryz.func174 51 [.cell 2 35] rfl ?_
 refine aa ?_
 refine ah ?_
 refine aa ?_
 refine di 16 [3,999999] ?_
 refine aO rfl (cb kb kb) ?_
 refine aO rfl (cb q1 kc) ?_
 refine aO rfl (kS kq) ?_
 refine aO rfl (uN (fq.m_)) ?_
 refine DQ.mk<|jj (dZ fh rfl) rfl rfl rfl rfl<|dY ?_
 refine aa<|aa<|bo<|bR 1<|a7 (ji (cR b) bt rfl)<|a7 (dt rfl (ck om hs))<|a7 (aZ (fe rfl) hg) ?_
 refine bj ?_
 refine ba rfl ?_
 refine aJ ?_
 refine aa ?_
 refine ah ?_
 refine ac rfl ((show Ok Tryz.prog 46 [.c (.i .i64 1)] [dR 1] from dO (by omega) (by omega))) ?_
 refine aa ?_
 refine di 8 [] ?_
 refine aO rfl (kS ka) ?_
 refine aO rfl (mL) ?_
 refine aO rfl (mL) ?_
 refine aO rfl (cW (ci ku kt) en)<|aa<|aT ?_
 refine bF (ι:=Nat) (fun i=>match i with|_=>⟨51,[(1,.p 1 0),(2,.p 2 0),(5,.p 5 0),(6,.p 6 0)],[(1,49,(cR a++cR b++cR c)),(2,35,(([.b false]++[.s 0 []])++([.b false]++[.s 0 []]))),(5,35,cR 1),(6,35,cR (((n:Int):Rat)))]⟩) (fun i=>0-i) 0 (aB ⟨rfl,rfl,rfl,rfl,trivial⟩ ⟨rfl,rfl,rfl,rfl,trivial⟩ rfl) ?_
 intro i
 match i with
 |_=>
  show Dw _ _ ⟨51,[(1,.p 1 0),(2,.p 2 0),(5,.p 5 0),(6,.p 6 0)],[(1,49,(cR a++cR b++cR c)),(2,35,(([.b false]++[.s 0 []])++([.b false]++[.s 0 []]))),(5,35,cR 1),(6,35,cR (((n:Int):Rat)))]⟩ _
  refine aa<|aa<|bo<|bR 2<|a7 (dt rfl (ck (bE ka k0 z0 (hb.m_) (hc.m_)) ec0))<|a7 (aZ (fe rfl) g0) ?_
  refine bj<|ba rfl<|bG<|aa<|aT ?_
  refine bF (ι:=Nat) (fun i=>match i with|0=>⟨51,[(1,.p 1 0),(2,.p 2 0),(5,.p 5 0),(6,.p 6 0)],[(1,49,(cR a++cR b++cR c)),(2,35,(([.b false]++[.s 0 []])++([.b false]++[.s 0 []]))),(5,35,cR 1),(6,35,cR (((n:Int):Rat)))]⟩|_+1=>⟨51,[(1,.p 1 0),(2,.p 2 0),(5,.p 5 0),(6,.p 6 0)],[(1,49,(cR a++cR b++cR c)),(2,35,(([.b false]++[.s 0 []])++([.b false]++[.s 0 []]))),(5,35,cR 1),(6,35,cR (((n+1:Int):Rat)))]⟩) (fun i=>1-i) 0 (aB ⟨rfl,rfl,rfl,rfl,trivial⟩ ⟨rfl,rfl,rfl,rfl,trivial⟩ rfl) ?_
  intro i
  match i with
  |0=>
   show Dw _ _ ⟨51,[(1,.p 1 0),(2,.p 2 0),(5,.p 5 0),(6,.p 6 0)],[(1,49,(cR a++cR b++cR c)),(2,35,(([.b false]++[.s 0 []])++([.b false]++[.s 0 []]))),(5,35,cR 1),(6,35,cR (((n:Int):Rat)))]⟩ _
   refine aa<|aa<|lq 6 rfl rfl<|dU 3<|bH (dt rfl (cW (ci k0 o1) (i5 n 1).symm))<|bH (dt rfl (ck (bE ka k1 z1 (hb.m_) (hc.m_)) ec1))<|bH (aZ (fe rfl) g1) ?_
   refine kj ?_
   refine dz ?_
   refine bj ?_
   refine cO rfl ?_
   refine aJ ?_
   refine aT ?_
   refine ah ?_
   refine ac rfl (cW (ci k0 o1) (i5 n 1).symm) ?_
   exact⟨1,aB ⟨rfl,rfl,rfl,rfl,trivial⟩ ⟨rfl,rfl,rfl,rfl,trivial⟩ rfl,by show 1-1<1-0;decide⟩
  |z+1=>
   show Dw _ _ ⟨51,[(1,.p 1 0),(2,.p 2 0),(5,.p 5 0),(6,.p 6 0)],[(1,49,(cR a++cR b++cR c)),(2,35,(([.b false]++[.s 0 []])++([.b false]++[.s 0 []]))),(5,35,cR 1),(6,35,cR (((n+1:Int):Rat)))]⟩ _
   refine aa<|aa<|lq 6 rfl rfl<|dU 3<|bH (dt rfl (cW (ci k1 o1) (i5 (n+1) 1).symm))<|bH (dt rfl (ck (bE ka k3 z3 (hb.m_) (hc.m_)) ec2))<|bH (aZ (fe rfl) g2) ?_
   refine kj ?_
   refine dz ?_
   refine bj ?_
   refine ba rfl ?_
   refine bG ?_
   refine aa ?_
   refine ah ?_
   refine bb ?_
   exact ai (a8 bt rfl ae)
theorem Wv {c:Rat}(ha:Rz 160000 a) (hb:Rz 160000 b) (hc:Rz 160000 c) (hs:aR b 0=g) (hg:decide (g<0)=true) (hn:Sz 500000 n) (en:((a.num.fdiv (a.den:Int):Int):Rat)+((-(bK ((b*b*c).num.fdiv ((b*b*c).den:Int))):Int):Rat)=(n:Rat)) (ec0:bi (a-((n:Int):Rat)) b c=c0) (g0:decide (c0<0)=false) (ec1:bi (a-((n+1:Int):Rat)) b c=c1) (g1:decide (c1≥0)=false):Ok Tryz.prog 174 [.a ((cR a++cR b++cR c))] [dR (((n:Int):Rat))]:=by
 have o1:Rz 6000000 (1:Rat):=qe (by decide+kernel)
 have ka:Rz 6000000 a:=ha.m_
 have y0:Rz 500003 ((n:Int):Rat):=gY (hn.m_) (by decide)
 have k0:Rz 6000000 ((n:Int):Rat):=y0.m_
 have z0:Rz 2000000 (a-((n:Int):Rat)):=(ha.sub y0).m_
 have y1:Rz 500003 ((n+1:Int):Rat):=gY ((hn.add (Sz.one (k:=500000) (by decide))).m_) (by decide)
 have k1:Rz 6000000 ((n+1:Int):Rat):=y1.m_
 have z1:Rz 2000000 (a-((n+1:Int):Rat)):=(ha.sub y1).m_
 have pb:Rz 480000 (b*b*c):=((hb.mul hb).mul hc).m_
 have q1:Rz 6000000 (b*b):=(hb.mul hb).m_
 have kb:Rz 6000000 b:=hb.m_
 have kc:Rz 6000000 c:=hc.m_
 have kq:Rz 6000000 (b*b*c):=pb.m_
 have fq:Sz 480000 ((b*b*c).num.fdiv ((b*b*c).den:Int)):=pb.n.fdiv
 have tq:Sz 480000 (bK ((b*b*c).num.fdiv ((b*b*c).den:Int))):=fq.isq
 have ku:Rz 6000000 ((a.num.fdiv (a.den:Int):Int):Rat):=(gY (ha.n.fdiv (y:=(a.den:Int))) (by decide)).m_
 have kt:Rz 6000000 ((-(bK ((b*b*c).num.fdiv ((b*b*c).den:Int))):Int):Rat):=(gY (k:=480000) tq.neg (by decide)).m_
 refine fD Tryz.func174 51 [.cell 2 35] rfl ?_
 refine aa ?_
 refine ah ?_
 refine aa ?_
 refine di 16 [3,999999] ?_
 refine aO rfl (cb kb kb) ?_
 refine aO rfl (cb q1 kc) ?_
 refine aO rfl (kS kq) ?_
 refine aO rfl (uN (fq.m_)) ?_
 refine DQ.mk<|jj (dZ fh rfl) rfl rfl rfl rfl<|dY ?_
 refine aa<|aa<|bo<|bR 1<|a7 (ji (cR b) bt rfl)<|a7 (dt rfl (ck om hs))<|a7 (aZ (fe rfl) hg) ?_
 refine bj ?_
 refine cO rfl ?_
 refine ah ?_
 refine ac rfl (wh (tq.m_)) ?_
 refine aa ?_
 refine ah ?_
 refine ac rfl ((show Ok Tryz.prog 46 [.c (.i .i64 1)] [dR 1] from dO (by omega) (by omega))) ?_
 refine aa ?_
 refine di 8 [] ?_
 refine aO rfl (kS ka) ?_
 refine aO rfl (mL) ?_
 refine aO rfl (mL) ?_
 refine aO rfl (cW (ci ku kt) en)<|aa ?_
 refine aT ?_
 refine bF (ι:=Nat) (fun i=>match i with|_=>⟨51,[(1,.p 1 0),(2,.p 2 0),(5,.p 5 0),(6,.p 6 0)],[(1,49,(cR a++cR b++cR c)),(2,35,(([.b false]++[.s 0 []])++([.b false]++[.s 0 []]))),(5,35,cR 1),(6,35,cR (((n:Int):Rat)))]⟩) (fun i=>0-i) 0 (aB ⟨rfl,rfl,rfl,rfl,trivial⟩ ⟨rfl,rfl,rfl,rfl,trivial⟩ rfl) ?_
 intro i
 match i with
 |_=>
  show Dw _ _ ⟨51,[(1,.p 1 0),(2,.p 2 0),(5,.p 5 0),(6,.p 6 0)],[(1,49,(cR a++cR b++cR c)),(2,35,(([.b false]++[.s 0 []])++([.b false]++[.s 0 []]))),(5,35,cR 1),(6,35,cR (((n:Int):Rat)))]⟩ _
  refine aa<|aa<|bo<|bR 2<|a7 (dt rfl (ck (bE ka k0 z0 (hb.m_) (hc.m_)) ec0))<|a7 (aZ (fe rfl) g0) ?_
  refine bj<|ba rfl<|bG<|aa<|aT ?_
  refine bF (ι:=Nat) (fun i=>match i with|_=>⟨51,[(1,.p 1 0),(2,.p 2 0),(5,.p 5 0),(6,.p 6 0)],[(1,49,(cR a++cR b++cR c)),(2,35,(([.b false]++[.s 0 []])++([.b false]++[.s 0 []]))),(5,35,cR 1),(6,35,cR (((n:Int):Rat)))]⟩) (fun i=>0-i) 0 (aB ⟨rfl,rfl,rfl,rfl,trivial⟩ ⟨rfl,rfl,rfl,rfl,trivial⟩ rfl) ?_
  intro i
  match i with
  |_=>
   show Dw _ _ ⟨51,[(1,.p 1 0),(2,.p 2 0),(5,.p 5 0),(6,.p 6 0)],[(1,49,(cR a++cR b++cR c)),(2,35,(([.b false]++[.s 0 []])++([.b false]++[.s 0 []]))),(5,35,cR 1),(6,35,cR (((n:Int):Rat)))]⟩ _
   refine aa<|aa<|lq 6 rfl rfl<|dU 3<|bH (dt rfl (cW (ci k0 o1) (i5 n 1).symm))<|bH (dt rfl (ck (bE ka k1 z1 (hb.m_) (hc.m_)) ec1))<|bH (aZ (fe rfl) g1) ?_
   refine kj ?_
   refine dz ?_
   refine bj ?_
   refine ba rfl ?_
   refine bG ?_
   refine aa ?_
   refine ah ?_
   refine bb ?_
   exact ai (a8 bt rfl ae)
theorem WX {c:Rat}(ha:Rz 160000 a) (hb:Rz 160000 b) (hc:Rz 160000 c) (hs:aR b 0=g) (hg:decide (g<0)=true) (hn:Sz 500000 n) (en:((a.num.fdiv (a.den:Int):Int):Rat)+((-(bK ((b*b*c).num.fdiv ((b*b*c).den:Int))):Int):Rat)=(n:Rat)) (ec0:bi (a-((n:Int):Rat)) b c=c0) (g0:decide (c0<0)=true) (ec1:bi (a-((n-1:Int):Rat)) b c=c1) (g1:decide (c1<0)=false) (g2:decide (c0≥0)=false):Ok Tryz.prog 174 [.a ((cR a++cR b++cR c))] [dR (((n-1:Int):Rat))]:=by
 have o1:Rz 6000000 (1:Rat):=qe (by decide+kernel)
 have ka:Rz 6000000 a:=ha.m_
 have y0:Rz 500003 ((n:Int):Rat):=gY (hn.m_) (by decide)
 have k0:Rz 6000000 ((n:Int):Rat):=y0.m_
 have z0:Rz 2000000 (a-((n:Int):Rat)):=(ha.sub y0).m_
 have y2:Rz 500003 ((n-1:Int):Rat):=gY ((hn.sub1).m_) (by decide)
 have k2:Rz 6000000 ((n-1:Int):Rat):=y2.m_
 have z2:Rz 2000000 (a-((n-1:Int):Rat)):=(ha.sub y2).m_
 have pb:Rz 480000 (b*b*c):=((hb.mul hb).mul hc).m_
 have q1:Rz 6000000 (b*b):=(hb.mul hb).m_
 have kb:Rz 6000000 b:=hb.m_
 have kc:Rz 6000000 c:=hc.m_
 have kq:Rz 6000000 (b*b*c):=pb.m_
 have fq:Sz 480000 ((b*b*c).num.fdiv ((b*b*c).den:Int)):=pb.n.fdiv
 have tq:Sz 480000 (bK ((b*b*c).num.fdiv ((b*b*c).den:Int))):=fq.isq
 have ku:Rz 6000000 ((a.num.fdiv (a.den:Int):Int):Rat):=(gY (ha.n.fdiv (y:=(a.den:Int))) (by decide)).m_
 have kt:Rz 6000000 ((-(bK ((b*b*c).num.fdiv ((b*b*c).den:Int))):Int):Rat):=(gY (k:=480000) tq.neg (by decide)).m_
 refine fD Tryz.func174 51 [.cell 2 35] rfl ?_
 refine aa ?_
 refine ah ?_
 refine aa ?_
 refine di 16 [3,999999] ?_
 refine aO rfl (cb kb kb) ?_
 refine aO rfl (cb q1 kc) ?_
 refine aO rfl (kS kq) ?_
 refine aO rfl (uN (fq.m_)) ?_
 refine DQ.mk<|jj (dZ fh rfl) rfl rfl rfl rfl<|dY ?_
 refine aa<|aa<|bo<|bR 1<|a7 (ji (cR b) bt rfl)<|a7 (dt rfl (ck om hs))<|a7 (aZ (fe rfl) hg) ?_
 refine bj ?_
 refine cO rfl ?_
 refine ah ?_
 refine ac rfl (wh (tq.m_)) ?_
 refine aa ?_
 refine ah ?_
 refine ac rfl ((show Ok Tryz.prog 46 [.c (.i .i64 1)] [dR 1] from dO (by omega) (by omega))) ?_
 refine aa ?_
 refine di 8 [] ?_
 refine aO rfl (kS ka) ?_
 refine aO rfl (mL) ?_
 refine aO rfl (mL) ?_
 refine aO rfl (cW (ci ku kt) en)<|aa ?_
 refine aT ?_
 refine bF (ι:=Nat) (fun i=>match i with|0=>⟨51,[(1,.p 1 0),(2,.p 2 0),(5,.p 5 0),(6,.p 6 0)],[(1,49,(cR a++cR b++cR c)),(2,35,(([.b false]++[.s 0 []])++([.b false]++[.s 0 []]))),(5,35,cR 1),(6,35,cR (((n:Int):Rat)))]⟩|_+1=>⟨51,[(1,.p 1 0),(2,.p 2 0),(5,.p 5 0),(6,.p 6 0)],[(1,49,(cR a++cR b++cR c)),(2,35,(([.b false]++[.s 0 []])++([.b false]++[.s 0 []]))),(5,35,cR 1),(6,35,cR (((n-1:Int):Rat)))]⟩) (fun i=>1-i) 0 (aB ⟨rfl,rfl,rfl,rfl,trivial⟩ ⟨rfl,rfl,rfl,rfl,trivial⟩ rfl) ?_
 intro i
 match i with
 |0=>
  show Dw _ _ ⟨51,[(1,.p 1 0),(2,.p 2 0),(5,.p 5 0),(6,.p 6 0)],[(1,49,(cR a++cR b++cR c)),(2,35,(([.b false]++[.s 0 []])++([.b false]++[.s 0 []]))),(5,35,cR 1),(6,35,cR (((n:Int):Rat)))]⟩ _
  refine aa<|aa<|bo<|bR 2<|a7 (dt rfl (ck (bE ka k0 z0 (hb.m_) (hc.m_)) ec0))<|a7 (aZ (fe rfl) g0) ?_
  refine bj ?_
  refine cO rfl ?_
  refine aJ ?_
  refine aT ?_
  refine ah ?_
  refine ac rfl (cW (gN k0 o1) (n6 n 1).symm) ?_
  exact⟨1,aB ⟨rfl,rfl,rfl,rfl,trivial⟩ ⟨rfl,rfl,rfl,rfl,trivial⟩ rfl,by show 1-1<1-0;decide⟩
 |z+1=>
  show Dw _ _ ⟨51,[(1,.p 1 0),(2,.p 2 0),(5,.p 5 0),(6,.p 6 0)],[(1,49,(cR a++cR b++cR c)),(2,35,(([.b false]++[.s 0 []])++([.b false]++[.s 0 []]))),(5,35,cR 1),(6,35,cR (((n-1:Int):Rat)))]⟩ _
  refine aa<|aa<|bo<|bR 2<|a7 (dt rfl (ck (bE ka k2 z2 (hb.m_) (hc.m_)) ec1))<|a7 (aZ (fe rfl) g1) ?_
  refine bj<|ba rfl<|bG<|aa<|aT ?_
  refine bF (ι:=Nat) (fun i=>match i with|_=>⟨51,[(1,.p 1 0),(2,.p 2 0),(5,.p 5 0),(6,.p 6 0)],[(1,49,(cR a++cR b++cR c)),(2,35,(([.b false]++[.s 0 []])++([.b false]++[.s 0 []]))),(5,35,cR 1),(6,35,cR (((n-1:Int):Rat)))]⟩) (fun i=>0-i) 0 (aB ⟨rfl,rfl,rfl,rfl,trivial⟩ ⟨rfl,rfl,rfl,rfl,trivial⟩ rfl) ?_
  intro i
  match i with
  |_=>
   show Dw _ _ ⟨51,[(1,.p 1 0),(2,.p 2 0),(5,.p 5 0),(6,.p 6 0)],[(1,49,(cR a++cR b++cR c)),(2,35,(([.b false]++[.s 0 []])++([.b false]++[.s 0 []]))),(5,35,cR 1),(6,35,cR (((n-1:Int):Rat)))]⟩ _
   refine aa<|aa<|lq 6 rfl rfl<|dU 3<|bH (dt rfl (cW (ci k2 o1) (WV n)))<|bH (dt rfl (ck (bE ka k0 z0 (hb.m_) (hc.m_)) ec0))<|bH (aZ (fe rfl) g2) ?_
   refine kj ?_
   refine dz ?_
   refine bj ?_
   refine ba rfl ?_
   refine bG ?_
   refine aa ?_
   refine ah ?_
   refine bb ?_
   exact ai (a8 bt rfl ae)
theorem Xw (L:Lv A B C D E F n) (e0:bi (A-0) B C=c0) (g0:decide (c0<0)=false) (g1:decide (c0≥0)=true) (oA:Ok Tryz.prog 174 [.a ((cR A++cR B++cR C))] [dR (n:Rat)]) (hc:bi (D-((n:Rat)+1)) E F=c) (hg:decide (c>0)=true):Ok Tryz.prog 96 [.a ((cR A++cR B++cR C)),.a ((cR D++cR E++cR F))] [dR ((n:Rat)+1)]:=by
 have o1:Rz 6000000 (1:Rat):=qe (by decide+kernel)
 have s1:Sz 19980000 (1:Int):=iw (by decide) (by decide) (by decide)
 have kn:Rz 6000000 (n:Rat):=L.zn.m_
 have sn:Sz 19980000 n:=L.nz.m_
 have kA:Rz 6000000 A:=L.kA.m_
 have kD:Rz 6000000 D:=L.kD.m_
 have z0:Rz 2 (0:Rat):=dL (by decide)
 have h0:Rz 6000000 (0:Rat):=dL (by decide)
 refine fD u4 81 [.cell 4 35] rfl<|aa<|ah<|aa<|ah<|ac rfl ((show Ok Tryz.prog 46 [.c (.i .i64 1)] [dR 1] from dO (by omega) (by omega)))<|ac rfl ((show Ok Tryz.prog 46 [.c (.i .i64 0)] [dR 0] from dO (by omega) (by omega)))<|aa<|aa<|bo<|bR 2<|a7 (dt rfl (ck (bE kA h0 ((L.hA.sub z0).m_) (L.kB.m_) (L.kC.m_)) e0))<|a7 (aZ (fe rfl) g0) ?_
 refine fN ?_
 refine ba rfl ?_
 refine aJ ?_
 refine aa ?_
 refine ah ?_
 refine ac rfl (oA) ?_
 refine aa ?_
 refine ah ?_
 refine ac rfl (ci kn o1) ?_
 refine aa ?_
 refine aa ?_
 refine bo ?_
 refine bR 2 ?_
 refine a7 (dt rfl (ck (bE kD (L.zn1.m_) (L.dn1.m_) (L.kE.m_) (L.kF.m_)) hc)) ?_
 refine a7 (aZ (fe rfl) hg) ?_
 refine bj<|cO rfl<|aa<|aa<|bo<|bR 2<|a7 (dt rfl (ck (bE kA h0 ((L.hA.sub z0).m_) (L.kB.m_) (L.kC.m_)) e0))<|a7 (aZ (fe rfl) g1) ?_
 refine bj ?_
 refine cO rfl ?_
 refine aa ?_
 refine ah ?_
 refine bb ?_
 exact ai (a8 bt rfl ae)
theorem YO (L:Lv A B C D E F n) (e0:bi (A-0) B C=c0) (g0:decide (c0<0)=false) (_g1:decide (c0≥0)=true) (oA:Ok Tryz.prog 174 [.a ((cR A++cR B++cR C))] [dR (n:Rat)]) (hc:bi (D-((n:Rat)+1)) E F=c) (hg:decide (c>0)=false) (hd:bi (A-(n:Rat)-0) B C=d) (he:(d==0)=true) (hw2:((D-(n:Rat))*(D-(n:Rat))-E*E*F)*w2=1) (hz:Sz 3421 m) (oT:Ok Tryz.prog 174 [.a ((cR ((D-(n:Rat))*w2)++cR (-E*w2)++cR F))] [dR (m:Rat)]) (y0:((m:Rat)+1)≠0):Ok Tryz.prog 96 [.a ((cR A++cR B++cR C)),.a ((cR D++cR E++cR F))] [dR ((n:Rat)+1/((m:Rat)+1))]:=by
 have o1:Rz 6000000 (1:Rat):=qe (by decide+kernel)
 have s1:Sz 19980000 (1:Int):=iw (by decide) (by decide) (by decide)
 have kn:Rz 6000000 (n:Rat):=L.zn.m_
 have sn:Sz 19980000 n:=L.nz.m_
 have kA:Rz 6000000 A:=L.kA.m_
 have kD:Rz 6000000 D:=L.kD.m_
 have z0:Rz 2 (0:Rat):=dL (by decide)
 have h0:Rz 6000000 (0:Rat):=dL (by decide)
 have zm:Rz 3421 (m:Rat):=gY hz (by decide)
 have km:Rz 6000000 (m:Rat):=zm.m_
 have zy:Rz 3423 ((m:Rat)+1):=zm.add (l:=1) (qe (by decide+kernel))
 have ky:Rz 6000000 ((m:Rat)+1):=zy.m_
 have kp:Rz 6000000 (1/((m:Rat)+1)):=(lT (k:=1) (qe (by decide+kernel)) zy y0).m_
 refine fD u4 81 [.cell 4 35] rfl<|aa<|ah<|aa<|ah<|ac rfl ((show Ok Tryz.prog 46 [.c (.i .i64 1)] [dR 1] from dO (by omega) (by omega)))<|ac rfl ((show Ok Tryz.prog 46 [.c (.i .i64 0)] [dR 0] from dO (by omega) (by omega)))<|aa<|aa<|bo<|bR 2<|a7 (dt rfl (ck (bE kA h0 ((L.hA.sub z0).m_) (L.kB.m_) (L.kC.m_)) e0))<|a7 (aZ (fe rfl) g0) ?_
 refine fN ?_
 refine ba rfl ?_
 refine aJ ?_
 refine aa ?_
 refine ah ?_
 refine ac rfl (oA) ?_
 refine aa ?_
 refine ah ?_
 refine ac rfl (ci kn o1) ?_
 refine aa ?_
 refine aa ?_
 refine bo ?_
 refine bR 2 ?_
 refine a7 (dt rfl (ck (bE kD (L.zn1.m_) (L.dn1.m_) (L.kE.m_) (L.kF.m_)) hc)) ?_
 refine a7 (aZ (fe rfl) hg) ?_
 refine bj ?_
 refine ba rfl ?_
 refine aJ ?_
 refine aa ?_
 refine di 8 [] ?_
 refine aO rfl (n8 kA kn) ?_
 refine aO rfl (n8 kD kn) ?_
 refine aa ?_
 refine ah ?_
 refine aa ?_
 refine aa ?_
 refine bo ?_
 refine bR 2 ?_
 refine a7 (dt rfl (ck (bE (L.an.m_) h0 ((L.an.sub z0).m_) (L.kB.m_) (L.kC.m_)) hd)) ?_
 refine a7 (aZ (fe rfl) he) ?_
 refine bj ?_
 refine cO rfl ?_
 refine di 5 [] ?_
 refine aO rfl (nE (L.dn.m_) (L.kE.m_) (L.kF.m_) hw2) ?_
 refine aO rfl (oT) ?_
 refine aO rfl (ci km o1) ?_
 refine aa ?_
 refine ah ?_
 refine ac rfl (lv o1 ky y0) ?_
 refine aa ?_
 refine ah ?_
 refine ac rfl (ci kn kp) ?_
 refine bb ?_
 exact ai (a8 bt rfl ae)
theorem Wg (L:Lv A B C D E F n) (e0:bi (A-0) B C=c0) (g0:decide (c0<0)=false) (_g1:decide (c0≥0)=true) (oA:Ok Tryz.prog 174 [.a ((cR A++cR B++cR C))] [dR (n:Rat)]) (hc:bi (D-((n:Rat)+1)) E F=c) (hg:decide (c>0)=false) (hd:bi (A-(n:Rat)-0) B C=d) (he:(d==0)=false) (hw2:((D-(n:Rat))*(D-(n:Rat))-E*E*F)*w2=1) (hw1:((A-(n:Rat))*(A-(n:Rat))-B*B*C)*w1=1) (ih:Ok Tryz.prog 96 [.a ((cR ((D-(n:Rat))*w2)++cR (-E*w2)++cR F)),.a ((cR ((A-(n:Rat))*w1)++cR (-B*w1)++cR C))] [dR (fr P Q)]) (zy:Rz 6841 (fr P Q)) (y0:fr P Q≠0):Ok Tryz.prog 96 [.a ((cR A++cR B++cR C)),.a ((cR D++cR E++cR F))] [dR ((n:Rat)+1/fr P Q)]:=by
 have o1:Rz 6000000 (1:Rat):=qe (by decide+kernel)
 have s1:Sz 19980000 (1:Int):=iw (by decide) (by decide) (by decide)
 have kn:Rz 6000000 (n:Rat):=L.zn.m_
 have sn:Sz 19980000 n:=L.nz.m_
 have kA:Rz 6000000 A:=L.kA.m_
 have kD:Rz 6000000 D:=L.kD.m_
 have z0:Rz 2 (0:Rat):=dL (by decide)
 have h0:Rz 6000000 (0:Rat):=dL (by decide)
 have ky:Rz 6000000 (fr P Q):=zy.m_
 have kp:Rz 6000000 (1/fr P Q):=(lT (k:=1) (qe (by decide+kernel)) zy y0).m_
 refine fD u4 81 [.cell 4 35] rfl<|aa<|ah<|aa<|ah<|ac rfl ((show Ok Tryz.prog 46 [.c (.i .i64 1)] [dR 1] from dO (by omega) (by omega)))<|ac rfl ((show Ok Tryz.prog 46 [.c (.i .i64 0)] [dR 0] from dO (by omega) (by omega)))<|aa<|aa<|bo<|bR 2<|a7 (dt rfl (ck (bE kA h0 ((L.hA.sub z0).m_) (L.kB.m_) (L.kC.m_)) e0))<|a7 (aZ (fe rfl) g0) ?_
 refine fN ?_
 refine ba rfl ?_
 refine aJ ?_
 refine aa ?_
 refine ah ?_
 refine ac rfl (oA) ?_
 refine aa ?_
 refine ah ?_
 refine ac rfl (ci kn o1) ?_
 refine aa ?_
 refine aa ?_
 refine bo ?_
 refine bR 2 ?_
 refine a7 (dt rfl (ck (bE kD (L.zn1.m_) (L.dn1.m_) (L.kE.m_) (L.kF.m_)) hc)) ?_
 refine a7 (aZ (fe rfl) hg) ?_
 refine bj ?_
 refine ba rfl ?_
 refine aJ ?_
 refine aa ?_
 refine di 8 [] ?_
 refine aO rfl (n8 kA kn) ?_
 refine aO rfl (n8 kD kn) ?_
 refine aa ?_
 refine ah ?_
 refine aa ?_
 refine aa ?_
 refine bo ?_
 refine bR 2 ?_
 refine a7 (dt rfl (ck (bE (L.an.m_) h0 ((L.an.sub z0).m_) (L.kB.m_) (L.kC.m_)) hd)) ?_
 refine a7 (aZ (fe rfl) he) ?_
 refine bj ?_
 refine ba rfl ?_
 refine di 5 [] ?_
 refine aO rfl (nE (L.dn.m_) (L.kE.m_) (L.kF.m_) hw2) ?_
 refine aO rfl (nE (L.an.m_) (L.kB.m_) (L.kC.m_) hw1) ?_
 refine aO rfl (ih) ?_
 refine aa ?_
 refine ah ?_
 refine ac rfl (lv o1 ky y0) ?_
 refine aa ?_
 refine ah ?_
 refine ac rfl (ci kn kp) ?_
 refine bb ?_
 exact ai (a8 bt rfl ae)
theorem Sv (L:Lv A B C D E F n) (e0:bi (A-0) B C=c0) (g0:decide (c0<0)=true) (g1:decide (c0≥0)=false) (f0:bi (D-0) E F=d0) (k0:decide (d0>0)=false) (oA:Ok Tryz.prog 174 [.a ((cR A++cR B++cR C))] [dR (n:Rat)]) (hc:bi (D-((n:Rat)+1)) E F=c) (hg:decide (c>0)=true) (hz:Sz 3421 m) (oT:Ok Tryz.prog 174 [.a ((cR D++cR E++cR F))] [dR (m:Rat)]) (hm2:bi (D-(m:Rat)) E F=m2) (he:(m2==0)=true):Ok Tryz.prog 96 [.a ((cR A++cR B++cR C)),.a ((cR D++cR E++cR F))] [dR ((m:Rat)-1)]:=by
 have o1:Rz 6000000 (1:Rat):=qe (by decide+kernel)
 have s1:Sz 19980000 (1:Int):=iw (by decide) (by decide) (by decide)
 have kn:Rz 6000000 (n:Rat):=L.zn.m_
 have sn:Sz 19980000 n:=L.nz.m_
 have kA:Rz 6000000 A:=L.kA.m_
 have kD:Rz 6000000 D:=L.kD.m_
 have z0:Rz 2 (0:Rat):=dL (by decide)
 have h0:Rz 6000000 (0:Rat):=dL (by decide)
 have zm:Rz 3421 (m:Rat):=gY hz (by decide)
 have km:Rz 6000000 (m:Rat):=zm.m_
 refine fD u4 81 [.cell 4 35] rfl<|aa<|ah<|aa<|ah<|ac rfl ((show Ok Tryz.prog 46 [.c (.i .i64 1)] [dR 1] from dO (by omega) (by omega)))<|ac rfl ((show Ok Tryz.prog 46 [.c (.i .i64 0)] [dR 0] from dO (by omega) (by omega)))<|aa<|aa<|bo<|bR 2<|a7 (dt rfl (ck (bE kA h0 ((L.hA.sub z0).m_) (L.kB.m_) (L.kC.m_)) e0))<|a7 (aZ (fe rfl) g0) ?_
 refine bR 3<|a7 (dt rfl (ck (bE kD h0 ((L.hD.sub z0).m_) (L.kE.m_) (L.kF.m_)) f0))<|a7 (aZ (fe rfl) k0) ?_
 refine fN ?_
 refine ba rfl ?_
 refine aJ ?_
 refine aa ?_
 refine ah ?_
 refine ac rfl (oA) ?_
 refine aa ?_
 refine ah ?_
 refine ac rfl (ci kn o1) ?_
 refine aa ?_
 refine aa ?_
 refine bo ?_
 refine bR 2 ?_
 refine a7 (dt rfl (ck (bE kD (L.zn1.m_) (L.dn1.m_) (L.kE.m_) (L.kF.m_)) hc)) ?_
 refine a7 (aZ (fe rfl) hg) ?_
 refine bj<|cO rfl<|aa<|aa<|bo<|bR 2<|a7 (dt rfl (ck (bE kA h0 ((L.hA.sub z0).m_) (L.kB.m_) (L.kC.m_)) e0))<|a7 (aZ (fe rfl) g1) ?_
 refine bj ?_
 refine ba rfl ?_
 refine aJ ?_
 refine aa ?_
 refine ah ?_
 refine ac rfl (oT) ?_
 refine aa<|aa<|bo<|bR 2<|a7 (dt rfl (ck (bE kD km ((L.hD.sub zm).m_) (L.kE.m_) (L.kF.m_)) hm2))<|a7 (aZ (fe rfl) he) ?_
 refine bj ?_
 refine cO rfl ?_
 refine ah ?_
 refine ac rfl (gN km o1) ?_
 refine aa ?_
 refine ah ?_
 refine bb ?_
 exact ai (a8 bt rfl ae)
theorem TH (L:Lv A B C D E F n) (e0:bi (A-0) B C=c0) (g0:decide (c0<0)=true) (g1:decide (c0≥0)=false) (f0:bi (D-0) E F=d0) (k0:decide (d0>0)=false) (oA:Ok Tryz.prog 174 [.a ((cR A++cR B++cR C))] [dR (n:Rat)]) (hc:bi (D-((n:Rat)+1)) E F=c) (hg:decide (c>0)=true) (hz:Sz 3421 m) (oT:Ok Tryz.prog 174 [.a ((cR D++cR E++cR F))] [dR (m:Rat)]) (hm2:bi (D-(m:Rat)) E F=m2) (he:(m2==0)=false):Ok Tryz.prog 96 [.a ((cR A++cR B++cR C)),.a ((cR D++cR E++cR F))] [dR (m:Rat)]:=by
 have o1:Rz 6000000 (1:Rat):=qe (by decide+kernel)
 have s1:Sz 19980000 (1:Int):=iw (by decide) (by decide) (by decide)
 have kn:Rz 6000000 (n:Rat):=L.zn.m_
 have sn:Sz 19980000 n:=L.nz.m_
 have kA:Rz 6000000 A:=L.kA.m_
 have kD:Rz 6000000 D:=L.kD.m_
 have z0:Rz 2 (0:Rat):=dL (by decide)
 have h0:Rz 6000000 (0:Rat):=dL (by decide)
 have zm:Rz 3421 (m:Rat):=gY hz (by decide)
 have km:Rz 6000000 (m:Rat):=zm.m_
 refine fD u4 81 [.cell 4 35] rfl<|aa<|ah<|aa<|ah<|ac rfl ((show Ok Tryz.prog 46 [.c (.i .i64 1)] [dR 1] from dO (by omega) (by omega)))<|ac rfl ((show Ok Tryz.prog 46 [.c (.i .i64 0)] [dR 0] from dO (by omega) (by omega)))<|aa<|aa<|bo<|bR 2<|a7 (dt rfl (ck (bE kA h0 ((L.hA.sub z0).m_) (L.kB.m_) (L.kC.m_)) e0))<|a7 (aZ (fe rfl) g0) ?_
 refine bR 3<|a7 (dt rfl (ck (bE kD h0 ((L.hD.sub z0).m_) (L.kE.m_) (L.kF.m_)) f0))<|a7 (aZ (fe rfl) k0) ?_
 refine fN ?_
 refine ba rfl ?_
 refine aJ ?_
 refine aa ?_
 refine ah ?_
 refine ac rfl (oA) ?_
 refine aa ?_
 refine ah ?_
 refine ac rfl (ci kn o1) ?_
 refine aa ?_
 refine aa ?_
 refine bo ?_
 refine bR 2 ?_
 refine a7 (dt rfl (ck (bE kD (L.zn1.m_) (L.dn1.m_) (L.kE.m_) (L.kF.m_)) hc)) ?_
 refine a7 (aZ (fe rfl) hg) ?_
 refine bj<|cO rfl<|aa<|aa<|bo<|bR 2<|a7 (dt rfl (ck (bE kA h0 ((L.hA.sub z0).m_) (L.kB.m_) (L.kC.m_)) e0))<|a7 (aZ (fe rfl) g1) ?_
 refine bj ?_
 refine ba rfl ?_
 refine aJ ?_
 refine aa ?_
 refine ah ?_
 refine ac rfl (oT) ?_
 refine aa<|aa<|bo<|bR 2<|a7 (dt rfl (ck (bE kD km ((L.hD.sub zm).m_) (L.kE.m_) (L.kF.m_)) hm2))<|a7 (aZ (fe rfl) he) ?_
 refine bj ?_
 refine ba rfl ?_
 refine aJ ?_
 refine aa ?_
 refine ah ?_
 refine bb ?_
 exact ai (a8 bt rfl ae)
theorem WO (L:Lv A B C D E F n) (e0:bi (A-0) B C=c0) (g0:decide (c0<0)=true) (_g1:decide (c0≥0)=false) (f0:bi (D-0) E F=d0) (k0:decide (d0>0)=false) (oA:Ok Tryz.prog 174 [.a ((cR A++cR B++cR C))] [dR (n:Rat)]) (hc:bi (D-((n:Rat)+1)) E F=c) (hg:decide (c>0)=false) (hd:bi (A-(n:Rat)-0) B C=d) (he:(d==0)=true) (hw2:((D-(n:Rat))*(D-(n:Rat))-E*E*F)*w2=1) (hz:Sz 3421 m) (oT:Ok Tryz.prog 174 [.a ((cR ((D-(n:Rat))*w2)++cR (-E*w2)++cR F))] [dR (m:Rat)]) (y0:((m:Rat)+1)≠0):Ok Tryz.prog 96 [.a ((cR A++cR B++cR C)),.a ((cR D++cR E++cR F))] [dR ((n:Rat)+1/((m:Rat)+1))]:=by
 have o1:Rz 6000000 (1:Rat):=qe (by decide+kernel)
 have s1:Sz 19980000 (1:Int):=iw (by decide) (by decide) (by decide)
 have kn:Rz 6000000 (n:Rat):=L.zn.m_
 have sn:Sz 19980000 n:=L.nz.m_
 have kA:Rz 6000000 A:=L.kA.m_
 have kD:Rz 6000000 D:=L.kD.m_
 have z0:Rz 2 (0:Rat):=dL (by decide)
 have h0:Rz 6000000 (0:Rat):=dL (by decide)
 have zm:Rz 3421 (m:Rat):=gY hz (by decide)
 have km:Rz 6000000 (m:Rat):=zm.m_
 have zy:Rz 3423 ((m:Rat)+1):=zm.add (l:=1) (qe (by decide+kernel))
 have ky:Rz 6000000 ((m:Rat)+1):=zy.m_
 have kp:Rz 6000000 (1/((m:Rat)+1)):=(lT (k:=1) (qe (by decide+kernel)) zy y0).m_
 refine fD u4 81 [.cell 4 35] rfl<|aa<|ah<|aa<|ah<|ac rfl ((show Ok Tryz.prog 46 [.c (.i .i64 1)] [dR 1] from dO (by omega) (by omega)))<|ac rfl ((show Ok Tryz.prog 46 [.c (.i .i64 0)] [dR 0] from dO (by omega) (by omega)))<|aa<|aa<|bo<|bR 2<|a7 (dt rfl (ck (bE kA h0 ((L.hA.sub z0).m_) (L.kB.m_) (L.kC.m_)) e0))<|a7 (aZ (fe rfl) g0) ?_
 refine bR 3<|a7 (dt rfl (ck (bE kD h0 ((L.hD.sub z0).m_) (L.kE.m_) (L.kF.m_)) f0))<|a7 (aZ (fe rfl) k0) ?_
 refine fN ?_
 refine ba rfl ?_
 refine aJ ?_
 refine aa ?_
 refine ah ?_
 refine ac rfl (oA) ?_
 refine aa ?_
 refine ah ?_
 refine ac rfl (ci kn o1) ?_
 refine aa ?_
 refine aa ?_
 refine bo ?_
 refine bR 2 ?_
 refine a7 (dt rfl (ck (bE kD (L.zn1.m_) (L.dn1.m_) (L.kE.m_) (L.kF.m_)) hc)) ?_
 refine a7 (aZ (fe rfl) hg) ?_
 refine bj ?_
 refine ba rfl ?_
 refine aJ ?_
 refine aa ?_
 refine di 8 [] ?_
 refine aO rfl (n8 kA kn) ?_
 refine aO rfl (n8 kD kn) ?_
 refine aa ?_
 refine ah ?_
 refine aa ?_
 refine aa ?_
 refine bo ?_
 refine bR 2 ?_
 refine a7 (dt rfl (ck (bE (L.an.m_) h0 ((L.an.sub z0).m_) (L.kB.m_) (L.kC.m_)) hd)) ?_
 refine a7 (aZ (fe rfl) he) ?_
 refine bj ?_
 refine cO rfl ?_
 refine di 5 [] ?_
 refine aO rfl (nE (L.dn.m_) (L.kE.m_) (L.kF.m_) hw2) ?_
 refine aO rfl (oT) ?_
 refine aO rfl (ci km o1) ?_
 refine aa ?_
 refine ah ?_
 refine ac rfl (lv o1 ky y0) ?_
 refine aa ?_
 refine ah ?_
 refine ac rfl (ci kn kp) ?_
 refine bb ?_
 exact ai (a8 bt rfl ae)
theorem WB (L:Lv A B C D E F n) (e0:bi (A-0) B C=c0) (g0:decide (c0<0)=true) (_g1:decide (c0≥0)=false) (f0:bi (D-0) E F=d0) (k0:decide (d0>0)=false) (oA:Ok Tryz.prog 174 [.a ((cR A++cR B++cR C))] [dR (n:Rat)]) (hc:bi (D-((n:Rat)+1)) E F=c) (hg:decide (c>0)=false) (hd:bi (A-(n:Rat)-0) B C=d) (he:(d==0)=false) (hw2:((D-(n:Rat))*(D-(n:Rat))-E*E*F)*w2=1) (hw1:((A-(n:Rat))*(A-(n:Rat))-B*B*C)*w1=1) (ih:Ok Tryz.prog 96 [.a ((cR ((D-(n:Rat))*w2)++cR (-E*w2)++cR F)),.a ((cR ((A-(n:Rat))*w1)++cR (-B*w1)++cR C))] [dR (fr P Q)]) (zy:Rz 6841 (fr P Q)) (y0:fr P Q≠0):Ok Tryz.prog 96 [.a ((cR A++cR B++cR C)),.a ((cR D++cR E++cR F))] [dR ((n:Rat)+1/fr P Q)]:=by
 have o1:Rz 6000000 (1:Rat):=qe (by decide+kernel)
 have s1:Sz 19980000 (1:Int):=iw (by decide) (by decide) (by decide)
 have kn:Rz 6000000 (n:Rat):=L.zn.m_
 have sn:Sz 19980000 n:=L.nz.m_
 have kA:Rz 6000000 A:=L.kA.m_
 have kD:Rz 6000000 D:=L.kD.m_
 have z0:Rz 2 (0:Rat):=dL (by decide)
 have h0:Rz 6000000 (0:Rat):=dL (by decide)
 have ky:Rz 6000000 (fr P Q):=zy.m_
 have kp:Rz 6000000 (1/fr P Q):=(lT (k:=1) (qe (by decide+kernel)) zy y0).m_
 refine fD u4 81 [.cell 4 35] rfl<|aa<|ah<|aa<|ah<|ac rfl ((show Ok Tryz.prog 46 [.c (.i .i64 1)] [dR 1] from dO (by omega) (by omega)))<|ac rfl ((show Ok Tryz.prog 46 [.c (.i .i64 0)] [dR 0] from dO (by omega) (by omega)))<|aa<|aa<|bo<|bR 2<|a7 (dt rfl (ck (bE kA h0 ((L.hA.sub z0).m_) (L.kB.m_) (L.kC.m_)) e0))<|a7 (aZ (fe rfl) g0) ?_
 refine bR 3<|a7 (dt rfl (ck (bE kD h0 ((L.hD.sub z0).m_) (L.kE.m_) (L.kF.m_)) f0))<|a7 (aZ (fe rfl) k0) ?_
 refine fN ?_
 refine ba rfl ?_
 refine aJ ?_
 refine aa ?_
 refine ah ?_
 refine ac rfl (oA) ?_
 refine aa ?_
 refine ah ?_
 refine ac rfl (ci kn o1) ?_
 refine aa ?_
 refine aa ?_
 refine bo ?_
 refine bR 2 ?_
 refine a7 (dt rfl (ck (bE kD (L.zn1.m_) (L.dn1.m_) (L.kE.m_) (L.kF.m_)) hc)) ?_
 refine a7 (aZ (fe rfl) hg) ?_
 refine bj ?_
 refine ba rfl ?_
 refine aJ ?_
 refine aa ?_
 refine di 8 [] ?_
 refine aO rfl (n8 kA kn) ?_
 refine aO rfl (n8 kD kn) ?_
 refine aa ?_
 refine ah ?_
 refine aa ?_
 refine aa ?_
 refine bo ?_
 refine bR 2 ?_
 refine a7 (dt rfl (ck (bE (L.an.m_) h0 ((L.an.sub z0).m_) (L.kB.m_) (L.kC.m_)) hd)) ?_
 refine a7 (aZ (fe rfl) he) ?_
 refine bj ?_
 refine ba rfl ?_
 refine di 5 [] ?_
 refine aO rfl (nE (L.dn.m_) (L.kE.m_) (L.kF.m_) hw2) ?_
 refine aO rfl (nE (L.an.m_) (L.kB.m_) (L.kC.m_) hw1) ?_
 refine aO rfl (ih) ?_
 refine aa ?_
 refine ah ?_
 refine ac rfl (lv o1 ky y0) ?_
 refine aa ?_
 refine ah ?_
 refine ac rfl (ci kn kp) ?_
 refine bb ?_
 exact ai (a8 bt rfl ae)
theorem Ik (x:Rat):((x.num.fdiv (x.den:Int):Int):Rat)≤x∧x<((x.num.fdiv (x.den:Int)+1:Int):Rat):=by
 have dn:=den_pos x
 obtain⟨h1,h2⟩:=Le (Z:=x.num) dn
 have hn:=t5 x
 have hp:(0:Rat)<((x.den:Int):Rat):=ts.2 dn
 refine⟨p8 hp ?_,?_⟩
 ·rw[hn,←eg];exact gm.2 h1
 ·apply gT
  intro hc
  have h3:=tW (show((x.num.fdiv (x.den:Int)+1:Int):Rat)≤x by grind) (show(0:Rat)≤((x.den:Int):Rat) by grind)
  rw[hn,←eg] at h3
  have h4:=gm.1 h3
  omega
section
variable {a b c:Rat}
theorem aaa (hc:0≤c):cH (Re.of ((bK ((b*b*c).num.fdiv ((b*b*c).den:Int)):Int):Rat)) (Re.of (if b<0 then-b else b)*Re.rt c)∧
 cH (Re.of (if b<0 then-b else b)*Re.rt c) (Re.of ((bK ((b*b*c).num.fdiv ((b*b*c).den:Int))+1:Int):Rat)):=by
 have hbc:0≤b*b*c:=by
  have:0≤b*b:=by
   by_cases h:0≤b
   ·exact jW h h
   ·have:=jW (show 0≤ -b by grind) (show 0≤ -b by grind);grind
  exact jW this hc
 obtain⟨q1,q2⟩:=Ik (b*b*c)
 have hw:0≤(b*b*c).num.fdiv ((b*b*c).den:Int):=by
  have h1:((0:Int):Rat)<(((b*b*c).num.fdiv ((b*b*c).den:Int)+1:Int):Rat):=by have:=hbc;have:=q2;grind
  have:=kO.1 h1
  omega
 have t1:=qN hw
 have t2:=wg hw
 have t0:=fv ((b*b*c).num.fdiv ((b*b*c).den:Int))
 generalize (b*b*c).num.fdiv ((b*b*c).den:Int)=w at*
 generalize bK w=t at*
 generalize hb':(if b<0 then-b else b)=b'
 have hb2:b'*b'=b*b∧0≤b':=by grind
 have nnR:0≤aw (Re.of b'*Re.rt c):=by
  have p2:0≤aw (Re.of b'):=by rw[cj];exact kH hb2.2
  have p3:=u5 c
  rw[aQ]
  exact f9 p2 p3
 have eS: ∀q:Rat,aw (Re.of b'*Re.rt c*(Re.of b'*Re.rt c)-Re.of q)=aR (b*b*c) q:=by
  intro q
  rw[←lI,←cj]
  refine dJ ?_
  rw[show Re.of b'*Re.rt c*(Re.of b'*Re.rt c)-Re.of q-Re.of (b*b*c-q)=Re.of (b'*b')*(Re.rt c*Re.rt c-Re.of c) from aS fun k=>by
   simp only[ak,am,aE];grind,aQ,ng hc,mH]
 refine⟨?_,?_⟩
 ·refine pQ (vN t0) nnR ?_
  rw[fK,eS,←eg]
  exact kH (Rat.le_trans (gm.2 t1) q1)
 ·refine pQ nnR (vN (by omega)) ?_
  have h3:0≤ -aw (Re.of b'*Re.rt c*(Re.of b'*Re.rt c)-Re.of (((t+1:Int):Rat)*((t+1:Int):Rat))):=by
   rw[eS,←eg]
   have h4:b*b*c≤(((t+1)*(t+1):Int):Rat):=Rat.le_trans (Rat.le_of_lt q2) (gm.2 (by omega))
   have:=By (x:=b*b*c) (y:=(((t+1)*(t+1):Int):Rat)) h4
   omega
  rw[←br] at h3
  refine lh (fun k=>?_) h3
  simp only[aD,ak,am,aE];grind
theorem PV (m n:Int):((m:Int):Rat)+((n:Int):Rat)=((m+n:Int):Rat):=(i5 m n).symm
theorem Sr (hv:Vl b c):(¬b<0→oB a b c=a.num.fdiv (a.den:Int)+bK ((b*b*c).num.fdiv ((b*b*c).den:Int))∨oB a b c=a.num.fdiv (a.den:Int)+bK ((b*b*c).num.fdiv ((b*b*c).den:Int))+1)∧
 (b<0→oB a b c=a.num.fdiv (a.den:Int)-bK ((b*b*c).num.fdiv ((b*b*c).den:Int))∨oB a b c=a.num.fdiv (a.den:Int)-bK ((b*b*c).num.fdiv ((b*b*c).den:Int))-1):=by
 have f1:cH (Re.of ((oB a b c:Int):Rat)) (aA a b c):=(sF hv.c0).1
 have f2:=vr (x:=a) (y:=b) hv.c0 hv.v
 obtain⟨r1,r2⟩:=aaa (b:=b) hv.c0
 obtain⟨u1,u2⟩:=Ik a
 generalize oB a b c=n at*
 generalize a.num.fdiv (a.den:Int)=u at*
 generalize bK ((b*b*c).num.fdiv ((b*b*c).den:Int))=t at*
 have key: ∀Y:Re,∀l h:Int,aA a b c=Re.of a+Y→cH (Re.of (l:Rat)) Y→cH Y (Re.of (h:Rat))→u+l<n+1∧n<u+1+h:=by
  intro Y l h e g1 g2
  have k1:=fH (of_le u1) g1
  rw[←e,show Re.of (u:Rat)+Re.of (l:Rat)=Re.of (((u+l:Int)):Rat) from aS fun k=>by simp only[ao,aE,i5]] at k1
  have k2:=fH (iy (Re.of a)) g2
  rw[←e,show Re.of a+Re.of (h:Rat)=Re.of (a+(h:Rat)) from aS fun k=>by simp only[ao,aE]] at k2
  have k3:=pS k1 f2
  have k4:=gK (fb f1 k2)
  have k5:(n:Rat)<((u+1+h:Int):Rat):=by grind
  exact⟨Rat.intCast_lt_intCast.1 k3,kO.1 k5⟩
 refine⟨fun hb=>?_,fun hb=>?_⟩
 ·rw[if_neg hb] at r1 r2
  have:=key (Re.of b*Re.rt c) t (t+1) rfl r1 r2
  omega
 ·rw[if_pos hb] at r1 r2
  have:=key (Re.of b*Re.rt c) (-(t+1)) (-t) rfl (by
   refine lh (fun k=>?_) r2
   simp only[ak,am,aE,tQ];grind) (by
   refine lh (fun k=>?_) r1
   simp only[ak,am,aE,tQ];grind)
  omega
theorem Zp (hv:Vl b c) (m:Int):(m≤oB a b c→ ¬bi (a-(m:Rat)) b c<0)∧(oB a b c<m→bi (a-(m:Rat)) b c<0):=by
 have f1:cH (Re.of ((oB a b c:Int):Rat)) (aA a b c):=(sF hv.c0).1
 have f2:=vr (x:=a) (y:=b) hv.c0 hv.v
 rw[sV hv.c0]
 refine⟨fun h=>?_,fun h=>?_⟩
 ·have h1:0≤aw (aA a b c-Re.of (m:Rat)):=fb (pc h) f1
  omega
 ·have h1:aw (Re.of (m:Rat)-aA a b c)=1:=by
   rw[show Re.of (m:Rat)-aA a b c=(Re.of (m:Rat)-Re.of ((oB a b c+1:Int):Rat))+(Re.of ((oB a b c+1:Int):Rat)-aA a b c) from aS fun k=>by simp only[ak,ao];grind]
   exact j8 (pc (show oB a b c+1≤m by omega)) f2
  rw[dS];omega
theorem wm (ha:Rz 160000 a) (hb:Rz 160000 b) (hc:Rz 160000 c) (hv:Vl b c):Ok Tryz.prog 174 [.a (cR a++cR b++cR c)] [dR ((oB a b c:Int):Rat)]:=by
 obtain⟨n1,n2⟩:=Sr (a:=a) hv
 have sg:=Zp (a:=a) hv
 have su:Sz 160000 (a.num.fdiv (a.den:Int)):=ha.n.fdiv
 have st:Sz 480000 (bK ((b*b*c).num.fdiv ((b*b*c).den:Int))):=((((hb.mul hb).mul hc).n).fdiv.isq).mono (by decide)
 have sp:Sz 500000 (a.num.fdiv (a.den:Int)+bK ((b*b*c).num.fdiv ((b*b*c).den:Int))):=(su.addm st).mono (by decide)
 have sm:Sz 500000 (a.num.fdiv (a.den:Int)+ -bK ((b*b*c).num.fdiv ((b*b*c).den:Int))):=(su.addm st.neg).mono (by decide)
 by_cases hb0:b<0
 ·have hg:decide (aR b 0<0)=true:=decide_eq_true (by unfold aR;rw[if_pos hb0];decide)
  have en:=PV (a.num.fdiv (a.den:Int)) (-bK ((b*b*c).num.fdiv ((b*b*c).den:Int)))
  rcases n2 hb0 with e|e
  ·have e':oB a b c=a.num.fdiv (a.den:Int)+ -bK ((b*b*c).num.fdiv ((b*b*c).den:Int)):=by omega
   rw[e']
   rw[e'] at sg
   exact Wv ha hb hc rfl hg sm en rfl (decide_eq_false ((sg _).1 (mV _))) rfl (decide_eq_false (by have:=(sg (a.num.fdiv (a.den:Int)+ -bK ((b*b*c).num.fdiv ((b*b*c).den:Int))+1)).2 (by omega);omega))
  ·have e':oB a b c=a.num.fdiv (a.den:Int)+ -bK ((b*b*c).num.fdiv ((b*b*c).den:Int))-1:=by omega
   rw[e']
   rw[e'] at sg
   exact WX ha hb hc rfl hg sm en rfl (decide_eq_true ((sg _).2 (by omega))) rfl (decide_eq_false ((sg _).1 (mV _))) (decide_eq_false (by have:=(sg (a.num.fdiv (a.den:Int)+ -bK ((b*b*c).num.fdiv ((b*b*c).den:Int)))).2 (by omega);omega))
 ·have hg:decide (aR b 0<0)=false:=decide_eq_false (by unfold aR;rw[if_neg hb0];split<;>decide)
  have en:=PV (a.num.fdiv (a.den:Int)) (bK ((b*b*c).num.fdiv ((b*b*c).den:Int)))
  rcases n1 hb0 with e|e
  ·rw[e]
   rw[e] at sg
   exact XZ ha hb hc rfl hg sp en rfl (decide_eq_false ((sg _).1 (mV _))) rfl (decide_eq_false (by have:=(sg (a.num.fdiv (a.den:Int)+bK ((b*b*c).num.fdiv ((b*b*c).den:Int))+1)).2 (by omega);omega))
  ·rw[e]
   rw[e] at sg
   exact Xl ha hb hc rfl hg sp en rfl (decide_eq_false ((sg _).1 (by omega))) rfl (decide_eq_true (by have:=(sg (a.num.fdiv (a.den:Int)+bK ((b*b*c).num.fdiv ((b*b*c).den:Int))+1)).1 (by omega);omega)) rfl (decide_eq_false (by have:=(sg (a.num.fdiv (a.den:Int)+bK ((b*b*c).num.fdiv ((b*b*c).den:Int))+1+1)).2 (by omega);omega))
end
section
variable {A B C D E F:Rat}{P Q:Int}
theorem RT (n:Int):fr (n+1) 1=(n:Rat)+1:=yI (by decide) (by rw[UJ,i5];have:=UJ;grind)
theorem U4 (h:0≤m):(m:Rat)+1≠0:=by have:=Ag h;grind
theorem Vq {P Q:Int}(hP:0<P) (hQ:0<Q):fr P Q≠0:=by
 have h:=kP (p:=P) hQ
 have:=sU hP
 grind
theorem L5 (n:Int) (h:0≤m):fr (n*(m+1)+1) (m+1)=(n:Rat)+1/((m:Rat)+1):=by
 rw[yw (show 0<m+1 by omega) (by decide),RT]
theorem WC (X:Re):X-Re.of 0=X:=aS fun k=>by simp only[ak,aE];grind
theorem nk (hz:0≤z):bi (x-0) y z=aw (aA x y z):=by rw[sV hz,WC]
theorem Lv.flA (L:Lv A B C D E F n):Ok Tryz.prog 174 [.a (cR A++cR B++cR C)] [dR (n:Rat)]:=by
 rw[L.nf];exact wm L.kA L.kB L.kC L.v1
theorem Lv.sh (L:Lv A B C D E F n):bi (A-(n:Rat)-0) B C=aw (aA A B C-Re.of (n:Rat)):=by rw[nk L.v1.c0,gn]
theorem P8 (R:Res A B C D E F P Q):Ok Tryz.prog 96 [.a (cR A++cR B++cR C),.a (cR D++cR E++cR F)] [dR (fr P Q)]:=by
 induction R with
 |whole L a0 h=>
  rw[RT]
  exact Xw L (nk L.v1.c0) (decide_eq_false (by omega)) (decide_eq_true (by omega)) L.flA rfl (decide_eq_true (by rw[sV L.v2.c0,←G6,h];decide))
 | @last A B C D E F w n m L a0 h hb hz hw hm tA tB m0 mz=>
   rw[L5 n m0]
   have oT:=wm (tA.mono (by decide)) (tB.mono (by decide)) L.kF ((O5 L.v2 hw))
   rw[←hm] at oT
   exact YO L (nk L.v1.c0) (decide_eq_false (by omega)) (decide_eq_true (by omega)) L.flA rfl (decide_eq_false (by rw[sV L.v2.c0,←G6];omega)) (L.sh.trans hz) rfl hw mz oT (U4 m0)
 | @step A B C D E F w1 w2 n P Q L a0 h hb hz hw1 hw2 R p0 q0 z ih=>
   rw[yw p0 q0]
   exact Wg L (nk L.v1.c0) (decide_eq_false (by omega)) (decide_eq_true (by omega)) L.flA rfl (decide_eq_false (by rw[sV L.v2.c0,←G6];omega)) (L.sh.trans hz) rfl hw2 hw1 ih z (Vq p0 q0)
end
theorem ZW (hA:Rz 330 A) (hB:Rz 330 B) (hC:Rz 330 C) (hD:Rz 330 D) (hE:Rz 330 E) (hF:Rz 330 F) (_cC:0≤C) (_cF:0≤F) (e0:bi (A-0) B C=c0) (g0:decide (c0<0)=true) (f0:bi (D-0) E F=d0) (k0:decide (d0>0)=true):Ok Tryz.prog 96 [.a ((cR A++cR B++cR C)),.a ((cR D++cR E++cR F))] [dR 0]:=by
 have z0:Rz 2 (0:Rat):=dL (by decide)
 have h0:Rz 6000000 (0:Rat):=dL (by decide)
 refine fD u4 81 [.cell 4 35] rfl<|aa<|ah<|aa<|ah<|ac rfl ((show Ok Tryz.prog 46 [.c (.i .i64 1)] [dR 1] from dO (by omega) (by omega)))<|ac rfl ((show Ok Tryz.prog 46 [.c (.i .i64 0)] [dR 0] from dO (by omega) (by omega)))<|aa<|aa<|bo<|bR 2<|a7 (dt rfl (ck (bE (hA.m_) h0 ((hA.sub z0).m_) (hB.m_) (hC.m_)) e0))<|a7 (aZ (fe rfl) g0) ?_
 refine bR 3<|a7 (dt rfl (ck (bE (hD.m_) h0 ((hD.sub z0).m_) (hE.m_) (hF.m_)) f0))<|a7 (aZ (fe rfl) k0) ?_
 refine fN ?_
 refine cO rfl ?_
 refine aa ?_
 refine ah ?_
 refine bb ?_
 exact ai (a8 bt rfl ae)
theorem x7 {a b:Re}(x:Rat):BW (-b) (-a) x↔BW a b (-x):=by
 have h1:Re.of x- -b=b-Re.of (-x):=aS fun k=>by simp only[ak,aD,aE];grind
 have h2: -a-Re.of x=Re.of (-x)-a:=aS fun k=>by simp only[ak,aD,aE];grind
 unfold BW
 grind
theorem Vl.neg (h:Vl y z):Vl (-y) z:=⟨h.c0,fun e=>h.v fun e2=>e (by rw[e2];rfl),fun e=>h.z (by grind)⟩
section
variable {A B C D E F:Rat}
theorem BSt.start (v1:Vl B C) (v2:Vl E F) (a0:0≤aw (aA A B C)) (ab:aw (aA D E F-aA A B C)=1) (VU:cH (aA A B C) (Re.of ((pw 213:Int):Rat))) (WU:cH (aA D E F) (Re.of ((pw 213:Int):Rat)))
 (gap:cH (Re.of (1/((pw (1710+1710):Int):Rat))) (aA D E F-aA A B C)):BSt (pw 213) 1710 A B C D E F 1 0 0 1 A B D E:=by
 have p7:=dw 213
 have p59:=dw 1710
 have b0:0≤aw (aA D E F):=by
  rw[show aA D E F=aA A B C+(aA D E F-aA A B C) from aS fun k=>by simp only[ak,ao];grind]
  have:=j8 a0 ab
  omega
 exact⟨Mob.init A B C,Mob.init D E F,v1,v2,by decide,by decide,by decide,by decide,p7,by omega,by omega,by omega,p59,a0,b0,VU,WU,.inr gap,a0,fb VU (pc (mJ (by decide))),ab,.inl ⟨rfl,rfl⟩⟩
theorem Yg (hA:Rz 113 A) (hB:Rz 21 B) (hC:Rz 78 C) (hD:Rz 113 D) (hE:Rz 21 E) (hF:Rz 78 F) (cC:0≤C) (cF:0≤F) (ab:aw (aA D E F-aA A B C)=1):cH (Re.of (1/((pw (1710+1710):Int):Rat))) (aA D E F-aA A B C):=by
 have e:mn (D-A) E (-B) 0 F C=aA D E F-aA A B C:=aS fun k=>by simp only[mn,aA,ak,ao,am,aE];grind
 have h:=ab2 (hD.sub hA) hE hB.neg hF hC cF cC (by rw[e];exact ab)
 rw[e] at h
 exact fb (of_le (J8 (by decide))) h
theorem Of (hA:Rz 113 A) (hB:Rz 21 B) (hC:Rz 78 C) (cC:0≤C):cH (aA A B C) (Re.of ((pw 213:Int):Rat))∧cH (-(aA A B C)) (Re.of ((pw 213:Int):Rat)):=Fr hA hB hC cC (EZ 113 21 78)
theorem BSt.go (hA:Rz 330 A) (hB:Rz 330 B) (hC:Rz 330 C) (hD:Rz 330 D) (hE:Rz 330 E) (hF:Rz 330 F) (S:BSt (pw 213) 1710 A B C D E F 1 0 0 1 A B D E): ∃P Q:Int,Res A B C D E F P Q∧TMin (BW (aA A B C) (aA D E F)) P Q∧Rz 6841 (fr P Q):=by
 obtain⟨P,Q,R,T⟩:=S.res hA hB hC hD hE hF (3*pw 1710).toNat (by have:=dw 1710;omega)
 obtain⟨t1,t2⟩:=T.bound S.v1 S.au S.gap
 have t3:pw (1710+1710+1)≤pw (1710+1710+(1710+1710)+1):=mJ (by decide)
 exact⟨P,Q,R,T,T.rz t1 (Int.lt_of_lt_of_le t2 t3)⟩
theorem Uy {a b:Re}(T:TMin (BW (-b) (-a)) P Q) (T2:TMin (BW (a-Re.of (n:Rat)) (b-Re.of (n:Rat))) P2 Q2) (a0:cH (Re.of (n:Rat)) a) (b1:cH b (Re.of ((n+1:Int):Rat))): -(fr P Q)=(n:Rat)+fr P2 Q2:=by
 have sh: ∀x:Rat,BW (a-Re.of (n:Rat)) (b-Re.of (n:Rat)) x↔BW a b ((n:Rat)+x):=by
  intro x
  have h1:Re.of x-(a-Re.of (n:Rat))=Re.of ((n:Rat)+x)-a:=aS fun k=>by simp only[ak,aE];grind
  have h2:b-Re.of (n:Rat)-Re.of x=b-Re.of ((n:Rat)+x):=aS fun k=>by simp only[ak,aE];grind
  unfold BW
  rw[h1,h2]
 have hq:=T.q
 have hq2:=T2.q
 have f1:=kP (p:=P) hq
 have f2:=kP (p:=P2) hq2
 have e2:fr (-(n*Q2)-P2) Q2= -((n:Rat)+fr P2 Q2):=yI hq2 (by rw[n6,tQ,eg,←f2];grind)
 have e1:fr (-P-n*Q) Q= -(fr P Q)-(n:Rat):=yI hq (by rw[n6,tQ,eg,←f1];grind)
 have m2:BW (-b) (-a) (fr (-(n*Q2)-P2) Q2):=by
  rw[e2,x7,Rat.neg_neg]
  exact(sh _).1 T2.mem
 have m1:BW (a-Re.of (n:Rat)) (b-Re.of (n:Rat)) (fr (-P-n*Q) Q):=by
  rw[e1,sh,show(n:Rat)+(-(fr P Q)-(n:Rat))= -(fr P Q) by grind]
  exact(x7 _).1 T.mem
 have g1:=(T.min _ _ hq2 m2).2
 have g2:=(T2.min _ _ hq m1).2
 have hQ:Q2=Q:=by omega
 subst hQ
 by_cases h1:Q2=1
 ·exfalso
  subst h1
  obtain⟨i1,i2⟩:=(sh _).1 T2.mem
  have k1:=pS a0 i1
  rw[UJ,Rat.mul_one] at f2
  rw[f2] at k1 i2
  have k2:((n+P2:Int):Rat)≤((n+1:Int):Rat):=by
   rw[i5]
   exact gK (fb (by unfold cH;omega) b1)
  have k3:=gm.1 k2
  have k4:((n:Int):Rat)<((n+P2:Int):Rat):=by grind
  have k5:=kO.1 k4
  have k6:P2=1:=by omega
  subst k6
  have k7:0≤aw (Re.of ((n:Rat)+((1:Int):Rat))-b):=by
   rw[←i5];exact b1
  rw[dS,i2] at k7
  omega
 ·have hc: ∀x y z:Rat,BW (-b) (-a) x→BW (-b) (-a) y→x≤z→z≤y→BW (-b) (-a) z:=by
   intro x y z hx hy hxz hzy
   refine⟨?_,?_⟩
   ·rw[show Re.of z- -b=(Re.of z-Re.of x)+(Re.of x- -b) from aS fun k=>by simp only[ak,ao];grind]
    exact j8 (of_le hxz) hx.1
   ·rw[show-a-Re.of z=(Re.of y-Re.of z)+(-a-Re.of y) from aS fun k=>by simp only[ak,ao];grind]
    exact j8 (of_le hzy) hy.2
  have hk:=Md hc (by omega) T.mem m2 fun p q hq hm=>(T.min p q hq hm).2
  rw[hk,e2,Rat.neg_neg]
theorem KB {a b:Re}{z:Int}(hb:aw (b-Re.of (z:Rat))=1) (hl: ∀k:Int,aw (b-Re.of (k:Rat))=1→k≤z) (ha:aw (Re.of (z:Rat)-a)=1) (T:TMin (BW (-b) (-a)) P Q): -(fr P Q)=(z:Rat):=by
 have e:fr (-z) 1= -(z:Rat):=yI (by decide) (by rw[UJ,tQ,Rat.mul_one])
 obtain⟨m1,m2⟩:=T.min (-z) 1 (by decide) (by rw[e,x7,Rat.neg_neg];exact⟨ha,hb⟩)
 have hq:=T.q
 have hQ:Q=1:=by omega
 subst hQ
 have hf:=kP (p:=P) (q:=1) (by decide)
 rw[UJ,Rat.mul_one] at hf
 have hm:=(x7 _).1 T.mem
 rw[hf,←tQ] at hm
 have:=hl _ hm.2
 grind
theorem rz8 (h1: -pw 213≤n+1) (h2:n≤0):Sz 214 n:=by
 have h3:pw 213+1<pw 214:=AW 213
 exact⟨by omega,by omega⟩
theorem QY (L:Lv A B C D E F n) (aN:aw (aA A B C)<0) (bN:aw (aA D E F)≤0) (hb:aw (aA D E F-Re.of ((n+1:Int):Rat))≤0) (R:Res (A-(n:Rat)) B C (D-(n:Rat)) E F P2 Q2) (x1:aw (Re.of ((n+1:Int):Rat)-aA A B C)=1):
 Ok Tryz.prog 96 [.a (cR A++cR B++cR C),.a (cR D++cR E++cR F)] [dR ((n:Rat)+fr P2 Q2)]:=by
 have c0:((0:Int):Rat)=0:=rfl
 have nz: ∀ {k:Int},Lv (A-(n:Rat)) B C (D-(n:Rat)) E F k→0≤aw (aA (A-(n:Rat)) B C)→k=0:=by
  intro k L2 a0
  have f1:cH (Re.of ((oB (A-(n:Rat)) B C:Int):Rat)) (aA (A-(n:Rat)) B C):=(sF L2.v1.c0).1
  have f2:=vr (x:=A-(n:Rat)) (y:=B) L2.v1.c0 L2.v1.v
  rw[←L2.nf] at f1 f2
  have k1:=pS (n:=0) (xl a0) f2
  have k2:=kO.1 k1
  have x2:aw (Re.of ((1:Int):Rat)-aA (A-(n:Rat)) B C)=1:=by
   rw[show Re.of ((1:Int):Rat)-aA (A-(n:Rat)) B C=Re.of ((n+1:Int):Rat)-aA A B C from aS fun k=>by
    simp only[aA,ak,ao,am,aE,i5];grind];exact x1
  have k3:=pS f1 x2
  have k4:=kO.1 k3
  omega
 have eD:D-(n:Rat)-((0:Int):Rat)=D-(n:Rat):=by rw[c0];grind
 have eA:A-(n:Rat)-((0:Int):Rat)=A-(n:Rat):=by rw[c0];grind
 have o0:Re.of ((0:Int):Rat)=Re.of 0:=rfl
 have hg:decide (bi (D-((n:Rat)+1)) E F>0)=false:=decide_eq_false (by rw[sV L.v2.c0,←G6];omega)
 cases R with
 |whole L2 a0 h=>
  exfalso
  have e:=nz L2 a0
  subst e
  rw[show aA (D-(n:Rat)) E F-Re.of ((0+1:Int):Rat)=aA D E F-Re.of ((n+1:Int):Rat) from aS fun k=>by
   simp only[aA,ak,ao,am,aE,i5,c0];grind] at h
  omega
 | @last _ _ _ _ _ _ w k m L2 a0 h hbn hz hw hm tA tB m0 mz=>
   have e:=nz L2 a0
   subst e
   rw[eD] at hw hm tA
   rw[o0,WC] at hz
   have oT:=wm (tA.mono (by decide)) (tB.mono (by decide)) L.kF (O5 L.v2 hw)
   rw[←hm] at oT
   rw[L5 0 m0,c0,Rat.zero_add]
   exact WO L (nk L.v1.c0) (decide_eq_true aN) (decide_eq_false (by omega)) (nk L.v2.c0) (decide_eq_false (by omega)) L.flA rfl hg (L.sh.trans (by rw[←gn,hz])) (d:=0) rfl hw mz oT (U4 m0)
 | @step _ _ _ _ _ _ w1 w2 k P Q L2 a0 h hbn hz hw1 hw2 R p0 q0 z=>
   have e:=nz L2 a0
   subst e
   rw[eD] at hw2 R
   rw[eA] at hw1 R
   rw[o0,WC] at hz
   rw[yw p0 q0,c0,Rat.zero_add]
   exact WB L (nk L.v1.c0) (decide_eq_true aN) (decide_eq_false (by omega)) (nk L.v2.c0) (decide_eq_false (by omega)) L.flA rfl hg (L.sh.trans (by rw[←gn,hz])) (d:=1) rfl hw2 hw1 (P8 R) z (Vq p0 q0)
end
end Go.Proofs.YtkmdgigkbhmilaaGreat
