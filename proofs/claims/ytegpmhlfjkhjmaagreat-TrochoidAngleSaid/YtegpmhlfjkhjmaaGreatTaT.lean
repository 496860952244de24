/-Plain:the simplest fraction between two values:sizes,and the search as a whole. -/
import Derived.Test.YtegpmhlfjkhjmaaGreatTaS
namespace Go.Proofs.YtegpmhlfjkhjmaaGreat
open Go Go.RowKit
variable {P P2 Q Q2 c c0 d d0 m m2 n n1 na nb:Int}{K k:Nat}{A B C D E F N e w1 w2 x y z:Rat}{X a b:Re}
theorem vN:type_of% @Tryz.func269:=@Tryz.func269
theorem NY (he:0<e) (h:cH (Re.of e) X):aB X=1:=by
 have h0:=yB (et (of_le (show(0:Rat)≤e by grind)) h)
 rcases bg X with g|g|g
 ·exact g
 ·exfalso
  have h1:aB (X-Re.of e- -(Re.of e))=0:=by
   rw[show X-Re.of e- -(Re.of e)=X from aM fun k=>by simp only[aj,aV];grind];exact g
  have h2:=cY h1
  rw[bG,vT he] at h2
  have h3:0≤aB (X-Re.of e):=h
  omega
 grind
theorem Z1 {x y:Re}(h:0≤aB x) (g:0≤aB y):0≤aB (x+y):=by
 have:=fD (yx h) (yx g)
 rw[show Re.of 0+Re.of 0=Re.of 0 from aM fun k=>by simp only[aD,aK];grind] at this
 exact yB this
theorem We (h:0<x):1/(x+1)<1/x:=by
 have h1:0<x+1:=by grind
 have e1:1/x*x=1:=by grind
 have e2:1/(x+1)*(x+1)=1:=by grind
 have p1:=XJ h1
 generalize 1/x=u at*
 generalize 1/(x+1)=v at*
 apply fe
 intro hn
 have h2:=qQ (show u≤v by grind) (show 0≤x by grind)
 grind
theorem UV {k N:Int}(h:0<N):fr (k+1) N=fr k N+1/(N:Rat):=by
 refine vx h ?_
 have e1:=ij (p:=k) h
 have e2:1/(N:Rat)*(N:Rat)=1:=rK (MP (by omega))
 grind
theorem BN (K:Nat):pw K+1<pw (K+1):=by
 rw[dT];have:=cU K;omega
theorem YZ (K:Nat):(pw K+1)*pw K+1<pw (K+K+1):=by
 rw[dT,qv]
 have h:=cU K
 have h1:=m8 h (show 0≤pw K by omega)
 grind
theorem TMin.bound (hv:Vl y z) (h:TMin (uR (az x y z) b) P Q) (au:cH (az x y z) (Re.of ((pw K:Int):Rat))) (gap:cH (Re.of (1/((pw K:Int):Rat))) (b-az x y z)):P<pw (K+K+1)∧Q<pw (K+1):=by
 have hp:=cU K
 have p1:=BN K
 have p2:=YZ K
 have hN:0<pw K+1:=by omega
 have hNr:=o5 hN
 have hK:=pJ K
 have hg:=We hK
 have hvs:y*((pw K+1:Int):Rat)≠0→0<z∧kg z=false:=fun e=>hv.v (by intro e2;apply e;rw[e2,Rat.zero_mul])
 have es:az (x*((pw K+1:Int):Rat)) (y*((pw K+1:Int):Rat)) z=Re.of ((pw K+1:Int):Rat)*az x y z:=aM fun i=>by simp only[az,aD,aE,aK];grind
 have f1:cH (Re.of ((oV (x*((pw K+1:Int):Rat)) (y*((pw K+1:Int):Rat)) z:Int):Rat)) (az (x*((pw K+1:Int):Rat)) (y*((pw K+1:Int):Rat)) z):=(tV hv.c0).1
 have f2:=wz (x:=x*((pw K+1:Int):Rat)) (y:=y*((pw K+1:Int):Rat)) hv.c0 hvs
 rw[es] at f1 f2
 have f3:=et f1 (KO hNr au)
 rw[dO,←dD] at f3
 have f4:=fm.1 (gC f3)
 generalize oV (x*((pw K+1:Int):Rat)) (y*((pw K+1:Int):Rat)) z=k at*
 have e0:=ij (p:=k) hN
 have e1:=ij (p:=k+1) hN
 have e3:=UV (k:=k) hN
 have g1:aB (Re.of (fr (k+1) (pw K+1))-az x y z)=1:=by
  rw[show Re.of ((k+1:Int):Rat)-Re.of ((pw K+1:Int):Rat)*az x y z=Re.of ((pw K+1:Int):Rat)*(Re.of (fr (k+1) (pw K+1))-az x y z) from aM fun i=>by
   simp only[aj,aE,aK];rw[←e1];grind,aY,vT hNr,js] at f2
  grind
 have g3:0≤aB (az x y z-Re.of (fr k (pw K+1))):=by
  refine tu (d:=((pw K+1:Int):Rat)) hNr ?_
  rw[dO,show((pw K+1:Int):Rat)*fr k (pw K+1)=(k:Rat) from by rw[Rat.mul_comm];exact e0]
  grind
 have g2:aB (b-Re.of (fr (k+1) (pw K+1)))=1:=by
  have h0:0<1/((pw K:Int):Rat)-1/((pw K+1:Int):Rat):=by grind
  refine NY h0 ?_
  have h1:0≤aB (b-az x y z-Re.of (1/((pw K:Int):Rat))):=gap
  have h2:=Z1 h1 g3
  show 0≤aB _
  rw[e3]
  rw[show b-Re.of (fr k (pw K+1)+1/((pw K+1:Int):Rat))-Re.of (1/((pw K:Int):Rat)-1/((pw K+1:Int):Rat))=b-az x y z-Re.of (1/((pw K:Int):Rat))+(az x y z-Re.of (fr k (pw K+1))) from aM fun i=>by
   simp only[aj,aD,aK];grind]
  grind
 obtain⟨m1,m2⟩:=h.min (k+1) (pw K+1) hN ⟨g1,g2⟩
 grind
theorem TMin.rz {S:Rat→Prop}(h:TMin S P Q) (hP:P<pw k) (hQ:Q<pw k):Rz k (fr P Q):=by
 obtain⟨e1,e2⟩:=h.den
 have:=h.p
 exact⟨by rw[e1];exact⟨by omega,by omega⟩,by rw[e2];exact⟨by omega,by omega⟩⟩
section
variable {A0 B0 C D0 E0 F A B D E:Rat}{p q r s n:Int}
theorem Bn {x:Int}(h0:0≤x) (h:x≤pw k):Rz (k+1) (x:Rat):=by
 have:=BN k
 exact fu ⟨by omega,by omega⟩ (by omega)
theorem Ym {r s:Int}(hr:r≤pw 3420) (hs:s≤pw 3420):pw 425*(r+s)≤pw 3846:=by
 have h1:=m8 (show r+s≤2*pw 3420 by omega) (show 0≤pw 425 by have:=cU 425;omega)
 have h2:pw 3845=pw 425*pw 3420:=qv 425 3420
 have h3:pw 3846=1000000000*pw 3845:=dT 3845
 have h5:=cU 3845
 grind
theorem BSt.szs (S:BSt (pw 425) 3420 A0 B0 C D0 E0 F p q r s A B D E) (hA:Rz 660 A0) (hB:Rz 660 B0) (hC:Rz 660 C) (hD:Rz 660 D0) (hE:Rz 660 E0) (hF:Rz 660 F):(Rz 50000 A∧Rz 50000 B)∧Rz 50000 D∧Rz 50000 E:=by
 have hu:=Ym S.rh S.sh
 have rp:=Bn S.p0 (Int.le_trans S.pU hu)
 have rq:=Bn S.q0 (Int.le_trans S.qU hu)
 have rr:=Bn S.r0 S.rh
 have rs:=Bn S.s0 S.sh
 obtain⟨a1,a2⟩:=S.m1.sz S.v1.v hA hB hC rp rq rr rs
 obtain⟨b1,b2⟩:=S.m2.sz S.v2.v hD hE hF rp rq rr rs
 exact⟨⟨a1.mono (by decide),a2.mono (by decide)⟩,b1.mono (by decide),b2.mono (by decide)⟩
theorem BSt.last_sz (S:BSt (pw 425) 3420 A0 B0 C D0 E0 F p q r s A B D E) (hD:Rz 660 D0) (hE:Rz 660 E0) (hF:Rz 660 F) (hn:0≤n) (x0:cH (Re.of (n:Rat)) (az A B C)) (x1:cH (az A B C) (Re.of ((n+1:Int):Rat))) (y1:cH (az D E F) (Re.of ((n+1:Int):Rat)))
 {w2:Rat}(hw2:((D-(n:Rat))*(D-(n:Rat))-E*E*F)*w2=1) (t1:cH (Re.of 1) (az ((D-(n:Rat))*w2) (-E*w2) F)):Rz 50000 ((D-(n:Rat))*w2)∧Rz 50000 (-E*w2):=by
 have hrn:=fU S.r0 hn
 have hpn:=fU S.p0 hn
 have s0:=S.s0
 have r0:=S.r0
 have q0:=S.q0
 have hrb:=S.next_r hn x0 x1 y1
 have m1':=(S.m2.shift n).inv hw2
 have hp:=Xb S.p0 r0 (by omega) (m1'.real S.v2.c0) t1 S.W0 S.WU
 have rp:=Bn (show 0≤p*n+q by omega) (Int.le_trans hp (Ym hrb S.rh))
 have rq:=Bn S.p0 (Int.le_trans S.pU (Ym S.rh S.sh))
 have rr:=Bn (show 0≤r*n+s by omega) hrb
 have rs:=Bn S.r0 S.rh
 obtain⟨a1,a2⟩:=m1'.sz S.v2.v hD hE hF rp rq rr rs
 exact⟨a1.mono (by decide),a2.mono (by decide)⟩
end
structure Lv (A B C D E F:Rat) (n:Int):Prop where
 hA:Rz 50000 A
 hB:Rz 50000 B
 hC:Rz 660 C
 hD:Rz 50000 D
 hE:Rz 50000 E
 hF:Rz 660 F
 v1:Vl B C
 v2:Vl E F
 ab:aB (az D E F-az A B C)=1
 nf:n=oV A B C
 nz:Sz 6841 n
section
variable {A B C D E F w:Rat}{n:Int}
theorem Lv.kA (L:Lv A B C D E F n):Rz 160000 A:=L.hA.mono (by decide)
theorem Lv.kB (L:Lv A B C D E F n):Rz 160000 B:=L.hB.mono (by decide)
theorem Lv.kC (L:Lv A B C D E F n):Rz 160000 C:=L.hC.mono (by decide)
theorem Lv.kD (L:Lv A B C D E F n):Rz 160000 D:=L.hD.mono (by decide)
theorem Lv.kE (L:Lv A B C D E F n):Rz 160000 E:=L.hE.mono (by decide)
theorem Lv.kF (L:Lv A B C D E F n):Rz 160000 F:=L.hF.mono (by decide)
theorem Lv.zn (L:Lv A B C D E F n):Rz 6841 (n:Rat):=fu L.nz (by decide)
theorem Lv.zn1 (L:Lv A B C D E F n):Rz 6843 ((n:Rat)+1):=L.zn.add (l:=1) (o7 (by decide+kernel))
theorem Lv.dn (L:Lv A B C D E F n):Rz 160000 (D-(n:Rat)):=(L.hD.sub L.zn).mono (by decide)
theorem Lv.an (L:Lv A B C D E F n):Rz 160000 (A-(n:Rat)):=(L.hA.sub L.zn).mono (by decide)
theorem Lv.dn1 (L:Lv A B C D E F n):Rz 160000 (D-((n:Rat)+1)):=(L.hD.sub L.zn1).mono (by decide)
theorem Nz:((1:Int):Rat)=1:=rfl
theorem Bx (n:Int):Re.of ((n+1:Int):Rat)=Re.of ((n:Rat)+1):=by rw[gz];rfl
theorem x5 {d:Rat}(hz:0≤z):fN (x-d) y (-0) 0 z 0=aB (az x y z-Re.of d):=by
 rw[nL (d:=d) (e:=0) hz tQ]
 exact congrArg aB (aM fun k=>by simp only[az,aj,aD,aE,aK];grind)
theorem uh {d:Rat}(hz:0≤z):bD (x-d) y z=aB (az x y z-Re.of d):=by
 rw[jn hz]
 exact congrArg aB (aM fun k=>by simp only[az,aj,aD,aE,aK];grind)
theorem Qu {w:Rat}(h:N*w=1):1/N=w∧N≠0:=by grind
theorem Wx {w:Rat}(x:Rat) (h:N*w=1):x/N=x*w:=by grind
theorem Te {d w:Rat}(hv:Vl y z) (hw:((x-d)*(x-d)-y*y*z)*w=1):Vl (-y*w) z:=by
 refine⟨hv.c0,fun e=>hv.v fun e2=>e (by rw[e2];grind),fun e=>hv.z ?_⟩
 grind
theorem KS {d w:Rat}(hv:Vl y z) (hs:aB (az x y z-Re.of d)=1) (hw:((x-d)*(x-d)-y*y*z)*w=1):
 vV (x-d) y z≠0∧(x-d)*(x-d)-y*y*z≠0∧IR (x-d) y z=w∧zc (-y*w) z=z:=by
 obtain⟨h1,h2⟩:=Qu hw
 refine⟨?_,h2,h1,?_⟩
 ·rw[IA hv.c0 (fun e=>(hv.v e).1),show az (x-d) y z=az x y z-Re.of d from aM fun k=>by simp only[az,aj,aD,aE,aK];grind,hs];decide
 ·unfold zc
  split
  ·rename_i e
   have hw0:w≠0:=fun e2=>by rw[e2,Rat.mul_zero] at hw;exact absurd hw (by decide)
   rcases AZ.1 e with g|g
   ·exact(hv.z (by grind)).symm
   ·exact absurd g hw0
  ·rfl
end
inductive Res:Rat→Rat→Rat→Rat→Rat→Rat→Int→Int→Prop
 |whole {A B C D E F:Rat}{n:Int}(L:Lv A B C D E F n) (a0:0≤aB (az A B C)) (h:aB (az D E F-Re.of ((n+1:Int):Rat))=1):Res A B C D E F (n+1) 1
 |last {A B C D E F w:Rat}{n m:Int}(L:Lv A B C D E F n) (a0:0≤aB (az A B C)) (h:aB (az D E F-Re.of ((n+1:Int):Rat))≤0) (hb:aB (az D E F-Re.of (n:Rat))=1) (hz:aB (az A B C-Re.of (n:Rat))=0)
   (hw:((D-(n:Rat))*(D-(n:Rat))-E*E*F)*w=1) (hm:m=oV ((D-(n:Rat))*w) (-E*w) F) (tA:Rz 50000 ((D-(n:Rat))*w)) (tB:Rz 50000 (-E*w)) (m0:0≤m) (mz:Sz 6841 m):Res A B C D E F (n*(m+1)+1) (m+1)
 |step {A B C D E F w1 w2:Rat}{n P Q:Int}(L:Lv A B C D E F n) (a0:0≤aB (az A B C)) (h:aB (az D E F-Re.of ((n+1:Int):Rat))≤0) (hb:aB (az D E F-Re.of (n:Rat))=1) (hz:aB (az A B C-Re.of (n:Rat))=1)
   (hw1:((A-(n:Rat))*(A-(n:Rat))-B*B*C)*w1=1) (hw2:((D-(n:Rat))*(D-(n:Rat))-E*E*F)*w2=1) (R:Res ((D-(n:Rat))*w2) (-E*w2) F ((A-(n:Rat))*w1) (-B*w1) C P Q)
   (p0:0<P) (q0:0<Q) (z:Rz 13681 (fr P Q)):Res A B C D E F (n*P+Q) P
section
variable {A0 B0 C D0 E0 F A B D E:Rat}{p q r s:Int}
theorem jW {x y:Re}(h:0≤aB x) (g:aB y=1):aB (x+y)=1:=by
 rcases Int.lt_or_eq_of_le h with e|e
 ·have:aB x=1:=by rcases bg x with c|c|c<;>omega
  rw[jF (by omega)];exact this
 ·rw[show x+y=y+x from aM fun k=>by simp only[aD];grind,dH _ e.symm];exact g
theorem WB {x:Int}(h0:0≤x) (h:x≤pw (3420+3420)):Sz 6841 x:=by
 have h1:pw 6840+1<pw 6841:=BN 6840
 have h2:x≤pw 6840:=h
 exact⟨by omega,by omega⟩
theorem BSt.res (hA:Rz 660 A0) (hB:Rz 660 B0) (hC:Rz 660 C) (hD:Rz 660 D0) (hE:Rz 660 E0) (hF:Rz 660 F) (S:BSt (pw 425) 3420 A0 B0 C D0 E0 F p q r s A B D E) (k:Nat) (hk:3*pw 3420<2*r+s+k):
 ∃P Q:Int,Res A B C D E F P Q∧TMin (uR (az A B C) (az D E F)) P Q:=by
 induction k generalizing A0 B0 C D0 E0 F p q r s A B D E with
 |zero=>exfalso;have:=S.rh;have:=S.sh;omega
 |succ k ih=>
  obtain⟨⟨zA,zB⟩,zD,zE⟩:=S.szs hA hB hC hD hE hF
  have vA:=S.m1.vl S.v1
  have vD:=S.m2.vl S.v2
  have f1:cH (Re.of ((oV A B C:Int):Rat)) (az A B C):=(tV vA.c0).1
  have f2:=wz (x:=A) (y:=B) vA.c0 vA.v
  obtain⟨hn0,_⟩:=S.n0 f2
  have hnu:=fm.1 (gC (et f1 S.au))
  have L:Lv A B C D E F (oV A B C):=⟨zA,zB,hC,zD,zE,hF,vA,vD,S.ab,rfl,WB hn0 hnu⟩
  generalize oV A B C=n at*
  by_cases hb:aB (az D E F-Re.of ((n+1:Int):Rat))=1
  ·exact⟨_,_,.whole L S.a0 hb,J7 hn0 f1 f2 hb⟩
  have hb':aB (az D E F-Re.of ((n+1:Int):Rat))≤0:=by rcases bg (az D E F-Re.of ((n+1:Int):Rat)) with c|c|c<;>omega
  have y1:cH (az D E F) (Re.of ((n+1:Int):Rat)):=by unfold cH;rw[eJ];omega
  have hbn:aB (az D E F-Re.of (n:Rat))=1:=by
   rw[show az D E F-Re.of (n:Rat)=(az A B C-Re.of (n:Rat))+(az D E F-az A B C) from aM fun k=>by simp only[aj,aD];grind]
   exact jW f1 S.ab
  have nb:(D-(n:Rat))*(D-(n:Rat))-E*E*F≠0:=ME vD.v (by rw[gh,hbn];decide)
  have hw2:((D-(n:Rat))*(D-(n:Rat))-E*E*F)*(1/((D-(n:Rat))*(D-(n:Rat))-E*E*F))=1:=by rw[Rat.mul_comm];exact rK nb
  generalize 1/((D-(n:Rat))*(D-(n:Rat))-E*E*F)=w2 at hw2
  have i2:aB ((az D E F-Re.of (n:Rat))*az ((D-(n:Rat))*w2) (-E*w2) F-Re.of 1)=0:=by
   rw[←gh];exact BM S.v2.c0 hw2
  have b1:=inv_pos i2 hbn
  have gb:cH (Re.of (1/((pw (3420+3420):Int):Rat))) (az D E F-Re.of (n:Rat)):=by
   refine et S.gap ?_
   show 0≤aB _
   rw[show az D E F-Re.of (n:Rat)-(az D E F-az A B C)=az A B C-Re.of (n:Rat) from aM fun k=>by simp only[aj];grind]
   exact f1
  have bu:=Rv i2 hbn gb
  by_cases hz:aB (az A B C-Re.of (n:Rat))=0
  ·have vI:Vl (-E*w2) F:=((S.m2.shift n).inv hw2).vl S.v2
   have g1:cH (Re.of ((oV ((D-(n:Rat))*w2) (-E*w2) F:Int):Rat)) (az ((D-(n:Rat))*w2) (-E*w2) F):=(tV vI.c0).1
   have g2:=wz (x:=(D-(n:Rat))*w2) (y:= -E*w2) vI.c0 vI.v
   have hmu:=fm.1 (gC (et g1 bu))
   have hm0:0≤oV ((D-(n:Rat))*w2) (-E*w2) F:=by
    have:=qJ (x:=((oV ((D-(n:Rat))*w2) (-E*w2) F+1:Int):Rat)) (n:=0) (yx (by omega)) g2
    have:=iF.1 this
    omega
   have le1:cH (az D E F-Re.of (n:Rat)) (Re.of 1):=Do (n:=n) y1 (iq _)
   obtain⟨tA,tB⟩:=S.last_sz hD hE hF hn0 f1 (by unfold cH;omega) y1 hw2 (Qt i2 hbn le1)
   have R:=Res.last L S.a0 hb' hbn hz hw2 rfl tA tB hm0 (WB hm0 hmu)
   refine⟨_,_,R,?_⟩
   exact TMin.step hn0 (KQ hm0 g1 g2) (PK hz i2 b1)
  ·have hz1:aB (az A B C-Re.of (n:Rat))=1:=by
    have h0:0≤aB (az A B C-Re.of (n:Rat)):=f1
    rcases bg (az A B C-Re.of (n:Rat)) with c|c|c<;>omega
   have na:(A-(n:Rat))*(A-(n:Rat))-B*B*C≠0:=ME vA.v (by rw[gh,hz1];decide)
   have hw1:((A-(n:Rat))*(A-(n:Rat))-B*B*C)*(1/((A-(n:Rat))*(A-(n:Rat))-B*B*C))=1:=by grind
   generalize 1/((A-(n:Rat))*(A-(n:Rat))-B*B*C)=w1 at hw1
   have i1:aB ((az A B C-Re.of (n:Rat))*az ((A-(n:Rat))*w1) (-B*w1) C-Re.of 1)=0:=by
    rw[←gh];exact BM S.v1.c0 hw1
   have a1:=inv_pos i1 hz1
   obtain⟨S',hlt,_⟩:=S.step f1 f2 y1 hz1 hw1 hw2
   obtain⟨P,Q,R,T⟩:=ih hD hE hF hA hB hC S' (by omega)
   obtain⟨t1,t2⟩:=T.bound (S'.m1.vl S'.v1) S'.au S'.gap
   have t3:pw (3420+3420+1)≤pw (3420+3420+(3420+3420)+1):=mv (by decide)
   have z:=T.rz t1 (Int.lt_of_lt_of_le t2 t3)
   exact⟨_,_,.step L S.a0 hb' hbn hz1 hw1 hw2 R T.p T.q z,TMin.step hn0 T (Pc f1 i1 a1 i2 b1)⟩
end
theorem b4 {a b c d:Rat}(ha:Rz 6000000 a) (hd:Rz 6000000 d) (h1:Rz 2000000 (a-d)) (hb:Rz 2000000 b) (hc:Rz 2000000 c):Ok Tryz.prog 86 [.a ((cR a++cR b++cR c)),dR d] [.c (.i .i64 (bD (a-d) b c))]:=by
 refine b9 Tryz.func86 rfl<|dF 10 [] ?_
 refine aI rfl (fG ha hd) ?_
 refine aI rfl (Ah h1 hb hc) ?_
 exact ai (ak ag)
theorem EM:Ok Tryz.prog 372 [dI n] [dR (n:Rat)]:=by
 refine b9 Tryz.func372 rfl<|dF 3 [] ?_
 refine aI rfl ((show Ok Tryz.prog 66 [.c (.i .i64 1)] [dI 1] from ni (by decide) (by decide))) ?_
 refine aq (aF (us:=cQ n 1) v5 vg rfl rfl rfl) ?_
 refine ai ?_
 rw[JR]
 exact bj bU rfl ag
theorem oC {a b c d:Rat}(ha:Rz 6000000 a) (hd:Rz 6000000 d):Ok Tryz.prog 338 [.a ((cR a++cR b++cR c)),dR d] [.a ((cR (a-d)++cR b++cR c))]:=by
 refine b9 Tryz.func338 rfl<|ac rfl (fG ha hd) ?_
 refine r9 (br (us:=(cR (a-d)++cR b++cR c)) bU rfl rfl rfl rfl (gj rfl) rfl rfl) ?_
 exact ai (bj d9 rfl ag)
theorem nN {a b c w:Rat}(ha:Rz 400000 a) (hb:Rz 400000 b) (hc:Rz 400000 c) (hw:(a*a-b*b*c)*w=1):Ok Tryz.prog 339 [.a ((cR a++cR b++cR c))] [.a ((cR (a*w)++cR (-b*w)++cR c))]:=by
 have ka:Rz 6000000 a:=ha.m_
 have kb:Rz 6000000 b:=hb.m_
 have kc:Rz 6000000 c:=hc.m_
 have kn:Rz 6000000 (a*a-b*b*c):=((ha.mul ha).sub ((hb.mul hb).mul hc)).m_
 refine b9 Tryz.func339 rfl<|dF 15 [] ?_
 refine aI rfl (ce (bk ha) (bk ha)) ?_
 refine aI rfl (ce (bk hb) (bk hb)) ?_
 refine aI rfl (ce (bk (a8 hb hb)) (bk hc)) ?_
 refine aI rfl (fG (bk (a8 ha ha)) (bk (a8 (a8 hb hb) hc))) ?_
 refine ac rfl (xk (oM ka kn (Qu hw).2) (Wx _ hw))<|dF 11 [6,999999] ?_
 refine aI rfl (Dz kb) ?_
 refine aI rfl (xk (oM kb.neg kn (Qu hw).2) (Wx _ hw)) ?_
 refine DQ.mk<|gD (eQ bU rfl) rfl rfl rfl rfl<|dP ?_
 refine ar (aF (us:=(cR (a*w)++cR (-b*w)++cR c)) nA lW rfl rfl rfl) ?_
 exact ai (bj d9 rfl ag)
theorem Sz.near {x:Int}(h:Sz k x) (h1:x-3≤n) (h2:n≤x+3):Sz (k+1) n:=by
 have e:=dT k
 have p:=cU k
 have a:=h.1
 have b:=h.2
 exact⟨by omega,by omega⟩
theorem yfl {a b c:Rat}(ha:Rz 160000 a) (hb:Rz 160000 b) (hc:Rz 160000 c) {s N F:Int}(h1:aX b 0<0→s= -bZ ((b*b*c).num.fdiv ((b*b*c).den:Int))) (h2: ¬aX b 0<0→s=bZ ((b*b*c).num.fdiv ((b*b*c).den:Int))) (ss:Sz 480000 s) (en:((a.num.fdiv (a.den:Int):Int):Rat)+((s:Int):Rat)=(N:Rat)) (hn:Sz 500000 N) (h0:F-1≤N∧N≤F+1) (hF: ∀m:Int,bD (a-(m:Rat)) b c<0↔F<m):Ok Tryz.prog 337 [.a ((cR a++cR b++cR c))] [dR (((F:Int):Rat))]:=by
 have o1:Rz 6000000 (1:Rat):=o7 (by decide+kernel)
 have ka:Rz 6000000 a:=ha.m_
 have pb:Rz 480000 (b*b*c):=((hb.mul hb).mul hc).m_
 have q1:Rz 6000000 (b*b):=(hb.mul hb).m_
 have kb:Rz 6000000 b:=hb.m_
 have kc:Rz 6000000 c:=hc.m_
 have kq:Rz 6000000 (b*b*c):=pb.m_
 have fq:Sz 480000 ((b*b*c).num.fdiv ((b*b*c).den:Int)):=pb.n.fdiv
 have tq:Sz 480000 (bZ ((b*b*c).num.fdiv ((b*b*c).den:Int))):=fq.isq
 have ku:Rz 6000000 ((a.num.fdiv (a.den:Int):Int):Rat):=(fu (ha.n.fdiv (y:=(a.den:Int))) (by decide)).m_
 have kt:Rz 6000000 ((s:Int):Rat):=(fu ss (by decide)).m_
 have Y: ∀m:Int,N-3≤m→m≤N+3→Rz 500003 (m:Rat):=fun m q1 q2=>fu ((hn.near q1 q2).m_) (by decide)
 have K: ∀m:Int,N-3≤m→m≤N+3→Rz 6000000 (m:Rat):=fun m q1 q2=>(Y m q1 q2).m_
 have Z: ∀m:Int,N-3≤m→m≤N+3→Rz 2000000 (a-(m:Rat)):=fun m q1 q2=>(ha.sub (Y m q1 q2)).m_
 refine eo Tryz.func337 51 [.cell 2 38] rfl<|ae<|ah<|ae<|cX 16 [3,999999] ?_
 refine aI rfl (ce kb kb) ?_
 refine aI rfl (ce q1 kc) ?_
 refine aI rfl (DO kq) ?_
 refine aI rfl (I8 (fq.m_)) ?_
 refine DQ.mk<|gD (eQ d5 rfl) rfl rfl rfl rfl<|dP ?_
 refine pr (ι:=Unit) (fun i=>⟨51,[(1,.p 1 0),(2,.p 2 0),(3,.p 3 0)],[(1,129,(cR a++cR b++cR c)),(2,38,(([.b false]++[.s 0 []])++([.b false]++[.s 0 []]))),(3,36,cI s)]⟩) ?_ ?_
 ·refine ae<|ah ?_
  refine ac rfl (qf) ?_
  refine aP rfl (fun hc1=>?_) (fun hc1=>?_)
  ·have es:s= -bZ ((b*b*c).num.fdiv ((b*b*c).den:Int)):=h1 (of_decide_eq_true hc1)
   refine ah ?_
   refine ac rfl (An (tq.m_)) ?_
   exact⟨(),ap (bo rfl) ⟨rfl,rfl,congrArg (fun q=>some (36,cI q)) (es.symm),trivial⟩ rfl⟩
  ·have es:s=bZ ((b*b*c).num.fdiv ((b*b*c).den:Int)):=h2 (of_decide_eq_false hc1)
   refine aA ?_
   exact⟨(),ap (bo rfl) ⟨rfl,rfl,congrArg (fun q=>some (36,cI q)) (es.symm),trivial⟩ rfl⟩
 ·rintro⟨⟩
  try dsimp only
  refine ae<|ah<|ac rfl ((show Ok Tryz.prog 18 [.c (.i .i64 1)] [dR 1] from eG (by omega) (by omega)))<|ae<|cX 8 [] ?_
  refine aI rfl (DO ka) ?_
  refine aI rfl (EM) ?_
  refine aI rfl (EM) ?_
  refine aI rfl (kJ (da ku kt) en) ?_
  refine ae<|aG<|bv (ι:={n:Int // F-1≤n∧n≤F+1}) (fun i=>⟨51,[(1,.p 1 0),(2,.p 2 0),(5,.p 5 0),(6,.p 6 0)],[(1,129,(cR a++cR b++cR c)),(2,38,(([.b false]++[.s 0 []])++([.b false]++[.s 0 []]))),(5,38,cR 1),(6,38,cR (((i.1:Int):Rat)))]⟩) (fun i=>(i.1-F).toNat) ⟨N,h0⟩ (ap (bo rfl) (bo rfl) rfl) ?_
  rintro⟨n,k1,k2⟩
  replace k1:F-1≤n:=k1
  replace k2:n≤F+1:=k2
  dsimp only
  refine ae<|ae<|ah ?_
  refine ac rfl (b4 ka (K _ (by omega) (by omega)) (Z _ (by omega) (by omega)) (hb.m_) (hc.m_)) ?_
  refine aP rfl (fun hc2=>?_) (fun hc2=>?_)
  ·have g1:F<n:=(hF n).1 (of_decide_eq_true hc2)
   refine aA<|aG<|ah ?_
   refine ac rfl (kJ (fG (K _ (by omega) (by omega)) o1) (ri n 1).symm) ?_
   exact⟨⟨n-1,by omega⟩,ap (bo rfl) (bo rfl) rfl,by show(n-1-F).toNat<(n-F).toNat;omega⟩
  ·have g1: ¬F<n:=fun q=>of_decide_eq_false hc2 ((hF n).2 q)
   refine bV<|ae<|aG<|bv (ι:={n:Int // F-1≤n∧n≤F}) (fun i=>⟨51,[(1,.p 1 0),(2,.p 2 0),(5,.p 5 0),(6,.p 6 0)],[(1,129,(cR a++cR b++cR c)),(2,38,(([.b false]++[.s 0 []])++([.b false]++[.s 0 []]))),(5,38,cR 1),(6,38,cR (((i.1:Int):Rat)))]⟩) (fun i=>(F-i.1).toNat) ⟨n,by omega⟩ (ap (bo rfl) (bo rfl) rfl) ?_
   rintro⟨n,k1,k2⟩
   replace k1:F-1≤n:=k1
   replace k2:n≤F:=k2
   dsimp only
   refine ae<|ae<|cX 6 [] ?_
   refine aI rfl (kJ (da (K _ (by omega) (by omega)) o1) (gz n 1).symm) ?_
   refine aI rfl (b4 ka (K _ (by omega) (by omega)) (Z _ (by omega) (by omega)) (hb.m_) (hc.m_)) ?_
   refine aP rfl (fun hc3=>?_) (fun hc3=>?_)
   ·have g2: ¬F<n+1:=fun q=>by have:=of_decide_eq_true hc3;have:=(hF (n+1)).2 q;omega
    refine aA<|aG<|ah ?_
    refine ac rfl (kJ (da (K _ (by omega) (by omega)) o1) (gz n 1).symm) ?_
    exact⟨⟨n+1,by omega⟩,ap (bo rfl) (bo rfl) rfl,by show(F-(n+1)).toNat<(F-n).toNat;omega⟩
   ·have g2:F<n+1:=(hF (n+1)).1 (by have:=of_decide_eq_false hc3;omega)
    refine bV<|ae<|ah ?_
    refine ba ?_
    rw[show F=n from by omega]
    exact ai (bj bU rfl ag)
theorem Zx (L:Lv A B C D E F n) (e0:bD (A-0) B C=c0) (g0:decide (c0<0)=false) (g1:decide (c0≥0)=true) (oA:Ok Tryz.prog 337 [.a ((cR A++cR B++cR C))] [dR (n:Rat)]) (hc:bD (D-((n:Rat)+1)) E F=c) (hg:decide (c>0)=true):Ok Tryz.prog 269 [.a ((cR A++cR B++cR C)),.a ((cR D++cR E++cR F))] [dR ((n:Rat)+1)]:=by
 have o1:Rz 6000000 (1:Rat):=o7 (by decide+kernel)
 have s1:Sz 19980000 (1:Int):=dC (by decide) (by decide) (by decide)
 have kn:Rz 6000000 (n:Rat):=L.zn.m_
 have sn:Sz 19980000 n:=L.nz.m_
 have kA:Rz 6000000 A:=L.kA.m_
 have kD:Rz 6000000 D:=L.kD.m_
 have z0:Rz 2 (0:Rat):=dW (by decide)
 have h0:Rz 6000000 (0:Rat):=dW (by decide)
 refine eo vN 81 [.cell 4 38] rfl<|ae<|ah<|ae<|ah<|ac rfl ((show Ok Tryz.prog 18 [.c (.i .i64 1)] [dR 1] from eG (by omega) (by omega)))<|ac rfl ((show Ok Tryz.prog 18 [.c (.i .i64 0)] [dR 0] from eG (by omega) (by omega)))<|ae<|ae<|bq<|bH 2<|aO (dg rfl (cb (b4 kA h0 ((L.hA.sub z0).m_) (L.kB.m_) (L.kC.m_)) e0))<|aO (aJ (dG rfl) g0) ?_
 refine gi<|bh rfl<|aA<|ae<|ah ?_
 refine ac rfl (oA)<|ae<|ah ?_
 refine ac rfl (da kn o1)<|ae<|ae<|bq<|bH 2 ?_
 refine aO (dg rfl (cb (b4 kD (L.zn1.m_) (L.dn1.m_) (L.kE.m_) (L.kF.m_)) hc)) ?_
 refine aO (aJ (dG rfl) hg) ?_
 refine bt<|cz rfl<|ae<|ae<|bq<|bH 2<|aO (dg rfl (cb (b4 kA h0 ((L.hA.sub z0).m_) (L.kB.m_) (L.kC.m_)) e0))<|aO (aJ (dG rfl) g1) ?_
 refine bt<|cz rfl<|ae<|ah ?_
 refine ba ?_
 exact ai (bj bU rfl ag)
theorem Zj (L:Lv A B C D E F n) (e0:bD (A-0) B C=c0) (g0:decide (c0<0)=false) (_g1:decide (c0≥0)=true) (oA:Ok Tryz.prog 337 [.a ((cR A++cR B++cR C))] [dR (n:Rat)]) (hc:bD (D-((n:Rat)+1)) E F=c) (hg:decide (c>0)=false) (hd:bD (A-(n:Rat)-0) B C=d) (he:(d==0)=true) (hw2:((D-(n:Rat))*(D-(n:Rat))-E*E*F)*w2=1) (hz:Sz 6841 m) (oT:Ok Tryz.prog 337 [.a ((cR ((D-(n:Rat))*w2)++cR (-E*w2)++cR F))] [dR (m:Rat)]) (y0:((m:Rat)+1)≠0):Ok Tryz.prog 269 [.a ((cR A++cR B++cR C)),.a ((cR D++cR E++cR F))] [dR ((n:Rat)+1/((m:Rat)+1))]:=by
 have o1:Rz 6000000 (1:Rat):=o7 (by decide+kernel)
 have s1:Sz 19980000 (1:Int):=dC (by decide) (by decide) (by decide)
 have kn:Rz 6000000 (n:Rat):=L.zn.m_
 have sn:Sz 19980000 n:=L.nz.m_
 have kA:Rz 6000000 A:=L.kA.m_
 have kD:Rz 6000000 D:=L.kD.m_
 have z0:Rz 2 (0:Rat):=dW (by decide)
 have h0:Rz 6000000 (0:Rat):=dW (by decide)
 have zm:Rz 6841 (m:Rat):=fu hz (by decide)
 have km:Rz 6000000 (m:Rat):=zm.m_
 have zy:Rz 6843 ((m:Rat)+1):=zm.add (l:=1) (o7 (by decide+kernel))
 have ky:Rz 6000000 ((m:Rat)+1):=zy.m_
 have kp:Rz 6000000 (1/((m:Rat)+1)):=(Rz.div (k:=1) (o7 (by decide+kernel)) zy y0).m_
 refine eo vN 81 [.cell 4 38] rfl<|ae<|ah<|ae<|ah<|ac rfl ((show Ok Tryz.prog 18 [.c (.i .i64 1)] [dR 1] from eG (by omega) (by omega)))<|ac rfl ((show Ok Tryz.prog 18 [.c (.i .i64 0)] [dR 0] from eG (by omega) (by omega)))<|ae<|ae<|bq<|bH 2<|aO (dg rfl (cb (b4 kA h0 ((L.hA.sub z0).m_) (L.kB.m_) (L.kC.m_)) e0))<|aO (aJ (dG rfl) g0) ?_
 refine gi<|bh rfl<|aA<|ae<|ah ?_
 refine ac rfl (oA)<|ae<|ah ?_
 refine ac rfl (da kn o1)<|ae<|ae<|bq<|bH 2 ?_
 refine aO (dg rfl (cb (b4 kD (L.zn1.m_) (L.dn1.m_) (L.kE.m_) (L.kF.m_)) hc)) ?_
 refine aO (aJ (dG rfl) hg) ?_
 refine bt<|bh rfl<|aA<|ae<|cX 8 [] ?_
 refine aI rfl (oC kA kn) ?_
 refine aI rfl (oC kD kn)<|ae<|ah<|ae<|ae<|bq<|bH 2 ?_
 refine aO (dg rfl (cb (b4 (L.an.m_) h0 ((L.an.sub z0).m_) (L.kB.m_) (L.kC.m_)) hd)) ?_
 refine aO (aJ (dG rfl) he) ?_
 refine bt<|cz rfl<|cX 5 [] ?_
 refine aI rfl (nN (L.dn.m_) (L.kE.m_) (L.kF.m_) hw2) ?_
 refine aI rfl (oT) ?_
 refine aI rfl (da km o1)<|ae<|ah ?_
 refine ac rfl (oM o1 ky y0)<|ae<|ah ?_
 refine ac rfl (da kn kp) ?_
 refine ba ?_
 exact ai (bj bU rfl ag)
theorem aat (L:Lv A B C D E F n) (e0:bD (A-0) B C=c0) (g0:decide (c0<0)=false) (_g1:decide (c0≥0)=true) (oA:Ok Tryz.prog 337 [.a ((cR A++cR B++cR C))] [dR (n:Rat)]) (hc:bD (D-((n:Rat)+1)) E F=c) (hg:decide (c>0)=false) (hd:bD (A-(n:Rat)-0) B C=d) (he:(d==0)=false) (hw2:((D-(n:Rat))*(D-(n:Rat))-E*E*F)*w2=1) (hw1:((A-(n:Rat))*(A-(n:Rat))-B*B*C)*w1=1) (ih:Ok Tryz.prog 269 [.a ((cR ((D-(n:Rat))*w2)++cR (-E*w2)++cR F)),.a ((cR ((A-(n:Rat))*w1)++cR (-B*w1)++cR C))] [dR (fr P Q)]) (zy:Rz 13681 (fr P Q)) (y0:fr P Q≠0):Ok Tryz.prog 269 [.a ((cR A++cR B++cR C)),.a ((cR D++cR E++cR F))] [dR ((n:Rat)+1/fr P Q)]:=by
 have o1:Rz 6000000 (1:Rat):=o7 (by decide+kernel)
 have s1:Sz 19980000 (1:Int):=dC (by decide) (by decide) (by decide)
 have kn:Rz 6000000 (n:Rat):=L.zn.m_
 have sn:Sz 19980000 n:=L.nz.m_
 have kA:Rz 6000000 A:=L.kA.m_
 have kD:Rz 6000000 D:=L.kD.m_
 have z0:Rz 2 (0:Rat):=dW (by decide)
 have h0:Rz 6000000 (0:Rat):=dW (by decide)
 have ky:Rz 6000000 (fr P Q):=zy.m_
 have kp:Rz 6000000 (1/fr P Q):=(Rz.div (k:=1) (o7 (by decide+kernel)) zy y0).m_
 refine eo vN 81 [.cell 4 38] rfl<|ae<|ah<|ae<|ah<|ac rfl ((show Ok Tryz.prog 18 [.c (.i .i64 1)] [dR 1] from eG (by omega) (by omega)))<|ac rfl ((show Ok Tryz.prog 18 [.c (.i .i64 0)] [dR 0] from eG (by omega) (by omega)))<|ae<|ae<|bq<|bH 2<|aO (dg rfl (cb (b4 kA h0 ((L.hA.sub z0).m_) (L.kB.m_) (L.kC.m_)) e0))<|aO (aJ (dG rfl) g0) ?_
 refine gi<|bh rfl<|aA<|ae<|ah ?_
 refine ac rfl (oA)<|ae<|ah ?_
 refine ac rfl (da kn o1)<|ae<|ae<|bq<|bH 2 ?_
 refine aO (dg rfl (cb (b4 kD (L.zn1.m_) (L.dn1.m_) (L.kE.m_) (L.kF.m_)) hc)) ?_
 refine aO (aJ (dG rfl) hg) ?_
 refine bt<|bh rfl<|aA<|ae<|cX 8 [] ?_
 refine aI rfl (oC kA kn) ?_
 refine aI rfl (oC kD kn)<|ae<|ah<|ae<|ae<|bq<|bH 2 ?_
 refine aO (dg rfl (cb (b4 (L.an.m_) h0 ((L.an.sub z0).m_) (L.kB.m_) (L.kC.m_)) hd)) ?_
 refine aO (aJ (dG rfl) he) ?_
 refine bt<|bh rfl<|cX 5 [] ?_
 refine aI rfl (nN (L.dn.m_) (L.kE.m_) (L.kF.m_) hw2) ?_
 refine aI rfl (nN (L.an.m_) (L.kB.m_) (L.kC.m_) hw1) ?_
 refine aI rfl (ih)<|ae<|ah ?_
 refine ac rfl (oM o1 ky y0)<|ae<|ah ?_
 refine ac rfl (da kn kp) ?_
 refine ba ?_
 exact ai (bj bU rfl ag)
theorem T8 (L:Lv A B C D E F n) (e0:bD (A-0) B C=c0) (g0:decide (c0<0)=true) (g1:decide (c0≥0)=false) (f0:bD (D-0) E F=d0) (k0:decide (d0>0)=false) (oA:Ok Tryz.prog 337 [.a ((cR A++cR B++cR C))] [dR (n:Rat)]) (hc:bD (D-((n:Rat)+1)) E F=c) (hg:decide (c>0)=true) (hz:Sz 6841 m) (oT:Ok Tryz.prog 337 [.a ((cR D++cR E++cR F))] [dR (m:Rat)]) (hm2:bD (D-(m:Rat)) E F=m2) (he:(m2==0)=true):Ok Tryz.prog 269 [.a ((cR A++cR B++cR C)),.a ((cR D++cR E++cR F))] [dR ((m:Rat)-1)]:=by
 have o1:Rz 6000000 (1:Rat):=o7 (by decide+kernel)
 have s1:Sz 19980000 (1:Int):=dC (by decide) (by decide) (by decide)
 have kn:Rz 6000000 (n:Rat):=L.zn.m_
 have sn:Sz 19980000 n:=L.nz.m_
 have kA:Rz 6000000 A:=L.kA.m_
 have kD:Rz 6000000 D:=L.kD.m_
 have z0:Rz 2 (0:Rat):=dW (by decide)
 have h0:Rz 6000000 (0:Rat):=dW (by decide)
 have zm:Rz 6841 (m:Rat):=fu hz (by decide)
 have km:Rz 6000000 (m:Rat):=zm.m_
 refine eo vN 81 [.cell 4 38] rfl<|ae<|ah<|ae<|ah<|ac rfl ((show Ok Tryz.prog 18 [.c (.i .i64 1)] [dR 1] from eG (by omega) (by omega)))<|ac rfl ((show Ok Tryz.prog 18 [.c (.i .i64 0)] [dR 0] from eG (by omega) (by omega)))<|ae<|ae<|bq<|bH 2<|aO (dg rfl (cb (b4 kA h0 ((L.hA.sub z0).m_) (L.kB.m_) (L.kC.m_)) e0))<|aO (aJ (dG rfl) g0) ?_
 refine bH 3<|aO (dg rfl (cb (b4 kD h0 ((L.hD.sub z0).m_) (L.kE.m_) (L.kF.m_)) f0))<|aO (aJ (dG rfl) k0) ?_
 refine gi<|bh rfl<|aA<|ae<|ah ?_
 refine ac rfl (oA)<|ae<|ah ?_
 refine ac rfl (da kn o1)<|ae<|ae<|bq<|bH 2 ?_
 refine aO (dg rfl (cb (b4 kD (L.zn1.m_) (L.dn1.m_) (L.kE.m_) (L.kF.m_)) hc)) ?_
 refine aO (aJ (dG rfl) hg) ?_
 refine bt<|cz rfl<|ae<|ae<|bq<|bH 2<|aO (dg rfl (cb (b4 kA h0 ((L.hA.sub z0).m_) (L.kB.m_) (L.kC.m_)) e0))<|aO (aJ (dG rfl) g1) ?_
 refine bt<|bh rfl<|aA<|ae<|ah ?_
 refine ac rfl (oT)<|ae<|ae<|bq<|bH 2 ?_
 refine aO (dg rfl (cb (b4 kD km ((L.hD.sub zm).m_) (L.kE.m_) (L.kF.m_)) hm2))<|aO (aJ (dG rfl) he) ?_
 refine bt<|cz rfl<|ah ?_
 refine ac rfl (fG km o1) ?_
 refine ae<|ah ?_
 refine ba ?_
 exact ai (bj bU rfl ag)
theorem Wj (L:Lv A B C D E F n) (e0:bD (A-0) B C=c0) (g0:decide (c0<0)=true) (g1:decide (c0≥0)=false) (f0:bD (D-0) E F=d0) (k0:decide (d0>0)=false) (oA:Ok Tryz.prog 337 [.a ((cR A++cR B++cR C))] [dR (n:Rat)]) (hc:bD (D-((n:Rat)+1)) E F=c) (hg:decide (c>0)=true) (hz:Sz 6841 m) (oT:Ok Tryz.prog 337 [.a ((cR D++cR E++cR F))] [dR (m:Rat)]) (hm2:bD (D-(m:Rat)) E F=m2) (he:(m2==0)=false):Ok Tryz.prog 269 [.a ((cR A++cR B++cR C)),.a ((cR D++cR E++cR F))] [dR (m:Rat)]:=by
 have o1:Rz 6000000 (1:Rat):=o7 (by decide+kernel)
 have s1:Sz 19980000 (1:Int):=dC (by decide) (by decide) (by decide)
 have kn:Rz 6000000 (n:Rat):=L.zn.m_
 have sn:Sz 19980000 n:=L.nz.m_
 have kA:Rz 6000000 A:=L.kA.m_
 have kD:Rz 6000000 D:=L.kD.m_
 have z0:Rz 2 (0:Rat):=dW (by decide)
 have h0:Rz 6000000 (0:Rat):=dW (by decide)
 have zm:Rz 6841 (m:Rat):=fu hz (by decide)
 have km:Rz 6000000 (m:Rat):=zm.m_
 refine eo vN 81 [.cell 4 38] rfl<|ae<|ah<|ae<|ah<|ac rfl ((show Ok Tryz.prog 18 [.c (.i .i64 1)] [dR 1] from eG (by omega) (by omega)))<|ac rfl ((show Ok Tryz.prog 18 [.c (.i .i64 0)] [dR 0] from eG (by omega) (by omega)))<|ae<|ae<|bq<|bH 2<|aO (dg rfl (cb (b4 kA h0 ((L.hA.sub z0).m_) (L.kB.m_) (L.kC.m_)) e0))<|aO (aJ (dG rfl) g0) ?_
 refine bH 3<|aO (dg rfl (cb (b4 kD h0 ((L.hD.sub z0).m_) (L.kE.m_) (L.kF.m_)) f0))<|aO (aJ (dG rfl) k0) ?_
 refine gi<|bh rfl<|aA<|ae<|ah ?_
 refine ac rfl (oA)<|ae<|ah ?_
 refine ac rfl (da kn o1)<|ae<|ae<|bq<|bH 2 ?_
 refine aO (dg rfl (cb (b4 kD (L.zn1.m_) (L.dn1.m_) (L.kE.m_) (L.kF.m_)) hc)) ?_
 refine aO (aJ (dG rfl) hg) ?_
 refine bt<|cz rfl<|ae<|ae<|bq<|bH 2<|aO (dg rfl (cb (b4 kA h0 ((L.hA.sub z0).m_) (L.kB.m_) (L.kC.m_)) e0))<|aO (aJ (dG rfl) g1) ?_
 refine bt<|bh rfl<|aA<|ae<|ah ?_
 refine ac rfl (oT)<|ae<|ae<|bq<|bH 2 ?_
 refine aO (dg rfl (cb (b4 kD km ((L.hD.sub zm).m_) (L.kE.m_) (L.kF.m_)) hm2))<|aO (aJ (dG rfl) he) ?_
 refine bt<|bh rfl<|aA<|ae<|ah ?_
 refine ba ?_
 exact ai (bj bU rfl ag)
theorem aaq (L:Lv A B C D E F n) (e0:bD (A-0) B C=c0) (g0:decide (c0<0)=true) (_g1:decide (c0≥0)=false) (f0:bD (D-0) E F=d0) (k0:decide (d0>0)=false) (oA:Ok Tryz.prog 337 [.a ((cR A++cR B++cR C))] [dR (n:Rat)]) (hc:bD (D-((n:Rat)+1)) E F=c) (hg:decide (c>0)=false) (hd:bD (A-(n:Rat)-0) B C=d) (he:(d==0)=true) (hw2:((D-(n:Rat))*(D-(n:Rat))-E*E*F)*w2=1) (hz:Sz 6841 m) (oT:Ok Tryz.prog 337 [.a ((cR ((D-(n:Rat))*w2)++cR (-E*w2)++cR F))] [dR (m:Rat)]) (y0:((m:Rat)+1)≠0):Ok Tryz.prog 269 [.a ((cR A++cR B++cR C)),.a ((cR D++cR E++cR F))] [dR ((n:Rat)+1/((m:Rat)+1))]:=by
 have o1:Rz 6000000 (1:Rat):=o7 (by decide+kernel)
 have s1:Sz 19980000 (1:Int):=dC (by decide) (by decide) (by decide)
 have kn:Rz 6000000 (n:Rat):=L.zn.m_
 have sn:Sz 19980000 n:=L.nz.m_
 have kA:Rz 6000000 A:=L.kA.m_
 have kD:Rz 6000000 D:=L.kD.m_
 have z0:Rz 2 (0:Rat):=dW (by decide)
 have h0:Rz 6000000 (0:Rat):=dW (by decide)
 have zm:Rz 6841 (m:Rat):=fu hz (by decide)
 have km:Rz 6000000 (m:Rat):=zm.m_
 have zy:Rz 6843 ((m:Rat)+1):=zm.add (l:=1) (o7 (by decide+kernel))
 have ky:Rz 6000000 ((m:Rat)+1):=zy.m_
 have kp:Rz 6000000 (1/((m:Rat)+1)):=(Rz.div (k:=1) (o7 (by decide+kernel)) zy y0).m_
 refine eo vN 81 [.cell 4 38] rfl<|ae<|ah<|ae<|ah<|ac rfl ((show Ok Tryz.prog 18 [.c (.i .i64 1)] [dR 1] from eG (by omega) (by omega)))<|ac rfl ((show Ok Tryz.prog 18 [.c (.i .i64 0)] [dR 0] from eG (by omega) (by omega)))<|ae<|ae<|bq<|bH 2<|aO (dg rfl (cb (b4 kA h0 ((L.hA.sub z0).m_) (L.kB.m_) (L.kC.m_)) e0))<|aO (aJ (dG rfl) g0) ?_
 refine bH 3<|aO (dg rfl (cb (b4 kD h0 ((L.hD.sub z0).m_) (L.kE.m_) (L.kF.m_)) f0))<|aO (aJ (dG rfl) k0) ?_
 refine gi<|bh rfl<|aA<|ae<|ah ?_
 refine ac rfl (oA)<|ae<|ah ?_
 refine ac rfl (da kn o1)<|ae<|ae<|bq<|bH 2 ?_
 refine aO (dg rfl (cb (b4 kD (L.zn1.m_) (L.dn1.m_) (L.kE.m_) (L.kF.m_)) hc)) ?_
 refine aO (aJ (dG rfl) hg) ?_
 refine bt<|bh rfl<|aA<|ae<|cX 8 [] ?_
 refine aI rfl (oC kA kn) ?_
 refine aI rfl (oC kD kn)<|ae<|ah<|ae<|ae<|bq<|bH 2 ?_
 refine aO (dg rfl (cb (b4 (L.an.m_) h0 ((L.an.sub z0).m_) (L.kB.m_) (L.kC.m_)) hd)) ?_
 refine aO (aJ (dG rfl) he) ?_
 refine bt<|cz rfl<|cX 5 [] ?_
 refine aI rfl (nN (L.dn.m_) (L.kE.m_) (L.kF.m_) hw2) ?_
 refine aI rfl (oT) ?_
 refine aI rfl (da km o1)<|ae<|ah ?_
 refine ac rfl (oM o1 ky y0)<|ae<|ah ?_
 refine ac rfl (da kn kp) ?_
 refine ba ?_
 exact ai (bj bU rfl ag)
theorem Ze (L:Lv A B C D E F n) (e0:bD (A-0) B C=c0) (g0:decide (c0<0)=true) (_g1:decide (c0≥0)=false) (f0:bD (D-0) E F=d0) (k0:decide (d0>0)=false) (oA:Ok Tryz.prog 337 [.a ((cR A++cR B++cR C))] [dR (n:Rat)]) (hc:bD (D-((n:Rat)+1)) E F=c) (hg:decide (c>0)=false) (hd:bD (A-(n:Rat)-0) B C=d) (he:(d==0)=false) (hw2:((D-(n:Rat))*(D-(n:Rat))-E*E*F)*w2=1) (hw1:((A-(n:Rat))*(A-(n:Rat))-B*B*C)*w1=1) (ih:Ok Tryz.prog 269 [.a ((cR ((D-(n:Rat))*w2)++cR (-E*w2)++cR F)),.a ((cR ((A-(n:Rat))*w1)++cR (-B*w1)++cR C))] [dR (fr P Q)]) (zy:Rz 13681 (fr P Q)) (y0:fr P Q≠0):Ok Tryz.prog 269 [.a ((cR A++cR B++cR C)),.a ((cR D++cR E++cR F))] [dR ((n:Rat)+1/fr P Q)]:=by
 have o1:Rz 6000000 (1:Rat):=o7 (by decide+kernel)
 have s1:Sz 19980000 (1:Int):=dC (by decide) (by decide) (by decide)
 have kn:Rz 6000000 (n:Rat):=L.zn.m_
 have sn:Sz 19980000 n:=L.nz.m_
 have kA:Rz 6000000 A:=L.kA.m_
 have kD:Rz 6000000 D:=L.kD.m_
 have z0:Rz 2 (0:Rat):=dW (by decide)
 have h0:Rz 6000000 (0:Rat):=dW (by decide)
 have ky:Rz 6000000 (fr P Q):=zy.m_
 have kp:Rz 6000000 (1/fr P Q):=(Rz.div (k:=1) (o7 (by decide+kernel)) zy y0).m_
 refine eo vN 81 [.cell 4 38] rfl<|ae<|ah<|ae<|ah<|ac rfl ((show Ok Tryz.prog 18 [.c (.i .i64 1)] [dR 1] from eG (by omega) (by omega)))<|ac rfl ((show Ok Tryz.prog 18 [.c (.i .i64 0)] [dR 0] from eG (by omega) (by omega)))<|ae<|ae<|bq<|bH 2<|aO (dg rfl (cb (b4 kA h0 ((L.hA.sub z0).m_) (L.kB.m_) (L.kC.m_)) e0))<|aO (aJ (dG rfl) g0) ?_
 refine bH 3<|aO (dg rfl (cb (b4 kD h0 ((L.hD.sub z0).m_) (L.kE.m_) (L.kF.m_)) f0))<|aO (aJ (dG rfl) k0) ?_
 refine gi<|bh rfl<|aA<|ae<|ah ?_
 refine ac rfl (oA)<|ae<|ah ?_
 refine ac rfl (da kn o1)<|ae<|ae<|bq<|bH 2 ?_
 refine aO (dg rfl (cb (b4 kD (L.zn1.m_) (L.dn1.m_) (L.kE.m_) (L.kF.m_)) hc)) ?_
 refine aO (aJ (dG rfl) hg) ?_
 refine bt<|bh rfl<|aA<|ae<|cX 8 [] ?_
 refine aI rfl (oC kA kn) ?_
 refine aI rfl (oC kD kn)<|ae<|ah<|ae<|ae<|bq<|bH 2 ?_
 refine aO (dg rfl (cb (b4 (L.an.m_) h0 ((L.an.sub z0).m_) (L.kB.m_) (L.kC.m_)) hd)) ?_
 refine aO (aJ (dG rfl) he) ?_
 refine bt<|bh rfl<|cX 5 [] ?_
 refine aI rfl (nN (L.dn.m_) (L.kE.m_) (L.kF.m_) hw2) ?_
 refine aI rfl (nN (L.an.m_) (L.kB.m_) (L.kC.m_) hw1) ?_
 refine aI rfl (ih)<|ae<|ah ?_
 refine ac rfl (oM o1 ky y0)<|ae<|ah ?_
 refine ac rfl (da kn kp) ?_
 refine ba ?_
 exact ai (bj bU rfl ag)
theorem acI (L:Lv A B C D E F n) (hc:fN (D-((n:Rat)+1)) E (-0) 0 F 0=c) (hg:decide (c>0)=true):Ok Tryz.prog 228 [.a ((cR A++cR B++cR C)),.a ((cR D++cR E++cR F))] [dR ((n:Rat)+1)]:=by
 have o1:Rz 6000000 (1:Rat):=o7 (by decide+kernel)
 have s1:Sz 19980000 (1:Int):=dC (by decide) (by decide) (by decide)
 have kn:Rz 6000000 (n:Rat):=L.zn.m_
 have sn:Sz 19980000 n:=L.nz.m_
 have kA:Rz 6000000 A:=L.kA.m_
 have kD:Rz 6000000 D:=L.kD.m_
 refine eo Tryz.func228 74 [.cell 4 38] rfl<|ae<|ah<|ae<|ah<|ac rfl ((show Ok Tryz.prog 70 [.c (.i .i64 1)] [dR 1] from gN (by omega) (by omega)))<|ae<|ah ?_
 refine ac rfl (F8 (q9 (L.hA.m_) (L.hB.m_) (L.hC.m_)) L.nf.symm) ?_
 refine ac rfl ((show Ok Tryz.prog 163 [.c (.i .i64 1)] [dI 1] from jj (by decide) (by decide))) ?_
 refine ac rfl (xk (xi sn s1 (by decide)) (dv1 _))<|ae<|ah ?_
 refine ac rfl (jg kn o1) ?_
 refine ae<|ae<|bq<|bH 2<|aO (dg rfl (cb (ew (L.kD.m_) L.kE L.kF (L.zn1.m_) L.dn1 L.v2.c0) hc))<|aO (aJ (dG rfl) hg) ?_
 refine bt<|cz rfl<|ae<|ah ?_
 refine ba ?_
 exact ai (bj bU rfl ag)
theorem abL (L:Lv A B C D E F n) (hc:fN (D-((n:Rat)+1)) E (-0) 0 F 0=c) (hg:decide (c>0)=false) (hd:fN (A-(n:Rat)) B (-0) 0 C 0=d) (he:(d==0)=true) (i1:vV (D-(n:Rat)) E F≠0∧(D-(n:Rat))*(D-(n:Rat))-E*E*F≠0∧IR (D-(n:Rat)) E F=w2∧zc (-E*w2) F=F) (tA:Rz 50000 ((D-(n:Rat))*w2)) (tB:Rz 50000 (-E*w2)) (hm:m=oV ((D-(n:Rat))*w2) (-E*w2) F) (hz:Sz 6841 m) (y0:((m:Rat)+1)≠0):Ok Tryz.prog 228 [.a ((cR A++cR B++cR C)),.a ((cR D++cR E++cR F))] [dR ((n:Rat)+1/((m:Rat)+1))]:=by
 have o1:Rz 6000000 (1:Rat):=o7 (by decide+kernel)
 have s1:Sz 19980000 (1:Int):=dC (by decide) (by decide) (by decide)
 have kn:Rz 6000000 (n:Rat):=L.zn.m_
 have sn:Sz 19980000 n:=L.nz.m_
 have kA:Rz 6000000 A:=L.kA.m_
 have kD:Rz 6000000 D:=L.kD.m_
 have sm:Sz 19980000 m:=hz.m_
 have zm:Rz 6841 (m:Rat):=fu hz (by decide)
 have km:Rz 6000000 (m:Rat):=zm.m_
 have zy:Rz 6843 ((m:Rat)+1):=zm.add (l:=1) (o7 (by decide+kernel))
 have ky:Rz 6000000 ((m:Rat)+1):=zy.m_
 have kp:Rz 6000000 (1/((m:Rat)+1)):=(Rz.div (k:=1) (o7 (by decide+kernel)) zy y0).m_
 refine eo Tryz.func228 74 [.cell 4 38] rfl<|ae<|ah<|ae<|ah<|ac rfl ((show Ok Tryz.prog 70 [.c (.i .i64 1)] [dR 1] from gN (by omega) (by omega)))<|ae<|ah ?_
 refine ac rfl (F8 (q9 (L.hA.m_) (L.hB.m_) (L.hC.m_)) L.nf.symm) ?_
 refine ac rfl ((show Ok Tryz.prog 163 [.c (.i .i64 1)] [dI 1] from jj (by decide) (by decide))) ?_
 refine ac rfl (xk (xi sn s1 (by decide)) (dv1 _))<|ae<|ah ?_
 refine ac rfl (jg kn o1) ?_
 refine ae<|ae<|bq<|bH 2<|aO (dg rfl (cb (ew (L.kD.m_) L.kE L.kF (L.zn1.m_) L.dn1 L.v2.c0) hc))<|aO (aJ (dG rfl) hg) ?_
 refine bt<|bh rfl<|aA<|ae<|ah ?_
 refine ac rfl (AW kD kn) ?_
 refine ac rfl (zo (AM (L.dn.m_) (L.kE.m_) (L.kF.m_) i1.1 i1.2.1) (congrArg _ i1.2.2.1) (congrArg _ i1.2.2.1) ((congrArg (fun w=>zc (-E*w) F) i1.2.2.1).trans i1.2.2.2))<|ae<|ah<|ae<|ae<|bq<|bH 2 ?_
 refine aO (dg rfl (cb (ew (L.kA.m_) L.kB L.kC (L.zn.m_) L.an L.v1.c0) hd)) ?_
 refine aO (aJ (dG rfl) he) ?_
 refine bt<|cz rfl<|ae<|ah ?_
 refine ac rfl (F8 (q9 (tA.m_) (tB.m_) (L.hF.m_)) hm.symm) ?_
 refine ac rfl ((show Ok Tryz.prog 163 [.c (.i .i64 1)] [dI 1] from jj (by decide) (by decide))) ?_
 refine ac rfl (xk (xi sm s1 (by decide)) (dv1 _))<|ah ?_
 refine ac rfl (jg km o1) ?_
 refine ae<|ah ?_
 refine ac rfl (qB o1 ky y0) ?_
 refine ae<|ah ?_
 refine ac rfl (jg kn kp) ?_
 refine ba ?_
 exact ai (bj bU rfl ag)
theorem acG (L:Lv A B C D E F n) (hc:fN (D-((n:Rat)+1)) E (-0) 0 F 0=c) (hg:decide (c>0)=false) (hd:fN (A-(n:Rat)) B (-0) 0 C 0=d) (he:(d==0)=false) (i1:vV (D-(n:Rat)) E F≠0∧(D-(n:Rat))*(D-(n:Rat))-E*E*F≠0∧IR (D-(n:Rat)) E F=w2∧zc (-E*w2) F=F) (i2:vV (A-(n:Rat)) B C≠0∧(A-(n:Rat))*(A-(n:Rat))-B*B*C≠0∧IR (A-(n:Rat)) B C=w1∧zc (-B*w1) C=C) (ih:Ok Tryz.prog 228 [.a ((cR ((D-(n:Rat))*w2)++cR (-E*w2)++cR F)),.a ((cR ((A-(n:Rat))*w1)++cR (-B*w1)++cR C))] [dR (fr P Q)]) (zy:Rz 13681 (fr P Q)) (y0:fr P Q≠0):Ok Tryz.prog 228 [.a ((cR A++cR B++cR C)),.a ((cR D++cR E++cR F))] [dR ((n:Rat)+1/fr P Q)]:=by
 have o1:Rz 6000000 (1:Rat):=o7 (by decide+kernel)
 have s1:Sz 19980000 (1:Int):=dC (by decide) (by decide) (by decide)
 have kn:Rz 6000000 (n:Rat):=L.zn.m_
 have sn:Sz 19980000 n:=L.nz.m_
 have kA:Rz 6000000 A:=L.kA.m_
 have kD:Rz 6000000 D:=L.kD.m_
 have ky:Rz 6000000 (fr P Q):=zy.m_
 have kp:Rz 6000000 (1/fr P Q):=(Rz.div (k:=1) (o7 (by decide+kernel)) zy y0).m_
 refine eo Tryz.func228 74 [.cell 4 38] rfl<|ae<|ah<|ae<|ah<|ac rfl ((show Ok Tryz.prog 70 [.c (.i .i64 1)] [dR 1] from gN (by omega) (by omega)))<|ae<|ah ?_
 refine ac rfl (F8 (q9 (L.hA.m_) (L.hB.m_) (L.hC.m_)) L.nf.symm) ?_
 refine ac rfl ((show Ok Tryz.prog 163 [.c (.i .i64 1)] [dI 1] from jj (by decide) (by decide))) ?_
 refine ac rfl (xk (xi sn s1 (by decide)) (dv1 _))<|ae<|ah ?_
 refine ac rfl (jg kn o1) ?_
 refine ae<|ae<|bq<|bH 2<|aO (dg rfl (cb (ew (L.kD.m_) L.kE L.kF (L.zn1.m_) L.dn1 L.v2.c0) hc))<|aO (aJ (dG rfl) hg) ?_
 refine bt<|bh rfl<|aA<|ae<|ah ?_
 refine ac rfl (AW kD kn) ?_
 refine ac rfl (zo (AM (L.dn.m_) (L.kE.m_) (L.kF.m_) i1.1 i1.2.1) (congrArg _ i1.2.2.1) (congrArg _ i1.2.2.1) ((congrArg (fun w=>zc (-E*w) F) i1.2.2.1).trans i1.2.2.2))<|ae<|ah<|ae<|ae<|bq<|bH 2 ?_
 refine aO (dg rfl (cb (ew (L.kA.m_) L.kB L.kC (L.zn.m_) L.an L.v1.c0) hd)) ?_
 refine aO (aJ (dG rfl) he) ?_
 refine bt<|bh rfl<|ae<|ah ?_
 refine ac rfl (AW kA kn) ?_
 refine ac rfl (zo (AM (L.an.m_) (L.kB.m_) (L.kC.m_) i2.1 i2.2.1) (congrArg _ i2.2.2.1) (congrArg _ i2.2.2.1) ((congrArg (fun w=>zc (-B*w) C) i2.2.2.1).trans i2.2.2.2))<|ah ?_
 refine ac rfl (ih) ?_
 refine ae<|ah ?_
 refine ac rfl (qB o1 ky y0) ?_
 refine ae<|ah ?_
 refine ac rfl (jg kn kp) ?_
 refine ba ?_
 exact ai (bj bU rfl ag)
theorem HN (x:Rat):((x.num.fdiv (x.den:Int):Int):Rat)≤x∧x<((x.num.fdiv (x.den:Int)+1:Int):Rat):=by
 have dn:=den_pos x
 obtain⟨h1,h2⟩:=MT (Z:=x.num) dn
 have hn:=uW x
 have hp:(0:Rat)<((x.den:Int):Rat):=uI.2 dn
 refine⟨pZ hp ?_,?_⟩
 ·rw[hn,←dD];exact fm.2 h1
 ·apply fe
  intro hc
  have h3:=qQ (show((x.num.fdiv (x.den:Int)+1:Int):Rat)≤x by grind) (show(0:Rat)≤((x.den:Int):Rat) by grind)
  rw[hn,←dD] at h3
  have h4:=fm.1 h3
  omega
section
variable {a b c:Rat}
theorem abG (hc:0≤c):cH (Re.of ((bZ ((b*b*c).num.fdiv ((b*b*c).den:Int)):Int):Rat)) (Re.of (if b<0 then-b else b)*Re.rt c)∧
 cH (Re.of (if b<0 then-b else b)*Re.rt c) (Re.of ((bZ ((b*b*c).num.fdiv ((b*b*c).den:Int))+1:Int):Rat)):=by
 have hbc:0≤b*b*c:=by
  have:0≤b*b:=by
   by_cases h:0≤b
   ·exact fl h h
   ·have:=fl (show 0≤ -b by grind) (show 0≤ -b by grind);grind
  exact fl this hc
 obtain⟨q1,q2⟩:=HN (b*b*c)
 have hw:0≤(b*b*c).num.fdiv ((b*b*c).den:Int):=by
  have h1:((0:Int):Rat)<(((b*b*c).num.fdiv ((b*b*c).den:Int)+1:Int):Rat):=by have:=hbc;have:=q2;grind
  have:=iF.1 h1
  omega
 have t1:=ry hw
 have t2:=xg hw
 have t0:=fg ((b*b*c).num.fdiv ((b*b*c).den:Int))
 generalize (b*b*c).num.fdiv ((b*b*c).den:Int)=w at*
 generalize bZ w=t at*
 generalize hb':(if b<0 then-b else b)=b'
 have hb2:b'*b'=b*b∧0≤b':=by grind
 have nnR:0≤aB (Re.of b'*Re.rt c):=by
  have p2:0≤aB (Re.of b'):=by rw[bQ];exact gG hb2.2
  have p3:=u9 c
  rw[aY]
  exact fU p2 p3
 have eS: ∀q:Rat,aB (Re.of b'*Re.rt c*(Re.of b'*Re.rt c)-Re.of q)=aX (b*b*c) q:=by
  intro q
  rw[←oE,←bQ]
  refine cY ?_
  rw[show Re.of b'*Re.rt c*(Re.of b'*Re.rt c)-Re.of q-Re.of (b*b*c-q)=Re.of (b'*b')*(Re.rt c*Re.rt c-Re.of c) from aM fun k=>by
   simp only[aj,aE,aK];grind,aY,lh hc,ny]
 refine⟨?_,?_⟩
 ·refine qH (wW t0) nnR ?_
  rw[dO,eS,←dD]
  exact gG (Rat.le_trans (fm.2 t1) q1)
 ·refine qH nnR (wW (by omega)) ?_
  have h3:0≤ -aB (Re.of b'*Re.rt c*(Re.of b'*Re.rt c)-Re.of (((t+1:Int):Rat)*((t+1:Int):Rat))):=by
   rw[eS,←dD]
   have h4:b*b*c≤(((t+1)*(t+1):Int):Rat):=Rat.le_trans (uU q2) (fm.2 (by omega))
   have:=Dd (x:=b*b*c) (y:=(((t+1)*(t+1):Int):Rat)) h4
   omega
  rw[←bG] at h3
  refine ln (fun k=>?_) h3
  simp only[aV,aj,aE,aK];grind
theorem Rr (m n:Int):((m:Int):Rat)+((n:Int):Rat)=((m+n:Int):Rat):=(gz m n).symm
theorem V7 (hv:Vl b c):(¬b<0→oV a b c=a.num.fdiv (a.den:Int)+bZ ((b*b*c).num.fdiv ((b*b*c).den:Int))∨oV a b c=a.num.fdiv (a.den:Int)+bZ ((b*b*c).num.fdiv ((b*b*c).den:Int))+1)∧
 (b<0→oV a b c=a.num.fdiv (a.den:Int)-bZ ((b*b*c).num.fdiv ((b*b*c).den:Int))∨oV a b c=a.num.fdiv (a.den:Int)-bZ ((b*b*c).num.fdiv ((b*b*c).den:Int))-1):=by
 have f1:cH (Re.of ((oV a b c:Int):Rat)) (az a b c):=(tV hv.c0).1
 have f2:=wz (x:=a) (y:=b) hv.c0 hv.v
 obtain⟨r1,r2⟩:=abG (b:=b) hv.c0
 obtain⟨u1,u2⟩:=HN a
 generalize oV a b c=n at*
 generalize a.num.fdiv (a.den:Int)=u at*
 generalize bZ ((b*b*c).num.fdiv ((b*b*c).den:Int))=t at*
 have key: ∀Y:Re,∀l h:Int,az a b c=Re.of a+Y→cH (Re.of (l:Rat)) Y→cH Y (Re.of (h:Rat))→u+l<n+1∧n<u+1+h:=by
  intro Y l h e g1 g2
  have k1:=fD (of_le u1) g1
  rw[←e,show Re.of (u:Rat)+Re.of (l:Rat)=Re.of (((u+l:Int)):Rat) from aM fun k=>by simp only[aD,aK,gz]] at k1
  have k2:=fD (iq (Re.of a)) g2
  rw[←e,show Re.of a+Re.of (h:Rat)=Re.of (a+(h:Rat)) from aM fun k=>by simp only[aD,aK]] at k2
  have k3:=qJ k1 f2
  have k4:=gC (et f1 k2)
  have k5:(n:Rat)<((u+1+h:Int):Rat):=by grind
  exact⟨Rat.intCast_lt_intCast.1 k3,iF.1 k5⟩
 refine⟨fun hb=>?_,fun hb=>?_⟩
 ·rw[if_neg hb] at r1 r2
  have:=key (Re.of b*Re.rt c) t (t+1) rfl r1 r2
  omega
 ·rw[if_pos hb] at r1 r2
  have:=key (Re.of b*Re.rt c) (-(t+1)) (-t) rfl (by
   refine ln (fun k=>?_) r2
   simp only[aj,aE,aK,qm];grind) (by
   refine ln (fun k=>?_) r1
   simp only[aj,aE,aK,qm];grind)
  omega
theorem W8 (hv:Vl b c) (m:Int):(m≤oV a b c→ ¬bD (a-(m:Rat)) b c<0)∧(oV a b c<m→bD (a-(m:Rat)) b c<0):=by
 have f1:cH (Re.of ((oV a b c:Int):Rat)) (az a b c):=(tV hv.c0).1
 have f2:=wz (x:=a) (y:=b) hv.c0 hv.v
 rw[uh hv.c0]
 refine⟨fun h=>?_,fun h=>?_⟩
 ·have h1:0≤aB (az a b c-Re.of (m:Rat)):=et (qo h) f1
  omega
 ·have h1:aB (Re.of (m:Rat)-az a b c)=1:=by
   rw[show Re.of (m:Rat)-az a b c=(Re.of (m:Rat)-Re.of ((oV a b c+1:Int):Rat))+(Re.of ((oV a b c+1:Int):Rat)-az a b c) from aM fun k=>by simp only[aj,aD];grind]
   exact jW (qo (show oV a b c+1≤m by omega)) f2
  rw[eJ];omega
theorem xn (ha:Rz 160000 a) (hb:Rz 160000 b) (hc:Rz 160000 c) (hv:Vl b c):Ok Tryz.prog 337 [.a (cR a++cR b++cR c)] [dR ((oV a b c:Int):Rat)]:=by
 obtain⟨n1,n2⟩:=V7 (a:=a) hv
 have hF: ∀m:Int,bD (a-(m:Rat)) b c<0↔oV a b c<m:=fun m=>⟨fun h=>Int.not_le.1 fun q=>(W8 (a:=a) hv m).1 q h,(W8 (a:=a) hv m).2⟩
 have su:Sz 160000 (a.num.fdiv (a.den:Int)):=ha.n.fdiv
 have st:Sz 480000 (bZ ((b*b*c).num.fdiv ((b*b*c).den:Int))):=((((hb.mul hb).mul hc).n).fdiv.isq).mono (by decide)
 by_cases hb0:b<0
 ·have g:aX b 0<0:=by unfold aX;rw[if_pos hb0];decide
  exact yfl ha hb hc (fun _=>rfl) (fun h=>absurd g h) st.neg (Rr _ _) ((su.addm st.neg).mono (by decide)) (by have:=n2 hb0;omega) hF
 ·have g: ¬aX b 0<0:=by unfold aX;rw[if_neg hb0];split<;>decide
  exact yfl ha hb hc (fun h=>absurd h g) (fun _=>rfl) st (Rr _ _) ((su.addm st).mono (by decide)) (by have:=n1 hb0;omega) hF
end
section
variable {A B C D E F:Rat}{P Q:Int}
theorem Kq (n:Int):fr (n+1) 1=(n:Rat)+1:=vx (by decide) (by rw[Nz,gz];have:=Nz;grind)
theorem P8 (h:0≤m):(m:Rat)+1≠0:=by have:=Bo h;grind
theorem Pe {P Q:Int}(hP:0<P) (hQ:0<Q):fr P Q≠0:=by
 have h:=ij (p:=P) hQ
 have:=o5 hP
 grind
theorem FH (n:Int) (h:0≤m):fr (n*(m+1)+1) (m+1)=(n:Rat)+1/((m:Rat)+1):=by
 rw[wH (show 0<m+1 by omega) (by decide),Kq]
theorem PZ (R:Res A B C D E F P Q):Ok Tryz.prog 228 [.a (cR A++cR B++cR C),.a (cR D++cR E++cR F)] [dR (fr P Q)]:=by
 induction R with
 |whole L a0 h=>
  rw[Kq]
  exact acI L rfl (decide_eq_true (by rw[x5 L.v2.c0,←Bx,h];decide))
 | @last A B C D E F w n m L a0 h hb hz hw hm tA tB m0 mz=>
   rw[FH n m0]
   exact abL L rfl (decide_eq_false (by rw[x5 L.v2.c0,←Bx];omega)) ((x5 L.v1.c0).trans hz) rfl (KS L.v2 hb hw) tA tB hm mz (P8 m0)
 | @step A B C D E F w1 w2 n P Q L a0 h hb hz hw1 hw2 R p0 q0 z ih=>
   rw[wH p0 q0]
   exact acG L rfl (decide_eq_false (by rw[x5 L.v2.c0,←Bx];omega)) ((x5 L.v1.c0).trans hz) rfl (KS L.v2 hb hw2) (KS L.v1 hz hw1) ih z (Pe p0 q0)
theorem Tu (X:Re):X-Re.of 0=X:=aM fun k=>by simp only[aj,aK];grind
theorem mY (hz:0≤z):bD (x-0) y z=aB (az x y z):=by rw[uh hz,Tu]
theorem Lv.flA (L:Lv A B C D E F n):Ok Tryz.prog 337 [.a (cR A++cR B++cR C)] [dR (n:Rat)]:=by
 rw[L.nf];exact xn L.kA L.kB L.kC L.v1
theorem Lv.sh (L:Lv A B C D E F n):bD (A-(n:Rat)-0) B C=aB (az A B C-Re.of (n:Rat)):=by rw[mY L.v1.c0,gh]
theorem Qs (R:Res A B C D E F P Q):Ok Tryz.prog 269 [.a (cR A++cR B++cR C),.a (cR D++cR E++cR F)] [dR (fr P Q)]:=by
 induction R with
 |whole L a0 h=>
  rw[Kq]
  exact Zx L (mY L.v1.c0) (decide_eq_false (by omega)) (decide_eq_true (by omega)) L.flA rfl (decide_eq_true (by rw[uh L.v2.c0,←Bx,h];decide))
 | @last A B C D E F w n m L a0 h hb hz hw hm tA tB m0 mz=>
   rw[FH n m0]
   have oT:=xn (tA.mono (by decide)) (tB.mono (by decide)) L.kF ((Te L.v2 hw))
   rw[←hm] at oT
   exact Zj L (mY L.v1.c0) (decide_eq_false (by omega)) (decide_eq_true (by omega)) L.flA rfl (decide_eq_false (by rw[uh L.v2.c0,←Bx];omega)) (L.sh.trans hz) rfl hw mz oT (P8 m0)
 | @step A B C D E F w1 w2 n P Q L a0 h hb hz hw1 hw2 R p0 q0 z ih=>
   rw[wH p0 q0]
   exact aat L (mY L.v1.c0) (decide_eq_false (by omega)) (decide_eq_true (by omega)) L.flA rfl (decide_eq_false (by rw[uh L.v2.c0,←Bx];omega)) (L.sh.trans hz) rfl hw2 hw1 ih z (Pe p0 q0)
end
theorem acv (hA:Rz 660 A) (hB:Rz 660 B) (hC:Rz 660 C) (hD:Rz 660 D) (hE:Rz 660 E) (hF:Rz 660 F) (cC:0≤C) (cF:0≤F) (e1:fN (A-D) B (-E) 0 C F=n1) (g1:decide (n1≥0)=false) (ea:fN (A-0) B (-0) 0 C 0=na) (g2:decide (na<0)=true) (eb:fN (D-0) E (-0) 0 F 0=nb) (g3:decide (nb>0)=true):Ok Tryz.prog 126 [.a ((cR A++cR B++cR C)),.a ((cR D++cR E++cR F))] [dR 0,.c (.i .i64 0)]:=by
 have z0:Rz 2 (0:Rat):=dW (by decide)
 refine eo Tryz.func126 39 [.cell 4 38,.tmp 5] rfl<|ae<|ah<|ae<|ae<|bq<|bH 2<|aO (dg rfl (cb (mu (hA.m_) (hB.m_) (hC.m_) (hD.m_) (hE.m_) (hF.m_) ((hA.sub hD).m_) cC cF) e1))<|aO (aJ (dG rfl) g1) ?_
 refine bt<|bh rfl<|aA<|ae<|ah<|ac rfl ((show Ok Tryz.prog 70 [.c (.i .i64 0)] [dR 0] from gN (by omega) (by omega)))<|ae<|aG<|ae<|bq<|bH 2<|aO (dg rfl (cb (ew (hA.m_) (hB.m_) (hC.m_) (z0.m_) ((hA.sub z0).m_) cC) ea))<|aO (aJ (dG rfl) g2) ?_
 refine bH 3<|aO (dg rfl (cb (ew (hD.m_) (hE.m_) (hF.m_) (z0.m_) ((hD.sub z0).m_) cF) eb))<|aO (aJ (dG rfl) g3) ?_
 refine gi<|cz rfl<|ae<|ah ?_
 refine ba ?_
 exact ai (bj bU rfl (ak ag))
theorem abP (hA:Rz 660 A) (hB:Rz 660 B) (hC:Rz 660 C) (hD:Rz 660 D) (hE:Rz 660 E) (hF:Rz 660 F) (cC:0≤C) (cF:0≤F) (e1:fN (A-D) B (-E) 0 C F=n1) (g1:decide (n1≥0)=false) (ea:fN (A-0) B (-0) 0 C 0=na) (g2:decide (na<0)=false) (eb:fN (D-0) E (-0) 0 F 0=nb) (g4:decide (nb≤0)=false) (ob:Ok Tryz.prog 228 [.a ((cR A++cR B++cR C)),.a ((cR D++cR E++cR F))] [dR z]):Ok Tryz.prog 126 [.a ((cR A++cR B++cR C)),.a ((cR D++cR E++cR F))] [dR z,.c (.i .i64 0)]:=by
 have z0:Rz 2 (0:Rat):=dW (by decide)
 refine eo Tryz.func126 39 [.cell 4 38,.tmp 5] rfl<|ae<|ah<|ae<|ae<|bq<|bH 2<|aO (dg rfl (cb (mu (hA.m_) (hB.m_) (hC.m_) (hD.m_) (hE.m_) (hF.m_) ((hA.sub hD).m_) cC cF) e1))<|aO (aJ (dG rfl) g1) ?_
 refine bt<|bh rfl<|aA<|ae<|ah<|ac rfl ((show Ok Tryz.prog 70 [.c (.i .i64 0)] [dR 0] from gN (by omega) (by omega)))<|ae<|aG<|ae<|bq<|bH 2<|aO (dg rfl (cb (ew (hA.m_) (hB.m_) (hC.m_) (z0.m_) ((hA.sub z0).m_) cC) ea))<|aO (aJ (dG rfl) g2) ?_
 refine gi<|bh rfl<|ae<|bq<|bH 2<|aO (dg rfl (cb (ew (hD.m_) (hE.m_) (hF.m_) (z0.m_) ((hD.sub z0).m_) cF) eb))<|aO (aJ (dG rfl) g4) ?_
 refine gi<|bh rfl<|aA<|ae<|ah ?_
 refine ac rfl (ob) ?_
 refine ba ?_
 exact ai (bj bU rfl (ak ag))
theorem abU (hA:Rz 660 A) (hB:Rz 660 B) (hC:Rz 660 C) (hD:Rz 660 D) (hE:Rz 660 E) (hF:Rz 660 F) (cC:0≤C) (cF:0≤F) (e1:fN (A-D) B (-E) 0 C F=n1) (g1:decide (n1≥0)=false) (ea:fN (A-0) B (-0) 0 C 0=na) (g2:decide (na<0)=true) (eb:fN (D-0) E (-0) 0 F 0=nb) (g3:decide (nb>0)=false) (g4:decide (nb≤0)=true) (hz:Rz 6000000 z) (ob:Ok Tryz.prog 228 [.a ((cR (-D)++cR (-E)++cR F)),.a ((cR (-A)++cR (-B)++cR C))] [dR z]):Ok Tryz.prog 126 [.a ((cR A++cR B++cR C)),.a ((cR D++cR E++cR F))] [dR (-z),.c (.i .i64 0)]:=by
 have z0:Rz 2 (0:Rat):=dW (by decide)
 refine eo Tryz.func126 39 [.cell 4 38,.tmp 5] rfl<|ae<|ah<|ae<|ae<|bq<|bH 2<|aO (dg rfl (cb (mu (hA.m_) (hB.m_) (hC.m_) (hD.m_) (hE.m_) (hF.m_) ((hA.sub hD).m_) cC cF) e1))<|aO (aJ (dG rfl) g1) ?_
 refine bt<|bh rfl<|aA<|ae<|ah<|ac rfl ((show Ok Tryz.prog 70 [.c (.i .i64 0)] [dR 0] from gN (by omega) (by omega)))<|ae<|aG<|ae<|bq<|bH 2<|aO (dg rfl (cb (ew (hA.m_) (hB.m_) (hC.m_) (z0.m_) ((hA.sub z0).m_) cC) ea))<|aO (aJ (dG rfl) g2) ?_
 refine bH 3<|aO (dg rfl (cb (ew (hD.m_) (hE.m_) (hF.m_) (z0.m_) ((hD.sub z0).m_) cF) eb))<|aO (aJ (dG rfl) g3) ?_
 refine gi<|bh rfl<|ae<|bq<|bH 2<|aO (dg rfl (cb (ew (hD.m_) (hE.m_) (hF.m_) (z0.m_) ((hD.sub z0).m_) cF) eb))<|aO (aJ (dG rfl) g4) ?_
 refine gi<|cz rfl<|ae<|cX 6 [] ?_
 refine aI rfl (E8 (hD.m_) (hE.m_)) ?_
 refine aI rfl (E8 (hA.m_) (hB.m_)) ?_
 refine aI rfl (ob) ?_
 refine aI rfl (dV hz)<|ba ?_
 exact ai (bj bU rfl (ak ag))
theorem abf (hA:Rz 660 A) (hB:Rz 660 B) (hC:Rz 660 C) (hD:Rz 660 D) (hE:Rz 660 E) (hF:Rz 660 F) (_cC:0≤C) (_cF:0≤F) (e0:bD (A-0) B C=c0) (g0:decide (c0<0)=true) (f0:bD (D-0) E F=d0) (k0:decide (d0>0)=true):Ok Tryz.prog 269 [.a ((cR A++cR B++cR C)),.a ((cR D++cR E++cR F))] [dR 0]:=by
 have z0:Rz 2 (0:Rat):=dW (by decide)
 have h0:Rz 6000000 (0:Rat):=dW (by decide)
 refine eo vN 81 [.cell 4 38] rfl<|ae<|ah<|ae<|ah<|ac rfl ((show Ok Tryz.prog 18 [.c (.i .i64 1)] [dR 1] from eG (by omega) (by omega)))<|ac rfl ((show Ok Tryz.prog 18 [.c (.i .i64 0)] [dR 0] from eG (by omega) (by omega)))<|ae<|ae<|bq<|bH 2<|aO (dg rfl (cb (b4 (hA.m_) h0 ((hA.sub z0).m_) (hB.m_) (hC.m_)) e0))<|aO (aJ (dG rfl) g0) ?_
 refine bH 3<|aO (dg rfl (cb (b4 (hD.m_) h0 ((hD.sub z0).m_) (hE.m_) (hF.m_)) f0))<|aO (aJ (dG rfl) k0) ?_
 refine gi<|cz rfl<|ae<|ah ?_
 refine ba ?_
 exact ai (bj bU rfl ag)
structure Simp (a b:Re) (z:Rat):Prop where
 mem:uR a b z
 den: ∀p q:Int,0<q→uR a b (fr p q)→(z.den:Int)≤q
 near:z.den=1→z≠0→ ¬uR a b (z-((aX z 0:Int):Rat))
theorem MF (z:Rat):(-z).den=z.den:=Rat.neg_den z
theorem TMin.simp (h:TMin (uR a b) P Q):Simp a b (fr P Q):=by
 obtain⟨e1,e2⟩:=h.den
 refine⟨h.mem,fun p q hq hm=>by rw[e2];exact(h.min p q hq hm).2,fun hd _ hm=>?_⟩
 have hp:=h.p
 have hQ:Q=1:=by rw[←e2,hd];rfl
 subst hQ
 have hf:=ij (p:=P) (q:=1) (by decide)
 rw[Nz,ui] at hf
 rw[hf] at hm
 have hc:aX (P:Rat) 0=1:=by rw[←bQ];exact vT (o5 hp)
 rw[hc,Nz] at hm
 have e3:fr (P-1) 1=(P:Rat)-1:=vx (by decide) (by rw[Nz,ri,ui,Nz])
 rw[←e3] at hm
 have:=(h.min (P-1) 1 (by decide) hm).1
 omega
theorem ud (x:Rat):uR (-b) (-a) x↔uR a b (-x):=by
 have h1:Re.of x- -b=b-Re.of (-x):=aM fun k=>by simp only[aj,aV,aK];grind
 have h2: -a-Re.of x=Re.of (-x)-a:=aM fun k=>by simp only[aj,aV,aK];grind
 unfold uR
 grind
theorem XV {p q:Int}(h:0<q):fr (-p) q= -(fr p q):=vx h (by have:=ij (p:=p) h;rw[qm];grind)
theorem Simp.neg (h:Simp (-b) (-a) z):Simp a b (-z):=by
 refine⟨(ud z).1 h.mem,fun p q hq hm=>?_,fun hd hz hm=>?_⟩
 ·rw[MF]
  refine h.den (-p) q hq ?_
  rw[XV hq,ud,Rat.neg_neg];exact hm
 ·rw[MF] at hd
  refine h.near hd (fun e=>hz (by rw[e];rfl)) ?_
  rw[ud]
  have e:aX (-z) 0= -aX z 0:=by
   rw[←bQ,←bQ,←bG]
   exact congrArg aB (aM fun k=>by simp only[aV,aK])
  rw[e] at hm
  rw[show-(z-((aX z 0:Int):Rat))= -z-((-aX z 0:Int):Rat) from by rw[qm];grind]
  exact hm
theorem Vl.neg (h:Vl y z):Vl (-y) z:=⟨h.c0,fun e=>h.v fun e2=>e (by rw[e2];rfl),fun e=>h.z (by grind)⟩
section
variable {A B C D E F:Rat}
theorem BSt.start (v1:Vl B C) (v2:Vl E F) (a0:0≤aB (az A B C)) (ab:aB (az D E F-az A B C)=1) (VU:cH (az A B C) (Re.of ((pw 425:Int):Rat))) (WU:cH (az D E F) (Re.of ((pw 425:Int):Rat)))
 (gap:cH (Re.of (1/((pw (3420+3420):Int):Rat))) (az D E F-az A B C)):BSt (pw 425) 3420 A B C D E F 1 0 0 1 A B D E:=by
 have p7:=cU 425
 have p59:=cU 3420
 have b0:0≤aB (az D E F):=by
  rw[show az D E F=az A B C+(az D E F-az A B C) from aM fun k=>by simp only[aj,aD];grind]
  have:=jW a0 ab
  omega
 exact⟨Mob.init A B C,Mob.init D E F,v1,v2,by decide,by decide,by decide,by decide,p7,by omega,by omega,by omega,p59,a0,b0,VU,WU,.inr gap,a0,et VU (qo (mv (by decide))),ab,.inl ⟨rfl,rfl⟩⟩
theorem X5 (hA:Rz 226 A) (hB:Rz 42 B) (hC:Rz 156 C) (hD:Rz 226 D) (hE:Rz 42 E) (hF:Rz 156 F) (cC:0≤C) (cF:0≤F) (ab:aB (az D E F-az A B C)=1):cH (Re.of (1/((pw (3420+3420):Int):Rat))) (az D E F-az A B C):=by
 have e:jM (D-A) E (-B) 0 F C=az D E F-az A B C:=aM fun k=>by simp only[jM,az,aj,aD,aE,aK];grind
 have h:=ad2 (hD.sub hA) hE hB.neg hF hC cF cC (by rw[e];exact ab)
 rw[e] at h
 exact et (of_le (JZ (by decide))) h
theorem Pz (hA:Rz 226 A) (hB:Rz 42 B) (hC:Rz 156 C) (cC:0≤C):cH (az A B C) (Re.of ((pw 425:Int):Rat))∧cH (-(az A B C)) (Re.of ((pw 425:Int):Rat)):=F4 hA hB hC cC (Gt 226 42 156)
theorem BSt.go (hA:Rz 660 A) (hB:Rz 660 B) (hC:Rz 660 C) (hD:Rz 660 D) (hE:Rz 660 E) (hF:Rz 660 F) (S:BSt (pw 425) 3420 A B C D E F 1 0 0 1 A B D E): ∃P Q:Int,Res A B C D E F P Q∧TMin (uR (az A B C) (az D E F)) P Q∧Rz 13681 (fr P Q):=by
 obtain⟨P,Q,R,T⟩:=S.res hA hB hC hD hE hF (3*pw 3420).toNat (by have:=cU 3420;omega)
 obtain⟨t1,t2⟩:=T.bound S.v1 S.au S.gap
 have t3:pw (3420+3420+1)≤pw (3420+3420+(3420+3420)+1):=mv (by decide)
 exact⟨P,Q,R,T,T.rz t1 (Int.lt_of_lt_of_le t2 t3)⟩
theorem Tx (T:TMin (uR (-b) (-a)) P Q) (T2:TMin (uR (a-Re.of (n:Rat)) (b-Re.of (n:Rat))) P2 Q2) (a0:cH (Re.of (n:Rat)) a) (b1:cH b (Re.of ((n+1:Int):Rat))): -(fr P Q)=(n:Rat)+fr P2 Q2:=by
 have sh: ∀x:Rat,uR (a-Re.of (n:Rat)) (b-Re.of (n:Rat)) x↔uR a b ((n:Rat)+x):=by
  intro x
  have h1:Re.of x-(a-Re.of (n:Rat))=Re.of ((n:Rat)+x)-a:=aM fun k=>by simp only[aj,aK];grind
  have h2:b-Re.of (n:Rat)-Re.of x=b-Re.of ((n:Rat)+x):=aM fun k=>by simp only[aj,aK];grind
  unfold uR
  rw[h1,h2]
 have hq:=T.q
 have hq2:=T2.q
 have f1:=ij (p:=P) hq
 have f2:=ij (p:=P2) hq2
 have e2:fr (-(n*Q2)-P2) Q2= -((n:Rat)+fr P2 Q2):=vx hq2 (by rw[ri,qm,dD,←f2];grind)
 have e1:fr (-P-n*Q) Q= -(fr P Q)-(n:Rat):=vx hq (by rw[ri,qm,dD,←f1];grind)
 have m2:uR (-b) (-a) (fr (-(n*Q2)-P2) Q2):=by
  rw[e2,ud,Rat.neg_neg]
  exact(sh _).1 T2.mem
 have m1:uR (a-Re.of (n:Rat)) (b-Re.of (n:Rat)) (fr (-P-n*Q) Q):=by
  rw[e1,sh,show(n:Rat)+(-(fr P Q)-(n:Rat))= -(fr P Q) by grind]
  exact(ud _).1 T.mem
 have g1:=(T.min _ _ hq2 m2).2
 have g2:=(T2.min _ _ hq m1).2
 have hQ:Q2=Q:=by omega
 subst hQ
 by_cases h1:Q2=1
 ·exfalso
  subst h1
  obtain⟨i1,i2⟩:=(sh _).1 T2.mem
  have k1:=qJ a0 i1
  rw[Nz,ui] at f2
  rw[f2] at k1 i2
  have k2:((n+P2:Int):Rat)≤((n+1:Int):Rat):=by
   rw[gz]
   exact gC (et (by unfold cH;omega) b1)
  have k3:=fm.1 k2
  have k4:((n:Int):Rat)<((n+P2:Int):Rat):=by grind
  have k5:=iF.1 k4
  have k6:P2=1:=by omega
  subst k6
  have k7:0≤aB (Re.of ((n:Rat)+((1:Int):Rat))-b):=by
   rw[←gz];exact b1
  rw[eJ,i2] at k7
  omega
 ·have hc: ∀x y z:Rat,uR (-b) (-a) x→uR (-b) (-a) y→x≤z→z≤y→uR (-b) (-a) z:=by
   intro x y z hx hy hxz hzy
   refine⟨?_,?_⟩
   ·rw[show Re.of z- -b=(Re.of z-Re.of x)+(Re.of x- -b) from aM fun k=>by simp only[aj,aD];grind]
    exact jW (of_le hxz) hx.1
   ·rw[show-a-Re.of z=(Re.of y-Re.of z)+(-a-Re.of y) from aM fun k=>by simp only[aj,aD];grind]
    exact jW (of_le hzy) hy.2
  have hk:=Nq hc (by omega) T.mem m2 fun p q hq hm=>(T.min p q hq hm).2
  rw[hk,e2,Rat.neg_neg]
theorem Mp {z:Int}(hb:aB (b-Re.of (z:Rat))=1) (hl: ∀k:Int,aB (b-Re.of (k:Rat))=1→k≤z) (ha:aB (Re.of (z:Rat)-a)=1) (T:TMin (uR (-b) (-a)) P Q): -(fr P Q)=(z:Rat):=by
 have e:fr (-z) 1= -(z:Rat):=vx (by decide) (by rw[Nz,qm,ui])
 obtain⟨m1,m2⟩:=T.min (-z) 1 (by decide) (by rw[e,ud,Rat.neg_neg];exact⟨ha,hb⟩)
 have hq:=T.q
 have hQ:Q=1:=by omega
 subst hQ
 have hf:=ij (p:=P) (q:=1) (by decide)
 rw[Nz,ui] at hf
 have hm:=(ud _).1 T.mem
 rw[hf,←qm] at hm
 have:=hl _ hm.2
 grind
theorem rz8 (h1: -pw 425≤n+1) (h2:n≤0):Sz 426 n:=by
 have h3:pw 425+1<pw 426:=BN 425
 exact⟨by omega,by omega⟩
theorem Rw (L:Lv A B C D E F n) (aN:aB (az A B C)<0) (bN:aB (az D E F)≤0) (hb:aB (az D E F-Re.of ((n+1:Int):Rat))≤0) (R:Res (A-(n:Rat)) B C (D-(n:Rat)) E F P2 Q2) (x1:aB (Re.of ((n+1:Int):Rat)-az A B C)=1):
 Ok Tryz.prog 269 [.a (cR A++cR B++cR C),.a (cR D++cR E++cR F)] [dR ((n:Rat)+fr P2 Q2)]:=by
 have c0:((0:Int):Rat)=0:=rfl
 have nz: ∀ {k:Int},Lv (A-(n:Rat)) B C (D-(n:Rat)) E F k→0≤aB (az (A-(n:Rat)) B C)→k=0:=by
  intro k L2 a0
  have f1:cH (Re.of ((oV (A-(n:Rat)) B C:Int):Rat)) (az (A-(n:Rat)) B C):=(tV L2.v1.c0).1
  have f2:=wz (x:=A-(n:Rat)) (y:=B) L2.v1.c0 L2.v1.v
  rw[←L2.nf] at f1 f2
  have k1:=qJ (n:=0) (yx a0) f2
  have k2:=iF.1 k1
  have x2:aB (Re.of ((1:Int):Rat)-az (A-(n:Rat)) B C)=1:=by
   rw[show Re.of ((1:Int):Rat)-az (A-(n:Rat)) B C=Re.of ((n+1:Int):Rat)-az A B C from aM fun k=>by
    simp only[az,aj,aD,aE,aK,gz];grind];exact x1
  have k3:=qJ f1 x2
  have k4:=iF.1 k3
  omega
 have eD:D-(n:Rat)-((0:Int):Rat)=D-(n:Rat):=by rw[c0];grind
 have eA:A-(n:Rat)-((0:Int):Rat)=A-(n:Rat):=by rw[c0];grind
 have o0:Re.of ((0:Int):Rat)=Re.of 0:=rfl
 have hg:decide (bD (D-((n:Rat)+1)) E F>0)=false:=decide_eq_false (by rw[uh L.v2.c0,←Bx];omega)
 cases R with
 |whole L2 a0 h=>
  exfalso
  have e:=nz L2 a0
  subst e
  rw[show az (D-(n:Rat)) E F-Re.of ((0+1:Int):Rat)=az D E F-Re.of ((n+1:Int):Rat) from aM fun k=>by
   simp only[az,aj,aD,aE,aK,gz,c0];grind] at h
  omega
 | @last _ _ _ _ _ _ w k m L2 a0 h hbn hz hw hm tA tB m0 mz=>
   have e:=nz L2 a0
   subst e
   rw[eD] at hw hm tA
   rw[o0,Tu] at hz
   have oT:=xn (tA.mono (by decide)) (tB.mono (by decide)) L.kF (Te L.v2 hw)
   rw[←hm] at oT
   rw[FH 0 m0,c0,Rat.zero_add]
   exact aaq L (mY L.v1.c0) (decide_eq_true aN) (decide_eq_false (by omega)) (mY L.v2.c0) (decide_eq_false (by omega)) L.flA rfl hg (L.sh.trans (by rw[←gh,hz])) (d:=0) rfl hw mz oT (P8 m0)
 | @step _ _ _ _ _ _ w1 w2 k P Q L2 a0 h hbn hz hw1 hw2 R p0 q0 z=>
   have e:=nz L2 a0
   subst e
   rw[eD] at hw2 R
   rw[eA] at hw1 R
   rw[o0,Tu] at hz
   rw[wH p0 q0,c0,Rat.zero_add]
   exact Ze L (mY L.v1.c0) (decide_eq_true aN) (decide_eq_false (by omega)) (mY L.v2.c0) (decide_eq_false (by omega)) L.flA rfl hg (L.sh.trans (by rw[←gh,hz])) (d:=1) rfl hw2 hw1 (Qs R) z (Pe p0 q0)
theorem PN (hA:Rz 226 A) (hB:Rz 42 B) (hC:Rz 156 C) (hD:Rz 226 D) (hE:Rz 42 E) (hF:Rz 156 F) (v1:Vl B C) (v2:Vl E F) (ab:aB (az D E F-az A B C)=1):
 ∃z:Rat,Rz 13681 z∧Ok Tryz.prog 126 [.a (cR A++cR B++cR C),.a (cR D++cR E++cR F)] [dR z,.c (.i .i64 0)]∧
  Ok Tryz.prog 269 [.a (cR A++cR B++cR C),.a (cR D++cR E++cR F)] [dR z]∧Simp (az A B C) (az D E F) z:=by
 have mA:Rz 660 A:=hA.mono (by decide)
 have mB:Rz 660 B:=hB.mono (by decide)
 have mC:Rz 660 C:=hC.mono (by decide)
 have mD:Rz 660 D:=hD.mono (by decide)
 have mE:Rz 660 E:=hE.mono (by decide)
 have mF:Rz 660 F:=hF.mono (by decide)
 have gap:=X5 hA hB hC hD hE hF v1.c0 v2.c0 ab
 obtain⟨uA,lA⟩:=Pz hA hB hC v1.c0
 obtain⟨uD,lD⟩:=Pz hD hE hF v2.c0
 have e1:fN (A-D) B (-E) 0 C F=aB (az A B C-az D E F):=nL v1.c0 v2.c0
 have g1:decide (aB (az A B C-az D E F)≥0)=false:=decide_eq_false (by rw[eJ,ab];decide)
 have ea:fN (A-0) B (-0) 0 C 0=aB (az A B C):=by rw[x5 v1.c0,Tu]
 have eb:fN (D-0) E (-0) 0 F 0=aB (az D E F):=by rw[x5 v2.c0,Tu]
 by_cases aN:aB (az A B C)<0
 ·by_cases bP:aB (az D E F)>0
  ·--0 lies between
   have i1:uR (az A B C) (az D E F) 0:=by
    refine⟨?_,?_⟩
    ·rw[eJ,Tu];have:=bg (az A B C);omega
    ·rw[Tu];have:=bg (az D E F);omega
   exact⟨0,dW (by decide),acv mA mB mC mD mE mF v1.c0 v2.c0 e1 g1 ea (decide_eq_true aN) eb (decide_eq_true bP),abf mA mB mC mD mE mF v1.c0 v2.c0 (mY v1.c0) (decide_eq_true aN) (mY v2.c0) (decide_eq_true bP),⟨i1,fun p q hq _=>by rw[Rat.zero_den];exact hq,fun _ h _=>h rfl⟩⟩
  ·--both are not positive
   have bN:aB (az D E F)≤0:=by omega
   have nb0:0≤aB (az (-D) (-E) F):=by rw[jC,bG];omega
   have nab:aB (az (-A) (-B) C-az (-D) (-E) F)=1:=by
    rw[jC,jC,show-(az A B C)- -(az D E F)=az D E F-az A B C from aM fun k=>by simp only[aj,aV];grind];exact ab
   have ngap:cH (Re.of (1/((pw (3420+3420):Int):Rat))) (az (-A) (-B) C-az (-D) (-E) F):=by
    rw[jC,jC,show-(az A B C)- -(az D E F)=az D E F-az A B C from aM fun k=>by simp only[aj,aV];grind];exact gap
   obtain⟨P,Q,R,T,z⟩:=(BSt.start v2.neg v1.neg nb0 nab (by rw[jC];exact lD) (by rw[jC];exact lA) ngap).go mD.neg mE.neg mF mA.neg mB.neg mC
   rw[jC,jC] at T
   have oP:=abU mA mB mC mD mE mF v1.c0 v2.c0 e1 g1 ea (decide_eq_true aN) eb (decide_eq_false bP) (decide_eq_true bN) (z.mono (by decide)) (PZ R)
   refine⟨-(fr P Q),z.neg,oP,?_,T.simp.neg⟩
   have f1:cH (Re.of ((oV A B C:Int):Rat)) (az A B C):=(tV v1.c0).1
   have f2:=wz (x:=A) (y:=B) v1.c0 v1.v
   have hn1:oV A B C≤0:=by
    have h0:cH (az A B C) (Re.of ((0:Int):Rat)):=by
     show 0≤aB (Re.of 0-az A B C)
     rw[eJ,Tu];omega
    exact fm.1 (gC (et f1 h0))
   have hn2: -pw 425≤oV A B C+1:=by
    have h0:cH (Re.of ((-pw 425:Int):Rat)) (az A B C):=by
     refine ln (fun k=>?_) lA
     simp only[aj,aV,aK,qm];grind
    have:=iF.1 (qJ h0 f2)
    omega
   have nz:=rz8 hn2 hn1
   have L:Lv A B C D E F (oV A B C):=⟨hA.mono (by decide),hB.mono (by decide),mC,hD.mono (by decide),hE.mono (by decide),mF,v1,v2,ab,rfl,nz.mono (by decide)⟩
   generalize oV A B C=n at*
   by_cases hb:aB (az D E F-Re.of ((n+1:Int):Rat))=1
   ·have hg:decide (bD (D-((n:Rat)+1)) E F>0)=true:=decide_eq_true (by rw[uh v2.c0,←Bx,hb];decide)
    have q1:cH (Re.of ((oV D E F:Int):Rat)) (az D E F):=(tV v2.c0).1
    have q2:=wz (x:=D) (y:=E) v2.c0 v2.v
    have hm1:n+1<oV D E F+1:=by
     have h0:cH (Re.of ((n+1:Int):Rat)) (az D E F):=by unfold cH;omega
     exact iF.1 (qJ h0 q2)
    have hm2:oV D E F≤0:=by
     have h0:cH (az D E F) (Re.of ((0:Int):Rat)):=by
      show 0≤aB (Re.of 0-az D E F)
      rw[eJ,Tu];omega
     exact fm.1 (gC (et q1 h0))
    have oT:Ok Tryz.prog 337 [.a (cR D++cR E++cR F)] [dR ((oV D E F:Int):Rat)]:=xn L.kD L.kE L.kF v2
    generalize oV D E F=m at*
    have mz:Sz 6841 m:=(rz8 (by omega) hm2).mono (by decide)
    have up: ∀k:Int,n+1≤k→aB (Re.of (k:Rat)-az A B C)=1:=by
     intro k hk
     rw[show Re.of (k:Rat)-az A B C=(Re.of (k:Rat)-Re.of ((n+1:Int):Rat))+(Re.of ((n+1:Int):Rat)-az A B C) from aM fun k=>by simp only[aj,aD];grind]
     exact jW (qo hk) f2
    by_cases he:aB (az D E F-Re.of (m:Rat))=0
    ·have hlt:n+1<m:=by
      have h0:cH (az D E F) (Re.of (m:Rat)):=by unfold cH;rw[eJ];omega
      have h1:aB (Re.of (m:Rat)-Re.of ((n+1:Int):Rat))=1:=by
       rw[show Re.of (m:Rat)-Re.of ((n+1:Int):Rat)=(Re.of (m:Rat)-az D E F)+(az D E F-Re.of ((n+1:Int):Rat)) from aM fun k=>by simp only[aj,aD];grind]
       exact jW h0 hb
      exact iF.1 (qJ (iq _) h1)
     have eI:=Mp (z:=m-1) (b:=az D E F) (a:=az A B C) (by
      rw[show az D E F-Re.of ((m-1:Int):Rat)=(az D E F-Re.of (m:Rat))+Re.of 1 from aM fun k=>by simp only[aj,aD,aK,ri,Nz];grind]
      exact jW (by omega) (vT (by decide))) (fun k hk=>by
       have h1:aB (Re.of (m:Rat)-Re.of (k:Rat))=1:=by
        rw[show Re.of (m:Rat)-Re.of (k:Rat)=(Re.of (m:Rat)-az D E F)+(az D E F-Re.of (k:Rat)) from aM fun k=>by simp only[aj,aD];grind]
        exact jW (by rw[eJ];omega) hk
       have:=iF.1 (qJ (iq _) h1)
       omega) (up _ (by omega)) T
     rw[eI,ri,Nz]
     exact T8 L (mY v1.c0) (decide_eq_true aN) (decide_eq_false (by omega)) (mY v2.c0) (decide_eq_false (by omega)) L.flA rfl hg mz oT ((uh v2.c0).trans he) rfl
    ·have hp:aB (az D E F-Re.of (m:Rat))=1:=by
      have h0:0≤aB (az D E F-Re.of (m:Rat)):=q1
      have:=bg (az D E F-Re.of (m:Rat))
      omega
     have eI:=Mp (z:=m) (b:=az D E F) (a:=az A B C) hp (fun k hk=>by
      have h0:cH (Re.of (k:Rat)) (az D E F):=by unfold cH;omega
      have:=iF.1 (qJ h0 q2)
      omega) (up _ (by omega)) T
     rw[eI]
     exact Wj L (mY v1.c0) (decide_eq_true aN) (decide_eq_false (by omega)) (mY v2.c0) (decide_eq_false (by omega)) L.flA rfl hg mz oT ((uh v2.c0).trans hp) rfl
   ·have hb':aB (az D E F-Re.of ((n+1:Int):Rat))≤0:=by have:=bg (az D E F-Re.of ((n+1:Int):Rat));omega
    have b1:cH (az D E F) (Re.of ((n+1:Int):Rat)):=by unfold cH;rw[eJ];omega
    have sA:Rz 660 (A-(n:Rat)):=(hA.sub (fu nz (by decide))).mono (by decide)
    have sD:Rz 660 (D-(n:Rat)):=(hD.sub (fu nz (by decide))).mono (by decide)
    have one7:cH (Re.of 1) (Re.of ((pw 425:Int):Rat)):=by
     have:=qo (cU 425)
     exact this
    have xab:aB (az (D-(n:Rat)) E F-az (A-(n:Rat)) B C)=1:=by
     rw[gh,gh,show az D E F-Re.of (n:Rat)-(az A B C-Re.of (n:Rat))=az D E F-az A B C from aM fun k=>by simp only[aj];grind];exact ab
    have xgap:cH (Re.of (1/((pw (3420+3420):Int):Rat))) (az (D-(n:Rat)) E F-az (A-(n:Rat)) B C):=by
     rw[gh,gh,show az D E F-Re.of (n:Rat)-(az A B C-Re.of (n:Rat))=az D E F-az A B C from aM fun k=>by simp only[aj];grind];exact gap
    have x0:0≤aB (az (A-(n:Rat)) B C):=by rw[gh];exact f1
    have y1:cH (az (D-(n:Rat)) E F) (Re.of 1):=by rw[gh];exact Do (n:=n) b1 (iq _)
    have a1:cH (az (A-(n:Rat)) B C) (Re.of 1):=et (by unfold cH;omega) y1
    obtain⟨P2,Q2,R2,T2,_⟩:=(BSt.start v1 v2 x0 xab (et a1 one7) (et y1 one7) xgap).go sA mB mC sD mE mF
    rw[gh,gh] at T2
    rw[Tx T T2 f1 b1]
    exact Rw L aN bN hb' R2 f2
 ·--both are not negative
  have a0:0≤aB (az A B C):=by omega
  have b0: ¬aB (az D E F)≤0:=by
   have h:=jW a0 ab
   rw[show az A B C+(az D E F-az A B C)=az D E F from aM fun k=>by simp only[aj,aD];grind] at h
   omega
  obtain⟨P,Q,R,T,z⟩:=(BSt.start v1 v2 a0 ab uA uD gap).go mA mB mC mD mE mF
  exact⟨fr P Q,z,abP mA mB mC mD mE mF v1.c0 v2.c0 e1 g1 ea (decide_eq_false aN) eb (decide_eq_false b0) (PZ R),Qs R,T.simp⟩
end
theorem acx {p:Pt}(g:GP p):Vl p.b1 (zc p.b1 p.c):=by
 have hv:=g.v
 unfold BE at hv
 refine⟨lk (cg g),fun hb=>?_,fun hb=>Ns hb⟩
 rw[yU hb]
 grind
theorem Li {c:Cv}(vc:CvV c) (hm:c.mono=true) (nv:c.vert=false):cx c.p c.q<0:=by
 cases c with
 |seg l f t=>
  have h1:cP f t<0:=by
   have h:(!decide (cP f t≥0))=true:=hm
   grind
  have h2:cx f t≠0:=by
   have h:(cx f t==0)=false:=nv
   grind
  have:=ZB h2
  show cx f t<0
  omega
 |arc k w f t=>
  have h:=wO vc.g.1 vc.pos ⟨vc.g.2.1,bK.1 vc.sp⟩ ⟨vc.g.2.2,bK.1 vc.sq⟩ hm
  have ha:=dd (cg vc.g.2.1) (cg vc.g.2.2)
  show cx f t<0
  cases w with
  |true=>have h:=h.2.2;omega
  |false=>have h:=h.2.2;omega
theorem Xh {c:Cv}(nc:c.vert=false) (h1:lu c.p x<0) (h2:0<lu c.q x):yn c x=true:=by
 unfold yn
 grind
section
variable {p q:Pt}(gp:GP p) (gq:GP q)
include gp gq
theorem SM (h:cx p q≤0) (h2:0<lu p x):0<lu q x:=by
 rw[nT (cg gp) (cg gq),eJ] at h
 rw[nG (cg gp)] at h2
 rw[nG (cg gq),show pX q-Re.of x=(pX q-pX p)+(pX p-Re.of x) from aM fun k=>by simp only[aj,aD];grind,jW (by omega) (by have:=bg (pX p-Re.of x);omega)]
 grind
theorem RE (h:cx p q≤0) (h2:lu q x<0):lu p x<0:=by
 rw[nT (cg gp) (cg gq),eJ] at h
 rw[nG (cg gq),eJ] at h2
 rw[nG (cg gp),eJ,show Re.of x-pX p=(pX q-pX p)+(Re.of x-pX q) from aM fun k=>by simp only[aj,aD];grind,jW (by omega) (by have:=bg (Re.of x-pX q);omega)]
 grind
theorem WJ:cx q p= -cx p q:=dd (cg gp) (cg gq)
end
theorem Kx {c:Cv}(vc:CvV c) (hx:Rz 13681 x) (hb:yn c x=true):(Rz 40000 (uP c x).a2∧Rz 40000 (uP c x).b2∧Rz 40000 (uP c x).c)∧BE (uP c x).b1 (uP c x).b2 (uP c x).c=true:=by
 unfold yn at hb
 rw[di,di] at hb
 have v0:BE 0 0 0=true:=by unfold BE;rw[if_pos ⟨rfl,rfl⟩];exact decide_eq_true rfl
 cases c with
 |seg l f t=>
  have sf:Bp l f=0:=by have:=vc.sp;simpa [Cv.supp,Cv.p] using this
  have st:Bp l t=0:=by have:=vc.sq;simpa [Cv.supp,Cv.q] using this
  have hv:=J6 vc.g.1 vc.g.2.1 vc.g.2.2 sf st vc.ne
  have hb0:l.b≠0:=fun e=>by
   have h1:(!(cx f t==0))=true:=hb.1
   rw[hv.2 e] at h1;cases h1
  exact⟨⟨((vc.g.1.c.sub (vc.g.1.a.mul hx)).div vc.g.1.b hb0).mono (by decide),dW (by decide),dW (by decide)⟩,v0⟩
 |arc k w f t=>
  have h0:=AT ⟨vc.g.2.1,bK.1 vc.sp⟩ ⟨vc.g.2.2,bK.1 vc.sq⟩ (of_decide_eq_true hb.2.1) (of_decide_eq_true hb.2.2)
  have hk:GK k:=vc.g.1
  have hs:Rz 28000 (iB k x):=(hk.q.sub ((hx.sub hk.x).mul (hx.sub hk.x))).mono (by decide)
  cases e:kg (iB k x) with
  |true=>
   rw[show uP (.arc k w f t) x=⟨x+0*rt (iB k x),0,k.y+sW w*rt (iB k x),0,0⟩ from if_pos e]
   exact⟨⟨(hk.y.add ((xL w).mul hs.rt)).mono (by decide),dW (by decide),dW (by decide)⟩,v0⟩
  |false=>
   rw[show uP (.arc k w f t) x=⟨x,0,k.y,sW w,iB k x⟩ from if_neg (by rw[e];decide)]
   refine⟨⟨hk.y.mono (by decide),(xL w).mono (by decide),hs.mono (by decide)⟩,?_⟩
   have hp:0<iB k x:=by have:=RS e;grind
   show BE 0 (sW w) (iB k x)=true
   unfold BE
   rw[if_neg (fun g=>Lw w g.2),e,decide_eq_true hp];rfl
end Go.Proofs.YtegpmhlfjkhjmaaGreat
