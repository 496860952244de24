/-Plain:the program's sign of a sum with two square roots,its order of two values. -/
import Derived.Test.YtegpmhlfjkhjmaaGreatTaI
namespace Go.Proofs.YtegpmhlfjkhjmaaGreat
open Go Go.RowKit
variable {Q:Exit→St→Prop}{hi lo u v:Int}{tm:List (Nat×DV)}{bx:List (Nat×TypeId×List CellD)}{a' cs pre rest us us' ys zs:List CellD}{by_ k m n q t:Nat}{x y:Operand}{A B C D M N a a1 a2 b b1 b2 c c1 c2 d f p p1 p2 q1 q2 r:Rat}{L X:Re}{U e:TypeId}
variable {ty:TypeId}{pos:String}{af:Array Edge}{g:Option (Nat×Bool)}{dst:Option Nat}
theorem aM:type_of% @Re.ext:=@Re.ext
theorem qm:type_of% @Rat.intCast_neg:=@Rat.intCast_neg
theorem ri:type_of% @Rat.intCast_sub:=@Rat.intCast_sub
def BH (A B C D M N:Rat):Int:=if M<0∨N<0 then 0 else if Ti A B C D M N=true then Xw A B C D M N else fN A B C D M N
theorem Kj (h:M<0∨N<0):BH A B C D M N=0:=by unfold BH;rw[if_pos h]
theorem YE (h: ¬M<0) (h': ¬N<0) (hq:Ti A B C D M N=true):BH A B C D M N=Xw A B C D M N:=by unfold BH;rw[if_neg (fun e=>e.elim h h'),if_pos hq]
theorem FE (h: ¬M<0) (h': ¬N<0) (hq:Ti A B C D M N=false):BH A B C D M N=sB (bD A B M) (bD C D M*aX N 0) (bD (A*A+M*(B*B)-N*(C*C+M*(D*D))) (A*B-N*(C*D)+(A*B-N*(C*D))) M):=by
 unfold BH;rw[if_neg (fun e=>e.elim h h'),hq,if_neg (by decide),xo h h']
 unfold Ep xS
 grind
def tU (a b c d e f:Rat):Int:=
 if (aX b 0==0)=true∧(aX e 0==0)=true then aX a d else
 if Ij (eh a b c) (eh d e f) (eB a b c) (eF a b c) (eB d e f) (eF d e f)=true then Kr (eh a b c) (eh d e f) (eB a b c) (eF a b c) (eB d e f) (eF d e f) else
 if (aX c f==0)=true then bD (a-d) (b-e) c else BH (a-d) b (-e) 0 c f
section
variable {a b c d e f:Rat}
theorem aao (h:(aX b 0==0)=true) (h2:(aX e 0==0)=true):tU a b c d e f=aX a d:=by unfold tU;rw[if_pos ⟨h,h2⟩]
theorem Q1 (h: ¬((aX b 0==0)=true∧(aX e 0==0)=true)) (h2:Ij (eh a b c) (eh d e f) (eB a b c) (eF a b c) (eB d e f) (eF d e f)=true):
 tU a b c d e f=Kr (eh a b c) (eh d e f) (eB a b c) (eF a b c) (eB d e f) (eF d e f):=by unfold tU;rw[if_neg h,if_pos h2]
theorem O7 (h: ¬((aX b 0==0)=true∧(aX e 0==0)=true)) (h2:Ij (eh a b c) (eh d e f) (eB a b c) (eF a b c) (eB d e f) (eF d e f)=false) (h3:(aX c f==0)=true):
 tU a b c d e f=bD (a-d) (b-e) c:=by unfold tU;rw[if_neg h,h2,if_neg (by decide),if_pos h3]
theorem Px (h: ¬((aX b 0==0)=true∧(aX e 0==0)=true)) (h2:Ij (eh a b c) (eh d e f) (eB a b c) (eF a b c) (eB d e f) (eF d e f)=false) (h3:(aX c f==0)=false):
 tU a b c d e f=BH (a-d) b (-e) 0 c f:=by unfold tU;rw[if_neg h,h2,if_neg (by decide),h3,if_neg (by decide)]
theorem XX {b c:Bool}(h:b=false): ¬(b=true∧c=true):=fun e=>by rw[h] at e;exact absurd e.1 (by decide)
theorem YL {b c:Bool}(h:c=false): ¬(b=true∧c=true):=fun e=>by rw[h] at e;exact absurd e.2 (by decide)
end
theorem t8 (ha:Rz 6000000 a) (hb:Rz 6000000 b):Ok Tryz.prog 332 [dR a,dR b] [dR (a+b)]:=by
 refine b9 Tryz.func332 rfl<|ac rfl (jg (bk ha) (bk hb)) ?_
 exact ai (bj bU rfl ag)
theorem xC (hA:Rz 160000 A) (hB:Rz 160000 B) (hC:Rz 160000 C) (hD:Rz 160000 D) (hM:Rz 160000 M) (hN:Rz 160000 N):Ok Tryz.prog 255 [.a ((cR A++cR B++cR C++cR D++cR M++cR N))] [.c (.i .i64 (BH A B C D M N))]:=by
 have z1:=jP (gY C D M) (dU N 0)
 have z2:=jP (gY A B M) (gY (A*A+M*(B*B)-N*(C*C+M*(D*D))) ((A*B-N*(C*D))+(A*B-N*(C*D))) M)
 have kA:Rz 4000000 A:=hA.m_
 have kB:Rz 4000000 B:=hB.m_
 have kC:Rz 4000000 C:=hC.m_
 have kD:Rz 4000000 D:=hD.m_
 have kM:Rz 4000000 M:=hM.m_
 have kN:Rz 4000000 N:=hN.m_
 refine b9 Tryz.func255 rfl ?_
 refine ac rfl (cJ) ?_
 refine lg (bJ rfl) (fun c1 hb1=>?_)
 cases c1
 ·have n1:=Dc hb1
  refine ac rfl (cJ) ?_
  refine dS rfl (fun hc2=>?_) (fun hc2=>?_)
  ·refine ai ?_
   rw[Kj (.inr (F1 hc2))]
   exact ak ag
  ·have n2:=Dc hc2
   refine ac rfl (Ke (by assumption) (by assumption) (by assumption) (by assumption) (by assumption) (by assumption) (by assumption) (by assumption)) ?_
   refine dS rfl (fun hc3=>?_) (fun hc3=>?_)
   ·refine ai ?_
    rw[YE n1 n2 hc3]
    exact ak ag
   ·refine dF 20 [] ?_
    refine aI rfl (qd (bk hA) (bk hB) (bk hM)) ?_
    refine aI rfl (qd (bk hC) (bk hD) (bk hM)) ?_
    refine aI rfl (cJ) ?_
    refine aq (bF ((bD C D M)*(aX N 0)) (b5 (by omega) (by omega)) rfl) ?_
    refine lg (bJ rfl) (fun c4 hb4=>?_)
    cases c4
    ·refine dS rfl (fun hc5=>?_) (fun hc5=>?_)
     ·refine ai ?_
      rw[FE n1 n2 hc3,zf hc5]
      exact ak ag
     ·refine dS rfl (fun hc6=>?_) (fun hc6=>?_)
      ·refine ai ?_
       rw[FE n1 n2 hc3,Ae hc6]
       exact ak ag
      ·refine dF 42 [] ?_
       refine aI rfl (cT (bk hA) (bk hA)) ?_
       refine aI rfl (cT (bk hB) (bk hB)) ?_
       refine aI rfl (cT (bk hM) (bk (a8 hB hB))) ?_
       refine aI rfl (t8 (bk (a8 hA hA)) (bk (a8 hM (a8 hB hB)))) ?_
       refine aI rfl (cT (bk hC) (bk hC)) ?_
       refine aI rfl (cT (bk hD) (bk hD)) ?_
       refine aI rfl (cT (bk hM) (bk (a8 hD hD))) ?_
       refine aI rfl (t8 (bk (a8 hC hC)) (bk (a8 hM (a8 hD hD)))) ?_
       refine aI rfl (cT (bk hN) (bk (ju (a8 hC hC) (a8 hM (a8 hD hD))))) ?_
       refine aI rfl (fj (bk (ju (a8 hA hA) (a8 hM (a8 hB hB)))) (bk (a8 hN (ju (a8 hC hC) (a8 hM (a8 hD hD))))))<|dF 18 [] ?_
       refine aI rfl (cT (bk hA) (bk hB)) ?_
       refine aI rfl (cT (bk hC) (bk hD)) ?_
       refine aI rfl (cT (bk hN) (bk (a8 hC hD)))<|aI rfl (fj (bk (a8 hA hB)) (bk (a8 hN (a8 hC hD))))<|dF 11 [] ?_
       refine aI rfl (t8 (bk (df (a8 hA hB) (a8 hN (a8 hC hD)))) (bk (df (a8 hA hB) (a8 hN (a8 hC hD))))) ?_
       refine aI rfl (qd (bk (df (ju (a8 hA hA) (a8 hM (a8 hB hB))) (a8 hN (ju (a8 hC hC) (a8 hM (a8 hD hD)))))) (bk (ju (df (a8 hA hB) (a8 hN (a8 hC hD))) (df (a8 hA hB) (a8 hN (a8 hC hD))))) (bk hM)) ?_
       refine aq (bF ((bD A B M)*(bD (((A*A)+(M*(B*B)))-(N*((C*C)+(M*(D*D))))) (((A*B)-(N*(C*D)))+((A*B)-(N*(C*D)))) M)) (b5 (by omega) (by omega)) rfl)<|ai ?_
       rw[FE n1 n2 hc3,y7 hc6 hb4 hc5]
       exact ak ag
    ·refine lr rfl<|ai ?_
     rw[FE n1 n2 hc3,zK hb4]
     exact ak ag
 ·refine lr rfl<|ai ?_
  rw[Kj (.inl (F1 hb1))]
  exact ak ag
theorem DA {e:Rat}(ha:Rz 2000000 a) (hb:Rz 160000 b) (hc:Rz 160000 c) (hd:Rz 2000000 d) (he:Rz 160000 e) (hf:Rz 160000 f) (h1:Rz 160000 (a-d)):Ok Tryz.prog 139 [.a ((cR a++cR b++cR c)),.a ((cR d++cR e++cR f))] [.c (.i .i64 (tU a b c d e f))]:=by
 have ka:Rz 6000000 a:=ha.m_
 have la:Rz 4000000 a:=ha.m_
 have kb:Rz 6000000 b:=hb.m_
 have lb:Rz 4000000 b:=hb.m_
 have kc:Rz 6000000 c:=hc.m_
 have lc:Rz 4000000 c:=hc.m_
 have kd:Rz 6000000 d:=hd.m_
 have ld:Rz 4000000 d:=hd.m_
 have ke:Rz 6000000 e:=he.m_
 have le:Rz 4000000 e:=he.m_
 have kf:Rz 6000000 f:=hf.m_
 have lf:Rz 4000000 f:=hf.m_
 have m2:Rz 160000 (-e):=he.neg
 have m0:Rz 160000 (0:Rat):=fu (n:=0) (dC (by decide) (by decide) (by decide)) (by decide)
 have w1:Rz 2000000 (a-d):=h1.m_
 have w2:Rz 2000000 (b-e):=(hb.sub he).m_
 have w3:Rz 2000000 c:=hc.m_
 refine b9 Tryz.func139 rfl ?_
 refine ac rfl (cJ) ?_
 refine lg (bJ rfl) (fun c1 hb1=>?_)
 cases c1
 ·refine qq rfl<|ac rfl (Dq (by assumption) (by assumption) (by assumption) (by assumption) (by assumption) (by assumption)) ?_
  refine dS rfl (fun hc2=>?_) (fun hc2=>?_)
  ·refine ai ?_
   rw[Q1 (XX hb1) hc2]
   exact ak ag
  ·refine ac rfl (lK (bk hc) (bk hf)) ?_
   refine dS rfl (fun hc3=>?_) (fun hc3=>?_)
   ·refine dF 14 [] ?_
    refine aI rfl (fj (bk ha) (bk hd)) ?_
    refine aI rfl (fj (bk hb) (bk he)) ?_
    refine aI rfl (qd w1 w2 w3)<|ai ?_
    rw[O7 (XX hb1) hc2 hc3]
    exact ak ag
   ·refine ac rfl (Jd (by assumption) (by assumption) (by assumption) (by assumption) (by assumption) (by assumption))<|ac rfl (xC (by assumption) (by assumption) (by assumption) (by assumption) (by assumption) (by assumption))<|ai ?_
    rw[Px (XX hb1) hc2 hc3]
    exact ak ag
 ·refine ac rfl (cJ) ?_
  refine dS rfl (fun hc4=>?_) (fun hc4=>?_)
  ·refine ac rfl (lK (bk ha) (bk hd))<|ai ?_
   rw[aao hb1 hc4]
   exact ak ag
  ·refine ac rfl (Dq (by assumption) (by assumption) (by assumption) (by assumption) (by assumption) (by assumption)) ?_
   refine dS rfl (fun hc5=>?_) (fun hc5=>?_)
   ·refine ai ?_
    rw[Q1 (YL hc4) hc5]
    exact ak ag
   ·refine ac rfl (lK (bk hc) (bk hf)) ?_
    refine dS rfl (fun hc6=>?_) (fun hc6=>?_)
    ·refine dF 14 [] ?_
     refine aI rfl (fj (bk ha) (bk hd)) ?_
     refine aI rfl (fj (bk hb) (bk he)) ?_
     refine aI rfl (qd w1 w2 w3)<|ai ?_
     rw[O7 (YL hc4) hc5 hc6]
     exact ak ag
    ·refine ac rfl (Jd (by assumption) (by assumption) (by assumption) (by assumption) (by assumption) (by assumption))<|ac rfl (xC (by assumption) (by assumption) (by assumption) (by assumption) (by assumption) (by assumption))<|ai ?_
     rw[Px (YL hc4) hc5 hc6]
     exact ak ag
def Bq (a1 b1 a2 b2 c p1 q1 p2 q2 r:Rat):Int:=if tU a1 b1 (zc b1 c) p1 q1 (zc q1 r)≠0 then tU a1 b1 (zc b1 c) p1 q1 (zc q1 r) else tU a2 b2 (zc b2 c) p2 q2 (zc q2 r)
theorem Wf (h:(tU a1 b1 (zc b1 c) p1 q1 (zc q1 r) !=0)=true):Bq a1 b1 a2 b2 c p1 q1 p2 q2 r=tU a1 b1 (zc b1 c) p1 q1 (zc q1 r):=by unfold Bq;rw[if_pos (by simpa using h)]
theorem US (h:(tU a1 b1 (zc b1 c) p1 q1 (zc q1 r) !=0)=false):Bq a1 b1 a2 b2 c p1 q1 p2 q2 r=tU a2 b2 (zc b2 c) p2 q2 (zc q2 r):=by unfold Bq;rw[if_neg (by simpa using h)]
def cH (x y:Re):Prop:=0≤aB (y-x)
theorem et {x y z:Re}(h:cH x y) (g:cH y z):cH x z:=by
 unfold cH at*
 have e:z-x=(z-y)+(y-x):=aM fun k=>by simp only[aj,aD];grind
 rw[e];exact fP g h
theorem of_le {q:Rat}(h:p≤q):cH (Re.of p) (Re.of q):=by
 unfold cH
 rw[yo,bQ]
 unfold aX
 grind
theorem ln {x y:Re}(h: ∀k,x.s k=y.s k) (g:0≤aB x):0≤aB y:=by rw[←aM h];exact g
def vi (lo hi:Int) (x:Re):Prop:=cH (Re.of (lo:Rat)) (Re.of 65536*x)∧cH (Re.of 65536*x) (Re.of (hi:Rat))
theorem fD {x y u v:Re}(h:cH x y) (g:cH u v):cH (x+u) (y+v):=by
 exact ln (fun k=>by simp only[aj,aD];grind) (fP h g)
theorem WT (y:Rat):((y.num.fdiv (y.den:Int):Int):Rat)≤y:=by
 have hd:=den_pos y
 have h1:=uW y
 have hp:(0:Rat)<((y.den:Int):Rat):=uI.2 hd
 refine pZ hp ?_
 rw[h1,←dD]
 refine fm.2 ?_
 rw[pc _ (by omega),rA]
 have:=rS y.num (y.den:Int)
 have:=po y.num (show(y.den:Int)≠0 by omega)
 omega
theorem Iw (a:Rat):vi (jD a) (jq a) (Re.of a):=by
 have h1:=WT (a*((65536:Int):Rat))
 have h2:=WT (-(a*((65536:Int):Rat)))
 refine⟨?_,?_⟩
 ·rw[dO]
  refine of_le ?_
  unfold jD
  grind
 ·rw[dO]
  refine of_le ?_
  unfold jq
  grind
theorem IJ (h:jo a=true):vi (gL a) (gH a) (Re.of a):=by
 unfold gL gH;rw[h,if_pos rfl,if_pos rfl];exact Iw a
theorem qH {p q:Re}(_hp:0≤aB p) (hq:0≤aB q) (h:0≤aB (q*q-p*p)):cH p q:=by
 unfold cH
 rcases bg (q-p) with a|a|a
 ·omega
 ·omega
 ·exfalso
  have h1:0<aB (p-q):=by
   have e:p-q= -(q-p):=aM fun k=>by simp only[aj,aV];grind
   rw[e,bG,a];decide
  have h2:0<aB (p+q):=by
   have e:p+q=(p-q)+(q+q):=aM fun k=>by simp only[aj,aD];grind
   rw[e];exact wG h1 (fP hq hq)
  have h3:aB ((q-p)*(p+q))=aB (q*q-p*p):=congrArg aB (aM fun k=>by simp only[aj,aD,aE];grind)
  rw[aY,a] at h3
  omega
theorem wW {n:Int}(h:0≤n):0≤aB (Re.of (n:Rat)):=by
 have:=of_le (yi.2 h)
 refine ln (fun k=>?_) this
 simp only[aj,aK];grind
theorem gC {q:Rat}(h:cH (Re.of p) (Re.of q)):p≤q:=by
 unfold cH at h
 rw[yo,bQ] at h
 unfold aX at h
 grind
theorem KY (m:Rat):0≤aB (Re.of 65536*Re.rt m):=by
 have h1:=u9 m
 have h2:aB (Re.of 65536)=1:=by rw[bQ];decide+kernel
 rw[aY,h2];omega
theorem MH {m:Rat}(h:0≤m) (q:Rat):aB (Re.of 65536*Re.rt m*(Re.of 65536*Re.rt m)-Re.of q)=aX (65536*65536*m) q:=by
 rw[←oE,←bQ]
 refine cY ?_
 have e:Re.of 65536*Re.rt m*(Re.of 65536*Re.rt m)-Re.of q-Re.of (65536*65536*m-q)=Re.of (65536*65536)*(Re.rt m*Re.rt m-Re.of m):=aM fun k=>by
  simp only[aj,aE,aK];grind
 rw[e,aY,lh h,ny]
theorem gG {x y:Rat}(h:y≤x):0≤aX x y:=by unfold aX;rw[if_neg (by grind)];split<;>omega
theorem Dd {x y:Rat}(h:x≤y):aX x y≤0:=by
 unfold aX
 split
 ·omega
 ·rw[if_neg (by grind)];omega
theorem RF {m:Rat}(hm:0≤m) (h:vi lo hi (Re.of m)):vi (qy lo) (lI hi) (Re.rt m):=by
 obtain⟨h1,h2⟩:=h
 rw[dO] at h1 h2
 have g1:=gC h1
 have g2:=gC h2
 have hq:(0:Rat)≤65536*m:=by grind
 refine⟨?_,?_⟩
 ·refine qH (wW (fg _)) (KY m) ?_
  rw[dO,MH hm]
  refine gG ?_
  have h3:=ry (x:=max lo 0*65536) (by omega)
  have h4:((bZ (max lo 0*65536)*bZ (max lo 0*65536):Int):Rat)≤((max lo 0*65536:Int):Rat):=fm.2 h3
  have h5:((max lo 0:Int):Rat)≤65536*m:=by
   by_cases hl:0≤lo
   ·grind
   ·rw[show max lo 0=0 from by omega];simpa using hq
  unfold qy
  grind
 ·refine qH (KY m) (wW ?_) ?_
  ·unfold lI;have:=fg (hi*65536);split<;>omega
  have h3:0≤ -aB (Re.of 65536*Re.rt m*(Re.of 65536*Re.rt m)-Re.of (((lI hi:Int):Rat)*((lI hi:Int):Rat))):=by
   rw[MH hm]
   have hh:(0:Int)≤hi:=by
    have:(0:Rat)≤(hi:Rat):=by grind
    exact yi.1 this
   have h4:hi*65536≤lI hi*lI hi:=by
    unfold lI
    split
    ·rename_i hs
     unfold D6 at hs
     grind
    ·have:=xg (x:=hi*65536) (by omega)
     omega
   have h5:((hi*65536:Int):Rat)≤((lI hi*lI hi:Int):Rat):=fm.2 h4
   have:=Dd (x:=65536*65536*m) (y:=((lI hi:Int):Rat)*((lI hi:Int):Rat)) (by grind)
   omega
  rw[←bG] at h3
  refine ln (fun k=>?_) h3
  simp only[aV,aj,aE,aK];grind
theorem JX {k u v U:Re}(h1:0≤aB (k*u-L)) (h2:0≤aB (k*v-L)) (g1:cH u U) (g2:cH U v):0≤aB (k*U-L):=by
 unfold cH at*
 have e:(v-u)*(k*U-L)=(v-U)*(k*u-L)+(U-u)*(k*v-L):=aM fun j=>by simp only[aj,aE,aD];grind
 have hr:0≤aB ((v-U)*(k*u-L)+(U-u)*(k*v-L)):=by
  refine fP ?_ ?_
  ·rw[aY];exact fU g2 h1
  ·rw[aY];exact fU g1 h2
 rw[←e,aY] at hr
 have e2:aB (v-u)=aB ((v-U)+(U-u)):=congrArg aB (aM fun j=>by simp only[aj,aD];grind)
 rcases bg (v-u) with a|a|a
 ·grind
 ·rcases bg (U-u) with b|b|b
  ·have:=wG (x:=U-u) (y:=v-U) (by omega) g2
   rw[y8] at this
   omega
  ·have e3:k*U-L=(k*u-L)+k*(U-u):=aM fun j=>by simp only[aj,aD,aE];grind
   rw[e3,dH _ (by rw[aY,b,ny])]
   grind
  grind
 ·have:=fP g2 g1
  omega
theorem Qi {x y u v U:Re}(h1:0≤aB (x*u-L)) (h2:0≤aB (x*v-L)) (h3:0≤aB (y*u-L)) (h4:0≤aB (y*v-L)) (g1:cH x X) (g2:cH X y) (g3:cH u U) (g4:cH U v):0≤aB (X*U-L):=by
 have a:=JX h1 h2 g3 g4
 have b:=JX h3 h4 g3 g4
 rw[rn x U] at a
 rw[rn y U] at b
 have:=JX a b g1 g2
 rw[rn U X] at this
 grind
theorem Xq (a b:Int):mM a b*65536≤a*b∧a*b≤mK a b*65536:=by
 have e:a*b=if (!(decide (a<0)==decide (b<0)))=true then-OB a b else OB a b:=by
  unfold OB
  by_cases ha:a<0<;>by_cases hb:b<0
  ·grind
  ·grind
  ·grind
  grind
 rw[e]
 unfold mM mK
 generalize OB a b=p
 have hu:p≤Eh p*65536:=by unfold Eh;split<;>omega
 grind
theorem Ri {x y:Int}{U:Re}(h:vi x y X) (g:vi u v U):vi (Em x y u v 4) (D3 x y u v 4) (X*U):=by
 have lo: ∀a b:Int,Em x y u v 4≤mM a b→0≤aB (Re.of (a:Rat)*Re.of (b:Rat)-Re.of ((Em x y u v 4*65536:Int):Rat)):=by
  intro a b hl
  rw[dO]
  refine of_le ?_
  rw[←dD]
  exact fm.2 (by have:=(Xq a b).1;omega)
 have hi: ∀a b:Int,mK a b≤D3 x y u v 4→0≤aB (-Re.of (a:Rat)*Re.of (b:Rat)-Re.of (-((D3 x y u v 4*65536:Int):Rat))):=by
  intro a b hl
  rw[Sv,dO]
  refine of_le ?_
  have h1:((a*b:Int):Rat)≤((D3 x y u v 4*65536:Int):Rat):=fm.2 (by have:=(Xq a b).2;omega)
  grind
 have hlo:Em x y u v 4=min (min (min (min 2305843009213693952 (mM x u)) (mM x v)) (mM y u)) (mM y v):=rfl
 have hhi:D3 x y u v 4=max (max (max (max (-2305843009213693952) (mK x u)) (mK x v)) (mK y u)) (mK y v):=rfl
 have e65:((65536:Int):Rat)=65536:=rfl
 have p65:aB (Re.of 65536)=1:=by rw[bQ];decide+kernel
 refine⟨?_,?_⟩
 ·have hb:=Qi (lo x u (by omega)) (lo x v (by omega)) (lo y u (by omega)) (lo y v (by omega)) h.1 h.2 g.1 g.2
  have e:aB (Re.of 65536*(Re.of 65536*(X*U)-Re.of ((Em x y u v 4:Int):Rat)))=aB (Re.of 65536*X*(Re.of 65536*U)-Re.of ((Em x y u v 4*65536:Int):Rat)):=congrArg aB (aM fun k=>by
   simp only[aj,aE,aK,dD,e65];grind)
  rw[←e,aY,p65,js] at hb
  exact hb
 ·have n1:cH (-Re.of (y:Rat)) (-(Re.of 65536*X)):=ln (fun k=>by simp only[aj,aV];grind) h.2
  have n2:cH (-(Re.of 65536*X)) (-Re.of (x:Rat)):=ln (fun k=>by simp only[aj,aV];grind) h.1
  have hb:=Qi (hi y u (by omega)) (hi y v (by omega)) (hi x u (by omega)) (hi x v (by omega)) n1 n2 g.1 g.2
  have e:aB (Re.of 65536*(Re.of ((D3 x y u v 4:Int):Rat)-Re.of 65536*(X*U)))=aB (-(Re.of 65536*X)*(Re.of 65536*U)-Re.of (-((D3 x y u v 4*65536:Int):Rat))):=congrArg aB (aM fun k=>by
   simp only[aj,aE,aK,aV,dD,e65];grind)
  rw[←e,aY,p65,js] at hb
  exact hb
theorem NV {x y:Int}{U:Re}(h:vi x y X) (g:vi u v U) (hk:AD x y u v 4=true):vi (pL x y u v) (pH x y u v) (X*U):=by
 unfold pL pH;rw[hk,if_pos rfl,if_pos rfl];exact Ri h g
theorem QG {x y:Int}{U:Re}(h:vi x y X) (g:vi u v U):vi (x+u) (y+v) (X+U):=by
 have a:=fD h.1 g.1
 have b:=fD h.2 g.2
 refine⟨ln (fun k=>?_) a,ln (fun k=>?_) b⟩
 ·simp only[aj,aD,aE,aK,gz];grind
 ·simp only[aj,aD,aE,aK,gz];grind
theorem N9 {x y:Int}{U:Re}(h:vi x y X) (g:vi u v U) (hk:xD (x+u) (y+v)=true):vi (aL x y u v) (aH x y u v) (X+U):=by
 unfold aL aH;rw[hk,if_pos rfl,if_pos rfl];exact QG h g
theorem U7 (X:Re):aB (Re.of 65536*X)=aB X:=by
 have p65:aB (Re.of 65536)=1:=by rw[bQ];decide+kernel
 rw[aY,p65,js]
theorem CE {n:Int}(h:0<n):0<aB (Re.of (n:Rat)):=by
 rw[bQ]
 have h1:(0:Rat)<(n:Rat):=uI.2 h
 unfold aX
 grind
theorem XO (h:vi lo hi X) (hl:0<lo):aB X=1:=by
 have h1:=wG (CE hl) h.1
 have e:aB (Re.of (lo:Rat)+(Re.of 65536*X-Re.of (lo:Rat)))=aB (Re.of 65536*X):=congrArg aB (aM fun k=>by simp only[aj,aD];grind)
 rw[e,U7] at h1
 have:=bg X
 omega
theorem XK (h:vi lo hi X) (hl:hi<0):aB X= -1:=by
 have h0:0<aB (-Re.of (hi:Rat)):=by
  rw[Sv,←qm];exact CE (by omega)
 have h1:=wG h0 h.2
 have e:aB (-Re.of (hi:Rat)+(Re.of (hi:Rat)-Re.of 65536*X))=aB (-(Re.of 65536*X)):=congrArg aB (aM fun k=>by simp only[aj,aD,aV];grind)
 rw[e,bG,U7] at h1
 have:=bg X
 omega
theorem VZ (h:vi 0 0 X):aB X=0:=by
 have h1:=h.1
 have h2:=h.2
 unfold cH at h1 h2
 have e1:aB (Re.of 65536*X-Re.of ((0:Int):Rat))=aB (Re.of 65536*X):=congrArg aB (aM fun k=>by simp only[aj,aK];grind)
 have e2:aB (Re.of ((0:Int):Rat)-Re.of 65536*X)=aB (-(Re.of 65536*X)):=congrArg aB (aM fun k=>by simp only[aj,aK,aV];grind)
 rw[e1,U7] at h1
 rw[e2,bG,U7] at h2
 omega
theorem K8 (h:vi lo hi X) (hs:Nu lo hi=true):NG lo hi=aB X:=by
 unfold Nu at hs
 simp only[sY,decide_eq_true_eq,di,beq_iff_eq] at hs
 unfold NG
 by_cases h1:lo>0
 ·rw[if_pos h1,XO h h1]
 ·rw[if_neg h1]
  by_cases h2:hi<0
  ·rw[if_pos h2,XK h h2]
  ·rw[if_neg h2]
   rcases hs with hs|hs|⟨hs,hs'⟩
   ·omega
   ·omega
   ·subst hs hs'
    exact(VZ h).symm
theorem U4 (hM:0≤M) (hN:0≤N) (h:Ti A B C D M N=true):Xw A B C D M N=aB (jM A B C D M N):=by
 unfold Ti at h
 rw[di] at h
 obtain⟨h3,hs⟩:=h
 rw[(KG h3).1]
 unfold MJ ZU ZZ at h3
 simp only[di] at h3
 obtain⟨⟨⟨k1,k2⟩,k3,k4,k5,k6,k7,k8,k9⟩,k10,k11,k12,k13⟩:=h3
 have im:=RF hM (IJ k1)
 have in_:=RF hN (IJ k2)
 have ib:vi (W7 B M) (Ww B M) _:=NV (IJ k3) im k4
 have ic:vi (W7 C N) (Ww C N) _:=NV (IJ k5) in_ k6
 have imn:vi (UG M N) (Wa M N) _:=NV im in_ k8
 have id':vi (qdL D M N) (qdH D M N) _:=NV (IJ k7) imn k9
 have iab:vi (Uk A B M) (Vh A B M) _:=N9 (IJ k10) ib k11
 have icd:vi (Tr C D M N) (Tv C D M N) _:=N9 ic id' k12
 have is':vi (qsL A B C D M N) (qsH A B C D M N) _:=N9 iab icd k13
 rw[K8 is' hs]
 refine congrArg aB (aM fun k=>?_)
 unfold jM az
 simp only[aD,aE,aK];grind
theorem LX (hM:0≤M) (hN:0≤N):BH A B C D M N=aB (jM A B C D M N):=by
 unfold BH
 rw[if_neg (by rintro(h|h)<;>grind)]
 split
 ·rename_i h;exact U4 hM hN h
 ·exact np hM hN
theorem LM (h:eh a b c=true):vi (eB a b c) (eF a b c) (az a b c):=by
 have h0:=h
 unfold eh at h
 rw[di] at h
 obtain⟨h1,h2⟩:=h
 cases hb:(aX b 0==0) with
 |true=>
  obtain⟨e1,e2,_⟩:=abd (c:=c) h1 hb
  have hb0:b=0:=tM hb
  have:=Iw a
  have e:az a 0 c=Re.of a:=aM fun k=>by unfold az;simp only[aD,aE,aK];grind
  grind
 |false=>
  rw[hb,Bool.false_or] at h2
  unfold V8 at h2
  simp only[di,qg] at h2
  obtain⟨g1,g2,g3,g4,g5⟩:=h2
  have hc:0≤c:=Rat.not_lt.1 (Dc g3)
  have ir:=RF hc (Iw c)
  have im:=Ri (Iw b) ir
  have:=QG (Iw a) im
  unfold eB eF
  rw[h0,if_pos rfl,if_pos rfl,hb,if_neg (by decide),if_neg (by decide)]
  exact this
theorem UR {e:Rat}(h:Ij (eh a b c) (eh d e f) (eB a b c) (eF a b c) (eB d e f) (eF d e f)=true):
 Kr (eh a b c) (eh d e f) (eB a b c) (eF a b c) (eB d e f) (eF d e f)=aB (az a b c-az d e f):=by
 unfold Ij at h
 simp only[di,sY,decide_eq_true_eq] at h
 obtain⟨⟨k1,k2⟩,hs⟩:=h
 have i1:=LM k1
 have i2:=LM k2
 have i3:vi (eB a b c-eF d e f) (eF a b c-eB d e f) (az a b c-az d e f):=by
  have n:=fD i1.1 (ln (y:= -(Re.of 65536*az d e f)- -Re.of ((eF d e f:Int):Rat)) (fun k=>by simp only[aj,aV];grind) i2.2)
  have m:=fD i1.2 (ln (y:= -Re.of ((eB d e f:Int):Rat)- -(Re.of 65536*az d e f)) (fun k=>by simp only[aj,aV];grind) i2.1)
  refine⟨ln (fun k=>?_) n,ln (fun k=>?_) m⟩
  ·simp only[aj,aD,aE,aK,aV,ri];grind
  ·simp only[aj,aD,aE,aK,aV,ri];grind
 unfold Kr
 rw[k1,k2,Bool.and_self,if_pos rfl]
 by_cases h1:eF a b c<eB d e f
 ·rw[if_pos (decide_eq_true h1),XK i3 (by omega)]
 ·rw[if_neg (by simpa using h1)]
  rcases hs with hs|hs
  ·omega
  ·rw[if_pos (decide_eq_true hs),XO i3 (by omega)]
theorem LW {e:Rat}(hc:0≤c) (hf:0≤f):tU a b c d e f=aB (az a b c-az d e f):=by
 unfold tU
 split
 ·rename_i h
  have hb:b=0:=tM h.1
  have he:e=0:=tM h.2
  rw[←oE,←bQ]
  refine congrArg aB (aM fun k=>?_)
  unfold az;simp only[aj,aD,aE,aK];grind
 ·split
  ·rename_i h;exact UR h
  ·split
   ·rename_i h
    have e1:c=f:=wm.1 (by simpa using h)
    rw[jn hc]
    refine congrArg aB (aM fun k=>?_)
    unfold az;simp only[aj,aD,aE,aK];grind
   ·rw[LX hc hf]
    refine congrArg aB (aM fun k=>?_)
    unfold jM az;simp only[aj,aD,aE,aK];grind
theorem xN (ha1:Rz 2000000 a1) (hb1:Rz 160000 b1) (ha2:Rz 2000000 a2) (hb2:Rz 160000 b2) (hc:Rz 160000 c) (hp1:Rz 2000000 p1) (hq1:Rz 160000 q1) (hp2:Rz 2000000 p2) (hq2:Rz 160000 q2) (hr:Rz 160000 r) (s1:Rz 160000 (a1-p1)) (s2:Rz 160000 (a2-p2)):Ok Tryz.prog 51 [.a ((cR a1++cR b1++cR a2++cR b2++cR c)),.a ((cR p1++cR q1++cR p2++cR q2++cR r))] [.c (.i .i64 (Bq a1 b1 a2 b2 c p1 q1 p2 q2 r))]:=by
 have kb1:Rz 160000 (zc b1 c):=Rz.zc hc (by decide)
 have kb2:Rz 160000 (zc b2 c):=Rz.zc hc (by decide)
 have kq1:Rz 160000 (zc q1 r):=Rz.zc hr (by decide)
 have kq2:Rz 160000 (zc q2 r):=Rz.zc hr (by decide)
 refine b9 Tryz.func51 rfl<|dF 6 [] ?_
 refine aI rfl (qz) ?_
 refine aI rfl (qz) ?_
 refine aI rfl (DA (by assumption) (by assumption) (by assumption) (by assumption) (by assumption) (by assumption) (by assumption)) ?_
 refine dS rfl (fun hc1=>?_) (fun hc1=>?_)
 ·refine ai ?_
  rw[Wf hc1]
  exact ak ag
 ·refine dF 6 [] ?_
  refine aI rfl (Kc) ?_
  refine aI rfl (Kc) ?_
  refine aI rfl (DA (by assumption) (by assumption) (by assumption) (by assumption) (by assumption) (by assumption) (by assumption))<|ai ?_
  rw[US hc1]
  exact ak ag
theorem Ho (ha1:Rz 2000000 a1) (hb1:Rz 160000 b1) (ha2:Rz 2000000 a2) (hb2:Rz 160000 b2) (hc:Rz 160000 c) (hp1:Rz 2000000 p1) (hq1:Rz 160000 q1) (hp2:Rz 2000000 p2) (hq2:Rz 160000 q2) (hr:Rz 160000 r) (s1:Rz 160000 (a1-p1)) (s2:Rz 160000 (a2-p2)):Ok Tryz.prog 220 [.a ((cR a1++cR b1++cR a2++cR b2++cR c)),.a ((cR p1++cR q1++cR p2++cR q2++cR r))] [.c (.b (Bq a1 b1 a2 b2 c p1 q1 p2 q2 r==0))]:=by
 refine b9 Tryz.func220 rfl ?_
 refine ac rfl (xN (by assumption) (by assumption) (by assumption) (by assumption) (by assumption) (by assumption) (by assumption) (by assumption) (by assumption) (by assumption) (by assumption) (by assumption)) ?_
 exact ai (ak ag)
theorem zl {x:Int}(h:0<x):0<bZ x:=by
 have h1:=xg (x:=x) (by omega)
 have h2:=fg x
 by_cases e:bZ x=0
 ·rw[e] at h1;omega
 ·omega
theorem Rz.rt (h:Rz k c):Rz k (rt c):=Rz.of h.n.isq h.d.isq (by have:=zl (den_pos c);omega)
theorem H7 (h:kg c=true):cQ (if kg c then bZ c.num else 0) (if kg c then bZ (c.den:Int) else 0)=cR (rt c):=by
 have:=UT h
 unfold dQ dR at this
 injection this
def zR:List CellD:=[.b false,.s 0 [],.b false,.s 0 [],.b false,.s 0 [],.b false,.s 0 [],.b false,.s 0 [],.b false,.s 0 []]
theorem Db (ha:Rz 1000000 a) (hb:Rz 1000000 b) (hc:Rz 1000000 c) (h0: ¬c<0) (hs:kg c=true):Ok Tryz.prog 92 [dR a,dR b,dR c] [.a ((cR (a+b*rt c)++cR 0++cR 0)),.c (.i .i64 0)]:=by
 have ka:Rz 6000000 a:=ha.m_
 have kb:Rz 6000000 b:=hb.m_
 have kc:Rz 6000000 c:=hc.m_
 have kt:Rz 1000000 (rt c):=hc.rt
 refine b9 Tryz.func92 rfl<|ac rfl (fY) ?_
 refine dS rfl (fun hc1=>?_) (fun hc1=>?_)
 ·exact absurd (F1 hc1) h0
 ·refine ac rfl (Fl (bk hc)) ?_
  refine DW.mk<|aP rfl (fun hc2=>?_) (fun hc2=>?_)
  ·refine nH (σ':=⟨30,[(3,.p 3 0),(4,.p 4 0),(6,.p 6 0),(8,.p 8 0)],[(3,38,cR a),(4,38,cR b),(6,129,zR),(8,38,cR (rt c))]⟩) (ap (bo rfl) ⟨rfl,rfl,rfl,by rw[←H7 hs];rfl,trivial⟩ rfl)<|gZ ?_
   refine dF 6 [] ?_
   refine aI rfl (ce (bk hb) (OA)) ?_
   refine aI rfl (da (bk ha) (bk (a8 hb (by assumption)))) ?_
   refine aI rfl (fF) ?_
   exact ai (bj d9 rfl (ak ag))
  ·exact absurd hs (by rw[hc2];decide)
theorem Dk (ha:Rz 1000000 a) (hb:Rz 1000000 b) (hc:Rz 1000000 c) (h0: ¬c<0) (hs:kg c=false):Ok Tryz.prog 92 [dR a,dR b,dR c] [.a ((cR a++cR (rB b c)++cR (rC b c))),.c (.i .i64 0)]:=by
 have ka:Rz 6000000 a:=ha.m_
 have kb:Rz 6000000 b:=hb.m_
 have kc:Rz 6000000 c:=hc.m_
 have kt:Rz 1000000 (rt c):=hc.rt
 refine b9 Tryz.func92 rfl<|ac rfl (fY) ?_
 refine dS rfl (fun hc1=>?_) (fun hc1=>?_)
 ·exact absurd (F1 hc1) h0
 ·refine ac rfl (Fl (bk hc)) ?_
  refine dS rfl (fun hc2=>?_) (fun hc2=>?_)
  ·exact absurd hc2 (by rw[hs];decide)
  ·refine ac rfl (F7) ?_
   exact ai (bj d9 rfl (ak ag))
theorem x7 (hc1:Rz 6000000 c1) (hc2:Rz 6000000 c2) (hbad: ¬bad b1 c1 b2 c2):Ok Tryz.prog 129 [.a ((cR a1++cR b1++cR c1)),.a ((cR a2++cR b2++cR c2))] [.a ((cR a1++cR b1++cR a2++cR b2++cR (Oa b1 b2 (cc b1 c1 c2)))),.c (.i .i64 0)]:=by
 have kc1:=hc1
 have kc2:=hc2
 refine eo Tryz.func129 39 [.cell 4 47,.tmp 5] rfl<|ae<|ah<|ae<|ah ?_
 refine ae<|ae<|ah ?_
 refine ac rfl (cJ) ?_
 refine aP rfl (fun hc1=>?_) (fun hc1=>?_)
 ·refine ah ?_
  refine ae<|bq<|bH 1 ?_
  refine aO (nt (cR a1) bU rfl) ?_
  refine bH 1 ?_
  refine aO (nt (cR b1) bU rfl)<|bH 1 ?_
  refine aO (nt (cR a2) bU rfl)<|bH 1 ?_
  refine aO (nt (cR b2) bU rfl)<|bH 1 ?_
  refine aO (aF (us:=(cR a1++cR b1++cR a2++cR b2++cR c2)) Kw De rfl rfl rfl) ?_
  refine aO (dg rfl (uc))<|gi<|ba ?_
  rw[NQ (tM hc1)]
  exact ai (bj cn rfl (ak ag))
 ·refine ae<|ah ?_
  refine ac rfl (cJ) ?_
  refine lg (bJ rfl) (fun c2 hb2=>?_)
  cases c2
  ·refine bh rfl<|aA<|ae<|bq<|bH 1<|aO (nt (cR a1) bU rfl)<|bH 1<|aO (nt (cR b1) bU rfl)<|bH 1<|aO (nt (cR a2) bU rfl)<|bH 1<|aO (nt (cR b2) bU rfl)<|bH 1<|aO (aF (us:=(cR a1++cR b1++cR a2++cR b2++cR c1)) Kw De rfl rfl rfl) ?_
   refine aO (dg rfl (uc))<|gi<|ba ?_
   rw[Nf (tP hc1)]
   exact ai (bj cn rfl (ak ag))
  ·refine ac rfl (lK (bk kc1) (bk kc2)) ?_
   refine aP rfl (fun hc3=>?_) (fun hc3=>?_)
   ·exact absurd ⟨tP hc1,HQ hb2,HQ hc3⟩ hbad
   ·refine aA<|ae<|bq<|bH 1<|aO (nt (cR a1) bU rfl)<|bH 1<|aO (nt (cR b1) bU rfl)<|bH 1<|aO (nt (cR a2) bU rfl)<|bH 1<|aO (nt (cR b2) bU rfl)<|bH 1<|aO (aF (us:=(cR a1++cR b1++cR a2++cR b2++cR c1)) Kw De rfl rfl rfl) ?_
    refine aO (dg rfl (uc))<|gi<|ba ?_
    rw[Nf (tP hc1)]
    exact ai (bj cn rfl (ak ag))
theorem Kb (hc1:Rz 6000000 c1) (hc2:Rz 6000000 c2) (hbad: ¬bad b1 c1 b2 c2):Ok Tryz.prog 270 [.a ((cR a1++cR b1++cR c1)),.a ((cR a2++cR b2++cR c2))] [.a ((cR a1++cR b1++cR a2++cR b2++cR (Oa b1 b2 (cc b1 c1 c2)))),.c (.i .i64 0)]:=by
 have kc1:=hc1
 have kc2:=hc2
 refine b9 Tryz.func270 rfl<|ac rfl (fY) ?_
 refine lg (bJ rfl) (fun c1 hb1=>?_)
 cases c1
 ·refine ar (bJ rfl)<|qq rfl<|ac rfl (fY) ?_
  refine dS rfl (fun hc2=>?_) (fun hc2=>?_)
  ·refine ac rfl (kP) ?_
   refine ai ?_
   rw[NQ (tM hc2)]
   exact bj cn rfl (ak ag)
  ·refine ac rfl (kP) ?_
   refine ai ?_
   rw[Nf (tP hc2)]
   exact bj cn rfl (ak ag)
 ·refine ac rfl (fY) ?_
  refine lg (bJ rfl) (fun c3 hb3=>?_)
  cases c3
  ·refine qq rfl<|ac rfl (fY) ?_
   refine dS rfl (fun hc4=>?_) (fun hc4=>?_)
   ·refine ac rfl (kP) ?_
    refine ai ?_
    rw[NQ (tM hc4)]
    exact bj cn rfl (ak ag)
   ·refine ac rfl (kP) ?_
    refine ai ?_
    rw[Nf (tP hc4)]
    exact bj cn rfl (ak ag)
  ·refine ac rfl (zF (bk kc1) (bk kc2)) ?_
   refine dS rfl (fun hc5=>?_) (fun hc5=>?_)
   ·exact absurd ⟨HQ hb1,HQ hb3,HQ hc5⟩ hbad
   ·refine ac rfl (fY) ?_
    refine dS rfl (fun hc6=>?_) (fun hc6=>?_)
    ·refine ac rfl (kP) ?_
     refine ai ?_
     rw[NQ (tM hc6)]
     exact bj cn rfl (ak ag)
    ·refine ac rfl (kP) ?_
     refine ai ?_
     rw[Nf (tP hc6)]
     exact bj cn rfl (ak ag)
theorem o7 {x:Rat}(h:(decide (-1000000000<x.num)&&(decide (x.num<1000000000)&&(decide ((x.den:Int)<1000000000)&&decide (1≤k))))=true):Rz k x:=by
 simp only[di,decide_eq_true_eq] at h
 have h1:=mv h.2.2.2
 have e:pw 1=1000000000:=by decide+kernel
 have hp:=den_pos x
 exact⟨⟨by omega,by omega⟩,⟨by omega,by omega⟩⟩
theorem By (h:BE b1 b2 c=true):0≤c:=by
 unfold BE at h
 split at h
 ·grind
 grind
theorem lk (h:0≤c):0≤zc b c:=by unfold zc;split<;>grind
def xG (a b c:Rat):Re:=az a b (zc b c)
theorem sr {q:Rat}(hc:0≤c) (hr:0≤r):Ee a b c p q r=aB (xG a b c-xG p q r):=nL (lk hc) (lk hr)
theorem RI {q:Rat}(hc:0≤c) (hr:0≤r):tU a b (zc b c) p q (zc q r)=aB (xG a b c-xG p q r):=LW (lk hc) (lk hr)
section
variable {a1 b1 a2 b2 c p1 q1 p2 q2 r:Rat}
theorem IS (hc:0≤c) (hr:0≤r):Bq a1 b1 a2 b2 c p1 q1 p2 q2 r=uQ a1 b1 a2 b2 c p1 q1 p2 q2 r:=by
 unfold Bq uQ
 rw[RI hc hr,RI hc hr,sr hc hr,sr hc hr]
theorem vJ (x y:Re):aB (y-x)= -aB (x-y):=by
 rw[←bG]
 exact congrArg aB (aM fun k=>by simp only[aj,aV];grind)
theorem qc (x:Re):aB (x-x)=0:=by
 have h:=vJ x x
 omega
theorem Ku (hc:0≤c) (hr:0≤r):uQ p1 q1 p2 q2 r a1 b1 a2 b2 c= -uQ a1 b1 a2 b2 c p1 q1 p2 q2 r:=by
 unfold uQ
 rw[sr hc hr,sr hc hr,sr hr hc,sr hr hc,vJ (xG a1 b1 c),vJ (xG a2 b2 c)]
 grind
theorem JV (hc:0≤c):uQ a1 b1 a2 b2 c a1 b1 a2 b2 c=0:=by
 unfold uQ
 rw[sr hc hc,sr hc hc,qc,qc];simp
end
theorem SD (n:Int):D6 (n*n)=true:=by
 have h:bZ (n*n)=(n.natAbs:Int):=by
  have e:(n.natAbs:Int)*(n.natAbs:Int)=n*n:=by grind
  refine Bt ?_ (by omega) (by omega) ?_
  ·grind
  grind
 unfold D6
 grind
theorem JQ (x:Rat):kg (x*x)=true:=by
 have e:x*x=Rat.divInt (x.num*x.num) ((x.den:Int)*(x.den:Int)):=by
  conv=>lhs;rw[←Rat.num_divInt_den x]
  exact Rat.divInt_mul_divInt _ _
 have hd:=den_pos x
 have hg:Int.gcd (x.num*x.num) ((x.den:Int)*(x.den:Int))=1:=by
  have hr:Nat.Coprime x.num.natAbs x.den:=x.reduced
  show Nat.gcd (x.num*x.num).natAbs ((x.den:Int)*(x.den:Int)).natAbs=1
  rw[pS,pS,yO]
  exact(hr.mul_left hr).mul_right (hr.mul_left hr)
 have hv:vQ (x.num*x.num) ((x.den:Int)*(x.den:Int))=true:=by
  unfold vQ
  rw[hg,decide_eq_true (sZ hd hd)];rfl
 obtain⟨h1,h2⟩:=Rh hv
 rw[←e] at h1 h2
 unfold kg
 rw[h1,h2,SD,SD];rfl
theorem SS (hc:0≤c) (hv:b≠0→0<c∧kg c=false):s3 a b c=aB (az a b c):=by
 rw[←jn hc]
 unfold s3 bD sB
 by_cases hb:b=0
 ·have h0:aX b 0=0:=wm.2 hb
  rw[if_pos (.inr h0),h0,oG,if_pos (.inl rfl)]
 ·obtain⟨hp,hs⟩:=hv hb
  have h1:aX c 0=1:=by unfold aX;rw[if_neg (by grind),if_pos hp]
  have h2:aX b 0≠0:=fun e=>hb (wm.1 e)
  rw[h1,sv]
  by_cases h3:aX a 0=aX b 0
  ·grind
  ·have n1: ¬(aX a 0=aX b 0∨aX b 0=0):=by omega
   have n2: ¬(aX b 0=0∨aX a 0=aX b 0):=by omega
   rw[if_neg n1,if_neg n2]
   by_cases h4:aX a 0=0
   ·grind
   ·rw[if_neg h4,if_neg h4]
    have hn:a*a≠b*b*c:=by
     intro e
     have e2:c=(a/b)*(a/b):=by grind
     rw[e2,JQ] at hs
     grind
    have a1:=dU a 0
    have b1:=dU b 0
    by_cases h5:0<a*a-b*b*c
    ·have:aX (a*a) (b*b*c)=1:=by unfold aX;rw[if_neg (by grind),if_pos (by grind)]
     rw[if_pos h5,this,sv]
    ·have:aX (a*a) (b*b*c)= -1:=by unfold aX;rw[if_pos (by grind)]
     rw[if_neg h5,this];omega
theorem oZ (a b c:Rat):xG a b c=Re.of a+Re.of b*Re.rt c:=by
 unfold xG az
 by_cases h:b=0
 ·subst h
  exact aM fun k=>by simp only[aD,aE,aK];grind
 ·rw[yU h]
theorem FC (X Y:Re):0≤aB (X*X+Y*Y)∧(aB (X*X+Y*Y)=0↔aB X=0∧aB Y=0):=by
 have hx:0≤aB (X*X):=by rw[aY];rcases bg X with h|h|h<;>rw[h]<;>decide
 have hy:0≤aB (Y*Y):=by rw[aY];rcases bg Y with h|h|h<;>rw[h]<;>decide
 refine⟨fP hx hy,fun h=>?_,fun⟨h1,h2⟩=>?_⟩
 ·constructor
  ·apply fe
   intro hn
   have:0<aB (X*X):=by rw[aY];rcases bg X with g|g|g<;>rw[g]<;>first|decide|omega
   have:=wG this hy
   omega
  ·apply fe
   intro hn
   have:0<aB (Y*Y):=by rw[aY];rcases bg Y with g|g|g<;>rw[g]<;>first|decide|omega
   have:=wG this hx
   rw[y8] at this
   omega
 ·rw[dH _ (by rw[aY,h2];rfl),aY,h1];rfl
def TV (x y b1 b2 c:Rat):Rat:=x*x+y*y+(b1*b1+b2*b2)*c
def TO (x y b1 b2:Rat):Rat:=(x*b1+y*b2)+(x*b1+y*b2)
theorem YT {x y:Rat}(hv:BE b1 b2 c=true) (h:TO x y b1 b2≠0):0<c∧kg c=false:=by
 have hb: ¬(b1=0∧b2=0):=by
  rintro⟨rfl,rfl⟩
  apply h;unfold TO;grind
 unfold BE at hv
 grind
section
variable {P:Program}{f:FuncId}{ds rs:List D0}{x y z x' y' z':Rat}
theorem zo (h:Ok P f ds (.a (cR x++cR y++cR z)::rs)) (e1:x=x') (e2:y=y') (e3:z=z'):Ok P f ds (.a (cR x'++cR y'++cR z')::rs):=by subst e1 e2 e3;exact h
end
section
variable {P:Program}{ops:Array Oper}{T:TF}{B:BF}{av:Nat→Prop}{w0:Ent}{w:World}{N:Nat}{β:Nat→Nat}{a:Act}
theorem Rel.ren (h:Rel av w0 N T B β a w) {d:Nat}(hdN:d<N) (hk:B k≠none) (hd:d=k∨B d=none):
 Rel av w0 N (ol k T) (fun l=>if l=d then B k else if l=k then none else B l) (fun l=>if l=d then β k else β l) a w:=by
 have hB: ∀l,(if l=d then B k else if l=k then none else B l)≠none→(l=d∨(l≠d∧l≠k∧B l≠none)):=by grind
 have hne: ∀l,B l≠none→l≠k→l≠d:=by grind
 have hV:(fun b=>av b∨ ∃l,(if l=d then B k else if l=k then none else B l)≠none∧(if l=d then β k else β l)=b)=(fun b=>av b∨ ∃l,B l≠none∧β l=b):=by grind
 have hT: ∀t x,ol k T t=some x→x=.n∨(T t=some x∧mN x≠some k):=by
  intro t x ht
  unfold ol at ht
  grind
 refine⟨h.dfr,h.siz,h.bel,h.avl,h.avE,h.big,fun b hb hK=>?_,?_,?_,?_,?_⟩
 ·have hKd:w0.K≠d:=by have:=h.big;omega
  rcases hB _ hK with e|⟨_,_,e⟩
  ·grind
  ·rw[if_neg hKd];exact h.fix b hb e
 ·intro l m hl hm e
  rcases hB l hl with e1|⟨e1,e2,e3⟩<;>rcases hB m hm with f1|⟨f1,f2,f3⟩
  ·grind
  ·rw[if_pos e1,if_neg f1] at e
   exact absurd (h.inj k m hk f3 e).symm f2
  ·rw[if_neg e1,if_pos f1] at e
   exact absurd (h.inj l k e3 hk e) e2
  ·rw[if_neg e1,if_neg f1] at e
   exact h.inj l m e3 f3 e
 ·intro l hl
  rcases hB l hl with e1|⟨e1,e2,e3⟩
  ·rw[if_pos e1];exact h.own k hk
  ·rw[if_neg e1];exact h.own l e3
 ·intro t x l ht hx
  rcases hT t x ht with rfl|⟨h1,h2⟩
  ·cases hx
  ·have h3:=h.wf t x l h1 hx
   grind
 ·rw[hV]
  refine⟨h.sees.av,?_,?_⟩
  ·intro l U cs hl
   have hl0:(if l=d then B k else if l=k then none else B l)=some (U,cs):=hl
   by_cases e:l=d
   ·rw[if_pos e] at hl0
    rw[if_pos e];exact h.sees.box k U cs hl0
   ·rw[if_neg e] at hl0
    rw[if_neg e]
    by_cases e2:l=k
    ·grind
    ·rw[if_neg e2] at hl0;exact h.sees.box l U cs hl0
  ·intro t x hL ht
   rcases hT t x ht with rfl|⟨h1,h2⟩
   ·unfold ol at ht
    split at ht
    ·rename_i y hy
     obtain⟨v,e,_⟩:=h.sees.tmp t y hL hy
     exact⟨v,e,trivial⟩
    grind
   ·obtain⟨v,e,hr⟩:=h.sees.tmp t x hL h1
    refine⟨v,e,?_⟩
    cases x with
    |p l off=>
     have h3:=h.wf t _ l h1 rfl
     have h4:l≠k:=fun e=>h2 (by rw[e];rfl)
     show v=.pointer (some ⟨if l=d then β k else β l,off,none⟩)
     rw[if_neg (hne l h3 h4)];exact hr
    |o l n c=>
     have h3:=h.wf t _ l h1 rfl
     have h4:l≠k:=fun e=>h2 (by rw[e];rfl)
     show v=.slice (some ⟨if l=d then β k else β l,0,none⟩) n c
     rw[if_neg (hne l h3 h4)];exact hr
    |w l off n c=>
     have h3:=h.wf t _ l h1 rfl
     have h4:l≠k:=fun e=>h2 (by rw[e];rfl)
     show v=.slice (some ⟨if l=d then β k else β l,off,none⟩) n c
     rw[if_neg (hne l h3 h4)];exact hr
    |v d=>exact hr
    |t ds=>exact hr
    |q us=>exact hr
    |u=>exact hr
    |n=>trivial
    |z=>exact hr
    |f n us=>exact hr
    |tn l n c ds=>
     have h3:=h.wf t _ l h1 rfl
     have h4:l≠k:=fun e=>h2 (by rw[e];rfl)
     obtain⟨xs,e,h⟩:=hr
     exact⟨xs,by show v=Value.tuple (Value.slice (some ⟨if l=d then β k else β l,0,none⟩) n c::xs).toArray;rw[if_neg (hne l h3 h4)];exact e,h⟩
    |oe l n c u=>
     have h3:=h.wf t _ l h1 rfl
     have h4:l≠k:=fun e=>h2 (by rw[e];rfl)
     exact⟨by show v=.slice (some ⟨if l=d then β k else β l,0,none⟩) n c;rw[if_neg (hne l h3 h4)];exact hr.1,hr.2⟩
theorem BQ (a:Act) (d:Nat) (v v':Value):(a.put (some d) v).put (some d) v'=a.put (some d) v':=by simp[Act.put]
theorem Qz {x:DV}:(⟨N,(t,x)::kX k tm,bx⟩:St).T=fun s=>if some t=some s then some x else ol k (fun s=>aQ s tm) s:=by
 funext s
 show aQ s ((t,x)::kX k tm)=_
 rw[b7,nW]
 by_cases e:t=s
 ·grind
 ·rw[if_neg e,if_neg (by simpa using e)];rfl
theorem OR {x:TypeId×List CellD}:(⟨N,tm,(t,x)::jT k bx⟩:St).B=fun l=>if some t=some l then some x else if l=k then none else aQ l bx:=by
 funext s
 show aQ s ((t,x)::jT k bx)=(if some t=some s then some x else if s=k then none else aQ s bx)
 rw[b7,mp]
 grind
theorem OD {z:Value}(hzl:zs.length=m) (hzr: ∀(V:Nat→Prop) (w:World),RdCs V w z.cells.toList zs) (r:Nat):
 ∃rest:List CellD,rest.length=r*m∧ ∀(V:Nat→Prop) (w:World),RdCs V w (Builtin.zeroCells z.cells r).toList rest:=by
 have hzs:z.cells.size=m:=by have:=(hzr (fun _=>False) default).1;rw[hzl] at this;simpa using this
 have key: ∀(r:Nat) (V:Nat→Prop) (w:World),RdCs V w ((List.range (r*m)).map (fun j=>z.cells[j%z.cells.size]!)) (List.replicate r zs).flatten:=by
  intro r V w
  induction r with
  |zero=>simp;exact ro
  |succ r ih=>
   rw[Nat.succ_mul,List.range_add,rV,List.replicate_succ',List.flatten_append]
   refine o8 ih ?_
   have e2:(List.map (fun x=>r*m+x) (List.range m)).map (fun j=>z.cells[j%z.cells.size]!)=z.cells.toList:=by
    apply yN (by simp[hzs])
    intro j h1 h2
    simp at h1
    simp only[List.getElem_map,List.getElem_range,hzs]
    rw[Nat.mul_comm r,Nat.mul_add_mod,sN (by omega),getElem!_pos z.cells j (by omega)]
    simp
   grind
 refine⟨(List.replicate r zs).flatten,?_,fun V w=>?_⟩
 ·simp_all
 ·have:=key r V w
  unfold Builtin.zeroCells
  simpa [hzs] using this
variable {tm:List (Nat×DV)}{bx:List (Nat×TypeId×List CellD)}
theorem FY {c:Nat}
 (hU:xF P U=some (e,m,by_,zs)) (hx:cO (fun s=>aQ s tm) x=some (.o k n c)) (hsc: ∀V β a w,Sees V (iY ops ⟨some t,.call ⟨.builtin .append,#[x,y],#[U,U]⟩,ty,pos,af,g⟩) (fun s=>aQ s tm) (fun l=>aQ l bx) β a w→ ∃news,Src P m U (a.eval y) q news w∧RdCs V w news ys) (hb:aQ k bx=some (e,cs)) (hcs:cs.length=c*m) (hys:ys.length=q*m) (hm:0<m)
 (hnc:n≤c) (hcm:c≤maxLen) (hgf:c<n+q→Builtin.nextslicecap (n+q) c*by_≤281474976710656) (h63:n+q≤maxLen) (hpre:cs.take (n*m)=pre) (hd:t=k∨aQ t bx=none)
 (hg:gd ops ⟨some t,.call ⟨.builtin .append,#[x,y],#[U,U]⟩,ty,pos,af,g⟩ (fun s=>aQ s tm)=some true):
 H9 P ops ⟨some t,.call ⟨.builtin .append,#[x,y],#[U,U]⟩,ty,pos,af,g⟩ ⟨N,tm,bx⟩ (fun σ'=> ∃c' rest,n+q≤c'∧c'≤maxLen∧rest.length=(c'-(n+q))*m∧σ'=⟨N,(t,.o t (n+q) c')::kX k tm,(t,e,pre++ys++rest)::jT k bx⟩):=by
 intro av w0 β a w hrel htn
 have hs:=Sees.of hrel.sees (L:=iY ops ⟨some t,.call ⟨.builtin .append,#[x,y],#[U,U]⟩,ty,pos,af,g⟩) (fun _ _=>trivial) (fun _ _ _ h=>h) (fun _ _ h=>h)
 refine⟨eL hs hg,?_⟩
 have e1:a.eval x=.slice (some ⟨β k,0,none⟩) n c:=aC hs (x:=x) (by simp[Op.operands,Call.operands]) hx
 obtain⟨news,hsrc,hrn⟩:=hsc _ _ _ _ hs
 obtain⟨hu,i,z,hi,hz,hsz,hby,hzl,hzr⟩:=jB hU
 obtain⟨hvk,vs,ev,hr⟩:=hs.box k e cs hb
 subst hsz
 have hkn:(aQ k bx)≠none:=by rw[hb];simp
 have hle:n*i.size≤cs.length:=by rw[hcs];exact rI _ hnc
 have hvl:vs.size=c*i.size:=by have:=hr.1;rw[hcs] at this;simpa using this
 have hr2:=hr.take (n*i.size)
 rw[hpre] at hr2
 have hlen:(vs.toList.take (n*i.size)).length=n*i.size:=by
  rw[gX,Array.length_toList,hvl]
  exact q5 (rI _ hnc)
 have ht:t<N:=htn t rfl
 have hnl:news.length=q*i.size:=hsrc.newsLen
 unfold Gives
 by_cases hroom:n+q≤c
 ·--in place
  have hfit:0+n*i.size+0+news.length≤vs.size:=by
   rw[hvl,hnl]
   have:=rI i.size hroom
   rw[tY] at this;omega
  have hst:=run_storeCells_at P (β k) (0+n*i.size) e news 0 vs w ev hfit hsrc.one
  simp only[iV,rZ] at hst
  have hrun:(Builtin.append_ #[U,U] ty #[.slice (some ⟨β k,0,none⟩) n c,a.eval y]).run P w=.ok (.slice (some ⟨β k,0,none⟩) (n+q) c) (w.setRow (β k) (vs.toList.take (n*i.size)++news++vs.toList.drop (n*i.size+news.length)).toArray):=by
   rcases hsrc.kind with⟨e',hk⟩|hk<;>simp[Builtin.append_,run_underlying hu,sizeOf,typeInfo,hi,hsrc.len,hroom,hsrc.cells,Addr.add_lit,hst]
  have hexec:(execOp a.eval ⟨some t,.call ⟨.builtin .append,#[x,y],#[U,U]⟩,ty,pos,af,g⟩).run P w=.ok (.value (.slice (some ⟨β k,0,none⟩) (n+q) c)) (w.setRow (β k) (vs.toList.take (n*i.size)++news++vs.toList.drop (n*i.size+news.length)).toArray):=by
   simp only[execOp,resolve,invoke,builtin,eM,gK,fi,uw,ru,uk,e1]
   rw[hrun]
   rfl
  rw[hexec]
  have hrest:((cs.drop (n*i.size+news.length))).length=(c-(n+q))*i.size:=by
   rw[lZ,hcs,hnl,←tY,←Nat.sub_mul]
  refine⟨⟨N,(t,.o t (n+q) c)::kX k tm,(t,e,pre++ys++cs.drop (n*i.size+news.length))::jT k bx⟩,fun l=>if l=t then β k else β l,⟨c,_,hroom,hcm,hrest,rfl⟩,rfl,?_⟩
  have hren:=hrel.ren (k:=k) (d:=t) (htn t rfl) hkn hd
  have hstore:=hren.store (k:=t) (U:=e) (cs0:=cs) (cs:=pre++ys++cs.drop (n*i.size+news.length)) (vs:=(vs.toList.take (n*i.size)++news++vs.toList.drop (n*i.size+news.length)).toArray)
   (w':=w.setRow (β k) (vs.toList.take (n*i.size)++news++vs.toList.drop (n*i.size+news.length)).toArray) (by rw[if_pos rfl];exact hb) (by rw[if_pos rfl];exact o6 ev) rfl rfl rfl ?_
  ·have hval:=hstore.value (d:=some t) (x:=.o t (n+q) c) (v:=.slice (some ⟨β k,0,none⟩) (n+q) c) (by intro s hs;injection hs with hs;subst hs;exact ht) (fJ _ _) (by show _=Value.slice (some ⟨if t=t then β k else β t,0,none⟩) _ _;rw[if_pos rfl]) (by intro l hl;injection hl with hl;subst hl;rw[if_pos rfl];simp)
   refine hval.congr (fun s=>?_) (fun l=>?_)
   ·rw[Qz];rfl
   ·rw[OR]
    show(if some t=some l then _ else _)=(if t=l then _ else if l=t then _ else _)
    by_cases e:t=l
    ·rw[if_pos (by rw[e]),if_pos e]
    ·rw[if_neg (show ¬some t=some l by simpa using e),if_neg e,if_neg (Ne.symm e)];rfl
  ·have hrd:RdCs (fun b=>av b∨ ∃k,aQ k bx≠none∧β k=b) w (vs.toList.take (n*i.size)++news++vs.toList.drop (n*i.size+news.length)) (pre++ys++cs.drop (n*i.size+news.length)):=(hr2.append hrn).append (hr.drop _)
   refine RdCs.keep (av:=fun b=>av b∨ ∃k,aQ k bx≠none∧β k=b) ⟨Nat.le_refl _,fun _ _ _=>rfl,?_⟩ hrd
   rintro b _ (hb'|⟨l,hl,hb'⟩)
   ·exact .inl hb'
   ·try dsimp only at hl hb'
    by_cases e:l=t
    ·rw[if_pos e] at hb';exact .inr ⟨k,hkn,hb'⟩
    ·rw[if_neg e] at hl hb'
     by_cases e2:l=k
     ·rw[if_pos e2] at hl;exact absurd rfl hl
     ·rw[if_neg e2] at hl;exact .inr ⟨l,hl,hb'⟩
 ·--new memory
  have hgrow:c<n+q:=by omega
  have hold:(Builtin.firstCells i.size n (.slice (some ⟨β k,0,none⟩) n c)).run P w.drew=.ok (vs.toList.take (n*i.size)).toArray w.drew:=by
   have:=run_loadCells_list (P:=P) w.drew ⟨β k,0,none⟩ (vs.toList.take (n*i.size)) (fun j u hj=>by
    rw[kw,iV]
    show w.cell? _=_
    rw[tH] at hj
    split at hj
    ·rw[dr ev,←hj];simp
    ·cases hj)
   rw[hlen] at this
   exact this
  have hrun:=run_append_grow_src (P:=P) (w:=w) U U ty e i z hu hi hz (some ⟨β k,0,none⟩) n c _ hold (a.eval y) q news hsrc hgrow (by have:maxLen=9223372036854775807:=rfl;omega) (by rw[hby];exact hgf hgrow)
  generalize hcap:grownCap w (n+q) c e=c' at hrun
  have hc1:n+q≤c':=by rw[←hcap];exact grownCap_ge _ _ _ _
  have hc2:c'≤maxLen:=by rw[←hcap];exact grownCap_le_maxLen _ _ _ _ h63
  have hexec:(execOp a.eval ⟨some t,.call ⟨.builtin .append,#[x,y],#[U,U]⟩,ty,pos,af,g⟩).run P w=.ok (.value (.slice (some ⟨w.heap.size,0,none⟩) (n+q) c'))
   (w.drew.alloc (.cells ((vs.toList.take (n*i.size)++news).toArray++Builtin.zeroCells z.cells (c'-(n+q))) e)):=by
   simp only[execOp,resolve,invoke,builtin,eM,gK,fi,uw,ru,uk,e1]
   rw[hrun]
   rfl
  rw[hexec]
  have hdr:=(hrel.drop k).drew
  obtain⟨rest,hrl,hrz⟩:=OD hzl hzr (c'-(n+q))
  have hrd:RdCs (fun b=>av b∨ ∃l,(if l=k then none else aQ l bx)≠none∧β l=b) w.drew ((vs.toList.take (n*i.size)++news).toArray++Builtin.zeroCells z.cells (c'-(n+q))).toList (pre++ys++rest):=by
   have h0:RdCs (fun b=>av b∨ ∃k,aQ k bx≠none∧β k=b) w (vs.toList.take (n*i.size)++news) (pre++ys):=hr2.append hrn
   have h1:=o8 (RdCs.keep (av:=fun b=>av b∨ ∃k,aQ k bx≠none∧β k=b) (w:=w) (av':=fun b=>av b∨ ∃l,(if l=k then none else aQ l bx)≠none∧β l=b) (w':=w.drew) ⟨Nat.le_refl _,fun _ _ _=>rfl,fun b _ hb'=>hb'.imp id fun⟨l,hl,e⟩=>⟨l,fun h0=>by rw[h0] at hl;exact hl (by split<;>rfl),e⟩⟩ h0) (hrz (fun b=>av b∨ ∃l,(if l=k then none else aQ l bx)≠none∧β l=b) w.drew)
   simpa using h1
  have hbox:=hdr.box (d:=t) ht (by
   show(if t=k then none else aQ t bx)=none
   rcases hd with hd|hd
   ·rw[if_pos hd]
   ·rw[hd];split<;>rfl) (U:=e) (sl:=some c') hrd
  refine⟨⟨N,(t,.o t (n+q) c')::kX k tm,(t,e,pre++ys++rest)::jT k bx⟩,fun l=>if l=t then w.drew.heap.size else β l,⟨c',_,hc1,hc2,hrl,rfl⟩,rfl,?_⟩
  have hval:=hbox.value (d:=some t) (x:=.o t (n+q) c') (v:=.slice (some ⟨w.heap.size,0,none⟩) (n+q) c') (by intro s hs;injection hs with hs;subst hs;exact ht) (fJ _ _) (by show _=Value.slice (some ⟨if t=t then w.drew.heap.size else β t,0,none⟩) _ _;rw[if_pos rfl];rfl) (by intro l hl;injection hl with hl;subst hl;rw[if_pos rfl];simp)
  rw[BQ] at hval
  refine hval.congr (fun s=>?_) (fun l=>?_)
  ·rw[Qz]
   show(if some t=some s then _ else _)=(if some t=some s then _ else if some t=some s then _ else ol k _ s)
   by_cases e:some t=some s
   ·rw[if_pos e,if_pos e]
   ·rw[if_neg e,if_neg e,if_neg e];rfl
  ·rw[OR];rfl
theorem FU {c:Nat}
 (hU:xF P U=some (e,m,by_,zs)) (hx:cO (fun s=>aQ s tm) x=some (.o k n c)) (hsc: ∀V β a w,Sees V (iY ops ⟨some t,.call ⟨.builtin .append,#[x,y],#[U,U]⟩,ty,pos,af,g⟩) (fun s=>aQ s tm) (fun l=>aQ l bx) β a w→ ∃V',RdC V' w (a.eval y) (.s q ys)∧ ∀news,RdCs V' w news ys→RdCs V w news ys) (hb:aQ k bx=some (e,cs)) (hcs:cs.length=c*m) (hys:ys.length=q*m) (hm:0<m)
 (hnc:n≤c) (hcm:c≤maxLen) (hbytes:(n+q)*by_≤140737488355328) (h63:n+q≤maxLen) (hpre:cs.take (n*m)=pre) (hd:t=k∨aQ t bx=none)
 (hg:gd ops ⟨some t,.call ⟨.builtin .append,#[x,y],#[U,U]⟩,ty,pos,af,g⟩ (fun s=>aQ s tm)=some true):
 H9 P ops ⟨some t,.call ⟨.builtin .append,#[x,y],#[U,U]⟩,ty,pos,af,g⟩ ⟨N,tm,bx⟩ (fun σ'=> ∃c' rest,n+q≤c'∧c'≤maxLen∧rest.length=(c'-(n+q))*m∧σ'=⟨N,(t,.o t (n+q) c')::kX k tm,(t,e,pre++ys++rest)::jT k bx⟩):=
 FY hU hx (fun V β a w hs=>by
  obtain⟨V',h2,hconv⟩:=hsc _ _ _ _ hs
  obtain⟨news,hsrc,hrn'⟩:=Aw hU h2 hys
  exact⟨news,hsrc,hconv _ hrn'⟩) hb hcs hys hm hnc hcm (fun h=>growslice_fits h hbytes) h63 hpre hd hg
theorem IE {c:Nat}
 (hU:xF P U=some (e,m,by_,zs)) (hx:cO (fun s=>aQ s tm) x=some (.o k n c)) (hy:cO (fun s=>aQ s tm) y=some (.v (.c (.s q ys)))) (hb:aQ k bx=some (e,cs)) (hcs:cs.length=c*m) (hys:ys.length=q*m) (hm:0<m)
 (hnc:n≤c) (hcm:c≤maxLen) (hbytes:(n+q)*by_≤140737488355328) (h63:n+q≤maxLen) (hpre:cs.take (n*m)=pre) (hd:t=k∨aQ t bx=none)
 (hg:gd ops ⟨some t,.call ⟨.builtin .append,#[x,y],#[U,U]⟩,ty,pos,af,g⟩ (fun s=>aQ s tm)=some true):
 H9 P ops ⟨some t,.call ⟨.builtin .append,#[x,y],#[U,U]⟩,ty,pos,af,g⟩ ⟨N,tm,bx⟩ (fun σ'=> ∃c' rest,n+q≤c'∧c'≤maxLen∧rest.length=(c'-(n+q))*m∧σ'=⟨N,(t,.o t (n+q) c')::kX k tm,(t,e,pre++ys++rest)::jT k bx⟩):=by
 exact FU hU hx (fun V β a w hs=>⟨V,aC hs (x:=y) (by simp[Op.operands,Call.operands]) hy,fun _ h=>h⟩) hb hcs hys hm hnc hcm hbytes h63 hpre hd hg
theorem GQ 
 (hU:xF P U=some (e,m,by_,zs)) (hx:cO (fun s=>aQ s tm) x=some .z) (hy:cO (fun s=>aQ s tm) y=some (.v (.c (.s q ys)))) (hys:ys.length=q*m) (hq:0<q)
 (hbytes:q*by_≤140737488355328) (h63:q≤maxLen) (hd:aQ t bx=none)
 (hg:gd ops ⟨some t,.call ⟨.builtin .append,#[x,y],#[U,U]⟩,ty,pos,af,g⟩ (fun s=>aQ s tm)=some true):
 H9 P ops ⟨some t,.call ⟨.builtin .append,#[x,y],#[U,U]⟩,ty,pos,af,g⟩ ⟨N,tm,bx⟩ (fun σ'=> ∃c' rest,q≤c'∧c'≤maxLen∧rest.length=(c'-q)*m∧σ'=⟨N,(t,.o t q c')::tm,(t,e,ys++rest)::bx⟩):=by
 intro av w0 β a w hrel htn
 have hs:=Sees.of hrel.sees (L:=iY ops ⟨some t,.call ⟨.builtin .append,#[x,y],#[U,U]⟩,ty,pos,af,g⟩) (fun _ _=>trivial) (fun _ _ _ h=>h) (fun _ _ h=>h)
 refine⟨eL hs hg,?_⟩
 have e1:a.eval x=.slice none 0 0:=aC hs (x:=x) (by simp[Op.operands,Call.operands]) hx
 have h2:=aC hs (x:=y) (by simp[Op.operands,Call.operands]) hy
 obtain⟨news,hsrc,hrn⟩:=Aw hU h2 hys
 obtain⟨hu,i,z,hi,hz,hsz,hby,hzl,hzr⟩:=jB hU
 subst hsz
 have ht:t<N:=htn t rfl
 unfold Gives
 have hold:(Builtin.firstCells i.size 0 (.slice none 0 0)).run P w.drew=.ok ([]:List Value).toArray w.drew:=rfl
 have hgrow:0<0+q:=by omega
 have hrun:=run_append_grow_src (P:=P) (w:=w) U U ty e i z hu hi hz none 0 0 _ hold (a.eval y) q news hsrc hgrow (by have:maxLen=9223372036854775807:=rfl;omega) (growslice_fits hgrow (by rw[hby,iV];exact hbytes))
 rw[iV] at hrun
 generalize hcap:grownCap w q 0 e=c' at hrun
 have hc1:q≤c':=by rw[←hcap];exact grownCap_ge _ _ _ _
 have hc2:c'≤maxLen:=by rw[←hcap];exact grownCap_le_maxLen _ _ _ _ h63
 have hexec:(execOp a.eval ⟨some t,.call ⟨.builtin .append,#[x,y],#[U,U]⟩,ty,pos,af,g⟩).run P w=.ok (.value (.slice (some ⟨w.heap.size,0,none⟩) q c'))
  (w.drew.alloc (.cells (([]++news).toArray++Builtin.zeroCells z.cells (c'-q)) e)):=by
  simp only[execOp,resolve,invoke,builtin,eM,gK,fi,uw,ru,uk,e1]
  rw[hrun]
  rfl
 rw[hexec]
 obtain⟨rest,hrl,hrz⟩:=OD hzl hzr (c'-q)
 have hrd:RdCs (fun b=>av b∨ ∃k,aQ k bx≠none∧β k=b) w.drew (([]++news).toArray++Builtin.zeroCells z.cells (c'-q)).toList (ys++rest):=by
  have h1:RdCs (fun b=>av b∨ ∃k,aQ k bx≠none∧β k=b) w.drew (news++(Builtin.zeroCells z.cells (c'-q)).toList) (ys++rest):=o8 (RdCs.keep (Keep.below (fJ _ w).drew) hrn) (hrz (fun b=>av b∨ ∃k,aQ k bx≠none∧β k=b) w.drew)
  grind
 have hbox:=hrel.drew.box (d:=t) ht hd (U:=e) (sl:=some c') hrd
 refine⟨⟨N,(t,.o t q c')::tm,(t,e,ys++rest)::bx⟩,fun l=>if l=t then w.drew.heap.size else β l,⟨c',_,hc1,hc2,hrl,rfl⟩,rfl,?_⟩
 have hval:=hbox.value (d:=some t) (x:=.o t q c') (v:=.slice (some ⟨w.heap.size,0,none⟩) q c') (by intro s hs;injection hs with hs;subst hs;exact ht) (fJ _ _) (by show _=Value.slice (some ⟨if t=t then w.drew.heap.size else β t,0,none⟩) _ _;rw[if_pos rfl];rfl) (by intro l hl;injection hl with hl;subst hl;rw[if_pos rfl];simp)
 rw[BQ] at hval
 refine hval.congr (fun s=>?_) (fun l=>?_)
 ·show aQ s ((t,DV.o t q c')::tm)=(if some t=some s then _ else if some t=some s then _ else aQ s tm)
  rw[b7]
  grind
 ·show aQ l ((t,e,ys++rest)::bx)=(if some t=some l then _ else aQ l bx)
  rw[b7]
  grind
variable {os:List Oper}{K:St→Prop}
theorem kQ {c:Nat}
 (hU:xF P U=some (e,m,by_,zs)) (hx:cO (fun s=>aQ s tm) x=some (.o k n c)) (hy:cO (fun s=>aQ s tm) y=some (.v (.c (.s q ys)))) (hb:aQ k bx=some (e,us++rest)) (hus:us.length=n*m) (hr:rest.length=(c-n)*m)
 (hys:ys.length=q*m) (hm:0<m) (hnc:n≤c) (hcm:c≤maxLen) (hbytes:(n+q)*by_≤140737488355328) (h63:n+q≤maxLen) (hd:t=k∨aQ t bx=none)
 (hg:gd ops ⟨some t,.call ⟨.builtin .append,#[x,y],#[U,U]⟩,ty,pos,af,g⟩ (fun s=>aQ s tm)=some true)
 (hk: ∀c' rest',n+q≤c'→c'≤maxLen→rest'.length=(c'-(n+q))*m→dl P ops os ⟨N,(t,.o t (n+q) c')::kX k tm,(t,e,us++ys++rest')::jT k bx⟩ K):
 dl P ops (⟨some t,.call ⟨.builtin .append,#[x,y],#[U,U]⟩,ty,pos,af,g⟩::os) ⟨N,tm,bx⟩ K:=
 .inr ⟨_,IE (pre:=us) hU hx hy hb (by rw[d6,hus,hr,←tY];congr 1;omega) hys hm hnc hcm hbytes h63 (by rw[←hus];simp) hd hg,fun σ' ⟨c',rest',h1,h2,h3,e⟩=>by subst e;exact hk c' rest' h1 h2 h3⟩
theorem lv 
 (hU:xF P U=some (e,m,by_,zs)) (hx:cO (fun s=>aQ s tm) x=some .z) (hy:cO (fun s=>aQ s tm) y=some (.v (.c (.s q ys)))) (hys:ys.length=q*m) (hq:0<q)
 (hbytes:q*by_≤140737488355328) (h63:q≤maxLen) (hd:aQ t bx=none)
 (hg:gd ops ⟨some t,.call ⟨.builtin .append,#[x,y],#[U,U]⟩,ty,pos,af,g⟩ (fun s=>aQ s tm)=some true)
 (hk: ∀c' rest',q≤c'→c'≤maxLen→rest'.length=(c'-q)*m→dl P ops os ⟨N,(t,.o t q c')::tm,(t,e,ys++rest')::bx⟩ K):
 dl P ops (⟨some t,.call ⟨.builtin .append,#[x,y],#[U,U]⟩,ty,pos,af,g⟩::os) ⟨N,tm,bx⟩ K:=
 .inr ⟨_,GQ hU hx hy hys hq hbytes h63 hd hg,fun σ' ⟨c',rest',h1,h2,h3,e⟩=>by subst e;exact hk c' rest' h1 h2 h3⟩
theorem fE {T:TF}{B:BF}
 (hg:gd ops ⟨dst,.assign (.const (.slice none 0 0)),ty,pos,af,g⟩ T=some true):Sem P ops ⟨dst,.assign (.const (.slice none 0 0)),ty,pos,af,g⟩ T B (.r .z):=
 bI hg (fun k e=>by cases e) (fun V β a w hs=>⟨.slice none 0 0,rfl,rfl⟩)
theorem C2 {c:Code}(ht:aQ t tm=some .z) (h:Dw P c ⟨N,(t,.v (.c (.s 0 [])))::tm,bx⟩ Q):Dw P c ⟨N,tm,bx⟩ Q:=fun av w0 β a w hr=>by
 obtain⟨v,hv,hx⟩:=hr.sees.tmp t _ trivial ht
 have hx:v=.slice none 0 0:=hx
 subst hx
 have h2:=hr.upd (t:=t) (x:=.v (.c (.s 0 []))) hv (.s0 _ _ (by decide)) rfl
 refine h av w0 β a w (h2.congr (fun s=>?_) (fun _=>rfl))
 show aQ s ((t,.v (.c (.s 0 [])))::tm)=_
 rw[b7];rfl
theorem zQ {ι:Type}{c:Code}{σ:St}(I:ι→St) (μ:ι→Nat) (M:Nat)
 (first:Dw P c σ (Fh (fun σ'=> ∃j,Sub σ' (I j)∧μ j<M) Q)) (round: ∀i,Dw P c (I i) (Fh (fun σ'=> ∃j,Sub σ' (I j)∧μ j<μ i) Q)):Dw P (.loop c) σ Q:=fun av w0 β a w hr=>by
 refine bv (ι:=Option ι) (fun i=>match i with|none=>σ|some i=>I i) (fun i=>match i with|none=>M|some i=>μ i) none ⟨rfl,fun _ _ h=>h,fun _ _ h=>h,hr.wf⟩ (fun i=>?_) av w0 β a w hr
 cases i with
 |none=>
  refine first.mono fun e σ' h=>?_
  cases e with
  |normal=>obtain⟨j,h1,h2⟩:=h;exact⟨some j,h1,h2⟩
  |_=>exact h
 |some i=>
  refine(round i).mono fun e σ' h=>?_
  cases e with
  |normal=>obtain⟨j,h1,h2⟩:=h;exact⟨some j,h1,h2⟩
  |_=>exact h
theorem pf {c:Nat}(h:us.length=n*m) (hr:rest.length=(c-n)*m) (hn:n≤c):(us++rest).length=c*m:=by
 rw[d6,h,hr,←tY];congr 1;omega
theorem lq (h:us.length=n*m):(us++rest).take (n*m)=us:=by rw[←h];simp
theorem oD (h:n≤1000000):n≤maxLen:=nF h (by decide)
theorem tv {o:Oper}{T:TF}{B:BF}{k:IntKind}{b c:Int}(h:Sem P ops o T B (.r (.v (.c (.i k b))))) (e:b=c):Sem P ops o T B (.r (.v (.c (.i k c)))):=by subst e;exact h
theorem Hi {T:TF}{B:BF}{x1 x2 x3 x4:Operand}{t1 t2 t3 t4:TypeId}{k:IntKind}{m1 m2 m3 m4:Int}
 (h1:cO T x1=some (.v (.c (.i k m1)))) (h2:cO T x2=some (.v (.c (.i k m2)))) (h3:cO T x3=some (.v (.c (.i k m3)))) (h4:cO T x4=some (.v (.c (.i k m4))))
 (hg:gd ops ⟨dst,.call ⟨.builtin .max,#[x1,x2,x3,x4],#[t1,t2,t3,t4]⟩,ty,pos,af,g⟩ T=some true):
 Sem P ops ⟨dst,.call ⟨.builtin .max,#[x1,x2,x3,x4],#[t1,t2,t3,t4]⟩,ty,pos,af,g⟩ T B (.r (.v (.c (.i k (max (max (max m1 m2) m3) m4))))):=
 bI hg (pF rfl) (fun V β a w hs=>by
  have e1:a.eval x1=.int k m1:=fO (aC hs (x:=x1) (by simp[Op.operands,Call.operands]) h1)
  have e2:a.eval x2=.int k m2:=fO (aC hs (x:=x2) (by simp[Op.operands,Call.operands]) h2)
  have e3:a.eval x3=.int k m3:=fO (aC hs (x:=x3) (by simp[Op.operands,Call.operands]) h3)
  have e4:a.eval x4=.int k m4:=fO (aC hs (x:=x4) (by simp[Op.operands,Call.operands]) h4)
  have q: ∀a b:Int,Builtin.max2 (.int k a) (.int k b)=pure (.int k (max a b)):=fun a b=>by
   show pure (Value.int k (if b>a then b else a))=_
   congr 2;split<;>omega
  refine⟨.int k (max (max (max m1 m2) m3) m4),?_,.i _ _⟩
  simp[execOp,resolve,invoke,builtin,Builtin.max_,q,e1,e2,e3,e4])
end
inductive Wk:List CellD→List CellD→Prop
 |nil:Wk [] []
 |same {us us':List CellD}(u:CellD):Wk us us'→Wk (u::us) (u::us')
 |any {us us':List CellD}(u:CellD):Wk us us'→Wk (u::us) (.x::us')
theorem Wk.refl: ∀us:List CellD,Wk us us
 |[]=>.nil
 |u::us=>.same u (Wk.refl us)
theorem Wk.app {a b b':List CellD}(h:Wk a a') (g:Wk b b'):Wk (a++b) (a'++b'):=by
 induction h with
 |nil=>exact g
 |same u _ ih=>exact .same u ih
 |any u _ ih=>exact .any u ih
theorem Wk.len {a:List CellD}(h:Wk a a'):a.length=a'.length:=by
 induction h with
 |nil=>rfl
 |same u _ ih=>simp[ih]
 |any u _ ih=>simp[ih]
section
variable {av:Nat→Prop}{w:World}
theorem RdCs.wk (hw:Wk us us'): ∀ {vs:List Value},RdCs av w vs us→RdCs av w vs us':=by
 induction hw with
 |nil=>exact fun h=>h
 |same u _ ih=>
  intro vs h
  cases vs with
  |nil=>exact absurd h.1 (by simp)
  |cons v vs=>exact nE h.uncons.1 (ih h.uncons.2)
 |any u _ ih=>
  intro vs h
  cases vs with
  |nil=>exact absurd h.1 (by simp)
  |cons v vs=>exact nE (.x v h.uncons.1.one.1 h.uncons.1.one.2) (ih h.uncons.2)
theorem RdC.wks {v:Value}(hw:Wk us us') (h:RdC av w v (.s n us)):RdC av w v (.s n us'):=by
 cases h with
 |s0 A c hc=>cases hw;exact .s0 A c hc
 |s b off c sz n xs cv h0 h1 h2 h3 h4 h5 h6 h7=>
  refine .s b off c sz n us' cv h0 h1 h2 (hw.len▸h3) h4 h5 h6 fun j u hu=>?_
  have hj:j<us.length:=by rw[hw.len];exact(j9.1 hu).1
  have key:RdCs av w ((List.range us.length).map cv) us':=RdCs.wk hw ⟨by simp,fun i v u hv hu=>by
   simp only[r8] at hv
   have hi:i<us.length:=(j9.1 hu).1
   rw[List.getElem?_range hi] at hv
   cases hv
   exact h7 i u hu⟩
  exact key.2 j (cv j) u (by simp only[r8];rw[List.getElem?_range hj];rfl) hu
end
section
variable {P:Program}{f:FuncId}{ds:List D0}{us us':List CellD}
theorem Ok.wks (h:Ok P f ds [.c (.s n us)]) (hw:Wk us us'):Ok P f ds [.c (.s n us')]:=⟨h.cal,fun av vs w hav hr=>(h.run av vs w hav hr).mono fun _e _w' ⟨v,he,hv,hb⟩=>⟨v,he,RdC.wks hw hv,hb⟩⟩
end
end Go.Proofs.YtegpmhlfjkhjmaaGreat
