/-The order of points and the square of a root:the reference. -/
import Derived.Test.YtegpmhlfjkhjmaaGreatYmI
namespace Go.Proofs.YtegpmhlfjkhjmaaGreat
open Go Go.RowKit
variable {Q:Exit→St→Prop}{hi lo u v:Int}{tm:List (Nat×DV)}{bx:List (Nat×TypeId×List CellD)}{a' cs pre rest us us' xs ys z zs:List CellD}{by_ i j k m n t:Nat}{x y:Operand}{A B B1 B2 C D M N a a1 a2 b b1 b2 c c1 c2 d f p1 p2 q1 q2 r:Rat}{L X:Re}{U e:TypeId}
variable {ty:TypeId}{pos:String}{af:Array Edge}{g:Option (Nat×Bool)}
theorem br:type_of% @Re.ext:=@Re.ext
theorem dJ:type_of% @Rz.zero:=@Rz.zero
theorem ij:type_of% @Rz.zc:=@Rz.zc
theorem ri:type_of% @Rat.intCast_neg:=@Rat.intCast_neg
theorem qE:type_of% @Rat.intCast_sub:=@Rat.intCast_sub
theorem IS (ha:Rz 1000000 a) (hb:Rz 1000000 b) (hc:Rz 1000000 c):Ok Tryz.prog 87 [.a ((cR a++cR b++cR c))] [.a ((cR (a*a+b*b*cc b c c)++cR (rB (a*b+b*a) (cc b c c))++cR (rC (a*b+b*a) (cc b c c))))]:=by
 have hbad: ¬WQ b c b c:=fun h=>h.2.2 rfl
 refine bX Tryz.func87 rfl<|ac rfl (N2 ha hb hc ha hb hc hbad) ?_
 exact ah (aS df rfl ae)
def By (a1 b1 a2 b2 c p1 q1 p2 q2 r:Rat):Int:=if tK a1 b1 (zc b1 c) p1 q1 (zc q1 r)≠0 then tK a1 b1 (zc b1 c) p1 q1 (zc q1 r) else tK a2 b2 (zc b2 c) p2 q2 (zc q2 r)
theorem Tr (h:(tK a1 b1 (zc b1 c) p1 q1 (zc q1 r) !=0)=true):By a1 b1 a2 b2 c p1 q1 p2 q2 r=tK a1 b1 (zc b1 c) p1 q1 (zc q1 r):=by unfold By;rw[if_pos (by simpa using h)]
theorem Us (h:(tK a1 b1 (zc b1 c) p1 q1 (zc q1 r) !=0)=false):By a1 b1 a2 b2 c p1 q1 p2 q2 r=tK a2 b2 (zc b2 c) p2 q2 (zc q2 r):=by unfold By;rw[if_neg (by simpa using h)]
def cD (x y:Re):Prop:=0≤aT (y-x)
theorem ex {x y z:Re}(h:cD x y) (g:cD y z):cD x z:=by
 unfold cD at*
 have e:z-x=(z-y)+(y-x):=br fun k=>by simp only[aI,aQ];grind
 rw[e];exact qB g h
theorem of_le {p q:Rat}(h:p≤q):cD (Re.of p) (Re.of q):=by
 unfold cD
 rw[yn,cV]
 unfold aM
 grind
theorem lk {x y:Re}(h: ∀k,x.s k=y.s k) (g:0≤aT x):0≤aT y:=by rw[←br h];exact g
def uS (lo hi:Int) (x:Re):Prop:=cD (Re.of (lo:Rat)) (Re.of 65536*x)∧cD (Re.of 65536*x) (Re.of (hi:Rat))
theorem fA {x y u v:Re}(h:cD x y) (g:cD u v):cD (x+u) (y+v):=by
 exact lk (fun k=>by simp only[aI,aQ];grind) (qB h g)
theorem WT (y:Rat):((y.num.fdiv (y.den:Int):Int):Rat)≤y:=by
 have hd:=den_pos y
 have h1:=uM y
 have hp:(0:Rat)<((y.den:Int):Rat):=uv.2 hd
 refine qI hp ?_
 rw[h1,←f8]
 refine fI.2 ?_
 rw[pv _ (by omega),tw]
 have:=sr y.num (y.den:Int)
 have:=pG y.num (show(y.den:Int)≠0 by omega)
 omega
theorem IU (a:Rat):uS (jy a) (ji a) (Re.of a):=by
 have h1:=WT (a*((65536:Int):Rat))
 have h2:=WT (-(a*((65536:Int):Rat)))
 refine⟨?_,?_⟩
 ·rw[ia]
  refine of_le ?_
  unfold jy
  grind
 ·rw[ia]
  refine of_le ?_
  unfold ji
  grind
theorem I3 (h:jj a=true):uS (gL a) (gH a) (Re.of a):=by
 unfold gL gH;rw[h,if_pos rfl,if_pos rfl];exact IU a
theorem qP {p q:Re}(_hp:0≤aT p) (hq:0≤aT q) (h:0≤aT (q*q-p*p)):cD p q:=by
 unfold cD
 rcases bJ (q-p) with a|a|a
 ·omega
 ·omega
 ·exfalso
  have h1:0<aT (p-q):=by
   have e:p-q= -(q-p):=br fun k=>by simp only[aI,bD];grind
   rw[e,cj,a];decide
  have h2:0<aT (p+q):=by
   have e:p+q=(p-q)+(q+q):=br fun k=>by simp only[aI,aQ];grind
   rw[e];exact DI h1 (qB hq hq)
  have h3:aT ((q-p)*(p+q))=aT (q*q-p*p):=congrArg aT (br fun k=>by simp only[aI,aQ,aR];grind)
  rw[bH,a] at h3
  omega
theorem wK {n:Int}(h:0≤n):0≤aT (Re.of (n:Rat)):=by
 have:=of_le (Rat.intCast_nonneg.2 h)
 refine lk (fun k=>?_) this
 simp only[aI,bc];grind
theorem gl {p q:Rat}(h:cD (Re.of p) (Re.of q)):p≤q:=by
 unfold cD at h
 rw[yn,cV] at h
 unfold aM at h
 grind
theorem MV (m:Rat):0≤aT (Re.of 65536*Re.rt m):=by
 have h1:=xy m
 have h2:aT (Re.of 65536)=1:=by rw[cV];decide+kernel
 rw[bH,h2];omega
theorem LR {m:Rat}(h:0≤m) (q:Rat):aT (Re.of 65536*Re.rt m*(Re.of 65536*Re.rt m)-Re.of q)=aM (65536*65536*m) q:=by
 rw[←oK,←cV]
 refine dV ?_
 have e:Re.of 65536*Re.rt m*(Re.of 65536*Re.rt m)-Re.of q-Re.of (65536*65536*m-q)=Re.of (65536*65536)*(Re.rt m*Re.rt m-Re.of m):=br fun k=>by
  simp only[aI,aR,bc];grind
 rw[e,bH,oE h,pF]
theorem kJ {x y:Rat}(h:y≤x):0≤aM x y:=by unfold aM;rw[if_neg (by grind)];split<;>omega
theorem CM {x y:Rat}(h:x≤y):aM x y≤0:=by
 unfold aM
 split
 ·omega
 ·rw[if_neg (by grind)];omega
theorem Ri {m:Rat}(hm:0≤m) (h:uS lo hi (Re.of m)):uS (qo lo) (lv hi) (Re.rt m):=by
 obtain⟨h1,h2⟩:=h
 rw[ia] at h1 h2
 have g1:=gl h1
 have g2:=gl h2
 have hq:(0:Rat)≤65536*m:=by grind
 refine⟨?_,?_⟩
 ·refine qP (wK (fg _)) (MV m) ?_
  rw[ia,LR hm]
  refine kJ ?_
  have h3:=rJ (x:=max lo 0*65536) (by omega)
  have h4:((bY (max lo 0*65536)*bY (max lo 0*65536):Int):Rat)≤((max lo 0*65536:Int):Rat):=fI.2 h3
  have h5:((max lo 0:Int):Rat)≤65536*m:=by
   by_cases hl:0≤lo
   ·grind
   ·rw[show max lo 0=0 from by omega];simpa using hq
  unfold qo
  grind
 ·refine qP (MV m) (wK ?_) ?_
  ·unfold lv;have:=fg (hi*65536);split<;>omega
  have h3:0≤ -aT (Re.of 65536*Re.rt m*(Re.of 65536*Re.rt m)-Re.of (((lv hi:Int):Rat)*((lv hi:Int):Rat))):=by
   rw[LR hm]
   have hh:(0:Int)≤hi:=by
    have:(0:Rat)≤(hi:Rat):=by grind
    exact Rat.intCast_nonneg.1 this
   have h4:hi*65536≤lv hi*lv hi:=by
    unfold lv
    split
    ·rename_i hs
     unfold DX at hs
     grind
    ·have:=wI (x:=hi*65536) (by omega)
     omega
   have h5:((hi*65536:Int):Rat)≤((lv hi*lv hi:Int):Rat):=fI.2 h4
   have:=CM (x:=65536*65536*m) (y:=((lv hi:Int):Rat)*((lv hi:Int):Rat)) (by grind)
   omega
  rw[←cj] at h3
  refine lk (fun k=>?_) h3
  simp only[bD,aI,aR,bc];grind
theorem Ko {k u v U:Re}(h1:0≤aT (k*u-L)) (h2:0≤aT (k*v-L)) (g1:cD u U) (g2:cD U v):0≤aT (k*U-L):=by
 unfold cD at*
 have e:(v-u)*(k*U-L)=(v-U)*(k*u-L)+(U-u)*(k*v-L):=br fun j=>by simp only[aI,aR,aQ];grind
 have hr:0≤aT ((v-U)*(k*u-L)+(U-u)*(k*v-L)):=by
  refine qB ?_ ?_
  ·rw[bH];exact fZ g2 h1
  ·rw[bH];exact fZ g1 h2
 rw[←e,bH] at hr
 have e2:aT (v-u)=aT ((v-U)+(U-u)):=congrArg aT (br fun j=>by simp only[aI,aQ];grind)
 rcases bJ (v-u) with a|a|a
 ·grind
 ·rcases bJ (U-u) with b|b|b
  ·have:=DI (x:=U-u) (y:=v-U) (by omega) g2
   rw[LE] at this
   omega
  ·have e3:k*U-L=(k*u-L)+k*(U-u):=br fun j=>by simp only[aI,aQ,aR];grind
   rw[e3,dT _ (by rw[bH,b,pF])]
   grind
  grind
 ·have:=qB g2 g1
  omega
theorem SG {x y u v U:Re}(h1:0≤aT (x*u-L)) (h2:0≤aT (x*v-L)) (h3:0≤aT (y*u-L)) (h4:0≤aT (y*v-L)) (g1:cD x X) (g2:cD X y) (g3:cD u U) (g4:cD U v):0≤aT (X*U-L):=by
 have a:=Ko h1 h2 g3 g4
 have b:=Ko h3 h4 g3 g4
 rw[wL x U] at a
 rw[wL y U] at b
 have:=Ko a b g1 g2
 rw[wL U X] at this
 grind
theorem V8 (a b:Int):mM a b*65536≤a*b∧a*b≤mS a b*65536:=by
 have e:a*b=if (!(decide (a<0)==decide (b<0)))=true then-Ou a b else Ou a b:=by
  unfold Ou
  by_cases ha:a<0<;>by_cases hb:b<0
  ·grind
  ·grind
  ·grind
  grind
 rw[e]
 unfold mM mS
 generalize Ou a b=p
 have hu:p≤D5 p*65536:=by unfold D5;split<;>omega
 grind
theorem Qy {x y:Int}{U:Re}(h:uS x y X) (g:uS u v U):uS (D9 x y u v 4) (DZ x y u v 4) (X*U):=by
 have lo: ∀a b:Int,D9 x y u v 4≤mM a b→0≤aT (Re.of (a:Rat)*Re.of (b:Rat)-Re.of ((D9 x y u v 4*65536:Int):Rat)):=by
  intro a b hl
  rw[ia]
  refine of_le ?_
  rw[←f8]
  exact fI.2 (by have:=(V8 a b).1;omega)
 have hi: ∀a b:Int,mS a b≤DZ x y u v 4→0≤aT (-Re.of (a:Rat)*Re.of (b:Rat)-Re.of (-((DZ x y u v 4*65536:Int):Rat))):=by
  intro a b hl
  rw[QA,ia]
  refine of_le ?_
  have h1:((a*b:Int):Rat)≤((DZ x y u v 4*65536:Int):Rat):=fI.2 (by have:=(V8 a b).2;omega)
  grind
 have hlo:D9 x y u v 4=min (min (min (min 2305843009213693952 (mM x u)) (mM x v)) (mM y u)) (mM y v):=rfl
 have hhi:DZ x y u v 4=max (max (max (max (-2305843009213693952) (mS x u)) (mS x v)) (mS y u)) (mS y v):=rfl
 have e65:((65536:Int):Rat)=65536:=rfl
 have p65:aT (Re.of 65536)=1:=by rw[cV];decide+kernel
 refine⟨?_,?_⟩
 ·have hb:=SG (lo x u (by omega)) (lo x v (by omega)) (lo y u (by omega)) (lo y v (by omega)) h.1 h.2 g.1 g.2
  have e:aT (Re.of 65536*(Re.of 65536*(X*U)-Re.of ((D9 x y u v 4:Int):Rat)))=aT (Re.of 65536*X*(Re.of 65536*U)-Re.of ((D9 x y u v 4*65536:Int):Rat)):=congrArg aT (br fun k=>by
   simp only[aI,aR,bc,f8,e65];grind)
  rw[←e,bH,p65,pn] at hb
  exact hb
 ·have n1:cD (-Re.of (y:Rat)) (-(Re.of 65536*X)):=lk (fun k=>by simp only[aI,bD];grind) h.2
  have n2:cD (-(Re.of 65536*X)) (-Re.of (x:Rat)):=lk (fun k=>by simp only[aI,bD];grind) h.1
  have hb:=SG (hi y u (by omega)) (hi y v (by omega)) (hi x u (by omega)) (hi x v (by omega)) n1 n2 g.1 g.2
  have e:aT (Re.of 65536*(Re.of ((DZ x y u v 4:Int):Rat)-Re.of 65536*(X*U)))=aT (-(Re.of 65536*X)*(Re.of 65536*U)-Re.of (-((DZ x y u v 4*65536:Int):Rat))):=congrArg aT (br fun k=>by
   simp only[aI,aR,bc,bD,f8,e65];grind)
  rw[←e,bH,p65,pn] at hb
  exact hb
theorem Of {x y:Int}{U:Re}(h:uS x y X) (g:uS u v U) (hk:AU x y u v 4=true):uS (pL x y u v) (pH x y u v) (X*U):=by
 unfold pL pH;rw[hk,if_pos rfl,if_pos rfl];exact Qy h g
theorem PA {x y:Int}{U:Re}(h:uS x y X) (g:uS u v U):uS (x+u) (y+v) (X+U):=by
 have a:=fA h.1 g.1
 have b:=fA h.2 g.2
 refine⟨lk (fun k=>?_) a,lk (fun k=>?_) b⟩
 ·simp only[aI,aQ,aR,bc,kW];grind
 ·simp only[aI,aQ,aR,bc,kW];grind
theorem N3 {x y:Int}{U:Re}(h:uS x y X) (g:uS u v U) (hk:xk (x+u) (y+v)=true):uS (aL x y u v) (aH x y u v) (X+U):=by
 unfold aL aH;rw[hk,if_pos rfl,if_pos rfl];exact PA h g
theorem TT (X:Re):aT (Re.of 65536*X)=aT X:=by
 have p65:aT (Re.of 65536)=1:=by rw[cV];decide+kernel
 rw[bH,p65,pn]
theorem Cr {n:Int}(h:0<n):0<aT (Re.of (n:Rat)):=by
 rw[cV]
 have h1:(0:Rat)<(n:Rat):=uv.2 h
 unfold aM
 grind
theorem WF (h:uS lo hi X) (hl:0<lo):aT X=1:=by
 have h1:=DI (Cr hl) h.1
 have e:aT (Re.of (lo:Rat)+(Re.of 65536*X-Re.of (lo:Rat)))=aT (Re.of 65536*X):=congrArg aT (br fun k=>by simp only[aI,aQ];grind)
 rw[e,TT] at h1
 have:=bJ X
 omega
theorem V2 (h:uS lo hi X) (hl:hi<0):aT X= -1:=by
 have h0:0<aT (-Re.of (hi:Rat)):=by
  rw[QA,←ri];exact Cr (by omega)
 have h1:=DI h0 h.2
 have e:aT (-Re.of (hi:Rat)+(Re.of (hi:Rat)-Re.of 65536*X))=aT (-(Re.of 65536*X)):=congrArg aT (br fun k=>by simp only[aI,aQ,bD];grind)
 rw[e,cj,TT] at h1
 have:=bJ X
 omega
theorem TE (h:uS 0 0 X):aT X=0:=by
 have h1:=h.1
 have h2:=h.2
 unfold cD at h1 h2
 have e1:aT (Re.of 65536*X-Re.of ((0:Int):Rat))=aT (Re.of 65536*X):=congrArg aT (br fun k=>by simp only[aI,bc];grind)
 have e2:aT (Re.of ((0:Int):Rat)-Re.of 65536*X)=aT (-(Re.of 65536*X)):=congrArg aT (br fun k=>by simp only[aI,bc,bD];grind)
 rw[e1,TT] at h1
 rw[e2,cj,TT] at h2
 omega
theorem LK (h:uS lo hi X) (hs:Oo lo hi=true):Nc lo hi=aT X:=by
 unfold Oo at hs
 simp only[sC,decide_eq_true_eq,dL,beq_iff_eq] at hs
 unfold Nc
 by_cases h1:lo>0
 ·rw[if_pos h1,WF h h1]
 ·rw[if_neg h1]
  by_cases h2:hi<0
  ·rw[if_pos h2,V2 h h2]
  ·rw[if_neg h2]
   rcases hs with hs|hs|⟨hs,hs'⟩
   ·omega
   ·omega
   ·subst hs hs'
    exact(TE h).symm
theorem TY (hM:0≤M) (hN:0≤N) (h:S0 A B C D M N=true):VW A B C D M N=aT (jH A B C D M N):=by
 unfold S0 at h
 rw[dL] at h
 obtain⟨h3,hs⟩:=h
 rw[(JC h3).1]
 unfold My Xg Xm at h3
 simp only[dL] at h3
 obtain⟨⟨⟨k1,k2⟩,k3,k4,k5,k6,k7,k8,k9⟩,k10,k11,k12,k13⟩:=h3
 have im:=Ri hM (I3 k1)
 have in_:=Ri hN (I3 k2)
 have ib:uS (V7 B M) (Wu B M) _:=Of (I3 k3) im k4
 have ic:uS (V7 C N) (Wu C N) _:=Of (I3 k5) in_ k6
 have imn:uS (TG M N) (Uv M N) _:=Of im in_ k8
 have id':uS (qdL D M N) (qdH D M N) _:=Of (I3 k7) imn k9
 have iab:uS (VB A B M) (UL A B M) _:=N3 (I3 k10) ib k11
 have icd:uS (UA C D M N) (TU C D M N) _:=N3 ic id' k12
 have is':uS (qsL A B C D M N) (qsH A B C D M N) _:=N3 iab icd k13
 rw[LK is' hs]
 refine congrArg aT (br fun k=>?_)
 unfold jH aB
 simp only[aQ,aR,bc];grind
theorem Lm (hM:0≤M) (hN:0≤N):BH A B C D M N=aT (jH A B C D M N):=by
 unfold BH
 rw[if_neg (by rintro(h|h)<;>grind)]
 split
 ·rename_i h;exact TY hM hN h
 ·exact nm hM hN
theorem LS (h:eu a b c=true):uS (eL a b c) (eJ a b c) (aB a b c):=by
 have h0:=h
 unfold eu at h
 rw[dL] at h
 obtain⟨h1,h2⟩:=h
 cases hb:(aM b 0==0) with
 |true=>
  obtain⟨e1,e2,_⟩:=abi (c:=c) h1 hb
  have hb0:b=0:=q9 hb
  have:=IU a
  have e:aB a 0 c=Re.of a:=br fun k=>by unfold aB;simp only[aQ,aR,bc];grind
  grind
 |false=>
  rw[hb,Bool.false_or] at h2
  unfold TQ at h2
  simp only[dL,qu] at h2
  obtain⟨g1,g2,g3,g4,g5⟩:=h2
  have hc:0≤c:=Rat.not_lt.1 (Cu g3)
  have ir:=Ri hc (IU c)
  have im:=Qy (IU b) ir
  have:=PA (IU a) im
  unfold eL eJ
  rw[h0,if_pos rfl,if_pos rfl,hb,if_neg (by decide),if_neg (by decide)]
  exact this
theorem Tc {e:Rat}(h:Hh (eu a b c) (eu d e f) (eL a b c) (eJ a b c) (eL d e f) (eJ d e f)=true):
 KP (eu a b c) (eu d e f) (eL a b c) (eJ a b c) (eL d e f) (eJ d e f)=aT (aB a b c-aB d e f):=by
 unfold Hh at h
 simp only[dL,sC,decide_eq_true_eq] at h
 obtain⟨⟨k1,k2⟩,hs⟩:=h
 have i1:=LS k1
 have i2:=LS k2
 have i3:uS (eL a b c-eJ d e f) (eJ a b c-eL d e f) (aB a b c-aB d e f):=by
  have n:=fA i1.1 (lk (y:= -(Re.of 65536*aB d e f)- -Re.of ((eJ d e f:Int):Rat)) (fun k=>by simp only[aI,bD];grind) i2.2)
  have m:=fA i1.2 (lk (y:= -Re.of ((eL d e f:Int):Rat)- -(Re.of 65536*aB d e f)) (fun k=>by simp only[aI,bD];grind) i2.1)
  refine⟨lk (fun k=>?_) n,lk (fun k=>?_) m⟩
  ·simp only[aI,aQ,aR,bc,bD,qE];grind
  ·simp only[aI,aQ,aR,bc,bD,qE];grind
 unfold KP
 rw[k1,k2,Bool.and_self,if_pos rfl]
 by_cases h1:eJ a b c<eL d e f
 ·rw[if_pos (decide_eq_true h1),V2 i3 (by omega)]
 ·rw[if_neg (by simpa using h1)]
  rcases hs with hs|hs
  ·omega
  ·rw[if_pos (decide_eq_true hs),WF i3 (by omega)]
theorem MQ {e:Rat}(hc:0≤c) (hf:0≤f):tK a b c d e f=aT (aB a b c-aB d e f):=by
 unfold tK
 split
 ·rename_i h
  have hb:b=0:=q9 h.1
  have he:e=0:=q9 h.2
  rw[←oK,←cV]
  refine congrArg aT (br fun k=>?_)
  unfold aB;simp only[aI,aQ,aR,bc];grind
 ·split
  ·rename_i h;exact Tc h
  ·split
   ·rename_i h
    have e1:c=f:=ni.1 (by simpa using h)
    rw[iX hc]
    refine congrArg aT (br fun k=>?_)
    unfold aB;simp only[aI,aQ,aR,bc];grind
   ·rw[Lm hc hf]
    refine congrArg aT (br fun k=>?_)
    unfold jH aB;simp only[aI,aQ,aR,bc];grind
theorem xD (ha1:Rz 2000000 a1) (hb1:Rz 160000 b1) (ha2:Rz 2000000 a2) (hb2:Rz 160000 b2) (hc:Rz 160000 c) (hp1:Rz 2000000 p1) (hq1:Rz 160000 q1) (hp2:Rz 2000000 p2) (hq2:Rz 160000 q2) (hr:Rz 160000 r) (s1:Rz 160000 (a1-p1)) (s2:Rz 160000 (a2-p2)):Ok Tryz.prog 51 [.a ((cR a1++cR b1++cR a2++cR b2++cR c)),.a ((cR p1++cR q1++cR p2++cR q2++cR r))] [.c (.i .i64 (By a1 b1 a2 b2 c p1 q1 p2 q2 r))]:=by
 have kb1:Rz 160000 (zc b1 c):=ij hc (by decide)
 have kb2:Rz 160000 (zc b2 c):=ij hc (by decide)
 have kq1:Rz 160000 (zc q1 r):=ij hr (by decide)
 have kq2:Rz 160000 (zc q2 r):=ij hr (by decide)
 refine bX Tryz.func51 rfl<|cJ 6 [] ?_
 refine aK rfl (qc) ?_
 refine aK rfl (qc) ?_
 refine aK rfl (CY (by assumption) (by assumption) (by assumption) (by assumption) (by assumption) (by assumption) (by assumption)) ?_
 refine dk rfl (fun hc1=>?_) (fun hc1=>?_)
 ·refine ah ?_
  rw[Tr hc1]
  exact az ae
 ·refine cJ 6 [] ?_
  refine aK rfl (Kz) ?_
  refine aK rfl (Kz) ?_
  refine aK rfl (CY (by assumption) (by assumption) (by assumption) (by assumption) (by assumption) (by assumption) (by assumption))<|ah ?_
  rw[Us hc1]
  exact az ae
theorem HQ (ha1:Rz 2000000 a1) (hb1:Rz 160000 b1) (ha2:Rz 2000000 a2) (hb2:Rz 160000 b2) (hc:Rz 160000 c) (hp1:Rz 2000000 p1) (hq1:Rz 160000 q1) (hp2:Rz 2000000 p2) (hq2:Rz 160000 q2) (hr:Rz 160000 r) (s1:Rz 160000 (a1-p1)) (s2:Rz 160000 (a2-p2)):Ok Tryz.prog 220 [.a ((cR a1++cR b1++cR a2++cR b2++cR c)),.a ((cR p1++cR q1++cR p2++cR q2++cR r))] [.c (.b (By a1 b1 a2 b2 c p1 q1 p2 q2 r==0))]:=by
 refine bX Tryz.func220 rfl ?_
 refine ac rfl (xD (by assumption) (by assumption) (by assumption) (by assumption) (by assumption) (by assumption) (by assumption) (by assumption) (by assumption) (by assumption) (by assumption) (by assumption)) ?_
 exact ah (az ae)
theorem yO {x:Int}(h:0<x):0<bY x:=by
 have h1:=wI (x:=x) (by omega)
 have h2:=fg x
 by_cases e:bY x=0
 ·rw[e] at h1;omega
 ·omega
theorem Rz.rt (h:Rz k c):Rz k (rt c):=Rz.of h.n.isq h.d.isq (by have:=yO (den_pos c);omega)
theorem CX (h:je c=true):cQ (if je c then bY c.num else 0) (if je c then bY (c.den:Int) else 0)=cR (rt c):=by
 have:=UX h
 unfold dQ dR at this
 injection this
def zR:List CellD:=[.b false,.s 0 [],.b false,.s 0 [],.b false,.s 0 [],.b false,.s 0 [],.b false,.s 0 [],.b false,.s 0 []]
theorem xS (ha:Rz 1000000 a) (hb:Rz 1000000 b) (hc:Rz 1000000 c) (h0: ¬c<0) (hs:je c=true):Ok Tryz.prog 92 [dR a,dR b,dR c] [.a ((cR (a+b*rt c)++cR 0++cR 0)),.c (.i .i64 0)]:=by
 have ka:Rz 6000000 a:=ha.m_
 have kb:Rz 6000000 b:=hb.m_
 have kc:Rz 6000000 c:=hc.m_
 have kt:Rz 1000000 (rt c):=hc.rt
 refine bX Tryz.func92 rfl<|ac rfl (dm) ?_
 refine dk rfl (fun hc1=>?_) (fun hc1=>?_)
 ·exact absurd (Gb hc1) h0
 ·refine ac rfl (sU (aO hc)) ?_
  refine DW.mk<|aJ rfl (fun hc2=>?_) (fun hc2=>?_)
  ·refine lh (σ':=⟨30,[(3,.p 3 0),(4,.p 4 0),(6,.p 6 0),(8,.p 8 0)],[(3,38,cR a),(4,38,cR b),(6,129,zR),(8,38,cR (rt c))]⟩) (ap ⟨rfl,rfl,rfl,rfl,trivial⟩ ⟨rfl,rfl,rfl,by rw[←CX hs];rfl,trivial⟩ rfl)<|nu ?_
   refine cJ 6 [] ?_
   refine aK rfl (co (aO hb) (G3)) ?_
   refine aK rfl (cS (aO ha) (aO (aP hb (by assumption)))) ?_
   refine aK rfl (fu) ?_
   exact ah (aS df rfl (az ae))
  ·exact absurd hs (by rw[hc2];decide)
theorem xP (ha:Rz 1000000 a) (hb:Rz 1000000 b) (hc:Rz 1000000 c) (h0: ¬c<0) (hs:je c=false):Ok Tryz.prog 92 [dR a,dR b,dR c] [.a ((cR a++cR (rB b c)++cR (rC b c))),.c (.i .i64 0)]:=by
 have ka:Rz 6000000 a:=ha.m_
 have kb:Rz 6000000 b:=hb.m_
 have kc:Rz 6000000 c:=hc.m_
 have kt:Rz 1000000 (rt c):=hc.rt
 refine bX Tryz.func92 rfl<|ac rfl (dm) ?_
 refine dk rfl (fun hc1=>?_) (fun hc1=>?_)
 ·exact absurd (Gb hc1) h0
 ·refine ac rfl (sU (aO hc)) ?_
  refine dk rfl (fun hc2=>?_) (fun hc2=>?_)
  ·exact absurd hc2 (by rw[hs];decide)
  ·refine ac rfl (ud) ?_
   exact ah (aS df rfl (az ae))
theorem xX (hc1:Rz 6000000 c1) (hc2:Rz 6000000 c2) (hbad: ¬WQ b1 c1 b2 c2):Ok Tryz.prog 129 [.a ((cR a1++cR b1++cR c1)),.a ((cR a2++cR b2++cR c2))] [.a ((cR a1++cR b1++cR a2++cR b2++cR (Np b1 b2 (cc b1 c1 c2)))),.c (.i .i64 0)]:=by
 have kc1:=hc1
 have kc2:=hc2
 refine eo Tryz.func129 39 [.cell 4 47,.tmp 5] rfl<|aa<|ag<|aa<|ag ?_
 refine aa<|aa<|ag ?_
 refine ac rfl (cK) ?_
 refine aJ rfl (fun hc1=>?_) (fun hc1=>?_)
 ·refine ag ?_
  refine aa<|bm<|bU 1 ?_
  refine aU (d5 (cR a1) aZ rfl) ?_
  refine bU 1 ?_
  refine aU (d5 (cR b1) aZ rfl)<|bU 1 ?_
  refine aU (d5 (cR a2) aZ rfl)<|bU 1 ?_
  refine aU (d5 (cR b2) aZ rfl)<|bU 1 ?_
  refine aU (aG (us:=(cR a1++cR b1++cR a2++cR b2++cR c2)) Ef Ac rfl rfl rfl) ?_
  refine aU (cb rfl (uy))<|ed<|a7 ?_
  rw[Fv (q9 hc1)]
  exact ah (aS bq rfl (az ae))
 ·refine aa<|ag ?_
  refine ac rfl (cK) ?_
  refine jU (bE rfl) (fun c2 hb2=>?_)
  cases c2
  ·refine bz rfl<|aA<|aa<|bm<|bU 1<|aU (d5 (cR a1) aZ rfl)<|bU 1<|aU (d5 (cR b1) aZ rfl)<|bU 1<|aU (d5 (cR a2) aZ rfl)<|bU 1<|aU (d5 (cR b2) aZ rfl)<|bU 1<|aU (aG (us:=(cR a1++cR b1++cR a2++cR b2++cR c1)) Ef Ac rfl rfl rfl) ?_
   refine aU (cb rfl (uy))<|ed<|a7 ?_
   rw[AT (o6 hc1)]
   exact ah (aS bq rfl (az ae))
  ·refine ac rfl (l6 (aO kc1) (aO kc2)) ?_
   refine aJ rfl (fun hc3=>?_) (fun hc3=>?_)
   ·exact absurd ⟨o6 hc1,Ip hb2,Ip hc3⟩ hbad
   ·refine aA<|aa<|bm<|bU 1<|aU (d5 (cR a1) aZ rfl)<|bU 1<|aU (d5 (cR b1) aZ rfl)<|bU 1<|aU (d5 (cR a2) aZ rfl)<|bU 1<|aU (d5 (cR b2) aZ rfl)<|bU 1<|aU (aG (us:=(cR a1++cR b1++cR a2++cR b2++cR c1)) Ef Ac rfl rfl rfl) ?_
    refine aU (cb rfl (uy))<|ed<|a7 ?_
    rw[AT (o6 hc1)]
    exact ah (aS bq rfl (az ae))
theorem JD (hc1:Rz 6000000 c1) (hc2:Rz 6000000 c2) (hbad: ¬WQ b1 c1 b2 c2):Ok Tryz.prog 270 [.a ((cR a1++cR b1++cR c1)),.a ((cR a2++cR b2++cR c2))] [.a ((cR a1++cR b1++cR a2++cR b2++cR (Np b1 b2 (cc b1 c1 c2)))),.c (.i .i64 0)]:=by
 have kc1:=hc1
 have kc2:=hc2
 refine bX Tryz.func270 rfl<|ac rfl (dm) ?_
 refine jU (bE rfl) (fun c1 hb1=>?_)
 cases c1
 ·refine ar (bE rfl)<|sb rfl<|ac rfl (dm) ?_
  refine dk rfl (fun hc2=>?_) (fun hc2=>?_)
  ·refine ac rfl (kT) ?_
   refine ah ?_
   rw[Fv (q9 hc2)]
   exact aS bq rfl (az ae)
  ·refine ac rfl (kT) ?_
   refine ah ?_
   rw[AT (o6 hc2)]
   exact aS bq rfl (az ae)
 ·refine ac rfl (dm) ?_
  refine jU (bE rfl) (fun c3 hb3=>?_)
  cases c3
  ·refine sb rfl<|ac rfl (dm) ?_
   refine dk rfl (fun hc4=>?_) (fun hc4=>?_)
   ·refine ac rfl (kT) ?_
    refine ah ?_
    rw[Fv (q9 hc4)]
    exact aS bq rfl (az ae)
   ·refine ac rfl (kT) ?_
    refine ah ?_
    rw[AT (o6 hc4)]
    exact aS bq rfl (az ae)
  ·refine ac rfl (qy (aO kc1) (aO kc2)) ?_
   refine dk rfl (fun hc5=>?_) (fun hc5=>?_)
   ·exact absurd ⟨Ip hb1,Ip hb3,Ip hc5⟩ hbad
   ·refine ac rfl (dm) ?_
    refine dk rfl (fun hc6=>?_) (fun hc6=>?_)
    ·refine ac rfl (kT) ?_
     refine ah ?_
     rw[Fv (q9 hc6)]
     exact aS bq rfl (az ae)
    ·refine ac rfl (kT) ?_
     refine ah ?_
     rw[AT (o6 hc6)]
     exact aS bq rfl (az ae)
theorem pe {x:Rat}(h:(decide (-1000000000<x.num)&&(decide (x.num<1000000000)&&(decide ((x.den:Int)<1000000000)&&decide (1≤k))))=true):Rz k x:=by
 simp only[dL,decide_eq_true_eq] at h
 have h1:=mH h.2.2.2
 have e:pw 1=1000000000:=by decide+kernel
 have hp:=den_pos x
 exact⟨⟨by omega,by omega⟩,⟨by omega,by omega⟩⟩
theorem yY (h:uU b1 b2 c=true):0≤c:=by
 unfold uU at h
 split at h
 ·grind
 grind
theorem kZ (h:0≤c):0≤zc b c:=by unfold zc;split<;>grind
def xB (a b c:Rat):Re:=aB a b (zc b c)
theorem r5 {p q:Rat}(hc:0≤c) (hr:0≤r):D1 a b c p q r=aT (xB a b c-xB p q r):=nP (kZ hc) (kZ hr)
theorem Sf {p q:Rat}(hc:0≤c) (hr:0≤r):tK a b (zc b c) p q (zc q r)=aT (xB a b c-xB p q r):=MQ (kZ hc) (kZ hr)
section
variable {a1 b1 a2 b2 c p1 q1 p2 q2 r:Rat}
theorem IV (hc:0≤c) (hr:0≤r):By a1 b1 a2 b2 c p1 q1 p2 q2 r=th a1 b1 a2 b2 c p1 q1 p2 q2 r:=by
 unfold By th
 rw[Sf hc hr,Sf hc hr,r5 hc hr,r5 hc hr]
theorem vC (x y:Re):aT (y-x)= -aT (x-y):=by
 rw[←cj]
 exact congrArg aT (br fun k=>by simp only[aI,bD];grind)
theorem sI (x:Re):aT (x-x)=0:=by
 have h:=vC x x
 omega
theorem JT (hc:0≤c) (hr:0≤r):th p1 q1 p2 q2 r a1 b1 a2 b2 c= -th a1 b1 a2 b2 c p1 q1 p2 q2 r:=by
 unfold th
 rw[r5 hc hr,r5 hc hr,r5 hr hc,r5 hr hc,vC (xB a1 b1 c),vC (xB a2 b2 c)]
 grind
theorem JS (hc:0≤c):th a1 b1 a2 b2 c a1 b1 a2 b2 c=0:=by
 unfold th
 rw[r5 hc hc,r5 hc hc,sI,sI];simp
end
theorem RO (n:Int):DX (n*n)=true:=by
 have h:bY (n*n)=(n.natAbs:Int):=by
  have e:(n.natAbs:Int)*(n.natAbs:Int)=n*n:=by grind
  refine Bh ?_ (by omega) (by omega) ?_
  ·grind
  grind
 unfold DX
 grind
theorem JB (x:Rat):je (x*x)=true:=by
 have e:x*x=Rat.divInt (x.num*x.num) ((x.den:Int)*(x.den:Int)):=by
  conv=>lhs;rw[←Rat.num_divInt_den x]
  exact Rat.divInt_mul_divInt _ _
 have hd:=den_pos x
 have hg:Int.gcd (x.num*x.num) ((x.den:Int)*(x.den:Int))=1:=by
  have hr:Nat.Coprime x.num.natAbs x.den:=x.reduced
  show Nat.gcd (x.num*x.num).natAbs ((x.den:Int)*(x.den:Int)).natAbs=1
  rw[s6,s6,yw]
  exact(hr.mul_left hr).mul_right (hr.mul_left hr)
 have hv:vQ (x.num*x.num) ((x.den:Int)*(x.den:Int))=true:=by
  unfold vQ
  rw[hg,decide_eq_true (qr hd hd)];rfl
 obtain⟨h1,h2⟩:=Rr hv
 rw[←e] at h1 h2
 unfold je
 rw[h1,h2,RO,RO];rfl
theorem PO (hc:0≤c) (hv:b≠0→0<c∧je c=false):s3 a b c=aT (aB a b c):=by
 rw[←iX hc]
 unfold s3 bF sx
 by_cases hb:b=0
 ·have h0:aM b 0=0:=ni.2 hb
  rw[if_pos (.inr h0),h0,qN,if_pos (.inl rfl)]
 ·obtain⟨hp,hs⟩:=hv hb
  have h1:aM c 0=1:=by unfold aM;rw[if_neg (by grind),if_pos hp]
  have h2:aM b 0≠0:=fun e=>hb (ni.1 e)
  rw[h1,Int.mul_one]
  by_cases h3:aM a 0=aM b 0
  ·grind
  ·have n1: ¬(aM a 0=aM b 0∨aM b 0=0):=by omega
   have n2: ¬(aM b 0=0∨aM a 0=aM b 0):=by omega
   rw[if_neg n1,if_neg n2]
   by_cases h4:aM a 0=0
   ·grind
   ·rw[if_neg h4,if_neg h4]
    have hn:a*a≠b*b*c:=by
     intro e
     have e2:c=(a/b)*(a/b):=by grind
     rw[e2,JB] at hs
     grind
    have a1:=d6 a 0
    have b1:=d6 b 0
    by_cases h5:0<a*a-b*b*c
    ·have:aM (a*a) (b*b*c)=1:=by unfold aM;rw[if_neg (by grind),if_pos (by grind)]
     rw[if_pos h5,this,Int.mul_one]
    ·have:aM (a*a) (b*b*c)= -1:=by unfold aM;rw[if_pos (by grind)]
     rw[if_neg h5,this];omega
theorem qm (a b c:Rat):xB a b c=Re.of a+Re.of b*Re.rt c:=by
 unfold xB aB
 by_cases h:b=0
 ·subst h
  exact br fun k=>by simp only[aQ,aR,bc];grind
 ·rw[oY h]
def Jv (x y b1 b2 c:Rat):Rat:=x*x+y*y+(b1*b1+b2*b2)*c
def KE (x y b1 b2:Rat):Rat:=(x*b1+y*b2)+(x*b1+y*b2)
theorem Pr {x y:Rat}(hv:uU b1 b2 c=true) (h:KE x y b1 b2≠0):0<c∧je c=false:=by
 have hb: ¬(b1=0∧b2=0):=by
  rintro⟨rfl,rfl⟩
  apply h;unfold KE;grind
 unfold uU at hv
 grind
theorem acM:a*a+b*b*cc b (zc b c) (zc b c)=a*a+b*b*c:=by
 by_cases h:b=0
 ·grind
 ·rw[AT h,oY h]
theorem abr (hc:b≠0→c≠0):rB (a*b+b*a) (cc b (zc b c) (zc b c))=a*b+a*b:=by
 unfold rB
 split
 ·rename_i h
  by_cases hb:b=0
  ·grind
  ·rw[AT hb,oY hb] at h
   rcases h with h|h
   ·grind
   grind
 grind
theorem acx (hc:b≠0→c≠0):rC (a*b+b*a) (cc b (zc b c) (zc b c))=zc (a*b+a*b) c:=by
 have e:a*b+b*a=a*b+a*b:=by grind
 rw[e]
 unfold rC
 by_cases hb:b=0
 ·subst hb
  rw[if_pos (.inl (by grind)),F6 (by grind)]
 ·rw[AT hb,oY hb]
  by_cases h:a*b+a*b=0
  ·rw[if_pos (.inl h),F6 h]
  ·rw[if_neg (fun e=>e.elim h (hc hb)),oY h]
theorem ZC: ¬WQ B1 (zc B1 c) B2 (zc B2 c):=by
 rintro⟨h1,h2,h3⟩
 rw[oY h1,oY h2] at h3
 exact h3 rfl
theorem adt (hc:B1+B2≠0→c≠0):rB (B1+B2) (cc B1 (zc B1 c) (zc B2 c))=B1+B2:=by
 unfold rB
 split
 ·rename_i h
  by_cases hs:B1+B2=0
  ·grind
  ·exfalso
   rcases h with h|h
   ·grind
   ·by_cases h1:B1=0
    ·rw[Fv h1] at h
     have h2:B2≠0:=by grind
     rw[oY h2] at h
     grind
    ·rw[AT h1,oY h1] at h
     exact hc hs h
 ·rfl
theorem adT (hc:B1+B2≠0→c≠0):rC (B1+B2) (cc B1 (zc B1 c) (zc B2 c))=zc (B1+B2) c:=by
 unfold rC
 by_cases hs:B1+B2=0
 ·rw[if_pos (.inl hs),F6 hs]
 ·have e:cc B1 (zc B1 c) (zc B2 c)=c:=by
   by_cases h1:B1=0
   ·rw[Fv h1,oY (fun e=>hs (by grind))]
   ·rw[AT h1,oY h1]
  rw[e,if_neg (fun e=>e.elim hs (hc hs)),oY hs]
theorem VG (a v:Rat):a+ -v=a-v:=by grind
section
variable {P:Program}{f:FuncId}{ds rs:List D0}{x y z x' y' z':Rat}
theorem wN (h:Ok P f ds (.a (cR x++cR y++cR z)::rs)) (e1:x=x') (e2:y=y') (e3:z=z'):Ok P f ds (.a (cR x'++cR y'++cR z')::rs):=by subst e1 e2 e3;exact h
end
theorem aa8 (x y b1 b2 c:Rat):(x*x+b1*b1*c)+(y*y+b2*b2*c)=Jv x y b1 b2 c:=by unfold Jv;grind
theorem SD (x y b1 b2:Rat):(x*b1+x*b1)+(y*b2+y*b2)=KE x y b1 b2:=by unfold KE;grind
theorem aat (h:uU b1 b2 c=true):(b1≠0→c≠0)∧(b2≠0→c≠0):=by
 have key: ¬(b1=0∧b2=0)→c≠0:=by
  unfold uU at h
  grind
 grind
section
variable {P:Program}{ops:Array Oper}{T:TF}{B:BF}{av:Nat→Prop}{w0:Ent}{w:World}{N:Nat}{β:Nat→Nat}{a:Act}
theorem Rel.ren (h:Rel av w0 N T B β a w) {d:Nat}(hdN:d<N) (hk:B k≠none) (hd:d=k∨B d=none):
 Rel av w0 N (oV k T) (fun l=>if l=d then B k else if l=k then none else B l) (fun l=>if l=d then β k else β l) a w:=by
 have hB: ∀l,(if l=d then B k else if l=k then none else B l)≠none→(l=d∨(l≠d∧l≠k∧B l≠none)):=by grind
 have hne: ∀l,B l≠none→l≠k→l≠d:=by grind
 have hV:(fun b=>av b∨ ∃l,(if l=d then B k else if l=k then none else B l)≠none∧(if l=d then β k else β l)=b)=(fun b=>av b∨ ∃l,B l≠none∧β l=b):=by grind
 have hT: ∀t x,oV k T t=some x→x=.n∨(T t=some x∧jS x≠some k):=by
  intro t x ht
  unfold oV at ht
  grind
 refine⟨h.dfr,h.siz,h.bel,h.avl,h.avE,h.big,fun b hb hK=>?_,?_,?_,?_,?_⟩
 ·have hKd:w0.K≠d:=by have:=h.big;omega
  rcases hB _ hK with e|⟨_,_,e⟩
  ·grind
  ·rw[if_neg hKd];exact h.fix b hb e
 ·intro l m hl hm e
  rcases hB l hl with e1|⟨e1,e2,e3⟩<;>rcases hB m hm with f1|⟨f1,f2,f3⟩
  ·grind
  ·rw[if_pos e1,if_neg f1] at e
   exact absurd (h.inj k m hk f3 e).symm f2
  ·rw[if_neg e1,if_pos f1] at e
   exact absurd (h.inj l k e3 hk e) e2
  ·rw[if_neg e1,if_neg f1] at e
   exact h.inj l m e3 f3 e
 ·intro l hl
  rcases hB l hl with e1|⟨e1,e2,e3⟩
  ·rw[if_pos e1];exact h.own k hk
  ·rw[if_neg e1];exact h.own l e3
 ·intro t x l ht hx
  rcases hT t x ht with rfl|⟨h1,h2⟩
  ·cases hx
  ·have h3:=h.wf t x l h1 hx
   grind
 ·rw[hV]
  refine⟨h.sees.av,?_,?_⟩
  ·intro l U cs hl
   have hl0:(if l=d then B k else if l=k then none else B l)=some (U,cs):=hl
   by_cases e:l=d
   ·rw[if_pos e] at hl0
    rw[if_pos e];exact h.sees.box k U cs hl0
   ·rw[if_neg e] at hl0
    rw[if_neg e]
    by_cases e2:l=k
    ·grind
    ·rw[if_neg e2] at hl0;exact h.sees.box l U cs hl0
  ·intro t x hL ht
   rcases hT t x ht with rfl|⟨h1,h2⟩
   ·unfold oV at ht
    split at ht
    ·rename_i y hy
     obtain⟨v,e,_⟩:=h.sees.tmp t y hL hy
     exact⟨v,e,trivial⟩
    grind
   ·obtain⟨v,e,hr⟩:=h.sees.tmp t x hL h1
    refine⟨v,e,?_⟩
    cases x with
    |p l off=>
     have h3:=h.wf t _ l h1 rfl
     have h4:l≠k:=fun e=>h2 (by rw[e];rfl)
     show v=.pointer (some ⟨if l=d then β k else β l,off,none⟩)
     rw[if_neg (hne l h3 h4)];exact hr
    |o l n c=>
     have h3:=h.wf t _ l h1 rfl
     have h4:l≠k:=fun e=>h2 (by rw[e];rfl)
     show v=.slice (some ⟨if l=d then β k else β l,0,none⟩) n c
     rw[if_neg (hne l h3 h4)];exact hr
    |w l off n c=>
     have h3:=h.wf t _ l h1 rfl
     have h4:l≠k:=fun e=>h2 (by rw[e];rfl)
     show v=.slice (some ⟨if l=d then β k else β l,off,none⟩) n c
     rw[if_neg (hne l h3 h4)];exact hr
    |v d=>exact hr
    |t ds=>exact hr
    |q us=>exact hr
    |u=>exact hr
    |n=>trivial
    |z=>exact hr
    |f n us=>exact hr
    |tn l n c ds=>
     have h3:=h.wf t _ l h1 rfl
     have h4:l≠k:=fun e=>h2 (by rw[e];rfl)
     obtain⟨xs,e,h⟩:=hr
     exact⟨xs,by show v=Value.tuple (Value.slice (some ⟨if l=d then β k else β l,0,none⟩) n c::xs).toArray;rw[if_neg (hne l h3 h4)];exact e,h⟩
theorem B7 (a:Act) (d:Nat) (v v':Value):(a.put (some d) v).put (some d) v'=a.put (some d) v':=by simp[Act.put]
theorem Pw {x:DV}:(⟨N,(t,x)::lF k tm,bx⟩:St).T=fun s=>if some t=some s then some x else oV k (fun s=>aF s tm) s:=by
 funext s
 show aF s ((t,x)::lF k tm)=_
 rw[bv,mm]
 by_cases e:t=s
 ·grind
 ·rw[if_neg e,if_neg (by simpa using e)];rfl
theorem Qp {x:TypeId×List CellD}:(⟨N,tm,(t,x)::jY k bx⟩:St).B=fun l=>if some t=some l then some x else if l=k then none else aF l bx:=by
 funext s
 show aF s ((t,x)::jY k bx)=(if some t=some s then some x else if s=k then none else aF s bx)
 rw[bv,ko]
 grind
theorem QP {z:Value}(hzl:zs.length=m) (hzr: ∀(V:Nat→Prop) (w:World),RdCs V w z.cells.toList zs) (r:Nat):
 ∃rest:List CellD,rest.length=r*m∧ ∀(V:Nat→Prop) (w:World),RdCs V w (Builtin.zeroCells z.cells r).toList rest:=by
 have hzs:z.cells.size=m:=by have:=(hzr (fun _=>False) default).1;rw[hzl] at this;simpa using this
 have key: ∀(r:Nat) (V:Nat→Prop) (w:World),RdCs V w ((List.range (r*m)).map (fun j=>z.cells[j%z.cells.size]!)) (List.replicate r zs).flatten:=by
  intro r V w
  induction r with
  |zero=>simp;exact uN
  |succ r ih=>
   rw[Nat.succ_mul,List.range_add,oZ,List.replicate_succ',List.flatten_append]
   refine qW ih ?_
   have e2:(List.map (fun x=>r*m+x) (List.range m)).map (fun j=>z.cells[j%z.cells.size]!)=z.cells.toList:=by
    apply u9 (by simp[hzs])
    intro j h1 h2
    simp at h1
    simp only[List.getElem_map,List.getElem_range,hzs]
    rw[Nat.mul_comm r,Nat.mul_add_mod,rl (by omega),getElem!_pos z.cells j (by omega)]
    simp
   grind
 refine⟨(List.replicate r zs).flatten,?_,fun V w=>?_⟩
 ·simp_all
 ·have:=key r V w
  unfold Builtin.zeroCells
  simpa [hzs] using this
variable {tm:List (Nat×DV)}{bx:List (Nat×TypeId×List CellD)}
theorem Gd {c q:Nat}
 (hU:tG P U=some (e,m,by_,zs)) (hx:cG (fun s=>aF s tm) x=some (.o k n c)) (hsc: ∀V β a w,Sees V (iN ops ⟨some t,.call ⟨.builtin .append,#[x,y],#[U,U]⟩,ty,pos,af,g⟩) (fun s=>aF s tm) (fun l=>aF l bx) β a w→ ∃V',RdC V' w (a.eval y) (.s q ys)∧ ∀news,RdCs V' w news ys→RdCs V w news ys) (hb:aF k bx=some (e,cs)) (hcs:cs.length=c*m) (hys:ys.length=q*m) (hm:0<m)
 (hnc:n≤c) (hcm:c≤maxLen) (hbytes:(n+q)*by_≤140737488355328) (h63:n+q≤maxLen) (hpre:cs.take (n*m)=pre) (hd:t=k∨aF t bx=none)
 (hg:gd ops ⟨some t,.call ⟨.builtin .append,#[x,y],#[U,U]⟩,ty,pos,af,g⟩ (fun s=>aF s tm)=some true):
 Kf P ops ⟨some t,.call ⟨.builtin .append,#[x,y],#[U,U]⟩,ty,pos,af,g⟩ ⟨N,tm,bx⟩ (fun σ'=> ∃c' rest,n+q≤c'∧c'≤maxLen∧rest.length=(c'-(n+q))*m∧σ'=⟨N,(t,.o t (n+q) c')::lF k tm,(t,e,pre++ys++rest)::jY k bx⟩):=by
 intro av w0 β a w hrel htn
 have hs:=Sees.of hrel.sees (L:=iN ops ⟨some t,.call ⟨.builtin .append,#[x,y],#[U,U]⟩,ty,pos,af,g⟩) (fun _ _=>trivial) (fun _ _ _ h=>h) (fun _ _ h=>h)
 refine⟨ez hs hg,?_⟩
 have e1:a.eval x=.slice (some ⟨β k,0,none⟩) n c:=aD hs (x:=x) (by simp[Op.operands,Call.operands]) hx
 obtain⟨V',h2,hconv⟩:=hsc _ _ _ _ hs
 obtain⟨news,hsrc,hrn'⟩:=rS hU h2 hys
 have hrn:=hconv _ hrn'
 obtain⟨hu,i,z,hi,hz,hsz,hby,hzl,hzr⟩:=iW hU
 obtain⟨hvk,vs,ev,hr⟩:=hs.box k e cs hb
 subst hsz
 have hkn:(aF k bx)≠none:=by rw[hb];simp
 have hle:n*i.size≤cs.length:=by rw[hcs];exact pf _ hnc
 have hvl:vs.size=c*i.size:=by have:=hr.1;rw[hcs] at this;simpa using this
 have hr2:=hr.take (n*i.size)
 rw[hpre] at hr2
 have hlen:(vs.toList.take (n*i.size)).length=n*i.size:=by
  rw[dH,Array.length_toList,hvl]
  exact il (pf _ hnc)
 have ht:t<N:=htn t rfl
 have hnl:news.length=q*i.size:=hsrc.newsLen
 unfold Gives
 by_cases hroom:n+q≤c
 ·--in place
  have hfit:0+n*i.size+0+news.length≤vs.size:=by
   rw[hvl,hnl]
   have:=pf i.size hroom
   rw[oh] at this;omega
  have hst:=run_storeCells_at P (β k) (0+n*i.size) e news 0 vs w ev hfit hsrc.one
  simp only[gV,sw] at hst
  have hrun:(Builtin.append_ #[U,U] ty #[.slice (some ⟨β k,0,none⟩) n c,a.eval y]).run P w=.ok (.slice (some ⟨β k,0,none⟩) (n+q) c) (w.setRow (β k) (vs.toList.take (n*i.size)++news++vs.toList.drop (n*i.size+news.length)).toArray):=by
   rcases hsrc.kind with⟨e',hk⟩|hk<;>simp[Builtin.append_,run_underlying hu,sizeOf,typeInfo,hi,hsrc.len,hroom,hsrc.cells,Addr.add_lit,hst]
  have hexec:(execOp a.eval ⟨some t,.call ⟨.builtin .append,#[x,y],#[U,U]⟩,ty,pos,af,g⟩).run P w=.ok (.value (.slice (some ⟨β k,0,none⟩) (n+q) c)) (w.setRow (β k) (vs.toList.take (n*i.size)++news++vs.toList.drop (n*i.size+news.length)).toArray):=by
   simp only[execOp,resolve,invoke,builtin,fb,f6,fk,qV,oJ,qe,e1]
   rw[hrun]
   rfl
  rw[hexec]
  have hrest:((cs.drop (n*i.size+news.length))).length=(c-(n+q))*i.size:=by
   rw[fS,hcs,hnl,←oh,←Nat.sub_mul]
  refine⟨⟨N,(t,.o t (n+q) c)::lF k tm,(t,e,pre++ys++cs.drop (n*i.size+news.length))::jY k bx⟩,fun l=>if l=t then β k else β l,⟨c,_,hroom,hcm,hrest,rfl⟩,rfl,?_⟩
  have hren:=hrel.ren (k:=k) (d:=t) (htn t rfl) hkn hd
  have hstore:=hren.store (k:=t) (U:=e) (cs0:=cs) (cs:=pre++ys++cs.drop (n*i.size+news.length)) (vs:=(vs.toList.take (n*i.size)++news++vs.toList.drop (n*i.size+news.length)).toArray)
   (w':=w.setRow (β k) (vs.toList.take (n*i.size)++news++vs.toList.drop (n*i.size+news.length)).toArray) (by rw[if_pos rfl];exact hb) (by rw[if_pos rfl];exact o5 ev) rfl rfl rfl ?_
  ·have hval:=hstore.value (d:=some t) (x:=.o t (n+q) c) (v:=.slice (some ⟨β k,0,none⟩) (n+q) c) (by intro s hs;injection hs with hs;subst hs;exact ht) (eQ _ _) (by show _=Value.slice (some ⟨if t=t then β k else β t,0,none⟩) _ _;rw[if_pos rfl]) (by intro l hl;injection hl with hl;subst hl;rw[if_pos rfl];simp)
   refine hval.congr (fun s=>?_) (fun l=>?_)
   ·rw[Pw];rfl
   ·rw[Qp]
    show(if some t=some l then _ else _)=(if t=l then _ else if l=t then _ else _)
    by_cases e:t=l
    ·rw[if_pos (by rw[e]),if_pos e]
    ·rw[if_neg (show ¬some t=some l by simpa using e),if_neg e,if_neg (Ne.symm e)];rfl
  ·have hrd:RdCs (fun b=>av b∨ ∃k,aF k bx≠none∧β k=b) w (vs.toList.take (n*i.size)++news++vs.toList.drop (n*i.size+news.length)) (pre++ys++cs.drop (n*i.size+news.length)):=(hr2.append hrn).append (hr.drop _)
   refine RdCs.keep (av:=fun b=>av b∨ ∃k,aF k bx≠none∧β k=b) ⟨Nat.le_refl _,fun _ _ _=>rfl,?_⟩ hrd
   rintro b _ (hb'|⟨l,hl,hb'⟩)
   ·exact .inl hb'
   ·try dsimp only at hl hb'
    by_cases e:l=t
    ·rw[if_pos e] at hb';exact .inr ⟨k,hkn,hb'⟩
    ·rw[if_neg e] at hl hb'
     by_cases e2:l=k
     ·rw[if_pos e2] at hl;exact absurd rfl hl
     ·rw[if_neg e2] at hl;exact .inr ⟨l,hl,hb'⟩
 ·--new memory
  have hgrow:c<n+q:=by omega
  have hold:(Builtin.firstCells i.size n (.slice (some ⟨β k,0,none⟩) n c)).run P w.drew=.ok (vs.toList.take (n*i.size)).toArray w.drew:=by
   have:=run_loadCells_list (P:=P) w.drew ⟨β k,0,none⟩ (vs.toList.take (n*i.size)) (fun j u hj=>by
    rw[kg,gV]
    show w.cell? _=_
    rw[rf] at hj
    split at hj
    ·rw[cY ev,←hj];simp
    ·cases hj)
   rw[hlen] at this
   exact this
  have hrun:=run_append_grow_src (P:=P) (w:=w) U U ty e i z hu hi hz (some ⟨β k,0,none⟩) n c _ hold (a.eval y) q news hsrc hgrow (by have:maxLen=9223372036854775807:=rfl;omega) (growslice_fits hgrow (by rw[hby];exact hbytes))
  generalize hcap:grownCap w (n+q) c e=c' at hrun
  have hc1:n+q≤c':=by rw[←hcap];exact grownCap_ge _ _ _ _
  have hc2:c'≤maxLen:=by rw[←hcap];exact grownCap_le_maxLen _ _ _ _ h63
  have hexec:(execOp a.eval ⟨some t,.call ⟨.builtin .append,#[x,y],#[U,U]⟩,ty,pos,af,g⟩).run P w=.ok (.value (.slice (some ⟨w.heap.size,0,none⟩) (n+q) c'))
   (w.drew.alloc (.cells ((vs.toList.take (n*i.size)++news).toArray++Builtin.zeroCells z.cells (c'-(n+q))) e)):=by
   simp only[execOp,resolve,invoke,builtin,fb,f6,fk,qV,oJ,qe,e1]
   rw[hrun]
   rfl
  rw[hexec]
  have hdr:=(hrel.drop k).drew
  obtain⟨rest,hrl,hrz⟩:=QP hzl hzr (c'-(n+q))
  have hrd:RdCs (fun b=>av b∨ ∃l,(if l=k then none else aF l bx)≠none∧β l=b) w.drew ((vs.toList.take (n*i.size)++news).toArray++Builtin.zeroCells z.cells (c'-(n+q))).toList (pre++ys++rest):=by
   have h0:RdCs (fun b=>av b∨ ∃k,aF k bx≠none∧β k=b) w (vs.toList.take (n*i.size)++news) (pre++ys):=hr2.append hrn
   have h1:=qW (RdCs.keep (av:=fun b=>av b∨ ∃k,aF k bx≠none∧β k=b) (w:=w) (av':=fun b=>av b∨ ∃l,(if l=k then none else aF l bx)≠none∧β l=b) (w':=w.drew) ⟨Nat.le_refl _,fun _ _ _=>rfl,fun b _ hb'=>hb'.imp id fun⟨l,hl,e⟩=>⟨l,fun h0=>by rw[h0] at hl;exact hl (by split<;>rfl),e⟩⟩ h0) (hrz (fun b=>av b∨ ∃l,(if l=k then none else aF l bx)≠none∧β l=b) w.drew)
   simpa using h1
  have hbox:=hdr.box (d:=t) ht (by
   show(if t=k then none else aF t bx)=none
   rcases hd with hd|hd
   ·rw[if_pos hd]
   ·rw[hd];split<;>rfl) (U:=e) (sl:=some c') hrd
  refine⟨⟨N,(t,.o t (n+q) c')::lF k tm,(t,e,pre++ys++rest)::jY k bx⟩,fun l=>if l=t then w.drew.heap.size else β l,⟨c',_,hc1,hc2,hrl,rfl⟩,rfl,?_⟩
  have hval:=hbox.value (d:=some t) (x:=.o t (n+q) c') (v:=.slice (some ⟨w.heap.size,0,none⟩) (n+q) c') (by intro s hs;injection hs with hs;subst hs;exact ht) (eQ _ _) (by show _=Value.slice (some ⟨if t=t then w.drew.heap.size else β t,0,none⟩) _ _;rw[if_pos rfl];rfl) (by intro l hl;injection hl with hl;subst hl;rw[if_pos rfl];simp)
  rw[B7] at hval
  refine hval.congr (fun s=>?_) (fun l=>?_)
  ·rw[Pw]
   show(if some t=some s then _ else _)=(if some t=some s then _ else if some t=some s then _ else oV k _ s)
   by_cases e:some t=some s
   ·rw[if_pos e,if_pos e]
   ·rw[if_neg e,if_neg e,if_neg e];rfl
  ·rw[Qp];rfl
theorem Bl {c q:Nat}
 (hU:tG P U=some (e,m,by_,zs)) (hx:cG (fun s=>aF s tm) x=some (.o k n c)) (hy:cG (fun s=>aF s tm) y=some (.v (.c (.s q ys)))) (hb:aF k bx=some (e,cs)) (hcs:cs.length=c*m) (hys:ys.length=q*m) (hm:0<m)
 (hnc:n≤c) (hcm:c≤maxLen) (hbytes:(n+q)*by_≤140737488355328) (h63:n+q≤maxLen) (hpre:cs.take (n*m)=pre) (hd:t=k∨aF t bx=none)
 (hg:gd ops ⟨some t,.call ⟨.builtin .append,#[x,y],#[U,U]⟩,ty,pos,af,g⟩ (fun s=>aF s tm)=some true):
 Kf P ops ⟨some t,.call ⟨.builtin .append,#[x,y],#[U,U]⟩,ty,pos,af,g⟩ ⟨N,tm,bx⟩ (fun σ'=> ∃c' rest,n+q≤c'∧c'≤maxLen∧rest.length=(c'-(n+q))*m∧σ'=⟨N,(t,.o t (n+q) c')::lF k tm,(t,e,pre++ys++rest)::jY k bx⟩):=by
 exact Gd hU hx (fun V β a w hs=>⟨V,aD hs (x:=y) (by simp[Op.operands,Call.operands]) hy,fun _ h=>h⟩) hb hcs hys hm hnc hcm hbytes h63 hpre hd hg
theorem Fn {q:Nat}
 (hU:tG P U=some (e,m,by_,zs)) (hx:cG (fun s=>aF s tm) x=some .z) (hy:cG (fun s=>aF s tm) y=some (.v (.c (.s q ys)))) (hys:ys.length=q*m) (hq:0<q)
 (hbytes:q*by_≤140737488355328) (h63:q≤maxLen) (hd:aF t bx=none)
 (hg:gd ops ⟨some t,.call ⟨.builtin .append,#[x,y],#[U,U]⟩,ty,pos,af,g⟩ (fun s=>aF s tm)=some true):
 Kf P ops ⟨some t,.call ⟨.builtin .append,#[x,y],#[U,U]⟩,ty,pos,af,g⟩ ⟨N,tm,bx⟩ (fun σ'=> ∃c' rest,q≤c'∧c'≤maxLen∧rest.length=(c'-q)*m∧σ'=⟨N,(t,.o t q c')::tm,(t,e,ys++rest)::bx⟩):=by
 intro av w0 β a w hrel htn
 have hs:=Sees.of hrel.sees (L:=iN ops ⟨some t,.call ⟨.builtin .append,#[x,y],#[U,U]⟩,ty,pos,af,g⟩) (fun _ _=>trivial) (fun _ _ _ h=>h) (fun _ _ h=>h)
 refine⟨ez hs hg,?_⟩
 have e1:a.eval x=.slice none 0 0:=aD hs (x:=x) (by simp[Op.operands,Call.operands]) hx
 have h2:=aD hs (x:=y) (by simp[Op.operands,Call.operands]) hy
 obtain⟨news,hsrc,hrn⟩:=rS hU h2 hys
 obtain⟨hu,i,z,hi,hz,hsz,hby,hzl,hzr⟩:=iW hU
 subst hsz
 have ht:t<N:=htn t rfl
 unfold Gives
 have hold:(Builtin.firstCells i.size 0 (.slice none 0 0)).run P w.drew=.ok ([]:List Value).toArray w.drew:=rfl
 have hgrow:0<0+q:=by omega
 have hrun:=run_append_grow_src (P:=P) (w:=w) U U ty e i z hu hi hz none 0 0 _ hold (a.eval y) q news hsrc hgrow (by have:maxLen=9223372036854775807:=rfl;omega) (growslice_fits hgrow (by rw[hby,gV];exact hbytes))
 rw[gV] at hrun
 generalize hcap:grownCap w q 0 e=c' at hrun
 have hc1:q≤c':=by rw[←hcap];exact grownCap_ge _ _ _ _
 have hc2:c'≤maxLen:=by rw[←hcap];exact grownCap_le_maxLen _ _ _ _ h63
 have hexec:(execOp a.eval ⟨some t,.call ⟨.builtin .append,#[x,y],#[U,U]⟩,ty,pos,af,g⟩).run P w=.ok (.value (.slice (some ⟨w.heap.size,0,none⟩) q c'))
  (w.drew.alloc (.cells (([]++news).toArray++Builtin.zeroCells z.cells (c'-q)) e)):=by
  simp only[execOp,resolve,invoke,builtin,fb,f6,fk,qV,oJ,qe,e1]
  rw[hrun]
  rfl
 rw[hexec]
 obtain⟨rest,hrl,hrz⟩:=QP hzl hzr (c'-q)
 have hrd:RdCs (fun b=>av b∨ ∃k,aF k bx≠none∧β k=b) w.drew (([]++news).toArray++Builtin.zeroCells z.cells (c'-q)).toList (ys++rest):=by
  have h1:RdCs (fun b=>av b∨ ∃k,aF k bx≠none∧β k=b) w.drew (news++(Builtin.zeroCells z.cells (c'-q)).toList) (ys++rest):=qW (RdCs.keep (Keep.below (eQ _ w).drew) hrn) (hrz (fun b=>av b∨ ∃k,aF k bx≠none∧β k=b) w.drew)
  grind
 have hbox:=hrel.drew.box (d:=t) ht hd (U:=e) (sl:=some c') hrd
 refine⟨⟨N,(t,.o t q c')::tm,(t,e,ys++rest)::bx⟩,fun l=>if l=t then w.drew.heap.size else β l,⟨c',_,hc1,hc2,hrl,rfl⟩,rfl,?_⟩
 have hval:=hbox.value (d:=some t) (x:=.o t q c') (v:=.slice (some ⟨w.heap.size,0,none⟩) q c') (by intro s hs;injection hs with hs;subst hs;exact ht) (eQ _ _) (by show _=Value.slice (some ⟨if t=t then w.drew.heap.size else β t,0,none⟩) _ _;rw[if_pos rfl];rfl) (by intro l hl;injection hl with hl;subst hl;rw[if_pos rfl];simp)
 rw[B7] at hval
 refine hval.congr (fun s=>?_) (fun l=>?_)
 ·show aF s ((t,DV.o t q c')::tm)=(if some t=some s then _ else if some t=some s then _ else aF s tm)
  rw[bv]
  grind
 ·show aF l ((t,e,ys++rest)::bx)=(if some t=some l then _ else aF l bx)
  rw[bv]
  grind
variable {os:List Oper}{K:St→Prop}
theorem mh {c q:Nat}
 (hU:tG P U=some (e,m,by_,zs)) (hx:cG (fun s=>aF s tm) x=some (.o k n c)) (hy:cG (fun s=>aF s tm) y=some (.v (.c (.s q ys)))) (hb:aF k bx=some (e,us++rest)) (hus:us.length=n*m) (hr:rest.length=(c-n)*m)
 (hys:ys.length=q*m) (hm:0<m) (hnc:n≤c) (hcm:c≤maxLen) (hbytes:(n+q)*by_≤140737488355328) (h63:n+q≤maxLen) (hd:t=k∨aF t bx=none)
 (hg:gd ops ⟨some t,.call ⟨.builtin .append,#[x,y],#[U,U]⟩,ty,pos,af,g⟩ (fun s=>aF s tm)=some true)
 (hk: ∀c' rest',n+q≤c'→c'≤maxLen→rest'.length=(c'-(n+q))*m→dl P ops os ⟨N,(t,.o t (n+q) c')::lF k tm,(t,e,us++ys++rest')::jY k bx⟩ K):
 dl P ops (⟨some t,.call ⟨.builtin .append,#[x,y],#[U,U]⟩,ty,pos,af,g⟩::os) ⟨N,tm,bx⟩ K:=
 .inr ⟨_,Bl (pre:=us) hU hx hy hb (by rw[dt,hus,hr,←oh];congr 1;omega) hys hm hnc hcm hbytes h63 (by rw[←hus];simp) hd hg,fun σ' ⟨c',rest',h1,h2,h3,e⟩=>by subst e;exact hk c' rest' h1 h2 h3⟩
theorem lq {q:Nat}
 (hU:tG P U=some (e,m,by_,zs)) (hx:cG (fun s=>aF s tm) x=some .z) (hy:cG (fun s=>aF s tm) y=some (.v (.c (.s q ys)))) (hys:ys.length=q*m) (hq:0<q)
 (hbytes:q*by_≤140737488355328) (h63:q≤maxLen) (hd:aF t bx=none)
 (hg:gd ops ⟨some t,.call ⟨.builtin .append,#[x,y],#[U,U]⟩,ty,pos,af,g⟩ (fun s=>aF s tm)=some true)
 (hk: ∀c' rest',q≤c'→c'≤maxLen→rest'.length=(c'-q)*m→dl P ops os ⟨N,(t,.o t q c')::tm,(t,e,ys++rest')::bx⟩ K):
 dl P ops (⟨some t,.call ⟨.builtin .append,#[x,y],#[U,U]⟩,ty,pos,af,g⟩::os) ⟨N,tm,bx⟩ K:=
 .inr ⟨_,Fn hU hx hy hys hq hbytes h63 hd hg,fun σ' ⟨c',rest',h1,h2,h3,e⟩=>by subst e;exact hk c' rest' h1 h2 h3⟩
theorem eg {T:TF}{B:BF}{dst:Option Nat}
 (hg:gd ops ⟨dst,.assign (.const (.slice none 0 0)),ty,pos,af,g⟩ T=some true):Sem P ops ⟨dst,.assign (.const (.slice none 0 0)),ty,pos,af,g⟩ T B (.r .z):=
 bL hg (fun k e=>by cases e) (fun V β a w hs=>⟨.slice none 0 0,rfl,rfl⟩)
theorem vg {c:Code}(ht:aF t tm=some .z) (h:Dw P c ⟨N,(t,.v (.c (.s 0 [])))::tm,bx⟩ Q):Dw P c ⟨N,tm,bx⟩ Q:=fun av w0 β a w hr=>by
 obtain⟨v,hv,hx⟩:=hr.sees.tmp t _ trivial ht
 have hx:v=.slice none 0 0:=hx
 subst hx
 have h2:=hr.upd (t:=t) (x:=.v (.c (.s 0 []))) hv (.s0 _ _ (by decide)) rfl
 refine h av w0 β a w (h2.congr (fun s=>?_) (fun _=>rfl))
 show aF s ((t,.v (.c (.s 0 [])))::tm)=_
 rw[bv];rfl
theorem DC {ι:Type}{c:Code}{σ:St}(I:ι→St) (μ:ι→Nat) (M:Nat)
 (first:Dw P c σ (Ey (fun σ'=> ∃j,Sub σ' (I j)∧μ j<M) Q)) (round: ∀i,Dw P c (I i) (Ey (fun σ'=> ∃j,Sub σ' (I j)∧μ j<μ i) Q)):Dw P (.loop c) σ Q:=fun av w0 β a w hr=>by
 refine bn (ι:=Option ι) (fun i=>match i with|none=>σ|some i=>I i) (fun i=>match i with|none=>M|some i=>μ i) none ⟨rfl,fun _ _ h=>h,fun _ _ h=>h,hr.wf⟩ (fun i=>?_) av w0 β a w hr
 cases i with
 |none=>
  refine first.mono fun e σ' h=>?_
  cases e with
  |normal=>obtain⟨j,h1,h2⟩:=h;exact⟨some j,h1,h2⟩
  |_=>exact h
 |some i=>
  refine(round i).mono fun e σ' h=>?_
  cases e with
  |normal=>obtain⟨j,h1,h2⟩:=h;exact⟨some j,h1,h2⟩
  |_=>exact h
theorem jw {c:Nat}(h:us.length=n*m) (hr:rest.length=(c-n)*m) (hn:n≤c):(us++rest).length=c*m:=by
 rw[dt,h,hr,←oh];congr 1;omega
theorem gn (h:us.length=n*m):(us++rest).take (n*m)=us:=by rw[←h];simp
theorem iQ (h:n≤1000000):n≤maxLen:=iO h (by decide)
end
inductive Wk:List CellD→List CellD→Prop
 |nil:Wk [] []
 |same {us us':List CellD}(u:CellD):Wk us us'→Wk (u::us) (u::us')
 |any {us us':List CellD}(u:CellD):Wk us us'→Wk (u::us) (.x::us')
theorem Wk.refl: ∀us:List CellD,Wk us us
 |[]=>.nil
 |u::us=>.same u (Wk.refl us)
theorem Wk.app {a b b':List CellD}(h:Wk a a') (g:Wk b b'):Wk (a++b) (a'++b'):=by
 induction h with
 |nil=>exact g
 |same u _ ih=>exact .same u ih
 |any u _ ih=>exact .any u ih
theorem Wk.len {a:List CellD}(h:Wk a a'):a.length=a'.length:=by
 induction h with
 |nil=>rfl
 |same u _ ih=>simp[ih]
 |any u _ ih=>simp[ih]
section
variable {av:Nat→Prop}{w:World}
theorem RdCs.wk (hw:Wk us us'): ∀ {vs:List Value},RdCs av w vs us→RdCs av w vs us':=by
 induction hw with
 |nil=>exact fun h=>h
 |same u _ ih=>
  intro vs h
  cases vs with
  |nil=>exact absurd h.1 (by simp)
  |cons v vs=>exact uJ h.uncons.1 (ih h.uncons.2)
 |any u _ ih=>
  intro vs h
  cases vs with
  |nil=>exact absurd h.1 (by simp)
  |cons v vs=>exact uJ (.x v h.uncons.1.one.1 h.uncons.1.one.2) (ih h.uncons.2)
theorem RdC.wks {v:Value}(hw:Wk us us') (h:RdC av w v (.s n us)):RdC av w v (.s n us'):=by
 cases h with
 |s0 A c hc=>cases hw;exact .s0 A c hc
 |s b off c sz n xs cv h0 h1 h2 h3 h4 h5 h6 h7=>
  refine .s b off c sz n us' cv h0 h1 h2 (hw.len▸h3) h4 h5 h6 fun j u hu=>?_
  have hj:j<us.length:=by rw[hw.len];exact(jf.1 hu).1
  have key:RdCs av w ((List.range us.length).map cv) us':=RdCs.wk hw ⟨by simp,fun i v u hv hu=>by
   simp only[sM] at hv
   have hi:i<us.length:=(jf.1 hu).1
   rw[List.getElem?_range hi] at hv
   cases hv
   exact h7 i u hu⟩
  exact key.2 j (cv j) u (by simp only[sM];rw[List.getElem?_range hj];rfl) hu
end
section
variable {P:Program}{f:FuncId}{ds:List D0}{us us':List CellD}
theorem Ok.wks (h:Ok P f ds [.c (.s n us)]) (hw:Wk us us'):Ok P f ds [.c (.s n us')]:=⟨h.cal,fun av vs w hav hr=>(h.run av vs w hav hr).mono fun _e _w' ⟨v,he,hv,hb⟩=>⟨v,he,RdC.wks hw hv,hb⟩⟩
end
structure Pt where
 a1:Rat
 b1:Rat
 a2:Rat
 b2:Rat
 c:Rat
structure Ln where
 a:Rat
 b:Rat
 c:Rat
structure Ci where
 x:Rat
 y:Rat
 q:Rat
inductive Cv where
 |seg (l:Ln) (p q:Pt)
 |arc (k:Ci) (w:Bool) (p q:Pt)
def M8:List CellD:=[.b false,.s 0 [],.b false,.s 0 []]
def rQ:List CellD:=M8++M8++M8
def xR4:List CellD:=[.x,.x,.x,.x]
def nr:List CellD:=xR4++xR4++xR4
def aj (p:Pt):List CellD:=cR p.a1++cR p.b1++cR p.a2++cR p.b2++cR p.c
def iI (l:Ln):List CellD:=cR l.a++cR l.b++cR l.c
def aV (k:Ci):List CellD:=cR k.x++cR k.y++cR k.q
def aC:Cv→List CellD
 | .seg l p q=>[.b false]++iI l++rQ++[.b false]++aj p++aj q
 | .arc k w p q=>[.b true]++nr++aV k++[.b w]++aj p++aj q
def OC (z:List CellD):Cv→List CellD
 | .seg l p q=>[.b false]++iI l++z++[.b false]++aj p++aj q
 | .arc k w p q=>[.b true]++z++aV k++[.b w]++aj p++aj q
theorem acw (h:z.length=12):Wk z nr:=by
 match z,h with
 |[a,b,c,d,e,f,g,h,i,j,k,l],_=>exact .any _ (.any _ (.any _ (.any _ (.any _ (.any _ (.any _ (.any _ (.any _ (.any _ (.any _ (.any _ .nil)))))))))))
theorem wkA (h:z.length=12) (k:Ci) (w:Bool) (p q:Pt):Wk (OC z (.arc k w p q)) (aC (.arc k w p q)):=(((((Wk.refl _).app (acw h)).app (Wk.refl _)).app (Wk.refl _)).app (Wk.refl _)).app (Wk.refl _)
theorem ak (p:Pt):(aj p).length=20:=rfl
theorem ai (c:Cv):(aC c).length=66:=by cases c<;>rfl
section
variable {α:Type}
def ao (enc:α→List CellD):List α→List CellD
 |[]=>[]
 |x::l=>enc x++ao enc l
variable {enc:α→List CellD}{m:Nat}
theorem am (h: ∀x,(enc x).length=m): ∀l:List α,(ao enc l).length=l.length*m
 |[]=>by simp[ao]
 |x::l=>by
  show(enc x++ao enc l).length=(l.length+1)*m
  rw[dt,h,am h l,oh];omega
theorem dB: ∀l r:List α,ao enc (l++r)=ao enc l++ao enc r
 |[],r=>rfl
 |x::l,r=>by
  show enc x++ao enc (l++r)=enc x++ao enc l++ao enc r
  rw[dB l r,nk]
theorem dW (x:α):ao enc [x]=enc x:=iZ _
theorem p5 (h: ∀x,(enc x).length=m) (l:List α) (j:Nat):(ao enc l).drop (j*m)=ao enc (l.drop j):=by
 by_cases hj:j≤l.length
 ·have e:ao enc l=ao enc (l.take j)++ao enc (l.drop j):=by rw[←dB,xQ]
  have hl:(ao enc (l.take j)).length=j*m:=by rw[am h,dH,il hj]
  grind
 ·rw[pk (by rw[am h];exact pf _ (by omega)),pk (by omega)];rfl
theorem pW (h: ∀x,(enc x).length=m) (l:List α) (j:Nat):(ao enc l).take (j*m)=ao enc (l.take j):=by
 by_cases hj:j≤l.length
 ·have e:ao enc l=ao enc (l.take j)++ao enc (l.drop j):=by rw[←dB,xQ]
  have hl:(ao enc (l.take j)).length=j*m:=by rw[am h,dH,il hj]
  grind
 ·rw[jm (by rw[am h];exact pf _ (by omega)),jm (by omega)]
theorem iY (h: ∀x,(enc x).length=m) {l:List α}{x:α}(hj:l[j]? =some x):(ao enc l).drop (j*m)=enc x++ao enc (l.drop (j+1)):=by
 obtain⟨h1,h2⟩:=jf.1 hj
 rw[p5 h,pq h1,h2];rfl
theorem eB {l:List α}{d:α}(h:j<l.length):l[j]? =some (l.getD j d):=by grind
section
variable {P:Program}{ops:Array Oper}{T:TF}{B:BF}{dst:Option Nat}{x y:Operand}{ty U:TypeId}{pos:String}{af:Array Edge}{g:Option (Nat×Bool)}
theorem fl {kk:IntKind}{l:List α}(d:α) (h: ∀x,(enc x).length=m) (hj:j<l.length) (hU:tF P U=some m) (e:(cG T x,cG T y,gd ops ⟨dst,.indexAddr U x y,ty,pos,af,g⟩ T)=(some (.v (.c (.s l.length (ao enc l)))),some (.v (.c (.i kk (j:Int)))),some true)):
 Sem P ops ⟨dst,.indexAddr U x y,ty,pos,af,g⟩ T B (.r (.q (enc (l.getD j d)++ao enc (l.drop (j+1))))):=
 bI (j:=(j:Int)) hU (congrArg Prod.fst e) (congrArg (fun q=>q.2.1) e) (by omega) (am h _) (iY h (eB hj)) (congrArg (fun q=>q.2.2) e)
theorem iK {a:α}{r:List CellD}(h: ∀x,(enc x).length=m) (hU:s5 P U=some (true,m)) (e:(cG T x,gd ops ⟨dst,.load U x,ty,pos,af,g⟩ T)=(some (.q (enc a++r)),some true)):Sem P ops ⟨dst,.load U x,ty,pos,af,g⟩ T B (.r (.v (.a (enc a)))):=
 ck hU (congrArg Prod.fst e) (by rw[←h a];exact List.take_left) (h a) (congrArg Prod.snd e)
end
theorem qj {l:List α}{d:α}(h:j<l.length):l.take (j+1)=l.take j++[l.getD j d]:=by simp_all
theorem bd {l:List α}{d:α}(h:j<l.length):l.getD j d∈l:=by grind
end
def dPt:Pt:=⟨0,0,0,0,0⟩
def aX:Cv:=.seg ⟨0,0,0⟩ dPt dPt
def Cv.p:Cv→Pt
 | .seg _ p _=>p
 | .arc _ _ p _=>p
def Cv.q:Cv→Pt
 | .seg _ _ q=>q
 | .arc _ _ _ q=>q
def Cv.isArc:Cv→Bool
 | .seg ..=>false
 | .arc ..=>true
def Cv.cw:Cv→Bool
 | .seg ..=>false
 | .arc _ w _ _=>w
def Cv.ends:Cv→Pt→Pt→Cv
 | .seg l _ _,p,q=>.seg l p q
 | .arc k w _ _,p,q=>.arc k w p q
def Cv.rev:Cv→Cv
 | .seg l p q=>.seg l q p
 | .arc k w p q=>.arc k (!w) q p
def vA (l:Ln) (p:Pt):Rat:=l.a*p.a1+l.b*p.a2-l.c
def vB (l:Ln) (p:Pt):Rat:=l.a*p.b1+l.b*p.b2
def Bw (l:Ln) (p:Pt):Int:=s3 (vA l p) (rB (vB l p) p.c) (rC (vB l p) p.c)
def G5 (k:Ci) (p:Pt):Rat:=Jv (p.a1-k.x) (p.a2-k.y) p.b1 p.b2 p.c+ -k.q
def DY (k:Ci) (p:Pt):Rat:=KE (p.a1-k.x) (p.a2-k.y) p.b1 p.b2
def mr (k:Ci) (p:Pt):Int:= -s3 (G5 k p) (DY k p) (zc (DY k p) p.c)
def Cv.supp:Cv→Pt→Bool
 | .seg l _ _,p=>Bw l p==0
 | .arc k _ _ _,p=>mr k p==0
def mO (p:Pt) (v:Rat):Int:=bF (p.a1-v) p.b1 (zc p.b1 p.c)
def sY (p:Pt) (v:Rat):Int:=bF (p.a2-v) p.b2 (zc p.b2 p.c)
def lj (k:Ci) (p:Pt):Bool:=decide (sY p k.y>0)||(sY p k.y==0&&decide (mO p k.x>0))
def cx (p q:Pt):Int:=D1 p.a1 p.b1 p.c q.a1 q.b1 q.c
def cy (p q:Pt):Int:=D1 p.a2 p.b2 p.c q.a2 q.b2 q.c
def cP (p q:Pt):Int:=th p.a1 p.b1 p.a2 p.b2 p.c q.a1 q.b1 q.a2 q.b2 q.c
def fJ (k:Ci) (p q:Pt):Int:=if lj k p !=lj k q then(if lj k q then-1 else 1) else if lj k p then-cx p q else cx p q
def sB (k:Ci) (f p q:Pt):Int:=if decide (fJ k p f<0) !=decide (fJ k q f<0) then(if decide (fJ k q f<0) then-1 else 1) else fJ k p q
def Pt.flip (p:Pt):Pt:=⟨-p.a1,-p.b1,p.a2,p.b2,p.c⟩
def Ci.mir (k:Ci):Ci:=⟨-k.x,k.y,k.q⟩
def Cv.ord:Cv→Pt→Pt→Int
 | .seg _ f t,p,q=>if decide (cP f t>0) then-cP p q else cP p q
 | .arc k w f _,p,q=>if !w then sB k f p q else sB k.mir f.flip p.flip q.flip
def Cv.on (c:Cv) (p:Pt):Bool:=c.supp p&&decide (c.ord c.p p≤0)&&decide (c.ord p c.q≤0)
def pp (c:Cv) (x:Pt):List Pt→Nat
 |[]=>0
 |o::l=>if c.ord o x<0 then pp c x l+1 else 0
def gz (c:Cv) (out:List Pt) (x:Pt):List Pt:=
 if pp c x out<out.length∧cP (out.getD (pp c x out) dPt) x=0 then out else out.take (pp c x out)++x::out.drop (pp c x out)
def cz (c:Cv) (l:List Pt):List Pt:=l.foldl (gz c) []
def gI (c:Cv):List Pt→List Cv
 |p::q::l=>c.ends p q::gI c (q::l)
 |_=>[]
def iU (c:Cv) (l:List Pt):List Cv:=gI c (cz c ([c.p,c.q]++l))
def Ad (x y:Rat):Bool:=aM x y==0
def Qc:Cv→Cv→Bool
 | .seg l _ _,.seg m _ _=>Ad (l.a*m.b) (l.b*m.a)&&Ad (l.a*m.c) (l.c*m.a)&&Ad (l.b*m.c) (l.c*m.b)
 | .arc k _ _ _,.arc d _ _ _=>Ad k.x d.x&&Ad k.y d.y&&Ad k.q d.q
 |_,_=>false
def fV (a1 b1 a2 b2 c:Rat):Pt:=if je c then⟨a1+b1*rt c,0,a2+b2*rt c,0,0⟩ else⟨a1,b1,a2,b2,c⟩
def fi (l:Ln):Rat:=l.a*l.a+l.b*l.b
def nL (l:Ln) (x y:Rat):Rat:=l.a*x+l.b*y-l.c
def mq (l:Ln) (k:Ci):Rat:=fi l*k.q-nL l k.x k.y*nL l k.x k.y
def nF (l:Ln) (k:Ci):Rat:=k.x-nL l k.x k.y/fi l*l.a
def nC (l:Ln) (k:Ci):Rat:=k.y-nL l k.x k.y/fi l*l.b
def MT (l:Ln) (k:Ci):Pt:=fV (nF l k) (-(l.b/fi l)) (nC l k) (-(-l.a/fi l)) (mq l k)
def Ll (l:Ln) (k:Ci):Pt:=fV (nF l k) (l.b/fi l) (nC l k) (-l.a/fi l) (mq l k)
def jd (l:Ln) (k:Ci):List Pt:=
 if aM (mq l k) 0<0 then[] else if aM (mq l k) 0=0 then[⟨nF l k,0,nC l k,0,0⟩]
 else if cP (MT l k) (Ll l k)>0 then[Ll l k,MT l k] else[MT l k,Ll l k]
def pT (k d:Ci):Bool:=Ad k.x d.x&&Ad k.y d.y
def CC (k:Ci):Rat:=k.x*k.x+k.y*k.y-k.q
def mQ (k d:Ci):Ln:=⟨2*(d.x-k.x),2*(d.y-k.y),CC d-CC k⟩
def bG (k d:Ci):List Pt:=if pT k d then[] else jd (mQ k d) k
def CI (k d:Ci):Int:=if pT k d then(if aM k.q d.q=0 then 10 else 0) else 0
theorem mY (c:Cv):((aC c).drop 26).take 20=aj c.p:=by cases c<;>rfl
theorem uC (c:Cv):((aC c).drop 46).take 20=aj c.q:=by cases c<;>rfl
theorem vh (hz:zs.length=m) (hx:xs.length=m):xx (fun i=>some (i*m,m)) (List.replicate 1 zs).flatten [(0,.a xs)]=some xs:=by
 subst hz
 simp[xx,D0.cells,hx]
theorem d7 (hx:xs.length=m):xs.length=1*m:=by omega
def Cv.setp:Cv→Pt→Cv
 | .seg l _ q,p=>.seg l p q
 | .arc k w _ q,p=>.arc k w p q
theorem wT (c:Cv) (p:Pt):(aC c).take 26++aj p++(aC c).drop 46=aC (c.setp p):=by cases c<;>rfl
theorem Ao (c:Cv) (p q:Pt):(aC (c.setp p)).take 46++aj q++(aC (c.setp p)).drop 66=aC (c.ends p q):=by cases c<;>rfl
structure GP (p:Pt):Prop where
 a1:Rz 113 p.a1
 b1:Rz 21 p.b1
 a2:Rz 113 p.a2
 b2:Rz 21 p.b2
 c:Rz 78 p.c
 ir:p.c≠0→Rz 52 p.a1∧Rz 52 p.a2
 v:uU p.b1 p.b2 p.c=true
structure GB (p:Pt):Prop where
 a1:Rz 40000 p.a1
 b1:Rz 40000 p.b1
 a2:Rz 40000 p.a2
 b2:Rz 40000 p.b2
 c:Rz 40000 p.c
 v:uU p.b1 p.b2 p.c=true
theorem GP.gb {p:Pt}(h:GP p):GB p:=⟨h.a1.mono (by decide),h.b1.mono (by decide),h.a2.mono (by decide),h.b2.mono (by decide),h.c.mono (by decide),h.v⟩
structure GL (l:Ln):Prop where
 a:Rz 4 l.a
 b:Rz 4 l.b
 c:Rz 17 l.c
 n:fi l≠0
structure GK (k:Ci):Prop where
 x:Rz 1 k.x
 y:Rz 1 k.y
 q:Rz 2 k.q
def Cv.good:Cv→Prop
 | .seg l p q=>GL l∧GP p∧GP q
 | .arc k _ p q=>GK k∧GP p∧GP q
theorem S7 (h:uU b1 b2 c=true):uU (-b1) b2 c=true:=by
 unfold uU at*
 by_cases h1:b1=0
 ·grind
 grind
theorem GP.flip {p:Pt}(h:GP p):GP p.flip:=⟨h.a1.neg,h.b1.neg,h.a2,h.b2,h.c,fun e=>⟨(h.ir e).1.neg,(h.ir e).2⟩,S7 h.v⟩
theorem GK.mir {k:Ci}(h:GK k):GK k.mir:=⟨h.x.neg,h.y,h.q⟩
theorem GP.rat {v w:Rat}(h:Rz 113 v) (g:Rz 113 w):GP ⟨v,0,w,0,0⟩:=⟨h,dJ (by decide),g,dJ (by decide),dJ (by decide),fun e=>absurd rfl e,by unfold uU;rw[if_pos ⟨rfl,rfl⟩];exact decide_eq_true rfl⟩
theorem GP.dPt:GP dPt:=GP.rat (dJ (by decide)) (dJ (by decide))
theorem GP.getD {l:List Pt}(h: ∀p∈l,GP p) (j:Nat):GP (l.getD j Go.Proofs.YtegpmhlfjkhjmaaGreat.dPt):=by
 by_cases hj:j<l.length
 ·exact h _ (bd hj)
 ·rw[List.getD,tP (by omega)];exact GP.dPt
section
variable {c:Cv}{x:Pt}
theorem GS: ∀ {l:List Pt}{k:Nat},k≤l.length→(∀j,j<k→c.ord (l.getD j dPt) x<0)→(k=l.length∨ ¬c.ord (l.getD k dPt) x<0)→pp c x l=k
 |[],k,h,_,_=>by
  have:k=0:=by simpa using h
  subst this;rfl
 |o::l,k,h,h1,h2=>by
  show(if c.ord o x<0 then pp c x l+1 else 0)=k
  match k with
  |0=>
   rcases h2 with h2|h2
   ·simp at h2
   ·exact if_neg (show ¬c.ord o x<0 from h2)
  |k+1=>
   rw[if_pos (show c.ord o x<0 from h1 0 (by omega)),GS (l:=l) (k:=k) (by simpa using h) (fun j hj=>h1 (j+1) (by omega)) (h2.imp (fun e=>by simpa using e) id)]
theorem ti {out:List Pt}{y:Pt}(h:y∈gz c out x):y∈out∨y=x:=by
 unfold gz at h
 split at h
 ·grind
 grind
theorem R9 {out:List Pt}:out.length≤(gz c out x).length∧(gz c out x).length≤out.length+1:=by
 unfold gz
 split
 ·omega
 grind
end
theorem I5 {c:Cv}: ∀(l out:List Pt) {y:Pt},y∈l.foldl (gz c) out→y∈out∨y∈l
 |[],out,y,h=>.inl h
 |x::l,out,y,h=>by
  rcases I5 l (gz c out x) h with h|h
  ·exact(ti h).imp id fun e=>by rw[e];exact fO
  ·exact .inr (fC _ h)
theorem mI {c:Cv}{l:List Pt}{y:Pt}(h:y∈cz c l):y∈l:=(I5 l [] h).elim (fun e=>by cases e) id
theorem Dv {c:Cv}: ∀(l out:List Pt),out.length≤(l.foldl (gz c) out).length∧(l.foldl (gz c) out).length≤out.length+l.length
 |[],out=>⟨Nat.le_refl _,cg _⟩
 |x::l,out=>by
  have h1:=R9 (c:=c) (x:=x) (out:=out)
  have h2:=Dv (c:=c) l (gz c out x)
  show out.length≤(l.foldl (gz c) (gz c out x)).length∧(l.foldl (gz c) (gz c out x)).length≤out.length+(l.length+1)
  omega
theorem Ai {c:Cv}{l:List Pt}:(cz c l).length≤l.length:=by
 have:=(Dv (c:=c) l []).2
 rw[List.length_nil,gV] at this
 exact this
theorem s7 {c:Cv}{l:List Pt}(h:i<l.length):cz c (l.take (i+1))=gz c (cz c (l.take i)) (l.getD i dPt):=by
 unfold cz
 rw[qj (d:=dPt) h,List.foldl_append];rfl
theorem NH {c:Cv}{l:List Pt}(h:l.length≤i):cz c (l.take i)=cz c l:=by rw[jm h]
theorem TW {c:Cv}{out:List Pt}{x:Pt}(hs:pp c x out=k) (h:k<out.length) (he:cP (out.getD k dPt) x=0):gz c out x=out:=by
 unfold gz;rw[hs,if_pos ⟨h,he⟩]
theorem zp {c:Cv}{out:List Pt}{x:Pt}(hs:pp c x out=k) (h: ¬(k<out.length∧cP (out.getD k dPt) x=0)):gz c out x=out.take k++x::out.drop k:=by
 unfold gz;rw[hs,if_neg h]
theorem yD {out:List Pt}{x:Pt}:ao aj (out.take k++x::out.drop k)=ao aj (out.take k)++aj x++ao aj (out.drop k):=by
 rw[dB]
 show _++(aj x++ao aj (out.drop k))=_
 grind
theorem mg {out:List Pt}{x:Pt}(h:k≤out.length):(out.take k++x::out.drop k).length=out.length+1:=by grind
theorem jg (c:Cv): ∀l:List Pt,(gI c l).length=l.length-1
 |[]=>rfl
 |[_]=>rfl
 |p::q::l=>by
  show(gI c (q::l)).length+1=l.length+1+1-1
  rw[jg c (q::l)]
  show l.length+1-1+1=_
  omega
theorem A9 (c:Cv): ∀ {l:List Pt}{i:Nat},i+1<l.length→gI c (l.take (i+2))=gI c (l.take (i+1))++[c.ends (l.getD i dPt) (l.getD (i+1) dPt)]
 |p::q::l,0,_=>rfl
 |p::q::l,i+1,h=>by
  show c.ends p q::gI c ((q::l).take (i+2))=c.ends p q::gI c ((q::l).take (i+1))++_
  rw[A9 c (l:=q::l) (i:=i) (by simpa using h)];rfl
 |[_],i,h=>by simp at h
 |[],i,h=>by simp at h
theorem N7 (c:Cv) {l:List Pt}:gI c (l.take 1)=[]:=by
 match l with
 |[]=>rfl
 |p::l=>rfl
theorem iT {c:Cv}(h:c.good):GP c.p:=by cases c<;>exact h.2.1
theorem sv {c:Cv}(h:c.good):GP c.q:=by cases c<;>exact h.2.2
theorem NR {c:Cv}(h:c.good) {p q:Pt}(hp:GP p) (hq:GP q):(c.ends p q).good:=by cases c<;>exact⟨h.1,hp,hq⟩
theorem Jq {c:Cv}(h:c.good):c.rev.good:=by cases c<;>exact⟨h.1,h.2.2,h.2.1⟩
end Go.Proofs.YtegpmhlfjkhjmaaGreat
