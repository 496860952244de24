/-Plain:intervals hold what they were made for;the program's signs and orders are those of the sums. -/
import Derived.Test.YtkmdgigkbhmilaaGreatBeJ
namespace Go.Proofs.YtkmdgigkbhmilaaGreat
open Go Go.RowKit
variable {Q:Exit→St→Prop}{hi lo u v:Int}{tm:List (Nat×DV)}{bx:List (Nat×TypeId×List CellD)}{cs pre r rest us xs ys zs:List CellD}{by_ i j k m n t:Nat}{x y:Operand}{A B B1 B2 C D M N a a1 a2 b b1 b2 c d f p1 p2 q1 q2:Rat}{L X:Re}{U e:TypeId}
variable {ty:TypeId}{pos:String}{af:Array Edge}{g:Option (Nat×Bool)}
theorem dL:type_of% @Rz.zero:=@Rz.zero
theorem fi:type_of% @Rz.zc:=@Rz.zc
theorem n6:type_of% @Rat.intCast_sub:=@Rat.intCast_sub
theorem tQ:type_of% @Rat.intCast_neg:=@Rat.intCast_neg
def cH (x y:Re):Prop:=0≤aw (y-x)
theorem fb {x y z:Re}(h:cH x y) (g:cH y z):cH x z:=by
 unfold cH at*
 have e:z-x=(z-y)+(y-x):=aS fun k=>by simp only[ak,ao];grind
 rw[e];exact fR g h
theorem of_le {p:Rat}{q:Rat}(h:p≤q):cH (Re.of p) (Re.of q):=by
 unfold cH
 rw[uO,cj]
 unfold aR
 grind
theorem lh {x y:Re}(h: ∀k,x.s k=y.s k) (g:0≤aw x):0≤aw y:=by rw[←aS h];exact g
def tu (lo hi:Int) (x:Re):Prop:=cH (Re.of (lo:Rat)) (Re.of 65536*x)∧cH (Re.of 65536*x) (Re.of (hi:Rat))
theorem fH {x y u v:Re}(h:cH x y) (g:cH u v):cH (x+u) (y+v):=by
 exact lh (fun k=>by simp only[ak,ao];grind) (fR h g)
theorem Vk (y:Rat):((y.num.fdiv (y.den:Int):Int):Rat)≤y:=by
 have hd:=den_pos y
 have h1:=t5 y
 have hp:(0:Rat)<((y.den:Int):Rat):=ts.2 hd
 refine p8 hp ?_
 rw[h1,←eg]
 refine gm.2 ?_
 rw[pf _ (by omega),tx]
 have:=q6 y.num (y.den:Int)
 have:=oO y.num (show(y.den:Int)≠0 by omega)
 omega
theorem G3 (a:Rat):tu (jI a) (jo a) (Re.of a):=by
 have h1:=Vk (a*((65536:Int):Rat))
 have h2:=Vk (-(a*((65536:Int):Rat)))
 refine⟨?_,?_⟩
 ·rw[fK]
  refine of_le ?_
  unfold jI
  grind
 ·rw[fK]
  refine of_le ?_
  unfold jo
  grind
theorem CZ (h:iV a=true):tu (gL a) (gH a) (Re.of a):=by
 unfold gL gH;rw[h,if_pos rfl,if_pos rfl];exact G3 a
theorem pQ {p q:Re}(_hp:0≤aw p) (hq:0≤aw q) (h:0≤aw (q*q-p*p)):cH p q:=by
 unfold cH
 rcases aU (q-p) with a|a|a
 ·omega
 ·omega
 ·exfalso
  have h1:0<aw (p-q):=by
   have e:p-q= -(q-p):=aS fun k=>by simp only[ak,aD];grind
   rw[e,br,a];decide
  have h2:0<aw (p+q):=by
   have e:p+q=(p-q)+(q+q):=aS fun k=>by simp only[ak,ao];grind
   rw[e];exact uY h1 (fR hq hq)
  have h3:aw ((q-p)*(p+q))=aw (q*q-p*p):=congrArg aw (aS fun k=>by simp only[ak,ao,am];grind)
  rw[aQ,a] at h3
  omega
theorem vN {n:Int}(h:0≤n):0≤aw (Re.of (n:Rat)):=by
 have:=of_le (Rat.intCast_nonneg.2 h)
 refine lh (fun k=>?_) this
 simp only[ak,aE];grind
theorem gK {p:Rat}{q:Rat}(h:cH (Re.of p) (Re.of q)):p≤q:=by
 unfold cH at h
 rw[uO,cj] at h
 unfold aR at h
 grind
theorem LG (m:Rat):0≤aw (Re.of 65536*Re.rt m):=by
 have h1:=u5 m
 have h2:aw (Re.of 65536)=1:=by rw[cj];decide+kernel
 rw[aQ,h2];omega
theorem KA {m:Rat}(h:0≤m) (q:Rat):aw (Re.of 65536*Re.rt m*(Re.of 65536*Re.rt m)-Re.of q)=aR (65536*65536*m) q:=by
 rw[←lI,←cj]
 refine dJ ?_
 have e:Re.of 65536*Re.rt m*(Re.of 65536*Re.rt m)-Re.of q-Re.of (65536*65536*m-q)=Re.of (65536*65536)*(Re.rt m*Re.rt m-Re.of m):=aS fun k=>by
  simp only[ak,am,aE];grind
 rw[e,aQ,ng h,mH]
theorem kH {x y:Rat}(h:y≤x):0≤aR x y:=by unfold aR;rw[if_neg (by grind)];split<;>omega
theorem By {x y:Rat}(h:x≤y):aR x y≤0:=by
 unfold aR
 split
 ·omega
 ·rw[if_neg (by grind)];omega
theorem Sa {m:Rat}(hm:0≤m) (h:tu lo hi (Re.of m)):tu (pz lo) (lH hi) (Re.rt m):=by
 obtain⟨h1,h2⟩:=h
 rw[fK] at h1 h2
 have g1:=gK h1
 have g2:=gK h2
 have hq:(0:Rat)≤65536*m:=by grind
 refine⟨?_,?_⟩
 ·refine pQ (vN (fv _)) (LG m) ?_
  rw[fK,KA hm]
  refine kH ?_
  have h3:=qN (x:=max lo 0*65536) (by omega)
  have h4:((bK (max lo 0*65536)*bK (max lo 0*65536):Int):Rat)≤((max lo 0*65536:Int):Rat):=gm.2 h3
  have h5:((max lo 0:Int):Rat)≤65536*m:=by
   by_cases hl:0≤lo
   ·grind
   ·rw[show max lo 0=0 from by omega];simpa using hq
  unfold pz
  grind
 ·refine pQ (LG m) (vN ?_) ?_
  ·unfold lH;have:=fv (hi*65536);split<;>omega
  have h3:0≤ -aw (Re.of 65536*Re.rt m*(Re.of 65536*Re.rt m)-Re.of (((lH hi:Int):Rat)*((lH hi:Int):Rat))):=by
   rw[KA hm]
   have hh:(0:Int)≤hi:=by
    have:(0:Rat)≤(hi:Rat):=by grind
    exact Rat.intCast_nonneg.1 this
   have h4:hi*65536≤lH hi*lH hi:=by
    unfold lH
    split
    ·rename_i hs
     unfold CV at hs
     grind
    ·have:=wg (x:=hi*65536) (by omega)
     omega
   have h5:((hi*65536:Int):Rat)≤((lH hi*lH hi:Int):Rat):=gm.2 h4
   have:=By (x:=65536*65536*m) (y:=((lH hi:Int):Rat)*((lH hi:Int):Rat)) (by grind)
   omega
  rw[←br] at h3
  refine lh (fun k=>?_) h3
  simp only[aD,ak,am,aE];grind
theorem Ji {k u v U:Re}(h1:0≤aw (k*u-L)) (h2:0≤aw (k*v-L)) (g1:cH u U) (g2:cH U v):0≤aw (k*U-L):=by
 unfold cH at*
 have e:(v-u)*(k*U-L)=(v-U)*(k*u-L)+(U-u)*(k*v-L):=aS fun j=>by simp only[ak,am,ao];grind
 have hr:0≤aw ((v-U)*(k*u-L)+(U-u)*(k*v-L)):=by
  refine fR ?_ ?_
  ·rw[aQ];exact f9 g2 h1
  ·rw[aQ];exact f9 g1 h2
 rw[←e,aQ] at hr
 have e2:aw (v-u)=aw ((v-U)+(U-u)):=congrArg aw (aS fun j=>by simp only[ak,ao];grind)
 rcases aU (v-u) with a|a|a
 ·grind
 ·rcases aU (U-u) with b|b|b
  ·have:=uY (x:=U-u) (y:=v-U) (by omega) g2
   rw[yr] at this
   omega
  ·have e3:k*U-L=(k*u-L)+k*(U-u):=aS fun j=>by simp only[ak,ao,am];grind
   rw[e3,dP _ (by rw[aQ,b,mH])]
   grind
  grind
 ·have:=fR g2 g1
  omega
theorem PB {x y u v U:Re}(h1:0≤aw (x*u-L)) (h2:0≤aw (x*v-L)) (h3:0≤aw (y*u-L)) (h4:0≤aw (y*v-L)) (g1:cH x X) (g2:cH X y) (g3:cH u U) (g4:cH U v):0≤aw (X*U-L):=by
 have a:=Ji h1 h2 g3 g4
 have b:=Ji h3 h4 g3 g4
 rw[sr x U] at a
 rw[sr y U] at b
 have:=Ji a b g1 g2
 rw[sr U X] at this
 grind
theorem UQ (a b:Int):mT a b*65536≤a*b∧a*b≤mS a b*65536:=by
 have e:a*b=if (!(decide (a<0)==decide (b<0)))=true then-NE a b else NE a b:=by
  unfold NE
  by_cases ha:a<0<;>by_cases hb:b<0
  ·grind
  ·grind
  ·grind
  grind
 rw[e]
 unfold mT mS
 generalize NE a b=p
 have hu:p≤Dd p*65536:=by unfold Dd;split<;>omega
 grind
theorem O2 {x y:Int}{U:Re}(h:tu x y X) (g:tu u v U):tu (BZ x y u v 4) (AL x y u v 4) (X*U):=by
 have lo: ∀a b:Int,BZ x y u v 4≤mT a b→0≤aw (Re.of (a:Rat)*Re.of (b:Rat)-Re.of ((BZ x y u v 4*65536:Int):Rat)):=by
  intro a b hl
  rw[fK]
  refine of_le ?_
  rw[←eg]
  exact gm.2 (by have:=(UQ a b).1;omega)
 have hi: ∀a b:Int,mS a b≤AL x y u v 4→0≤aw (-Re.of (a:Rat)*Re.of (b:Rat)-Re.of (-((AL x y u v 4*65536:Int):Rat))):=by
  intro a b hl
  rw[RI,fK]
  refine of_le ?_
  have h1:((a*b:Int):Rat)≤((AL x y u v 4*65536:Int):Rat):=gm.2 (by have:=(UQ a b).2;omega)
  grind
 have hlo:BZ x y u v 4=min (min (min (min 2305843009213693952 (mT x u)) (mT x v)) (mT y u)) (mT y v):=rfl
 have hhi:AL x y u v 4=max (max (max (max (-2305843009213693952) (mS x u)) (mS x v)) (mS y u)) (mS y v):=rfl
 have e65:((65536:Int):Rat)=65536:=rfl
 have p65:aw (Re.of 65536)=1:=by rw[cj];decide+kernel
 refine⟨?_,?_⟩
 ·have hb:=PB (lo x u (by omega)) (lo x v (by omega)) (lo y u (by omega)) (lo y v (by omega)) h.1 h.2 g.1 g.2
  have e:aw (Re.of 65536*(Re.of 65536*(X*U)-Re.of ((BZ x y u v 4:Int):Rat)))=aw (Re.of 65536*X*(Re.of 65536*U)-Re.of ((BZ x y u v 4*65536:Int):Rat)):=congrArg aw (aS fun k=>by
   simp only[ak,am,aE,eg,e65];grind)
  rw[←e,aQ,p65,m8] at hb
  exact hb
 ·have n1:cH (-Re.of (y:Rat)) (-(Re.of 65536*X)):=lh (fun k=>by simp only[ak,aD];grind) h.2
  have n2:cH (-(Re.of 65536*X)) (-Re.of (x:Rat)):=lh (fun k=>by simp only[ak,aD];grind) h.1
  have hb:=PB (hi y u (by omega)) (hi y v (by omega)) (hi x u (by omega)) (hi x v (by omega)) n1 n2 g.1 g.2
  have e:aw (Re.of 65536*(Re.of ((AL x y u v 4:Int):Rat)-Re.of 65536*(X*U)))=aw (-(Re.of 65536*X)*(Re.of 65536*U)-Re.of (-((AL x y u v 4*65536:Int):Rat))):=congrArg aw (aS fun k=>by
   simp only[ak,am,aE,aD,eg,e65];grind)
  rw[←e,aQ,p65,m8] at hb
  exact hb
theorem Je {x y:Int}{U:Re}(h:tu x y X) (g:tu u v U) (hk:yC x y u v 4=true):tu (pL x y u v) (pH x y u v) (X*U):=by
 unfold pL pH;rw[hk,if_pos rfl,if_pos rfl];exact O2 h g
theorem RH {x y:Int}{U:Re}(h:tu x y X) (g:tu u v U):tu (x+u) (y+v) (X+U):=by
 have a:=fH h.1 g.1
 have b:=fH h.2 g.2
 refine⟨lh (fun k=>?_) a,lh (fun k=>?_) b⟩
 ·simp only[ak,ao,am,aE,i5];grind
 ·simp only[ak,ao,am,aE,i5];grind
theorem G5 {x y:Int}{U:Re}(h:tu x y X) (g:tu u v U) (hk:uH (x+u) (y+v)=true):tu (aL x y u v) (aH x y u v) (X+U):=by
 unfold aL aH;rw[hk,if_pos rfl,if_pos rfl];exact RH h g
theorem Un (X:Re):aw (Re.of 65536*X)=aw X:=by
 have p65:aw (Re.of 65536)=1:=by rw[cj];decide+kernel
 rw[aQ,p65,m8]
theorem BB {n:Int}(h:0<n):0<aw (Re.of (n:Rat)):=by
 rw[cj]
 have h1:(0:Rat)<(n:Rat):=ts.2 h
 unfold aR
 grind
theorem VM (h:tu lo hi X) (hl:0<lo):aw X=1:=by
 have h1:=uY (BB hl) h.1
 have e:aw (Re.of (lo:Rat)+(Re.of 65536*X-Re.of (lo:Rat)))=aw (Re.of 65536*X):=congrArg aw (aS fun k=>by simp only[ak,ao];grind)
 rw[e,Un] at h1
 have:=aU X
 omega
theorem V3 (h:tu lo hi X) (hl:hi<0):aw X= -1:=by
 have h0:0<aw (-Re.of (hi:Rat)):=by
  rw[RI,←tQ];exact BB (by omega)
 have h1:=uY h0 h.2
 have e:aw (-Re.of (hi:Rat)+(Re.of (hi:Rat)-Re.of 65536*X))=aw (-(Re.of 65536*X)):=congrArg aw (aS fun k=>by simp only[ak,ao,aD];grind)
 rw[e,br,Un] at h1
 have:=aU X
 omega
theorem T1 (h:tu 0 0 X):aw X=0:=by
 have h1:=h.1
 have h2:=h.2
 unfold cH at h1 h2
 have e1:aw (Re.of 65536*X-Re.of ((0:Int):Rat))=aw (Re.of 65536*X):=congrArg aw (aS fun k=>by simp only[ak,aE];grind)
 have e2:aw (Re.of ((0:Int):Rat)-Re.of 65536*X)=aw (-(Re.of 65536*X)):=congrArg aw (aS fun k=>by simp only[ak,aE,aD];grind)
 rw[e1,Un] at h1
 rw[e2,br,Un] at h2
 omega
theorem Fa (h:tu lo hi X) (hs:I3 lo hi=true):J4 lo hi=aw X:=by
 unfold I3 at hs
 simp only[sC,decide_eq_true_eq,dT,beq_iff_eq] at hs
 unfold J4
 by_cases h1:lo>0
 ·rw[if_pos h1,VM h h1]
 ·rw[if_neg h1]
  by_cases h2:hi<0
  ·rw[if_pos h2,V3 h h2]
  ·rw[if_neg h2]
   rcases hs with hs|hs|⟨hs,hs'⟩
   ·omega
   ·omega
   ·subst hs hs'
    exact(T1 h).symm
theorem Tf (hM:0≤M) (hN:0≤N) (h:Se A B C D M N=true):VN A B C D M N=aw (mn A B C D M N):=by
 unfold Se at h
 rw[dT] at h
 obtain⟨h3,hs⟩:=h
 rw[(JL h3).1]
 unfold LF Wl Ys at h3
 simp only[dT] at h3
 obtain⟨⟨⟨k1,k2⟩,k3,k4,k5,k6,k7,k8,k9⟩,k10,k11,k12,k13⟩:=h3
 have im:=Sa hM (CZ k1)
 have in_:=Sa hN (CZ k2)
 have ib:tu (UZ B M) (V4 B M) _:=Je (CZ k3) im k4
 have ic:tu (UZ C N) (V4 C N) _:=Je (CZ k5) in_ k6
 have imn:tu (UN M N) (SE M N) _:=Je im in_ k8
 have id':tu (qdL D M N) (qdH D M N) _:=Je (CZ k7) imn k9
 have iab:tu (TA A B M) (Uq A B M) _:=G5 (CZ k10) ib k11
 have icd:tu (TM C D M N) (Ug C D M N) _:=G5 ic id' k12
 have is':tu (Zd A B C D M N) (qsH A B C D M N) _:=G5 iab icd k13
 rw[Fa is' hs]
 refine congrArg aw (aS fun k=>?_)
 unfold mn aA
 simp only[ao,am,aE];grind
theorem UF (hM:0≤M) (hN:0≤N):Cx A B C D M N=aw (mn A B C D M N):=by
 unfold Cx
 rw[if_neg (by rintro(h|h)<;>grind)]
 split
 ·rename_i h;exact Tf hM hN h
 ·exact It hM hN
theorem HZ (h:eK a b c=true):tu (ek a b c) (ei a b c) (aA a b c):=by
 have h0:=h
 unfold eK at h
 rw[dT] at h
 obtain⟨h1,h2⟩:=h
 cases hb:(aR b 0==0) with
 |true=>
  obtain⟨e1,e2,_⟩:=Zk (c:=c) h1 hb
  have hb0:b=0:=t8 hb
  have:=G3 a
  have e:aA a 0 c=Re.of a:=aS fun k=>by unfold aA;simp only[ao,am,aE];grind
  grind
 |false=>
  rw[hb,Bool.false_or] at h2
  unfold Uo at h2
  simp only[dT,sJ] at h2
  obtain⟨g1,g2,g3,g4,g5⟩:=h2
  have hc:0≤c:=Rat.not_lt.1 (Dx g3)
  have ir:=Sa hc (G3 c)
  have im:=O2 (G3 b) ir
  have:=RH (G3 a) im
  unfold ek ei
  rw[h0,if_pos rfl,if_pos rfl,hb,if_neg (by decide),if_neg (by decide)]
  exact this
theorem T9 {e:Rat}(h:H5 (eK a b c) (eK d e f) (ek a b c) (ei a b c) (ek d e f) (ei d e f)=true):
 Jf (eK a b c) (eK d e f) (ek a b c) (ei a b c) (ek d e f) (ei d e f)=aw (aA a b c-aA d e f):=by
 unfold H5 at h
 simp only[dT,sC,decide_eq_true_eq] at h
 obtain⟨⟨k1,k2⟩,hs⟩:=h
 have i1:=HZ k1
 have i2:=HZ k2
 have i3:tu (ek a b c-ei d e f) (ei a b c-ek d e f) (aA a b c-aA d e f):=by
  have n:=fH i1.1 (lh (y:= -(Re.of 65536*aA d e f)- -Re.of ((ei d e f:Int):Rat)) (fun k=>by simp only[ak,aD];grind) i2.2)
  have m:=fH i1.2 (lh (y:= -Re.of ((ek d e f:Int):Rat)- -(Re.of 65536*aA d e f)) (fun k=>by simp only[ak,aD];grind) i2.1)
  refine⟨lh (fun k=>?_) n,lh (fun k=>?_) m⟩
  ·simp only[ak,ao,am,aE,aD,n6];grind
  ·simp only[ak,ao,am,aE,aD,n6];grind
 unfold Jf
 rw[k1,k2,Bool.and_self,if_pos rfl]
 by_cases h1:ei a b c<ek d e f
 ·rw[if_pos (decide_eq_true h1),V3 i3 (by omega)]
 ·rw[if_neg (by simpa using h1)]
  rcases hs with hs|hs
  ·omega
  ·rw[if_pos (decide_eq_true hs),VM i3 (by omega)]
theorem KT {e:Rat}(hc:0≤c) (hf:0≤f):ss a b c d e f=aw (aA a b c-aA d e f):=by
 unfold ss
 split
 ·rename_i h
  have hb:b=0:=t8 h.1
  have he:e=0:=t8 h.2
  rw[←lI,←cj]
  refine congrArg aw (aS fun k=>?_)
  unfold aA;simp only[ak,ao,am,aE];grind
 ·split
  ·rename_i h;exact T9 h
  ·split
   ·rename_i h
    have e1:c=f:=pT.1 (by simpa using h)
    rw[fZ hc]
    refine congrArg aw (aS fun k=>?_)
    unfold aA;simp only[ak,ao,am,aE];grind
   ·rw[UF hc hf]
    refine congrArg aw (aS fun k=>?_)
    unfold mn aA;simp only[ak,ao,am,aE];grind
theorem wL {r:Rat}(ha1:Rz 2000000 a1) (hb1:Rz 160000 b1) (ha2:Rz 2000000 a2) (hb2:Rz 160000 b2) (hc:Rz 160000 c) (hp1:Rz 2000000 p1) (hq1:Rz 160000 q1) (hp2:Rz 2000000 p2) (hq2:Rz 160000 q2) (hr:Rz 160000 r) (s1:Rz 160000 (a1-p1)) (s2:Rz 160000 (a2-p2)):Ok Tryz.prog 92 [.a ((cR a1++cR b1++cR a2++cR b2++cR c)),.a ((cR p1++cR q1++cR p2++cR q2++cR r))] [.c (.i .i64 (Al a1 b1 a2 b2 c p1 q1 p2 q2 r))]:=by
 have kb1:Rz 160000 (zc b1 c):=fi hc (by decide)
 have kb2:Rz 160000 (zc b2 c):=fi hc (by decide)
 have kq1:Rz 160000 (zc q1 r):=fi hr (by decide)
 have kq2:Rz 160000 (zc q2 r):=fi hr (by decide)
 refine bU Tryz.func92 rfl ?_
 refine cU 6 [] ?_
 refine aO rfl (mq) ?_
 refine aO rfl (mq) ?_
 refine aO rfl (BE (by assumption) (by assumption) (by assumption) (by assumption) (by assumption) (by assumption) (by assumption)) ?_
 refine dr rfl (fun hc1=>?_) (fun hc1=>?_)
 ·refine ai ?_
  rw[Ud hc1]
  exact al ae
 ·refine cU 6 [] ?_
  refine aO rfl (rd) ?_
  refine aO rfl (rd) ?_
  refine aO rfl (BE (by assumption) (by assumption) (by assumption) (by assumption) (by assumption) (by assumption) (by assumption))<|ai ?_
  rw[Uw hc1]
  exact al ae
theorem HB {r:Rat}(ha1:Rz 2000000 a1) (hb1:Rz 160000 b1) (ha2:Rz 2000000 a2) (hb2:Rz 160000 b2) (hc:Rz 160000 c) (hp1:Rz 2000000 p1) (hq1:Rz 160000 q1) (hp2:Rz 2000000 p2) (hq2:Rz 160000 q2) (hr:Rz 160000 r) (s1:Rz 160000 (a1-p1)) (s2:Rz 160000 (a2-p2)):Ok Tryz.prog 86 [.a ((cR a1++cR b1++cR a2++cR b2++cR c)),.a ((cR p1++cR q1++cR p2++cR q2++cR r))] [.c (.b (Al a1 b1 a2 b2 c p1 q1 p2 q2 r==0))]:=by
 refine bU Tryz.func86 rfl ?_
 refine ac rfl (wL (by assumption) (by assumption) (by assumption) (by assumption) (by assumption) (by assumption) (by assumption) (by assumption) (by assumption) (by assumption) (by assumption) (by assumption)) ?_
 exact ai (al ae)
theorem xQ {x:Int}(h:0<x):0<bK x:=by
 have h1:=wg (x:=x) (by omega)
 have h2:=fv x
 by_cases e:bK x=0
 ·rw[e] at h1;omega
 ·omega
theorem Rz.rt (h:Rz k c):Rz k (rt c):=Rz.of h.n.isq h.d.isq (by have:=xQ (den_pos c);omega)
theorem CB (h:jp c=true):cQ (if jp c then bK c.num else 0) (if jp c then bK (c.den:Int) else 0)=cR (rt c):=by
 have:=So h
 unfold dQ dR at this
 injection this
def zR:List CellD:=[.b false,.s 0 [],.b false,.s 0 [],.b false,.s 0 [],.b false,.s 0 [],.b false,.s 0 [],.b false,.s 0 []]
theorem Jb (ha:Rz 1000000 a) (hb:Rz 1000000 b) (hc:Rz 1000000 c) (h0: ¬c<0) (hs:jp c=true):Ok Tryz.prog 64 [dR a,dR b,dR c] [.a ((cR (a+b*rt c)++cR 0++cR 0)),.c (.i .i64 0)]:=by
 have ka:Rz 6000000 a:=ha.m_
 have kb:Rz 6000000 b:=hb.m_
 have kc:Rz 6000000 c:=hc.m_
 have kt:Rz 1000000 (rt c):=hc.rt
 refine bU Tryz.func64 rfl<|ac rfl (ce) ?_
 refine dr rfl (fun hc1=>?_) (fun hc1=>?_)
 ·exact absurd (Iy hc1) h0
 ·refine ac rfl (rK (aW hc)) ?_
  refine DW.mk<|aX rfl (fun hc2=>?_) (fun hc2=>?_)
  ·refine qu (σ':=⟨30,[(3,.p 3 0),(4,.p 4 0),(6,.p 6 0),(8,.p 8 0)],[(3,35,cR a),(4,35,cR b),(6,49,zR),(8,35,cR (rt c))]⟩) (aB ⟨rfl,rfl,rfl,rfl,trivial⟩ ⟨rfl,rfl,rfl,by rw[←CB hs];rfl,trivial⟩ rfl)<|nF ?_
   refine cU 6 [] ?_
   refine aO rfl (cb (aW hb) (zaR)) ?_
   refine aO rfl (ci (aW ha) (aW (aF hb (by assumption)))) ?_
   refine aO rfl (kZ) ?_
   exact ai (a8 ez rfl (al ae))
  ·exact absurd hs (by rw[hc2];decide)
theorem J1 (ha:Rz 1000000 a) (hb:Rz 1000000 b) (hc:Rz 1000000 c) (h0: ¬c<0) (hs:jp c=false):Ok Tryz.prog 64 [dR a,dR b,dR c] [.a ((cR a++cR (rB b c)++cR (rC b c))),.c (.i .i64 0)]:=by
 have ka:Rz 6000000 a:=ha.m_
 have kb:Rz 6000000 b:=hb.m_
 have kc:Rz 6000000 c:=hc.m_
 have kt:Rz 1000000 (rt c):=hc.rt
 refine bU Tryz.func64 rfl<|ac rfl (ce) ?_
 refine dr rfl (fun hc1=>?_) (fun hc1=>?_)
 ·exact absurd (Iy hc1) h0
 ·refine ac rfl (rK (aW hc)) ?_
  refine dr rfl (fun hc2=>?_) (fun hc2=>?_)
  ·exact absurd hc2 (by rw[hs];decide)
  ·refine ac rfl (oY) ?_
   exact ai (a8 ez rfl (al ae))
theorem D1 {c1 c2:Rat}(hc1:Rz 300 c1) (hc2:Rz 300 c2) (hbad: ¬Qy b1 c1 b2 c2):Ok Tryz.prog 245 [.a ((cR a1++cR b1++cR c1)),.a ((cR a2++cR b2++cR c2))] [.a ((cR a1++cR b1++cR a2++cR b2++cR (Sd b1 b2 (cc b1 c1 c2)))),.c (.i .i64 0)]:=by
 refine fD Tryz.func245 39 [.cell 4 46,.tmp 5] rfl ?_
 refine aa ?_
 refine ah ?_
 refine aa ?_
 refine ah ?_
 refine aa ?_
 refine aa ?_
 refine ah ?_
 refine ac rfl (pW) ?_
 refine aX rfl (fun hc1=>?_) (fun hc1=>?_)
 ·refine ah ?_
  refine aa ?_
  refine bo ?_
  refine bR 1 ?_
  refine a7 (ji (cR a1) bt rfl) ?_
  refine bR 1 ?_
  refine a7 (ji (cR b1) bt rfl) ?_
  refine bR 1 ?_
  refine a7 (ji (cR a2) bt rfl) ?_
  refine bR 1 ?_
  refine a7 (ji (cR b2) bt rfl) ?_
  refine bR 1 ?_
  refine a7 (aC (us:=(cR a1++cR b1++cR a2++cR b2++cR c2)) Mr FF rfl rfl rfl) ?_
  refine a7 (dt rfl (se))<|fN<|bb ?_
  rw[HJ (t8 hc1)]
  exact ai (a8 bv rfl (al ae))
 ·refine aa ?_
  refine ah ?_
  refine ac rfl (pW) ?_
  refine kT (bp rfl) (fun c2 hb2=>?_)
  cases c2
  ·refine ba rfl<|aJ<|aa<|bo<|bR 1<|a7 (ji (cR a1) bt rfl)<|bR 1<|a7 (ji (cR b1) bt rfl)<|bR 1<|a7 (ji (cR a2) bt rfl)<|bR 1<|a7 (ji (cR b2) bt rfl)<|bR 1<|a7 (aC (us:=(cR a1++cR b1++cR a2++cR b2++cR c1)) Mr FF rfl rfl rfl) ?_
   refine a7 (dt rfl (se))<|fN<|bb ?_
   rw[xn (qa hc1)]
   exact ai (a8 bv rfl (al ae))
  ·refine ac rfl (Tw (by first|assumption|exact eE hc1 (by decide)) (by first|assumption|exact eE hc2 (by decide))) ?_
   refine aX rfl (fun hc3=>?_) (fun hc3=>?_)
   ·exact absurd ⟨qa hc1,Vb hb2,Vb hc3⟩ hbad
   ·refine aJ<|aa<|bo<|bR 1<|a7 (ji (cR a1) bt rfl)<|bR 1<|a7 (ji (cR b1) bt rfl)<|bR 1<|a7 (ji (cR a2) bt rfl)<|bR 1<|a7 (ji (cR b2) bt rfl)<|bR 1<|a7 (aC (us:=(cR a1++cR b1++cR a2++cR b2++cR c1)) Mr FF rfl rfl rfl) ?_
    refine a7 (dt rfl (se))<|fN<|bb ?_
    rw[xn (qa hc1)]
    exact ai (a8 bv rfl (al ae))
theorem qe {x:Rat}(h:(decide (-1000000000<x.num)&&(decide (x.num<1000000000)&&(decide ((x.den:Int)<1000000000)&&decide (1≤k))))=true):Rz k x:=by
 simp only[dT,decide_eq_true_eq] at h
 have h1:=mJ h.2.2.2
 have e:pw 1=1000000000:=by decide+kernel
 have hp:=den_pos x
 exact⟨⟨by omega,by omega⟩,⟨by omega,by omega⟩⟩
theorem Rb (h:Ax b1 b2 c=true):0≤c:=by
 unfold Ax at h
 split at h
 ·grind
 grind
theorem ii (h:0≤c):0≤zc b c:=by unfold zc;split<;>grind
def um (a b c:Rat):Re:=aA a b (zc b c)
theorem po {p:Rat}{q r:Rat}(hc:0≤c) (hr:0≤r):AC a b c p q r=aw (um a b c-um p q r):=kX (ii hc) (ii hr)
theorem Rg {p:Rat}{q r:Rat}(hc:0≤c) (hr:0≤r):ss a b (zc b c) p q (zc q r)=aw (um a b c-um p q r):=KT (ii hc) (ii hr)
section
variable {a1 b1 a2 b2 c p1 q1 p2 q2 r:Rat}
theorem Ix (hc:0≤c) (hr:0≤r):Al a1 b1 a2 b2 c p1 q1 p2 q2 r=nT a1 b1 a2 b2 c p1 q1 p2 q2 r:=by
 unfold Al nT
 rw[Rg hc hr,Rg hc hr,po hc hr,po hc hr]
theorem jy (x y:Re):aw (y-x)= -aw (x-y):=by
 rw[←br]
 exact congrArg aw (aS fun k=>by simp only[ak,aD];grind)
theorem lK (x:Re):aw (x-x)=0:=by
 have h:=jy x x
 omega
theorem Jl (hc:0≤c) (hr:0≤r):nT p1 q1 p2 q2 r a1 b1 a2 b2 c= -nT a1 b1 a2 b2 c p1 q1 p2 q2 r:=by
 unfold nT
 rw[po hc hr,po hc hr,po hr hc,po hr hc,jy (um a1 b1 c),jy (um a2 b2 c)]
 grind
theorem IP (hc:0≤c):nT a1 b1 a2 b2 c a1 b1 a2 b2 c=0:=by
 unfold nT
 rw[po hc hc,po hc hc,lK,lK];simp
end
theorem QV (n:Int):CV (n*n)=true:=by
 have h:bK (n*n)=(n.natAbs:Int):=by
  have e:(n.natAbs:Int)*(n.natAbs:Int)=n*n:=by grind
  refine Ar ?_ (by omega) (by omega) ?_
  ·grind
  grind
 unfold CV
 grind
theorem FM (x:Rat):jp (x*x)=true:=by
 have e:x*x=Rat.divInt (x.num*x.num) ((x.den:Int)*(x.den:Int)):=by
  conv=>lhs;rw[←Rat.num_divInt_den x]
  exact Rat.divInt_mul_divInt _ _
 have hd:=den_pos x
 have hg:Int.gcd (x.num*x.num) ((x.den:Int)*(x.den:Int))=1:=by
  have hr:Nat.Coprime x.num.natAbs x.den:=x.reduced
  show Nat.gcd (x.num*x.num).natAbs ((x.den:Int)*(x.den:Int)).natAbs=1
  rw[zl,zl,Int.natAbs_natCast]
  exact(hr.mul_left hr).mul_right (hr.mul_left hr)
 have hv:vQ (x.num*x.num) ((x.den:Int)*(x.den:Int))=true:=by
  unfold vQ
  rw[hg,decide_eq_true (uu hd hd)];rfl
 obtain⟨h1,h2⟩:=QS hv
 rw[←e] at h1 h2
 unfold jp
 rw[h1,h2,QV,QV];rfl
theorem Kq (hc:0≤c) (hv:b≠0→0<c∧jp c=false):s3 a b c=aw (aA a b c):=by
 rw[←fZ hc]
 unfold s3 bi pj
 by_cases hb:b=0
 ·have h0:aR b 0=0:=pT.2 hb
  rw[if_pos (.inr h0),h0,nu,if_pos (.inl rfl)]
 ·obtain⟨hp,hs⟩:=hv hb
  have h1:aR c 0=1:=by unfold aR;rw[if_neg (by grind),if_pos hp]
  have h2:aR b 0≠0:=fun e=>hb (pT.1 e)
  rw[h1,Int.mul_one]
  by_cases h3:aR a 0=aR b 0
  ·grind
  ·have n1: ¬(aR a 0=aR b 0∨aR b 0=0):=by omega
   have n2: ¬(aR b 0=0∨aR a 0=aR b 0):=by omega
   rw[if_neg n1,if_neg n2]
   by_cases h4:aR a 0=0
   ·grind
   ·rw[if_neg h4,if_neg h4]
    have hn:a*a≠b*b*c:=by
     intro e
     have e2:c=(a/b)*(a/b):=by grind
     rw[e2,FM] at hs
     grind
    have a1:=dK a 0
    have b1:=dK b 0
    by_cases h5:0<a*a-b*b*c
    ·have:aR (a*a) (b*b*c)=1:=by unfold aR;rw[if_neg (by grind),if_pos (by grind)]
     rw[if_pos h5,this,Int.mul_one]
    ·have:aR (a*a) (b*b*c)= -1:=by unfold aR;rw[if_pos (by grind)]
     rw[if_neg h5,this];omega
theorem nB (a b c:Rat):um a b c=Re.of a+Re.of b*Re.rt c:=by
 unfold um aA
 by_cases h:b=0
 ·subst h
  exact aS fun k=>by simp only[ao,am,aE];grind
 ·rw[iD h]
theorem LX (X Y:Re):0≤aw (X*X+Y*Y)∧(aw (X*X+Y*Y)=0↔aw X=0∧aw Y=0):=by
 have hx:0≤aw (X*X):=by rw[aQ];rcases aU X with h|h|h<;>rw[h]<;>decide
 have hy:0≤aw (Y*Y):=by rw[aQ];rcases aU Y with h|h|h<;>rw[h]<;>decide
 refine⟨fR hx hy,fun h=>?_,fun⟨h1,h2⟩=>?_⟩
 ·constructor
  ·apply gT
   intro hn
   have:0<aw (X*X):=by rw[aQ];rcases aU X with g|g|g<;>rw[g]<;>first|decide|omega
   have:=uY this hy
   omega
  ·apply gT
   intro hn
   have:0<aw (Y*Y):=by rw[aQ];rcases aU Y with g|g|g<;>rw[g]<;>first|decide|omega
   have:=uY this hx
   rw[yr] at this
   omega
 ·rw[dP _ (by rw[aQ,h2];rfl),aQ,h1];rfl
def L1 (x y b1 b2 c:Rat):Rat:=x*x+y*y+(b1*b1+b2*b2)*c
def M4 (x y b1 b2:Rat):Rat:=(x*b1+y*b2)+(x*b1+y*b2)
theorem Ph {x y:Rat}(hv:Ax b1 b2 c=true) (h:M4 x y b1 b2≠0):0<c∧jp c=false:=by
 have hb: ¬(b1=0∧b2=0):=by
  rintro⟨rfl,rfl⟩
  apply h;unfold M4;grind
 unfold Ax at hv
 grind
theorem Y5:a*a+b*b*cc b (zc b c) (zc b c)=a*a+b*b*c:=by
 by_cases h:b=0
 ·grind
 ·rw[xn h,iD h]
theorem Z0 (hc:b≠0→c≠0):rB (a*b+b*a) (cc b (zc b c) (zc b c))=a*b+a*b:=by
 unfold rB
 split
 ·rename_i h
  by_cases hb:b=0
  ·grind
  ·rw[xn hb,iD hb] at h
   rcases h with h|h
   ·grind
   grind
 grind
theorem Zf (hc:b≠0→c≠0):rC (a*b+b*a) (cc b (zc b c) (zc b c))=zc (a*b+a*b) c:=by
 have e:a*b+b*a=a*b+a*b:=by grind
 rw[e]
 unfold rC
 by_cases hb:b=0
 ·subst hb
  rw[if_pos (.inl (by grind)),u3 (by grind)]
 ·rw[xn hb,iD hb]
  by_cases h:a*b+a*b=0
  ·rw[if_pos (.inl h),u3 h]
  ·rw[if_neg (fun e=>e.elim h (hc hb)),iD h]
theorem Ws: ¬Qy B1 (zc B1 c) B2 (zc B2 c):=by
 rintro⟨h1,h2,h3⟩
 rw[iD h1,iD h2] at h3
 exact h3 rfl
theorem ab6 (hc:B1+B2≠0→c≠0):rB (B1+B2) (cc B1 (zc B1 c) (zc B2 c))=B1+B2:=by
 unfold rB
 split
 ·rename_i h
  by_cases hs:B1+B2=0
  ·grind
  ·exfalso
   rcases h with h|h
   ·grind
   ·by_cases h1:B1=0
    ·rw[HJ h1] at h
     have h2:B2≠0:=by grind
     rw[iD h2] at h
     grind
    ·rw[xn h1,iD h1] at h
     exact hc hs h
 ·rfl
theorem acw (hc:B1+B2≠0→c≠0):rC (B1+B2) (cc B1 (zc B1 c) (zc B2 c))=zc (B1+B2) c:=by
 unfold rC
 by_cases hs:B1+B2=0
 ·rw[if_pos (.inl hs),u3 hs]
 ·have e:cc B1 (zc B1 c) (zc B2 c)=c:=by
   by_cases h1:B1=0
   ·rw[HJ h1,iD (fun e=>hs (by grind))]
   ·rw[xn h1,iD h1]
  rw[e,if_neg (fun e=>e.elim hs (hc hs)),iD hs]
theorem wK (a v:Rat):a+ -v=a-v:=by grind
section
variable {P:Program}{f:FuncId}{ds rs:List D0}{x y z x' y' z':Rat}
theorem qI (h:Ok P f ds (.a (cR x++cR y++cR z)::rs)) (e1:x=x') (e2:y=y') (e3:z=z'):Ok P f ds (.a (cR x'++cR y'++cR z')::rs):=by subst e1 e2 e3;exact h
end
theorem aaR (x y b1 b2 c:Rat):(x*x+b1*b1*c)+(y*y+b2*b2*c)=L1 x y b1 b2 c:=by unfold L1;grind
theorem Px (x y b1 b2:Rat):(x*b1+x*b1)+(y*b2+y*b2)=M4 x y b1 b2:=by unfold M4;grind
theorem aa5 (h:Ax b1 b2 c=true):(b1≠0→c≠0)∧(b2≠0→c≠0):=by
 have key: ¬(b1=0∧b2=0)→c≠0:=by
  unfold Ax at h
  grind
 grind
section
variable {P:Program}{ops:Array Oper}{T:TF}{B:BF}{av:Nat→Prop}{w0:Ent}{w:World}{N:Nat}{β:Nat→Nat}{a:Act}
theorem Rel.ren (h:Rel av w0 N T B β a w) {d:Nat}(hdN:d<N) (hk:B k≠none) (hd:d=k∨B d=none):
 Rel av w0 N (nP k T) (fun l=>if l=d then B k else if l=k then none else B l) (fun l=>if l=d then β k else β l) a w:=by
 have hB: ∀l,(if l=d then B k else if l=k then none else B l)≠none→(l=d∨(l≠d∧l≠k∧B l≠none)):=by grind
 have hne: ∀l,B l≠none→l≠k→l≠d:=by grind
 have hV:(fun b=>av b∨ ∃l,(if l=d then B k else if l=k then none else B l)≠none∧(if l=d then β k else β l)=b)=(fun b=>av b∨ ∃l,B l≠none∧β l=b):=by grind
 have hT: ∀t x,nP k T t=some x→x=.n∨(T t=some x∧kg x≠some k):=by
  intro t x ht
  unfold nP at ht
  grind
 refine⟨h.dfr,h.siz,h.bel,h.avl,h.avE,h.big,fun b hb hK=>?_,?_,?_,?_,?_⟩
 ·have hKd:w0.K≠d:=by have:=h.big;omega
  rcases hB _ hK with e|⟨_,_,e⟩
  ·grind
  ·rw[if_neg hKd];exact h.fix b hb e
 ·intro l m hl hm e
  rcases hB l hl with e1|⟨e1,e2,e3⟩<;>rcases hB m hm with f1|⟨f1,f2,f3⟩
  ·grind
  ·rw[if_pos e1,if_neg f1] at e
   exact absurd (h.inj k m hk f3 e).symm f2
  ·rw[if_neg e1,if_pos f1] at e
   exact absurd (h.inj l k e3 hk e) e2
  ·rw[if_neg e1,if_neg f1] at e
   exact h.inj l m e3 f3 e
 ·intro l hl
  rcases hB l hl with e1|⟨e1,e2,e3⟩
  ·rw[if_pos e1];exact h.own k hk
  ·rw[if_neg e1];exact h.own l e3
 ·intro t x l ht hx
  rcases hT t x ht with rfl|⟨h1,h2⟩
  ·cases hx
  ·have h3:=h.wf t x l h1 hx
   grind
 ·rw[hV]
  refine⟨h.sees.av,?_,?_⟩
  ·intro l U cs hl
   have hl0:(if l=d then B k else if l=k then none else B l)=some (U,cs):=hl
   by_cases e:l=d
   ·rw[if_pos e] at hl0
    rw[if_pos e];exact h.sees.box k U cs hl0
   ·rw[if_neg e] at hl0
    rw[if_neg e]
    by_cases e2:l=k
    ·grind
    ·rw[if_neg e2] at hl0;exact h.sees.box l U cs hl0
  ·intro t x hL ht
   rcases hT t x ht with rfl|⟨h1,h2⟩
   ·unfold nP at ht
    split at ht
    ·rename_i y hy
     obtain⟨v,e,_⟩:=h.sees.tmp t y hL hy
     exact⟨v,e,trivial⟩
    grind
   ·obtain⟨v,e,hr⟩:=h.sees.tmp t x hL h1
    refine⟨v,e,?_⟩
    cases x with
    |p l off=>
     have h3:=h.wf t _ l h1 rfl
     have h4:l≠k:=fun e=>h2 (by rw[e];rfl)
     show v=.pointer (some ⟨if l=d then β k else β l,off,none⟩)
     rw[if_neg (hne l h3 h4)];exact hr
    |o l n c=>
     have h3:=h.wf t _ l h1 rfl
     have h4:l≠k:=fun e=>h2 (by rw[e];rfl)
     show v=.slice (some ⟨if l=d then β k else β l,0,none⟩) n c
     rw[if_neg (hne l h3 h4)];exact hr
    |w l off n c=>
     have h3:=h.wf t _ l h1 rfl
     have h4:l≠k:=fun e=>h2 (by rw[e];rfl)
     show v=.slice (some ⟨if l=d then β k else β l,off,none⟩) n c
     rw[if_neg (hne l h3 h4)];exact hr
    |v d=>exact hr
    |t ds=>exact hr
    |q us=>exact hr
    |u=>exact hr
    |n=>trivial
    |z=>exact hr
    |f n us=>exact hr
    |tn l n c ds=>
     have h3:=h.wf t _ l h1 rfl
     have h4:l≠k:=fun e=>h2 (by rw[e];rfl)
     obtain⟨xs,e,h⟩:=hr
     exact⟨xs,by show v=Value.tuple (Value.slice (some ⟨if l=d then β k else β l,0,none⟩) n c::xs).toArray;rw[if_neg (hne l h3 h4)];exact e,h⟩
theorem AP (a:Act) (d:Nat) (v v':Value):(a.put (some d) v).put (some d) v'=a.put (some d) v':=by simp[Act.put]
theorem Q5 {x:DV}:(⟨N,(t,x)::lN k tm,bx⟩:St).T=fun s=>if some t=some s then some x else nP k (fun s=>aM s tm) s:=by
 funext s
 show aM s ((t,x)::lN k tm)=_
 rw[bl,mp]
 by_cases e:t=s
 ·grind
 ·rw[if_neg e,if_neg (by simpa using e)];rfl
theorem Ps {x:TypeId×List CellD}:(⟨N,tm,(t,x)::kz k bx⟩:St).B=fun l=>if some t=some l then some x else if l=k then none else aM l bx:=by
 funext s
 show aM s ((t,x)::kz k bx)=(if some t=some s then some x else if s=k then none else aM s bx)
 rw[bl,kG]
 grind
theorem NO {z:Value}(hzl:zs.length=m) (hzr: ∀(V:Nat→Prop) (w:World),RdCs V w z.cells.toList zs) (r:Nat):
 ∃rest:List CellD,rest.length=r*m∧ ∀(V:Nat→Prop) (w:World),RdCs V w (Builtin.zeroCells z.cells r).toList rest:=by
 have hzs:z.cells.size=m:=by have:=(hzr (fun _=>False) default).1;rw[hzl] at this;simpa using this
 have key: ∀(r:Nat) (V:Nat→Prop) (w:World),RdCs V w ((List.range (r*m)).map (fun j=>z.cells[j%z.cells.size]!)) (List.replicate r zs).flatten:=by
  intro r V w
  induction r with
  |zero=>simp;exact tJ
  |succ r ih=>
   rw[Nat.succ_mul,List.range_add,List.map_append,List.replicate_succ',List.flatten_append]
   refine lP ih ?_
   have e2:(List.map (fun x=>r*m+x) (List.range m)).map (fun j=>z.cells[j%z.cells.size]!)=z.cells.toList:=by
    apply List.ext_getElem (by simp[hzs])
    intro j h1 h2
    simp at h1
    simp only[List.getElem_map,List.getElem_range,hzs]
    rw[Nat.mul_comm r,Nat.mul_add_mod,Nat.mod_eq_of_lt (by omega),getElem!_pos z.cells j (by omega)]
    simp
   grind
 refine⟨(List.replicate r zs).flatten,?_,fun V w=>?_⟩
 ·simp_all
 ·have:=key r V w
  unfold Builtin.zeroCells
  simpa [hzs] using this
variable {tm:List (Nat×DV)}{bx:List (Nat×TypeId×List CellD)}
theorem F1 {q:Nat}{c:Nat}
 (hU:ua P U=some (e,m,by_,zs)) (hx:dc (fun s=>aM s tm) x=some (.o k n c)) (hsc: ∀V β a w,Sees V (iZ ops ⟨some t,.call ⟨.builtin .append,#[x,y],#[U,U]⟩,ty,pos,af,g⟩) (fun s=>aM s tm) (fun l=>aM l bx) β a w→ ∃V',RdC V' w (a.eval y) (.s q ys)∧ ∀news,RdCs V' w news ys→RdCs V w news ys) (hb:aM k bx=some (e,cs)) (hcs:cs.length=c*m) (hys:ys.length=q*m) (hm:0<m)
 (hnc:n≤c) (hcm:c≤maxLen) (hbytes:(n+q)*by_≤140737488355328) (h63:n+q≤maxLen) (hpre:cs.take (n*m)=pre) (hd:t=k∨aM t bx=none)
 (hg:gd ops ⟨some t,.call ⟨.builtin .append,#[x,y],#[U,U]⟩,ty,pos,af,g⟩ (fun s=>aM s tm)=some true):
 IN P ops ⟨some t,.call ⟨.builtin .append,#[x,y],#[U,U]⟩,ty,pos,af,g⟩ ⟨N,tm,bx⟩ (fun σ'=> ∃c' rest,n+q≤c'∧c'≤maxLen∧rest.length=(c'-(n+q))*m∧σ'=⟨N,(t,.o t (n+q) c')::lN k tm,(t,e,pre++ys++rest)::kz k bx⟩):=by
 intro av w0 β a w hrel htn
 have hs:=Sees.of hrel.sees (L:=iZ ops ⟨some t,.call ⟨.builtin .append,#[x,y],#[U,U]⟩,ty,pos,af,g⟩) (fun _ _=>trivial) (fun _ _ _ h=>h) (fun _ _ h=>h)
 refine⟨fa hs hg,?_⟩
 have e1:a.eval x=.slice (some ⟨β k,0,none⟩) n c:=aK hs (x:=x) (by simp[Op.operands,Call.operands]) hx
 obtain⟨V',h2,hconv⟩:=hsc _ _ _ _ hs
 obtain⟨news,hsrc,hrn'⟩:=rf hU h2 hys
 have hrn:=hconv _ hrn'
 obtain⟨hu,i,z,hi,hz,hsz,hby,hzl,hzr⟩:=jh hU
 obtain⟨hvk,vs,ev,hr⟩:=hs.box k e cs hb
 subst hsz
 have hkn:(aM k bx)≠none:=by rw[hb];simp
 have hle:n*i.size≤cs.length:=by rw[hcs];exact tz _ hnc
 have hvl:vs.size=c*i.size:=by have:=hr.1;rw[hcs] at this;simpa using this
 have hr2:=hr.take (n*i.size)
 rw[hpre] at hr2
 have hlen:(vs.toList.take (n*i.size)).length=n*i.size:=by
  rw[fQ,Array.length_toList,hvl]
  exact fT (tz _ hnc)
 have ht:t<N:=htn t rfl
 have hnl:news.length=q*i.size:=hsrc.newsLen
 unfold Gives
 by_cases hroom:n+q≤c
 ·--in place
  have hfit:0+n*i.size+0+news.length≤vs.size:=by
   rw[hvl,hnl]
   have:=tz i.size hroom
   rw[tF] at this;omega
  have hst:=run_storeCells_at P (β k) (0+n*i.size) e news 0 vs w ev hfit hsrc.one
  simp only[ip,vi] at hst
  have hrun:(Builtin.append_ #[U,U] ty #[.slice (some ⟨β k,0,none⟩) n c,a.eval y]).run P w=.ok (.slice (some ⟨β k,0,none⟩) (n+q) c) (w.setRow (β k) (vs.toList.take (n*i.size)++news++vs.toList.drop (n*i.size+news.length)).toArray):=by
   rcases hsrc.kind with⟨e',hk⟩|hk<;>simp[Builtin.append_,run_underlying hu,sizeOf,typeInfo,hi,hsrc.len,hroom,hsrc.cells,Addr.add_lit,hst]
  have hexec:(execOp a.eval ⟨some t,.call ⟨.builtin .append,#[x,y],#[U,U]⟩,ty,pos,af,g⟩).run P w=.ok (.value (.slice (some ⟨β k,0,none⟩) (n+q) c)) (w.setRow (β k) (vs.toList.take (n*i.size)++news++vs.toList.drop (n*i.size+news.length)).toArray):=by
   simp only[execOp,resolve,invoke,builtin,fI,gG,fM,uh,pt,uR,e1]
   rw[hrun]
   rfl
  rw[hexec]
  have hrest:((cs.drop (n*i.size+news.length))).length=(c-(n+q))*i.size:=by
   rw[fP,hcs,hnl,←tF,←Nat.sub_mul]
  refine⟨⟨N,(t,.o t (n+q) c)::lN k tm,(t,e,pre++ys++cs.drop (n*i.size+news.length))::kz k bx⟩,fun l=>if l=t then β k else β l,⟨c,_,hroom,hcm,hrest,rfl⟩,rfl,?_⟩
  have hren:=hrel.ren (k:=k) (d:=t) (htn t rfl) hkn hd
  have hstore:=hren.store (k:=t) (U:=e) (cs0:=cs) (cs:=pre++ys++cs.drop (n*i.size+news.length)) (vs:=(vs.toList.take (n*i.size)++news++vs.toList.drop (n*i.size+news.length)).toArray)
   (w':=w.setRow (β k) (vs.toList.take (n*i.size)++news++vs.toList.drop (n*i.size+news.length)).toArray) (by rw[if_pos rfl];exact hb) (by rw[if_pos rfl];exact oI ev) rfl rfl rfl ?_
  ·have hval:=hstore.value (d:=some t) (x:=.o t (n+q) c) (v:=.slice (some ⟨β k,0,none⟩) (n+q) c) (by intro s hs;injection hs with hs;subst hs;exact ht) (fu _ _) (by show _=Value.slice (some ⟨if t=t then β k else β t,0,none⟩) _ _;rw[if_pos rfl]) (by intro l hl;injection hl with hl;subst hl;rw[if_pos rfl];simp)
   refine hval.congr (fun s=>?_) (fun l=>?_)
   ·rw[Q5];rfl
   ·rw[Ps]
    show(if some t=some l then _ else _)=(if t=l then _ else if l=t then _ else _)
    by_cases e:t=l
    ·rw[if_pos (by rw[e]),if_pos e]
    ·rw[if_neg (show ¬some t=some l by simpa using e),if_neg e,if_neg (Ne.symm e)];rfl
  ·have hrd:RdCs (fun b=>av b∨ ∃k,aM k bx≠none∧β k=b) w (vs.toList.take (n*i.size)++news++vs.toList.drop (n*i.size+news.length)) (pre++ys++cs.drop (n*i.size+news.length)):=(hr2.append hrn).append (hr.drop _)
   refine RdCs.keep (av:=fun b=>av b∨ ∃k,aM k bx≠none∧β k=b) ⟨Nat.le_refl _,fun _ _ _=>rfl,?_⟩ hrd
   rintro b _ (hb'|⟨l,hl,hb'⟩)
   ·exact .inl hb'
   ·try dsimp only at hl hb'
    by_cases e:l=t
    ·rw[if_pos e] at hb';exact .inr ⟨k,hkn,hb'⟩
    ·rw[if_neg e] at hl hb'
     by_cases e2:l=k
     ·rw[if_pos e2] at hl;exact absurd rfl hl
     ·rw[if_neg e2] at hl;exact .inr ⟨l,hl,hb'⟩
 ·--new memory
  have hgrow:c<n+q:=by omega
  have hold:(Builtin.firstCells i.size n (.slice (some ⟨β k,0,none⟩) n c)).run P w.drew=.ok (vs.toList.take (n*i.size)).toArray w.drew:=by
   have:=run_loadCells_list (P:=P) w.drew ⟨β k,0,none⟩ (vs.toList.take (n*i.size)) (fun j u hj=>by
    rw[lQ,ip]
    show w.cell? _=_
    rw[qA] at hj
    split at hj
    ·rw[dk ev,←hj];simp
    ·cases hj)
   rw[hlen] at this
   exact this
  have hrun:=run_append_grow_src (P:=P) (w:=w) U U ty e i z hu hi hz (some ⟨β k,0,none⟩) n c _ hold (a.eval y) q news hsrc hgrow (by have:maxLen=9223372036854775807:=rfl;omega) (growslice_fits hgrow (by rw[hby];exact hbytes))
  generalize hcap:grownCap w (n+q) c e=c' at hrun
  have hc1:n+q≤c':=by rw[←hcap];exact grownCap_ge _ _ _ _
  have hc2:c'≤maxLen:=by rw[←hcap];exact grownCap_le_maxLen _ _ _ _ h63
  have hexec:(execOp a.eval ⟨some t,.call ⟨.builtin .append,#[x,y],#[U,U]⟩,ty,pos,af,g⟩).run P w=.ok (.value (.slice (some ⟨w.heap.size,0,none⟩) (n+q) c'))
   (w.drew.alloc (.cells ((vs.toList.take (n*i.size)++news).toArray++Builtin.zeroCells z.cells (c'-(n+q))) e)):=by
   simp only[execOp,resolve,invoke,builtin,fI,gG,fM,uh,pt,uR,e1]
   rw[hrun]
   rfl
  rw[hexec]
  have hdr:=(hrel.drop k).drew
  obtain⟨rest,hrl,hrz⟩:=NO hzl hzr (c'-(n+q))
  have hrd:RdCs (fun b=>av b∨ ∃l,(if l=k then none else aM l bx)≠none∧β l=b) w.drew ((vs.toList.take (n*i.size)++news).toArray++Builtin.zeroCells z.cells (c'-(n+q))).toList (pre++ys++rest):=by
   have h0:RdCs (fun b=>av b∨ ∃k,aM k bx≠none∧β k=b) w (vs.toList.take (n*i.size)++news) (pre++ys):=hr2.append hrn
   have h1:=lP (RdCs.keep (av:=fun b=>av b∨ ∃k,aM k bx≠none∧β k=b) (w:=w) (av':=fun b=>av b∨ ∃l,(if l=k then none else aM l bx)≠none∧β l=b) (w':=w.drew) ⟨Nat.le_refl _,fun _ _ _=>rfl,fun b _ hb'=>hb'.imp id fun⟨l,hl,e⟩=>⟨l,fun h0=>by rw[h0] at hl;exact hl (by split<;>rfl),e⟩⟩ h0) (hrz (fun b=>av b∨ ∃l,(if l=k then none else aM l bx)≠none∧β l=b) w.drew)
   simpa using h1
  have hbox:=hdr.box (d:=t) ht (by
   show(if t=k then none else aM t bx)=none
   rcases hd with hd|hd
   ·rw[if_pos hd]
   ·rw[hd];split<;>rfl) (U:=e) (sl:=some c') hrd
  refine⟨⟨N,(t,.o t (n+q) c')::lN k tm,(t,e,pre++ys++rest)::kz k bx⟩,fun l=>if l=t then w.drew.heap.size else β l,⟨c',_,hc1,hc2,hrl,rfl⟩,rfl,?_⟩
  have hval:=hbox.value (d:=some t) (x:=.o t (n+q) c') (v:=.slice (some ⟨w.heap.size,0,none⟩) (n+q) c') (by intro s hs;injection hs with hs;subst hs;exact ht) (fu _ _) (by show _=Value.slice (some ⟨if t=t then w.drew.heap.size else β t,0,none⟩) _ _;rw[if_pos rfl];rfl) (by intro l hl;injection hl with hl;subst hl;rw[if_pos rfl];simp)
  rw[AP] at hval
  refine hval.congr (fun s=>?_) (fun l=>?_)
  ·rw[Q5]
   show(if some t=some s then _ else _)=(if some t=some s then _ else if some t=some s then _ else nP k _ s)
   by_cases e:some t=some s
   ·rw[if_pos e,if_pos e]
   ·rw[if_neg e,if_neg e,if_neg e];rfl
  ·rw[Ps];rfl
theorem As {q:Nat}{c:Nat}
 (hU:ua P U=some (e,m,by_,zs)) (hx:dc (fun s=>aM s tm) x=some (.o k n c)) (hy:dc (fun s=>aM s tm) y=some (.v (.c (.s q ys)))) (hb:aM k bx=some (e,cs)) (hcs:cs.length=c*m) (hys:ys.length=q*m) (hm:0<m)
 (hnc:n≤c) (hcm:c≤maxLen) (hbytes:(n+q)*by_≤140737488355328) (h63:n+q≤maxLen) (hpre:cs.take (n*m)=pre) (hd:t=k∨aM t bx=none)
 (hg:gd ops ⟨some t,.call ⟨.builtin .append,#[x,y],#[U,U]⟩,ty,pos,af,g⟩ (fun s=>aM s tm)=some true):
 IN P ops ⟨some t,.call ⟨.builtin .append,#[x,y],#[U,U]⟩,ty,pos,af,g⟩ ⟨N,tm,bx⟩ (fun σ'=> ∃c' rest,n+q≤c'∧c'≤maxLen∧rest.length=(c'-(n+q))*m∧σ'=⟨N,(t,.o t (n+q) c')::lN k tm,(t,e,pre++ys++rest)::kz k bx⟩):=by
 exact F1 hU hx (fun V β a w hs=>⟨V,aK hs (x:=y) (by simp[Op.operands,Call.operands]) hy,fun _ h=>h⟩) hb hcs hys hm hnc hcm hbytes h63 hpre hd hg
theorem EE {q:Nat}
 (hU:ua P U=some (e,m,by_,zs)) (hx:dc (fun s=>aM s tm) x=some .z) (hy:dc (fun s=>aM s tm) y=some (.v (.c (.s q ys)))) (hys:ys.length=q*m) (hq:0<q)
 (hbytes:q*by_≤140737488355328) (h63:q≤maxLen) (hd:aM t bx=none)
 (hg:gd ops ⟨some t,.call ⟨.builtin .append,#[x,y],#[U,U]⟩,ty,pos,af,g⟩ (fun s=>aM s tm)=some true):
 IN P ops ⟨some t,.call ⟨.builtin .append,#[x,y],#[U,U]⟩,ty,pos,af,g⟩ ⟨N,tm,bx⟩ (fun σ'=> ∃c' rest,q≤c'∧c'≤maxLen∧rest.length=(c'-q)*m∧σ'=⟨N,(t,.o t q c')::tm,(t,e,ys++rest)::bx⟩):=by
 intro av w0 β a w hrel htn
 have hs:=Sees.of hrel.sees (L:=iZ ops ⟨some t,.call ⟨.builtin .append,#[x,y],#[U,U]⟩,ty,pos,af,g⟩) (fun _ _=>trivial) (fun _ _ _ h=>h) (fun _ _ h=>h)
 refine⟨fa hs hg,?_⟩
 have e1:a.eval x=.slice none 0 0:=aK hs (x:=x) (by simp[Op.operands,Call.operands]) hx
 have h2:=aK hs (x:=y) (by simp[Op.operands,Call.operands]) hy
 obtain⟨news,hsrc,hrn⟩:=rf hU h2 hys
 obtain⟨hu,i,z,hi,hz,hsz,hby,hzl,hzr⟩:=jh hU
 subst hsz
 have ht:t<N:=htn t rfl
 unfold Gives
 have hold:(Builtin.firstCells i.size 0 (.slice none 0 0)).run P w.drew=.ok ([]:List Value).toArray w.drew:=rfl
 have hgrow:0<0+q:=by omega
 have hrun:=run_append_grow_src (P:=P) (w:=w) U U ty e i z hu hi hz none 0 0 _ hold (a.eval y) q news hsrc hgrow (by have:maxLen=9223372036854775807:=rfl;omega) (growslice_fits hgrow (by rw[hby,ip];exact hbytes))
 rw[ip] at hrun
 generalize hcap:grownCap w q 0 e=c' at hrun
 have hc1:q≤c':=by rw[←hcap];exact grownCap_ge _ _ _ _
 have hc2:c'≤maxLen:=by rw[←hcap];exact grownCap_le_maxLen _ _ _ _ h63
 have hexec:(execOp a.eval ⟨some t,.call ⟨.builtin .append,#[x,y],#[U,U]⟩,ty,pos,af,g⟩).run P w=.ok (.value (.slice (some ⟨w.heap.size,0,none⟩) q c'))
  (w.drew.alloc (.cells (([]++news).toArray++Builtin.zeroCells z.cells (c'-q)) e)):=by
  simp only[execOp,resolve,invoke,builtin,fI,gG,fM,uh,pt,uR,e1]
  rw[hrun]
  rfl
 rw[hexec]
 obtain⟨rest,hrl,hrz⟩:=NO hzl hzr (c'-q)
 have hrd:RdCs (fun b=>av b∨ ∃k,aM k bx≠none∧β k=b) w.drew (([]++news).toArray++Builtin.zeroCells z.cells (c'-q)).toList (ys++rest):=by
  have h1:RdCs (fun b=>av b∨ ∃k,aM k bx≠none∧β k=b) w.drew (news++(Builtin.zeroCells z.cells (c'-q)).toList) (ys++rest):=lP (RdCs.keep (Keep.below (fu _ w).drew) hrn) (hrz (fun b=>av b∨ ∃k,aM k bx≠none∧β k=b) w.drew)
  grind
 have hbox:=hrel.drew.box (d:=t) ht hd (U:=e) (sl:=some c') hrd
 refine⟨⟨N,(t,.o t q c')::tm,(t,e,ys++rest)::bx⟩,fun l=>if l=t then w.drew.heap.size else β l,⟨c',_,hc1,hc2,hrl,rfl⟩,rfl,?_⟩
 have hval:=hbox.value (d:=some t) (x:=.o t q c') (v:=.slice (some ⟨w.heap.size,0,none⟩) q c') (by intro s hs;injection hs with hs;subst hs;exact ht) (fu _ _) (by show _=Value.slice (some ⟨if t=t then w.drew.heap.size else β t,0,none⟩) _ _;rw[if_pos rfl];rfl) (by intro l hl;injection hl with hl;subst hl;rw[if_pos rfl];simp)
 rw[AP] at hval
 refine hval.congr (fun s=>?_) (fun l=>?_)
 ·show aM s ((t,DV.o t q c')::tm)=(if some t=some s then _ else if some t=some s then _ else aM s tm)
  rw[bl]
  grind
 ·show aM l ((t,e,ys++rest)::bx)=(if some t=some l then _ else aM l bx)
  rw[bl]
  grind
variable {os:List Oper}{K:St→Prop}
theorem vX {q:Nat}{c:Nat}
 (hU:ua P U=some (e,m,by_,zs)) (hx:dc (fun s=>aM s tm) x=some (.o k n c)) (hy:dc (fun s=>aM s tm) y=some (.v (.c (.s q ys)))) (hb:aM k bx=some (e,us++rest)) (hus:us.length=n*m) (hr:rest.length=(c-n)*m)
 (hys:ys.length=q*m) (hm:0<m) (hnc:n≤c) (hcm:c≤maxLen) (hbytes:(n+q)*by_≤140737488355328) (h63:n+q≤maxLen) (hd:t=k∨aM t bx=none)
 (hg:gd ops ⟨some t,.call ⟨.builtin .append,#[x,y],#[U,U]⟩,ty,pos,af,g⟩ (fun s=>aM s tm)=some true)
 (hk: ∀c' rest',n+q≤c'→c'≤maxLen→rest'.length=(c'-(n+q))*m→dl P ops os ⟨N,(t,.o t (n+q) c')::lN k tm,(t,e,us++ys++rest')::kz k bx⟩ K):
 dl P ops (⟨some t,.call ⟨.builtin .append,#[x,y],#[U,U]⟩,ty,pos,af,g⟩::os) ⟨N,tm,bx⟩ K:=
 .inr ⟨_,As (pre:=us) hU hx hy hb (by rw[fp,hus,hr,←tF];congr 1;omega) hys hm hnc hcm hbytes h63 (by rw[←hus];simp) hd hg,fun σ' ⟨c',rest',h1,h2,h3,e⟩=>by subst e;exact hk c' rest' h1 h2 h3⟩
theorem pK {q:Nat}
 (hU:ua P U=some (e,m,by_,zs)) (hx:dc (fun s=>aM s tm) x=some .z) (hy:dc (fun s=>aM s tm) y=some (.v (.c (.s q ys)))) (hys:ys.length=q*m) (hq:0<q)
 (hbytes:q*by_≤140737488355328) (h63:q≤maxLen) (hd:aM t bx=none)
 (hg:gd ops ⟨some t,.call ⟨.builtin .append,#[x,y],#[U,U]⟩,ty,pos,af,g⟩ (fun s=>aM s tm)=some true)
 (hk: ∀c' rest',q≤c'→c'≤maxLen→rest'.length=(c'-q)*m→dl P ops os ⟨N,(t,.o t q c')::tm,(t,e,ys++rest')::bx⟩ K):
 dl P ops (⟨some t,.call ⟨.builtin .append,#[x,y],#[U,U]⟩,ty,pos,af,g⟩::os) ⟨N,tm,bx⟩ K:=
 .inr ⟨_,EE hU hx hy hys hq hbytes h63 hd hg,fun σ' ⟨c',rest',h1,h2,h3,e⟩=>by subst e;exact hk c' rest' h1 h2 h3⟩
theorem gV {T:TF}{B:BF}{dst:Option Nat}
 (hg:gd ops ⟨dst,.assign (.const (.slice none 0 0)),ty,pos,af,g⟩ T=some true):Sem P ops ⟨dst,.assign (.const (.slice none 0 0)),ty,pos,af,g⟩ T B (.r .z):=
 bQ hg (fun k e=>by cases e) (fun V β a w hs=>⟨.slice none 0 0,rfl,rfl⟩)
theorem JQ {c:Code}(ht:aM t tm=some .z) (h:Dw P c ⟨N,(t,.v (.c (.s 0 [])))::tm,bx⟩ Q):Dw P c ⟨N,tm,bx⟩ Q:=fun av w0 β a w hr=>by
 obtain⟨v,hv,hx⟩:=hr.sees.tmp t _ trivial ht
 have hx:v=.slice none 0 0:=hx
 subst hx
 have h2:=hr.upd (t:=t) (x:=.v (.c (.s 0 []))) hv (.s0 _ _ (by decide)) rfl
 refine h av w0 β a w (h2.congr (fun s=>?_) (fun _=>rfl))
 show aM s ((t,.v (.c (.s 0 [])))::tm)=_
 rw[bl];rfl
theorem uX {ι:Type}{c:Code}{σ:St}(I:ι→St) (μ:ι→Nat) (M:Nat)
 (first:Dw P c σ (D3 (fun σ'=> ∃j,Sub σ' (I j)∧μ j<M) Q)) (round: ∀i,Dw P c (I i) (D3 (fun σ'=> ∃j,Sub σ' (I j)∧μ j<μ i) Q)):Dw P (.loop c) σ Q:=fun av w0 β a w hr=>by
 refine bF (ι:=Option ι) (fun i=>match i with|none=>σ|some i=>I i) (fun i=>match i with|none=>M|some i=>μ i) none ⟨rfl,fun _ _ h=>h,fun _ _ h=>h,hr.wf⟩ (fun i=>?_) av w0 β a w hr
 cases i with
 |none=>
  refine first.mono fun e σ' h=>?_
  cases e with
  |normal=>obtain⟨j,h1,h2⟩:=h;exact⟨some j,h1,h2⟩
  |_=>exact h
 |some i=>
  refine(round i).mono fun e σ' h=>?_
  cases e with
  |normal=>obtain⟨j,h1,h2⟩:=h;exact⟨some j,h1,h2⟩
  |_=>exact h
theorem lE {c:Nat}(h:us.length=n*m) (hr:rest.length=(c-n)*m) (hn:n≤c):(us++rest).length=c*m:=by
 rw[fp,h,hr,←tF];congr 1;omega
theorem iX (h:us.length=n*m):(us++rest).take (n*m)=us:=by rw[←h];simp
theorem jA (h:n≤1000000):n≤maxLen:=nn h (by decide)
end
structure Pt where
 a1:Rat
 b1:Rat
 a2:Rat
 b2:Rat
 c:Rat
variable {l out:List Pt}
structure Ln where
 a:Rat
 b:Rat
 c:Rat
structure Ci where
 x:Rat
 y:Rat
 q:Rat
inductive Cv where
 |seg (l:Ln) (p q:Pt)
 |arc (k:Ci) (w:Bool) (p q:Pt)
def F8:List CellD:=[.b false,.s 0 [],.b false,.s 0 []]
def dA:List CellD:=F8++F8++F8
def aj (p:Pt):List CellD:=cR p.a1++cR p.b1++cR p.a2++cR p.b2++cR p.c
def fm (l:Ln):List CellD:=cR l.a++cR l.b++cR l.c
def cg (k:Ci):List CellD:=cR k.x++cR k.y++cR k.q
def ap:Cv→List CellD
 | .seg l p q=>[.b false]++fm l++dA++[.b false]++aj p++aj q
 | .arc k w p q=>[.b true]++dA++cg k++[.b w]++aj p++aj q
theorem aP (p:Pt):(aj p).length=20:=rfl
theorem ag (c:Cv):(ap c).length=66:=by cases c<;>rfl
section
variable {α:Type}
def aI (enc:α→List CellD):List α→List CellD
 |[]=>[]
 |x::l=>enc x++aI enc l
variable {enc:α→List CellD}{m:Nat}
theorem aG (h: ∀x,(enc x).length=m): ∀l:List α,(aI enc l).length=l.length*m
 |[]=>by simp[aI]
 |x::l=>by
  show(enc x++aI enc l).length=(l.length+1)*m
  rw[fp,h,aG h l,tF];omega
theorem io: ∀l r:List α,aI enc (l++r)=aI enc l++aI enc r
 |[],r=>rfl
 |x::l,r=>by
  show enc x++aI enc (l++r)=enc x++aI enc l++aI enc r
  rw[io l r,tE]
theorem lU (x:α):aI enc [x]=enc x:=xx _
theorem o7 (h: ∀x,(enc x).length=m) (l:List α) (j:Nat):(aI enc l).drop (j*m)=aI enc (l.drop j):=by
 by_cases hj:j≤l.length
 ·have e:aI enc l=aI enc (l.take j)++aI enc (l.drop j):=by rw[←io,BY]
  have hl:(aI enc (l.take j)).length=j*m:=by rw[aG h,fQ,fT hj]
  grind
 ·rw[qz (by rw[aG h];exact tz _ (by omega)),qz (by omega)];rfl
theorem o8 (h: ∀x,(enc x).length=m) (l:List α) (j:Nat):(aI enc l).take (j*m)=aI enc (l.take j):=by
 by_cases hj:j≤l.length
 ·have e:aI enc l=aI enc (l.take j)++aI enc (l.drop j):=by rw[←io,BY]
  have hl:(aI enc (l.take j)).length=j*m:=by rw[aG h,fQ,fT hj]
  grind
 ·rw[iB (by rw[aG h];exact tz _ (by omega)),iB (by omega)]
theorem gj (h: ∀x,(enc x).length=m) {l:List α}{x:α}(hj:l[j]? =some x):(aI enc l).drop (j*m)=enc x++aI enc (l.drop (j+1)):=by
 obtain⟨h1,h2⟩:=jU.1 hj
 rw[o7 h,pr h1,h2];rfl
theorem eJ {l:List α}{d:α}(h:j<l.length):l[j]? =some (l.getD j d):=by grind
section
variable {P:Program}{ops:Array Oper}{T:TF}{B:BF}{dst:Option Nat}{x y:Operand}{ty U:TypeId}{pos:String}{af:Array Edge}{g:Option (Nat×Bool)}
theorem mR {kk:IntKind}{l:List α}(d:α) (h: ∀x,(enc x).length=m) (hj:j<l.length) (hU:wF P U=some m) (e:(dc T x,dc T y,gd ops ⟨dst,.indexAddr U x y,ty,pos,af,g⟩ T)=(some (.v (.c (.s l.length (aI enc l)))),some (.v (.c (.i kk (j:Int)))),some true)):
 Sem P ops ⟨dst,.indexAddr U x y,ty,pos,af,g⟩ T B (.r (.q (enc (l.getD j d)++aI enc (l.drop (j+1))))):=
 bJ (j:=(j:Int)) hU (congrArg Prod.fst e) (congrArg (fun q=>q.2.1) e) (by omega) (aG h _) (gj h (eJ hj)) (congrArg (fun q=>q.2.2) e)
theorem oV {a:α}(h: ∀x,(enc x).length=m) (hU:qf P U=some (true,m)) (e:(dc T x,gd ops ⟨dst,.load U x,ty,pos,af,g⟩ T)=(some (.q (enc a++r)),some true)):Sem P ops ⟨dst,.load U x,ty,pos,af,g⟩ T B (.r (.v (.a (enc a)))):=
 db hU (congrArg Prod.fst e) (by rw[←h a];exact List.take_left) (h a) (congrArg Prod.snd e)
end
theorem oh {l:List α}{d:α}(h:j<l.length):l.take (j+1)=l.take j++[l.getD j d]:=by simp_all
theorem cz {l:List α}{d:α}(h:j<l.length):l.getD j d∈l:=by grind
end
def dPt:Pt:=⟨0,0,0,0,0⟩
def bV:Cv:=.seg ⟨0,0,0⟩ dPt dPt
def Cv.p:Cv→Pt
 | .seg _ p _=>p
 | .arc _ _ p _=>p
def Cv.q:Cv→Pt
 | .seg _ _ q=>q
 | .arc _ _ _ q=>q
def Cv.isArc:Cv→Bool
 | .seg ..=>false
 | .arc ..=>true
def Cv.cw:Cv→Bool
 | .seg ..=>false
 | .arc _ w _ _=>w
def Cv.ends:Cv→Pt→Pt→Cv
 | .seg l _ _,p,q=>.seg l p q
 | .arc k w _ _,p,q=>.arc k w p q
def Cv.rev:Cv→Cv
 | .seg l p q=>.seg l q p
 | .arc k w p q=>.arc k (!w) q p
def vA (l:Ln) (p:Pt):Rat:=l.a*p.a1+l.b*p.a2-l.c
def vB (l:Ln) (p:Pt):Rat:=l.a*p.b1+l.b*p.b2
def j6 (l:Ln) (p:Pt):Int:=s3 (vA l p) (rB (vB l p) p.c) (rC (vB l p) p.c)
def Nh (k:Ci) (p:Pt):Rat:=L1 (p.a1-k.x) (p.a2-k.y) p.b1 p.b2 p.c+ -k.q
def EP (k:Ci) (p:Pt):Rat:=M4 (p.a1-k.x) (p.a2-k.y) p.b1 p.b2
def qd (k:Ci) (p:Pt):Int:= -s3 (Nh k p) (EP k p) (zc (EP k p) p.c)
def Cv.supp:Cv→Pt→Bool
 | .seg l _ _,p=>j6 l p==0
 | .arc k _ _ _,p=>qd k p==0
def lp (p:Pt) (v:Rat):Int:=bi (p.a1-v) p.b1 (zc p.b1 p.c)
def jL (p:Pt) (v:Rat):Int:=bi (p.a2-v) p.b2 (zc p.b2 p.c)
def nj (k:Ci) (p:Pt):Bool:=decide (jL p k.y>0)||(jL p k.y==0&&decide (lp p k.x>0))
def cx (p q:Pt):Int:=AC p.a1 p.b1 p.c q.a1 q.b1 q.c
def cy (p q:Pt):Int:=AC p.a2 p.b2 p.c q.a2 q.b2 q.c
def cP (p q:Pt):Int:=nT p.a1 p.b1 p.a2 p.b2 p.c q.a1 q.b1 q.a2 q.b2 q.c
def g9 (k:Ci) (p q:Pt):Int:=if nj k p !=nj k q then(if nj k q then-1 else 1) else if nj k p then-cx p q else cx p q
def wy (k:Ci) (f p q:Pt):Int:=if decide (g9 k p f<0) !=decide (g9 k q f<0) then(if decide (g9 k q f<0) then-1 else 1) else g9 k p q
def Pt.flip (p:Pt):Pt:=⟨-p.a1,-p.b1,p.a2,p.b2,p.c⟩
def Ci.mir (k:Ci):Ci:=⟨-k.x,k.y,k.q⟩
def Cv.ord:Cv→Pt→Pt→Int
 | .seg _ f t,p,q=>if decide (cP f t>0) then-cP p q else cP p q
 | .arc k w f _,p,q=>if !w then wy k f p q else wy k.mir f.flip p.flip q.flip
def Cv.on (c:Cv) (p:Pt):Bool:=c.supp p&&decide (c.ord c.p p≤0)&&decide (c.ord p c.q≤0)
def np (c:Cv) (x:Pt):List Pt→Nat
 |[]=>0
 |o::l=>if c.ord o x<0 then np c x l+1 else 0
def gg (c:Cv) (out:List Pt) (x:Pt):List Pt:=
 if np c x out<out.length∧cP (out.getD (np c x out) dPt) x=0 then out else out.take (np c x out)++x::out.drop (np c x out)
def cE (c:Cv) (l:List Pt):List Pt:=l.foldl (gg c) []
def i9 (c:Cv):List Pt→List Cv
 |p::q::l=>c.ends p q::i9 c (q::l)
 |_=>[]
def fk (c:Cv) (l:List Pt):List Cv:=i9 c (cE c ([c.p,c.q]++l))
def tD (x y:Rat):Bool:=aR x y==0
def i7:Cv→Cv→Bool
 | .seg l _ _,.seg m _ _=>tD (l.a*m.b) (l.b*m.a)&&tD (l.a*m.c) (l.c*m.a)&&tD (l.b*m.c) (l.c*m.b)
 | .arc k _ _ _,.arc d _ _ _=>tD k.x d.x&&tD k.y d.y&&tD k.q d.q
 |_,_=>false
def fW (a1 b1 a2 b2 c:Rat):Pt:=if jp c then⟨a1+b1*rt c,0,a2+b2*rt c,0,0⟩ else⟨a1,b1,a2,b2,c⟩
def rQ (l m:Ln):Rat:=l.a*m.b-m.a*l.b
def SZ (l m:Ln):Rat:=l.c*m.b-m.c*l.b
def TP (l m:Ln):Rat:=l.a*m.c-m.a*l.c
def ko (l m:Ln):List Pt:=if aR (rQ l m) 0≠0 then[⟨SZ l m/rQ l m,0,TP l m/rQ l m,0,0⟩] else[]
def re (l m:Ln):Int:=if aR (rQ l m) 0≠0 then 0 else if aR (SZ l m) 0=0∧aR (TP l m) 0=0 then 10 else 0
def dE (l:Ln):Rat:=l.a*l.a+l.b*l.b
def gM (l:Ln) (x y:Rat):Rat:=l.a*x+l.b*y-l.c
def fz (l:Ln) (k:Ci):Rat:=dE l*k.q-gM l k.x k.y*gM l k.x k.y
def xU (l:Ln) (k:Ci):Rat:=k.x-gM l k.x k.y/dE l*l.a
def yL (l:Ln) (k:Ci):Rat:=k.y-gM l k.x k.y/dE l*l.b
def Jj (l:Ln) (k:Ci):Pt:=fW (xU l k) (-(l.b/dE l)) (yL l k) (-(-l.a/dE l)) (fz l k)
def GH (l:Ln) (k:Ci):Pt:=fW (xU l k) (l.b/dE l) (yL l k) (-l.a/dE l) (fz l k)
def iu (l:Ln) (k:Ci):List Pt:=
 if aR (fz l k) 0<0 then[] else if aR (fz l k) 0=0 then[⟨xU l k,0,yL l k,0,0⟩]
 else if cP (Jj l k) (GH l k)>0 then[GH l k,Jj l k] else[Jj l k,GH l k]
def tg (k d:Ci):Bool:=tD k.x d.x&&tD k.y d.y
def IZ (k:Ci):Rat:=k.x*k.x+k.y*k.y-k.q
def mN (k d:Ci):Ln:=⟨2*(d.x-k.x),2*(d.y-k.y),IZ d-IZ k⟩
def ob (k d:Ci):List Pt:=if tg k d then[] else iu (mN k d) k
def Ap (k d:Ci):Int:=if tg k d then(if aR k.q d.q=0 then 10 else 0) else 0
def j9:Cv→Cv→List Pt
 | .arc k _ _ _,.arc d _ _ _=>ob k d
 | .arc k _ _ _,.seg l _ _=>iu l k
 | .seg l _ _,.arc k _ _ _=>iu l k
 | .seg l _ _,.seg m _ _=>ko l m
def Io:Cv→Cv→Int
 | .arc k _ _ _,.arc d _ _ _=>Ap k d
 | .seg l _ _,.seg m _ _=>re l m
 |_,_=>0
theorem pm (c:Cv):(ap c)[0]? =some (.b c.isArc):=by cases c<;>rfl
theorem A5 (c:Cv):(ap c)[25]? =some (.b c.cw):=by cases c<;>rfl
theorem fl (c:Cv):((ap c).drop 26).take 20=aj c.p:=by cases c<;>rfl
theorem f5 (c:Cv):((ap c).drop 46).take 20=aj c.q:=by cases c<;>rfl
theorem M3 (c:Cv):List.take 66 (List.drop 0 (ap c))=ap c:=by rw[tR,←ag c];exact tI
def Cv.qc:Cv→List CellD
 | .seg _ _ _=>F8
 | .arc k _ _ _=>cR k.q
theorem uw (c:Cv):c.qc.length=4:=by cases c<;>rfl
theorem qL (c:Cv):((ap c).drop 21).take 4=c.qc:=by cases c<;>rfl
theorem tM (hz:zs.length=m) (hx:xs.length=m):wE (fun i=>some (i*m,m)) (List.replicate 1 zs).flatten [(0,.a xs)]=some xs:=by
 subst hz
 simp[wE,D0.cells,hx]
theorem KD (hx:xs.length=m):(xs++ys).drop (1*m)=ys++[]:=by grind
theorem dX (hx:xs.length=m):xs.length=1*m:=by omega
def Cv.setp:Cv→Pt→Cv
 | .seg l _ q,p=>.seg l p q
 | .arc k w _ q,p=>.arc k w p q
theorem wu (c:Cv) (p:Pt):(ap c).take 26++aj p++(ap c).drop 46=ap (c.setp p):=by cases c<;>rfl
theorem Dt (c:Cv) (p q:Pt):(ap (c.setp p)).take 46++aj q++(ap (c.setp p)).drop 66=ap (c.ends p q):=by cases c<;>rfl
def dM (c d:Cv) (p:Pt):Bool:=c.on p&&d.on p
def bh (c d:Cv):List Pt:=if i7 c d then[c.p,c.q,d.p,d.q] else j9 c d
def cG (c d:Cv):List Pt:=cE c ((bh c d).filter (dM c d))
def iN (c d:Cv):Cv:=if (c.isArc&&d.isArc&&(c.cw !=d.cw))||(!c.isArc&&(cP c.p c.q !=cP d.p d.q)) then d.rev else d
def KP (d:Cv) (l:List Pt):Nat→Bool
 |0=>false
 |i+1=>KP d l i||decide (d.ord (l.getD i dPt) (l.getD (i+1) dPt)<0)
def CF (c d:Cv):Bool:=if i7 c d then KP (iN c d) (cG c d) ((cG c d).length-1) else false
section
variable {c d:Cv}
theorem abF (h:c.isArc=false) (g:(cP c.p c.q !=cP d.p d.q)=true):iN c d=d.rev:=by unfold iN;rw[h,g];rfl
theorem abS (h:c.isArc=false) (g:(cP c.p c.q !=cP d.p d.q)=false):iN c d=d:=by unfold iN;rw[h,g];rfl
theorem abH (h:c.isArc=true) (g:d.isArc=false):iN c d=d:=by unfold iN;rw[h,g];rfl
theorem acc (h:c.isArc=true) (g:d.isArc=true) (e:(!(c.cw==d.cw))=true):iN c d=d.rev:=by unfold iN;rw[h,g,show(c.cw !=d.cw)=true from e];rfl
theorem aca (h:c.isArc=true) (g:d.isArc=true) (e:(!(c.cw==d.cw))=false):iN c d=d:=by unfold iN;rw[h,g,show(c.cw !=d.cw)=false from e];rfl
end
structure GP (p:Pt):Prop where
 a1:Rz 113 p.a1
 b1:Rz 21 p.b1
 a2:Rz 113 p.a2
 b2:Rz 21 p.b2
 c:Rz 78 p.c
 ir:p.c≠0→Rz 52 p.a1∧Rz 52 p.a2
 v:Ax p.b1 p.b2 p.c=true
structure GL (l:Ln):Prop where
 a:Rz 4 l.a
 b:Rz 4 l.b
 c:Rz 17 l.c
 n:dE l≠0
structure GK (k:Ci):Prop where
 x:Rz 1 k.x
 y:Rz 1 k.y
 q:Rz 2 k.q
def Cv.good:Cv→Prop
 | .seg l p q=>GL l∧GP p∧GP q
 | .arc k _ p q=>GK k∧GP p∧GP q
theorem TX (h:Ax b1 b2 c=true):Ax (-b1) b2 c=true:=by
 unfold Ax at*
 by_cases h1:b1=0
 ·grind
 grind
theorem GP.flip {p:Pt}(h:GP p):GP p.flip:=⟨h.a1.neg,h.b1.neg,h.a2,h.b2,h.c,fun e=>⟨(h.ir e).1.neg,(h.ir e).2⟩,TX h.v⟩
theorem GK.mir {k:Ci}(h:GK k):GK k.mir:=⟨h.x.neg,h.y,h.q⟩
theorem GP.rat {v w:Rat}(h:Rz 113 v) (g:Rz 113 w):GP ⟨v,0,w,0,0⟩:=⟨h,dL (by decide),g,dL (by decide),dL (by decide),fun e=>absurd rfl e,by unfold Ax;rw[if_pos ⟨rfl,rfl⟩];exact decide_eq_true rfl⟩
theorem GP.dPt:GP dPt:=GP.rat (dL (by decide)) (dL (by decide))
theorem GP.getD (h: ∀p∈l,GP p) (j:Nat):GP (l.getD j Go.Proofs.YtkmdgigkbhmilaaGreat.dPt):=by
 by_cases hj:j<l.length
 ·exact h _ (cz hj)
 ·rw[List.getD,uc (by omega)];exact GP.dPt
section
variable {c:Cv}{x:Pt}
theorem Uh: ∀l:List Pt,np c x l≤l.length
 |[]=>cK _
 |o::l=>by
  show(if c.ord o x<0 then np c x l+1 else 0)≤l.length+1
  have:=Uh l
  split<;>omega
theorem F7: ∀ {l:List Pt}{k:Nat},k≤l.length→(∀j,j<k→c.ord (l.getD j dPt) x<0)→(k=l.length∨ ¬c.ord (l.getD k dPt) x<0)→np c x l=k
 |[],k,h,_,_=>by
  have:k=0:=by simpa using h
  subst this;rfl
 |o::l,k,h,h1,h2=>by
  show(if c.ord o x<0 then np c x l+1 else 0)=k
  match k with
  |0=>
   rcases h2 with h2|h2
   ·simp at h2
   ·exact if_neg (show ¬c.ord o x<0 from h2)
  |k+1=>
   rw[if_pos (show c.ord o x<0 from h1 0 (by omega)),F7 (l:=l) (k:=k) (by simpa using h) (fun j hj=>h1 (j+1) (by omega)) (h2.imp (fun e=>by simpa using e) id)]
theorem rH {y:Pt}(h:y∈gg c out x):y∈out∨y=x:=by
 unfold gg at h
 split at h
 ·grind
 grind
theorem Qz:out.length≤(gg c out x).length∧(gg c out x).length≤out.length+1:=by
 unfold gg
 split
 ·omega
 grind
end
theorem Gs {c:Cv}: ∀(l out:List Pt) {y:Pt},y∈l.foldl (gg c) out→y∈out∨y∈l
 |[],out,y,h=>.inl h
 |x::l,out,y,h=>by
  rcases Gs l (gg c out x) h with h|h
  ·exact(rH h).imp id fun e=>by rw[e];exact j5
  ·exact .inr (iY _ h)
theorem my {c:Cv}{y:Pt}(h:y∈cE c l):y∈l:=(Gs l [] h).elim (fun e=>by cases e) id
theorem CN {c:Cv}: ∀(l out:List Pt),out.length≤(l.foldl (gg c) out).length∧(l.foldl (gg c) out).length≤out.length+l.length
 |[],out=>⟨Nat.le_refl _,cK _⟩
 |x::l,out=>by
  have h1:=Qz (c:=c) (x:=x) (out:=out)
  have h2:=CN (c:=c) l (gg c out x)
  show out.length≤(l.foldl (gg c) (gg c out x)).length∧(l.foldl (gg c) (gg c out x)).length≤out.length+(l.length+1)
  omega
theorem rS {c:Cv}:(cE c l).length≤l.length:=by
 have:=(CN (c:=c) l []).2
 rw[List.length_nil,ip] at this
 exact this
theorem ru {c:Cv}(h:i<l.length):cE c (l.take (i+1))=gg c (cE c (l.take i)) (l.getD i dPt):=by
 unfold cE
 rw[oh (d:=dPt) h,List.foldl_append];rfl
theorem MK {c:Cv}(h:l.length≤i):cE c (l.take i)=cE c l:=by rw[iB h]
theorem Ux {c:Cv}{x:Pt}(hs:np c x out=k) (h:k<out.length) (he:cP (out.getD k dPt) x=0):gg c out x=out:=by
 unfold gg;rw[hs,if_pos ⟨h,he⟩]
theorem xL {c:Cv}{x:Pt}(hs:np c x out=k) (h: ¬(k<out.length∧cP (out.getD k dPt) x=0)):gg c out x=out.take k++x::out.drop k:=by
 unfold gg;rw[hs,if_neg h]
theorem x4 {x:Pt}:aI aj (out.take k++x::out.drop k)=aI aj (out.take k)++aj x++aI aj (out.drop k):=by
 rw[io]
 show _++(aj x++aI aj (out.drop k))=_
 grind
theorem l9 {x:Pt}(h:k≤out.length):(out.take k++x::out.drop k).length=out.length+1:=by grind
theorem iF (c:Cv): ∀l:List Pt,(i9 c l).length=l.length-1
 |[]=>rfl
 |[_]=>rfl
 |p::q::l=>by
  show(i9 c (q::l)).length+1=l.length+1+1-1
  rw[iF c (q::l)]
  show l.length+1-1+1=_
  omega
theorem zM (c:Cv): ∀ {l:List Pt}{i:Nat},i+1<l.length→i9 c (l.take (i+2))=i9 c (l.take (i+1))++[c.ends (l.getD i dPt) (l.getD (i+1) dPt)]
 |p::q::l,0,_=>rfl
 |p::q::l,i+1,h=>by
  show c.ends p q::i9 c ((q::l).take (i+2))=c.ends p q::i9 c ((q::l).take (i+1))++_
  rw[zM c (l:=q::l) (i:=i) (by simpa using h)];rfl
 |[_],i,h=>by simp at h
 |[],i,h=>by simp at h
theorem Nn (c:Cv) :i9 c (l.take 1)=[]:=by
 match l with
 |[]=>rfl
 |p::l=>rfl
theorem yV {c:Cv}: ∀ {l:List Pt}{d:Cv},d∈i9 c l→ ∃p q,p∈l∧q∈l∧d=c.ends p q
 |p::q::l,d,h=>by
  rcases gD.1 (show d∈c.ends p q::i9 c (q::l) from h) with h|h
  ·exact⟨p,q,j5,iY _ j5,h⟩
  ·obtain⟨p',q',h1,h2,h3⟩:=yV h
   exact⟨p',q',iY _ h1,iY _ h2,h3⟩
 |[_],d,h=>by cases h
 |[],d,h=>by cases h
theorem cn {c:Cv}(h:c.good):GP c.p:=by cases c<;>exact h.2.1
theorem dy {c:Cv}(h:c.good):GP c.q:=by cases c<;>exact h.2.2
theorem D9 {c:Cv}(h:c.good) {p q:Pt}(hp:GP p) (hq:GP q):(c.ends p q).good:=by cases c<;>exact⟨h.1,hp,hq⟩
theorem Cj {c:Cv}(h:c.good):c.rev.good:=by cases c<;>exact⟨h.1,h.2.2,h.2.1⟩
end Go.Proofs.YtkmdgigkbhmilaaGreat
