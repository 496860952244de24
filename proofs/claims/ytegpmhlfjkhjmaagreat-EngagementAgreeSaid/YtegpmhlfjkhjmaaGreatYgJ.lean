/-The order of points and the square of a root:the reference. -/
import Derived.Test.YtegpmhlfjkhjmaaGreatYgI
namespace Go.Proofs.YtegpmhlfjkhjmaaGreat
open Go Go.RowKit
variable {Q:Exit→St→Prop}{hi lo u v:Int}{tm:List (Nat×DV)}{bx:List (Nat×TypeId×List CellD)}{a' cs pre rest us us' xs ys z zs:List CellD}{by_ j k m n t:Nat}{x y:Operand}{A B B1 B2 C D M N a a1 a2 b b1 b2 c c1 c2 d f p1 p2 q1 q2 r:Rat}{L X:Re}{U e:TypeId}
variable {ty:TypeId}{pos:String}{af:Array Edge}{g:Option (Nat×Bool)}
theorem ba:type_of% @Re.ext:=@Re.ext
theorem eK:type_of% @Rz.zero:=@Rz.zero
theorem gw:type_of% @Rz.zc:=@Rz.zc
theorem qI:type_of% @Rat.intCast_neg:=@Rat.intCast_neg
theorem tO:type_of% @Rat.not_lt:=@Rat.not_lt
theorem pi:type_of% @Rat.intCast_sub:=@Rat.intCast_sub
theorem HA (ha:Rz 1000000 a) (hb:Rz 1000000 b) (hc:Rz 1000000 c):Ok Tryz.prog 87 [.a ((cR a++cR b++cR c))] [.a ((cR (a*a+b*b*cc b c c)++cR (rB (a*b+b*a) (cc b c c))++cR (rC (a*b+b*a) (cc b c c))))]:=by
 have hbad: ¬Um b c b c:=fun h=>h.2.2 rfl
 refine bW Tryz.func87 rfl<|ac rfl (Mj ha hb hc ha hb hc hbad) ?_
 exact ah (aQ cG rfl aa)
def Al (a1 b1 a2 b2 c p1 q1 p2 q2 r:Rat):Int:=if td a1 b1 (zc b1 c) p1 q1 (zc q1 r)≠0 then td a1 b1 (zc b1 c) p1 q1 (zc q1 r) else td a2 b2 (zc b2 c) p2 q2 (zc q2 r)
theorem QV (h:(td a1 b1 (zc b1 c) p1 q1 (zc q1 r) !=0)=true):Al a1 b1 a2 b2 c p1 q1 p2 q2 r=td a1 b1 (zc b1 c) p1 q1 (zc q1 r):=by unfold Al;rw[if_pos (by simpa using h)]
theorem S5 (h:(td a1 b1 (zc b1 c) p1 q1 (zc q1 r) !=0)=false):Al a1 b1 a2 b2 c p1 q1 p2 q2 r=td a2 b2 (zc b2 c) p2 q2 (zc q2 r):=by unfold Al;rw[if_neg (by simpa using h)]
def ck (x y:Re):Prop:=0≤aO (y-x)
theorem dW {x y z:Re}(h:ck x y) (g:ck y z):ck x z:=by
 unfold ck at*
 have e:z-x=(z-y)+(y-x):=ba fun k=>by simp only[ao,aI];grind
 rw[e];exact pZ g h
theorem of_le {p q:Rat}(h:p≤q):ck (Re.of p) (Re.of q):=by
 unfold ck
 rw[wN,ca]
 unfold aw
 grind
theorem j7 {x y:Re}(h: ∀k,x.s k=y.s k) (g:0≤aO x):0≤aO y:=by rw[←ba h];exact g
def tY (lo hi:Int) (x:Re):Prop:=ck (Re.of (lo:Rat)) (Re.of 65536*x)∧ck (Re.of 65536*x) (Re.of (hi:Rat))
theorem eB {x y u v:Re}(h:ck x y) (g:ck u v):ck (x+u) (y+v):=by
 exact j7 (fun k=>by simp only[ao,aI];grind) (pZ h g)
theorem UP (y:Rat):((y.num.fdiv (y.den:Int):Int):Rat)≤y:=by
 have hd:=den_pos y
 have h1:=tN y
 have hp:(0:Rat)<((y.den:Int):Rat):=tH.2 hd
 refine ph hp ?_
 rw[h1,←fE]
 refine ef.2 ?_
 rw[ow _ (by omega),rE]
 have:=qV y.num (y.den:Int)
 have:=n9 y.num (show(y.den:Int)≠0 by omega)
 omega
theorem HM (a:Rat):tY (ji a) (iN a) (Re.of a):=by
 have h1:=UP (a*((65536:Int):Rat))
 have h2:=UP (-(a*((65536:Int):Rat)))
 refine⟨?_,?_⟩
 ·rw[gg]
  refine of_le ?_
  unfold ji
  grind
 ·rw[gg]
  refine of_le ?_
  unfold iN
  grind
theorem GF (h:iO a=true):tY (gL a) (gH a) (Re.of a):=by
 unfold gL gH;rw[h,if_pos rfl,if_pos rfl];exact HM a
theorem pG {p q:Re}(_hp:0≤aO p) (hq:0≤aO q) (h:0≤aO (q*q-p*p)):ck p q:=by
 unfold ck
 rcases bp (q-p) with a|a|a
 ·omega
 ·omega
 ·exfalso
  have h1:0<aO (p-q):=by
   have e:p-q= -(q-p):=ba fun k=>by simp only[ao,bg];grind
   rw[e,b8,a];decide
  have h2:0<aO (p+q):=by
   have e:p+q=(p-q)+(q+q):=ba fun k=>by simp only[ao,aI];grind
   rw[e];exact B7 h1 (pZ hq hq)
  have h3:aO ((q-p)*(p+q))=aO (q*q-p*p):=congrArg aO (ba fun k=>by simp only[ao,aI,aD];grind)
  rw[bj,a] at h3
  omega
theorem vZ {n:Int}(h:0≤n):0≤aO (Re.of (n:Rat)):=by
 have:=of_le (Rat.intCast_nonneg.2 h)
 refine j7 (fun k=>?_) this
 simp only[ao,aV];grind
theorem fN {p q:Rat}(h:ck (Re.of p) (Re.of q)):p≤q:=by
 unfold ck at h
 rw[wN,ca] at h
 unfold aw at h
 grind
theorem Jx (m:Rat):0≤aO (Re.of 65536*Re.rt m):=by
 have h1:=uk m
 have h2:aO (Re.of 65536)=1:=by rw[ca];decide+kernel
 rw[bj,h2];omega
theorem JU {m:Rat}(h:0≤m) (q:Rat):aO (Re.of 65536*Re.rt m*(Re.of 65536*Re.rt m)-Re.of q)=aw (65536*65536*m) q:=by
 rw[←f9,←ca]
 refine dC ?_
 have e:Re.of 65536*Re.rt m*(Re.of 65536*Re.rt m)-Re.of q-Re.of (65536*65536*m-q)=Re.of (65536*65536)*(Re.rt m*Re.rt m-Re.of m):=ba fun k=>by
  simp only[ao,aD,aV];grind
 rw[e,bj,my h,og]
theorem jJ {x y:Rat}(h:y≤x):0≤aw x y:=by unfold aw;rw[if_neg (by grind)];split<;>omega
theorem Ca {x y:Rat}(h:x≤y):aw x y≤0:=by
 unfold aw
 split
 ·omega
 ·rw[if_neg (by grind)];omega
theorem OR {m:Rat}(hm:0≤m) (h:tY lo hi (Re.of m)):tY (qb lo) (kw hi) (Re.rt m):=by
 obtain⟨h1,h2⟩:=h
 rw[gg] at h1 h2
 have g1:=fN h1
 have g2:=fN h2
 have hq:(0:Rat)≤65536*m:=by grind
 refine⟨?_,?_⟩
 ·refine pG (vZ (eg _)) (Jx m) ?_
  rw[gg,JU hm]
  refine jJ ?_
  have h3:=qL (x:=max lo 0*65536) (by omega)
  have h4:((bO (max lo 0*65536)*bO (max lo 0*65536):Int):Rat)≤((max lo 0*65536:Int):Rat):=ef.2 h3
  have h5:((max lo 0:Int):Rat)≤65536*m:=by
   by_cases hl:0≤lo
   ·grind
   ·rw[show max lo 0=0 from by omega];simpa using hq
  unfold qb
  grind
 ·refine pG (Jx m) (vZ ?_) ?_
  ·unfold kw;have:=eg (hi*65536);split<;>omega
  have h3:0≤ -aO (Re.of 65536*Re.rt m*(Re.of 65536*Re.rt m)-Re.of (((kw hi:Int):Rat)*((kw hi:Int):Rat))):=by
   rw[JU hm]
   have hh:(0:Int)≤hi:=by
    have:(0:Rat)≤(hi:Rat):=by grind
    exact Rat.intCast_nonneg.1 this
   have h4:hi*65536≤kw hi*kw hi:=by
    unfold kw
    split
    ·rename_i hs
     unfold Cy at hs
     grind
    ·have:=v7 (x:=hi*65536) (by omega)
     omega
   have h5:((hi*65536:Int):Rat)≤((kw hi*kw hi:Int):Rat):=ef.2 h4
   have:=Ca (x:=65536*65536*m) (y:=((kw hi:Int):Rat)*((kw hi:Int):Rat)) (by grind)
   omega
  rw[←b8] at h3
  refine j7 (fun k=>?_) h3
  simp only[bg,ao,aD,aV];grind
theorem Jn {k u v U:Re}(h1:0≤aO (k*u-L)) (h2:0≤aO (k*v-L)) (g1:ck u U) (g2:ck U v):0≤aO (k*U-L):=by
 unfold ck at*
 have e:(v-u)*(k*U-L)=(v-U)*(k*u-L)+(U-u)*(k*v-L):=ba fun j=>by simp only[ao,aD,aI];grind
 have hr:0≤aO ((v-U)*(k*u-L)+(U-u)*(k*v-L)):=by
  refine pZ ?_ ?_
  ·rw[bj];exact fK g2 h1
  ·rw[bj];exact fK g1 h2
 rw[←e,bj] at hr
 have e2:aO (v-u)=aO ((v-U)+(U-u)):=congrArg aO (ba fun j=>by simp only[ao,aI];grind)
 rcases bp (v-u) with a|a|a
 ·grind
 ·rcases bp (U-u) with b|b|b
  ·have:=B7 (x:=U-u) (y:=v-U) (by omega) g2
   rw[Kh] at this
   omega
  ·have e3:k*U-L=(k*u-L)+k*(U-u):=ba fun j=>by simp only[ao,aI,aD];grind
   rw[e3,dE _ (by rw[bj,b,og])]
   grind
  grind
 ·have:=pZ g2 g1
  omega
theorem NQ {x y u v U:Re}(h1:0≤aO (x*u-L)) (h2:0≤aO (x*v-L)) (h3:0≤aO (y*u-L)) (h4:0≤aO (y*v-L)) (g1:ck x X) (g2:ck X y) (g3:ck u U) (g4:ck U v):0≤aO (X*U-L):=by
 have a:=Jn h1 h2 g3 g4
 have b:=Jn h3 h4 g3 g4
 rw[vx x U] at a
 rw[vx y U] at b
 have:=Jn a b g1 g2
 rw[vx U X] at this
 grind
theorem UC (a b:Int):lI a b*65536≤a*b∧a*b≤lu a b*65536:=by
 have e:a*b=if (!(decide (a<0)==decide (b<0)))=true then-MG a b else MG a b:=by
  unfold MG
  by_cases ha:a<0<;>by_cases hb:b<0
  ·grind
  ·grind
  ·grind
  grind
 rw[e]
 unfold lI lu
 generalize MG a b=p
 have hu:p≤CE p*65536:=by unfold CE;split<;>omega
 grind
theorem Nv {x y:Int}{U:Re}(h:tY x y X) (g:tY u v U):tY (CM x y u v 4) (Cz x y u v 4) (X*U):=by
 have lo: ∀a b:Int,CM x y u v 4≤lI a b→0≤aO (Re.of (a:Rat)*Re.of (b:Rat)-Re.of ((CM x y u v 4*65536:Int):Rat)):=by
  intro a b hl
  rw[gg]
  refine of_le ?_
  rw[←fE]
  exact ef.2 (by have:=(UC a b).1;omega)
 have hi: ∀a b:Int,lu a b≤Cz x y u v 4→0≤aO (-Re.of (a:Rat)*Re.of (b:Rat)-Re.of (-((Cz x y u v 4*65536:Int):Rat))):=by
  intro a b hl
  rw[MS,gg]
  refine of_le ?_
  have h1:((a*b:Int):Rat)≤((Cz x y u v 4*65536:Int):Rat):=ef.2 (by have:=(UC a b).2;omega)
  grind
 have hlo:CM x y u v 4=min (min (min (min 2305843009213693952 (lI x u)) (lI x v)) (lI y u)) (lI y v):=rfl
 have hhi:Cz x y u v 4=max (max (max (max (-2305843009213693952) (lu x u)) (lu x v)) (lu y u)) (lu y v):=rfl
 have e65:((65536:Int):Rat)=65536:=rfl
 have p65:aO (Re.of 65536)=1:=by rw[ca];decide+kernel
 refine⟨?_,?_⟩
 ·have hb:=NQ (lo x u (by omega)) (lo x v (by omega)) (lo y u (by omega)) (lo y v (by omega)) h.1 h.2 g.1 g.2
  have e:aO (Re.of 65536*(Re.of 65536*(X*U)-Re.of ((CM x y u v 4:Int):Rat)))=aO (Re.of 65536*X*(Re.of 65536*U)-Re.of ((CM x y u v 4*65536:Int):Rat)):=congrArg aO (ba fun k=>by
   simp only[ao,aD,aV,fE,e65];grind)
  rw[←e,bj,p65,oi] at hb
  exact hb
 ·have n1:ck (-Re.of (y:Rat)) (-(Re.of 65536*X)):=j7 (fun k=>by simp only[ao,bg];grind) h.2
  have n2:ck (-(Re.of 65536*X)) (-Re.of (x:Rat)):=j7 (fun k=>by simp only[ao,bg];grind) h.1
  have hb:=NQ (hi y u (by omega)) (hi y v (by omega)) (hi x u (by omega)) (hi x v (by omega)) n1 n2 g.1 g.2
  have e:aO (Re.of 65536*(Re.of ((Cz x y u v 4:Int):Rat)-Re.of 65536*(X*U)))=aO (-(Re.of 65536*X)*(Re.of 65536*U)-Re.of (-((Cz x y u v 4*65536:Int):Rat))):=congrArg aO (ba fun k=>by
   simp only[ao,aD,aV,bg,fE,e65];grind)
  rw[←e,bj,p65,oi] at hb
  exact hb
theorem L5 {x y:Int}{U:Re}(h:tY x y X) (g:tY u v U) (hk:y5 x y u v 4=true):tY (pL x y u v) (pH x y u v) (X*U):=by
 unfold pL pH;rw[hk,if_pos rfl,if_pos rfl];exact Nv h g
theorem M5 {x y:Int}{U:Re}(h:tY x y X) (g:tY u v U):tY (x+u) (y+v) (X+U):=by
 have a:=eB h.1 g.1
 have b:=eB h.2 g.2
 refine⟨j7 (fun k=>?_) a,j7 (fun k=>?_) b⟩
 ·simp only[ao,aI,aD,aV,iE];grind
 ·simp only[ao,aI,aD,aV,iE];grind
theorem LT {x y:Int}{U:Re}(h:tY x y X) (g:tY u v U) (hk:wm (x+u) (y+v)=true):tY (aL x y u v) (aH x y u v) (X+U):=by
 unfold aL aH;rw[hk,if_pos rfl,if_pos rfl];exact M5 h g
theorem Ss (X:Re):aO (Re.of 65536*X)=aO X:=by
 have p65:aO (Re.of 65536)=1:=by rw[ca];decide+kernel
 rw[bj,p65,oi]
theorem BR {n:Int}(h:0<n):0<aO (Re.of (n:Rat)):=by
 rw[ca]
 have h1:(0:Rat)<(n:Rat):=tH.2 h
 unfold aw
 grind
theorem UE (h:tY lo hi X) (hl:0<lo):aO X=1:=by
 have h1:=B7 (BR hl) h.1
 have e:aO (Re.of (lo:Rat)+(Re.of 65536*X-Re.of (lo:Rat)))=aO (Re.of 65536*X):=congrArg aO (ba fun k=>by simp only[ao,aI];grind)
 rw[e,Ss] at h1
 have:=bp X
 omega
theorem UV (h:tY lo hi X) (hl:hi<0):aO X= -1:=by
 have h0:0<aO (-Re.of (hi:Rat)):=by
  rw[MS,←qI];exact BR (by omega)
 have h1:=B7 h0 h.2
 have e:aO (-Re.of (hi:Rat)+(Re.of (hi:Rat)-Re.of 65536*X))=aO (-(Re.of 65536*X)):=congrArg aO (ba fun k=>by simp only[ao,aI,bg];grind)
 rw[e,b8,Ss] at h1
 have:=bp X
 omega
theorem To (h:tY 0 0 X):aO X=0:=by
 have h1:=h.1
 have h2:=h.2
 unfold ck at h1 h2
 have e1:aO (Re.of 65536*X-Re.of ((0:Int):Rat))=aO (Re.of 65536*X):=congrArg aO (ba fun k=>by simp only[ao,aV];grind)
 have e2:aO (Re.of ((0:Int):Rat)-Re.of 65536*X)=aO (-(Re.of 65536*X)):=congrArg aO (ba fun k=>by simp only[ao,aV,bg];grind)
 rw[e1,Ss] at h1
 rw[e2,b8,Ss] at h2
 omega
theorem Jv (h:tY lo hi X) (hs:LK lo hi=true):L9 lo hi=aO X:=by
 unfold LK at hs
 simp only[sj,decide_eq_true_eq,dF,beq_iff_eq] at hs
 unfold L9
 by_cases h1:lo>0
 ·rw[if_pos h1,UE h h1]
 ·rw[if_neg h1]
  by_cases h2:hi<0
  ·rw[if_pos h2,UV h h2]
  ·rw[if_neg h2]
   rcases hs with hs|hs|⟨hs,hs'⟩
   ·omega
   ·omega
   ·subst hs hs'
    exact(To h).symm
theorem SF (hM:0≤M) (hN:0≤N) (h:QT A B C D M N=true):UM A B C D M N=aO (jo A B C D M N):=by
 unfold QT at h
 rw[dF] at h
 obtain⟨h3,hs⟩:=h
 rw[(Jr h3).1]
 unfold Ld W6 VS at h3
 simp only[dF] at h3
 obtain⟨⟨⟨k1,k2⟩,k3,k4,k5,k6,k7,k8,k9⟩,k10,k11,k12,k13⟩:=h3
 have im:=OR hM (GF k1)
 have in_:=OR hN (GF k2)
 have ib:tY (Ul B M) (Tv B M) _:=L5 (GF k3) im k4
 have ic:tY (Ul C N) (Tv C N) _:=L5 (GF k5) in_ k6
 have imn:tY (SN M N) (Td M N) _:=L5 im in_ k8
 have id':tY (qdL D M N) (qdH D M N) _:=L5 (GF k7) imn k9
 have iab:tY (SL A B M) (Tl A B M) _:=LT (GF k10) ib k11
 have icd:tY (RD C D M N) (Q5 C D M N) _:=LT ic id' k12
 have is':tY (ZQ A B C D M N) (Yc A B C D M N) _:=LT iab icd k13
 rw[Jv is' hs]
 refine congrArg aO (ba fun k=>?_)
 unfold jo am
 simp only[aI,aD,aV];grind
theorem Lk (hM:0≤M) (hN:0≤N):Ar A B C D M N=aO (jo A B C D M N):=by
 unfold Ar
 rw[if_neg (by rintro(h|h)<;>grind)]
 split
 ·rename_i h;exact SF hM hN h
 ·exact mi hM hN
theorem K0 (h:dS a b c=true):tY (dY a b c) (dZ a b c) (am a b c):=by
 have h0:=h
 unfold dS at h
 rw[dF] at h
 obtain⟨h1,h2⟩:=h
 cases hb:(aw b 0==0) with
 |true=>
  obtain⟨e1,e2,_⟩:=Zl (c:=c) h1 hb
  have hb0:b=0:=qk hb
  have:=HM a
  have e:am a 0 c=Re.of a:=ba fun k=>by unfold am;simp only[aI,aD,aV];grind
  grind
 |false=>
  rw[hb,Bool.false_or] at h2
  unfold SM at h2
  simp only[dF,rl] at h2
  obtain⟨g1,g2,g3,g4,g5⟩:=h2
  have hc:0≤c:=tO.1 (Bp g3)
  have ir:=OR hc (HM c)
  have im:=Nv (HM b) ir
  have:=M5 (HM a) im
  unfold dY dZ
  rw[h0,if_pos rfl,if_pos rfl,hb,if_neg (by decide),if_neg (by decide)]
  exact this
theorem Sa {e:Rat}(h:Hp (dS a b c) (dS d e f) (dY a b c) (dZ a b c) (dY d e f) (dZ d e f)=true):
 I2 (dS a b c) (dS d e f) (dY a b c) (dZ a b c) (dY d e f) (dZ d e f)=aO (am a b c-am d e f):=by
 unfold Hp at h
 simp only[dF,sj,decide_eq_true_eq] at h
 obtain⟨⟨k1,k2⟩,hs⟩:=h
 have i1:=K0 k1
 have i2:=K0 k2
 have i3:tY (dY a b c-dZ d e f) (dZ a b c-dY d e f) (am a b c-am d e f):=by
  have n:=eB i1.1 (j7 (y:= -(Re.of 65536*am d e f)- -Re.of ((dZ d e f:Int):Rat)) (fun k=>by simp only[ao,bg];grind) i2.2)
  have m:=eB i1.2 (j7 (y:= -Re.of ((dY d e f:Int):Rat)- -(Re.of 65536*am d e f)) (fun k=>by simp only[ao,bg];grind) i2.1)
  refine⟨j7 (fun k=>?_) n,j7 (fun k=>?_) m⟩
  ·simp only[ao,aI,aD,aV,bg,pi];grind
  ·simp only[ao,aI,aD,aV,bg,pi];grind
 unfold I2
 rw[k1,k2,Bool.and_self,if_pos rfl]
 by_cases h1:dZ a b c<dY d e f
 ·rw[if_pos (decide_eq_true h1),UV i3 (by omega)]
 ·rw[if_neg (by simpa using h1)]
  rcases hs with hs|hs
  ·omega
  ·rw[if_pos (decide_eq_true hs),UE i3 (by omega)]
theorem JY {e:Rat}(hc:0≤c) (hf:0≤f):td a b c d e f=aO (am a b c-am d e f):=by
 unfold td
 split
 ·rename_i h
  have hb:b=0:=qk h.1
  have he:e=0:=qk h.2
  rw[←f9,←ca]
  refine congrArg aO (ba fun k=>?_)
  unfold am;simp only[ao,aI,aD,aV];grind
 ·split
  ·rename_i h;exact Sa h
  ·split
   ·rename_i h
    have e1:c=f:=lQ.1 (by simpa using h)
    rw[iD hc]
    refine congrArg aO (ba fun k=>?_)
    unfold am;simp only[ao,aI,aD,aV];grind
   ·rw[Lk hc hf]
    refine congrArg aO (ba fun k=>?_)
    unfold jo am;simp only[ao,aI,aD,aV];grind
theorem wx (ha1:Rz 2000000 a1) (hb1:Rz 160000 b1) (ha2:Rz 2000000 a2) (hb2:Rz 160000 b2) (hc:Rz 160000 c) (hp1:Rz 2000000 p1) (hq1:Rz 160000 q1) (hp2:Rz 2000000 p2) (hq2:Rz 160000 q2) (hr:Rz 160000 r) (s1:Rz 160000 (a1-p1)) (s2:Rz 160000 (a2-p2)):Ok Tryz.prog 51 [.a ((cR a1++cR b1++cR a2++cR b2++cR c)),.a ((cR p1++cR q1++cR p2++cR q2++cR r))] [.c (.i .i64 (Al a1 b1 a2 b2 c p1 q1 p2 q2 r))]:=by
 have kb1:Rz 160000 (zc b1 c):=gw hc (by decide)
 have kb2:Rz 160000 (zc b2 c):=gw hc (by decide)
 have kq1:Rz 160000 (zc q1 r):=gw hr (by decide)
 have kq2:Rz 160000 (zc q2 r):=gw hr (by decide)
 refine bW Tryz.func51 rfl<|cz 6 [] ?_
 refine aC rfl (p6) ?_
 refine aC rfl (p6) ?_
 refine aC rfl (BV (by assumption) (by assumption) (by assumption) (by assumption) (by assumption) (by assumption) (by assumption)) ?_
 refine df rfl (fun hc1=>?_) (fun hc1=>?_)
 ·refine ah ?_
  rw[QV hc1]
  exact ak aa
 ·refine cz 6 [] ?_
  refine aC rfl (Ih) ?_
  refine aC rfl (Ih) ?_
  refine aC rfl (BV (by assumption) (by assumption) (by assumption) (by assumption) (by assumption) (by assumption) (by assumption))<|ah ?_
  rw[S5 hc1]
  exact ak aa
theorem Ht (ha1:Rz 2000000 a1) (hb1:Rz 160000 b1) (ha2:Rz 2000000 a2) (hb2:Rz 160000 b2) (hc:Rz 160000 c) (hp1:Rz 2000000 p1) (hq1:Rz 160000 q1) (hp2:Rz 2000000 p2) (hq2:Rz 160000 q2) (hr:Rz 160000 r) (s1:Rz 160000 (a1-p1)) (s2:Rz 160000 (a2-p2)):Ok Tryz.prog 220 [.a ((cR a1++cR b1++cR a2++cR b2++cR c)),.a ((cR p1++cR q1++cR p2++cR q2++cR r))] [.c (.b (Al a1 b1 a2 b2 c p1 q1 p2 q2 r==0))]:=by
 refine bW Tryz.func220 rfl ?_
 refine ac rfl (wx (by assumption) (by assumption) (by assumption) (by assumption) (by assumption) (by assumption) (by assumption) (by assumption) (by assumption) (by assumption) (by assumption) (by assumption)) ?_
 exact ah (ak aa)
theorem xP {x:Int}(h:0<x):0<bO x:=by
 have h1:=v7 (x:=x) (by omega)
 have h2:=eg x
 by_cases e:bO x=0
 ·rw[e] at h1;omega
 ·omega
theorem Rz.rt (h:Rz k c):Rz k (rt c):=Rz.of h.n.isq h.d.isq (by have:=xP (den_pos c);omega)
theorem Gc (h:iC c=true):cQ (if iC c then bO c.num else 0) (if iC c then bO (c.den:Int) else 0)=cR (rt c):=by
 have:=Ry h
 unfold dQ dR at this
 injection this
def zR:List CellD:=[.b false,.s 0 [],.b false,.s 0 [],.b false,.s 0 [],.b false,.s 0 [],.b false,.s 0 [],.b false,.s 0 []]
theorem pV (ha:Rz 1000000 a) (hb:Rz 1000000 b) (hc:Rz 1000000 c) (h0: ¬c<0) (hs:iC c=true):Ok Tryz.prog 92 [dR a,dR b,dR c] [.a ((cR (a+b*rt c)++cR 0++cR 0)),.c (.i .i64 0)]:=by
 have ka:Rz 6000000 a:=ha.m_
 have kb:Rz 6000000 b:=hb.m_
 have kc:Rz 6000000 c:=hc.m_
 have kt:Rz 1000000 (rt c):=hc.rt
 refine bW Tryz.func92 rfl<|ac rfl (di) ?_
 refine df rfl (fun hc1=>?_) (fun hc1=>?_)
 ·exact absurd (Fr hc1) h0
 ·refine ac rfl (zN (aE hc)) ?_
  refine DW.mk<|aS rfl (fun hc2=>?_) (fun hc2=>?_)
  ·refine oC (σ':=⟨30,[(3,.p 3 0),(4,.p 4 0),(6,.p 6 0),(8,.p 8 0)],[(3,38,cR a),(4,38,cR b),(6,129,zR),(8,38,cR (rt c))]⟩) (aA ⟨rfl,rfl,rfl,rfl,trivial⟩ ⟨rfl,rfl,rfl,by rw[←Gc hs];rfl,trivial⟩ rfl)<|nZ ?_
   refine cz 6 [] ?_
   refine aC rfl (cm (aE hb) (HJ)) ?_
   refine aC rfl (cK (aE ha) (aE (aF hb (by assumption)))) ?_
   refine aC rfl (eF) ?_
   exact ah (aQ cG rfl (ak aa))
  ·exact absurd hs (by rw[hc2];decide)
theorem xB (ha:Rz 1000000 a) (hb:Rz 1000000 b) (hc:Rz 1000000 c) (h0: ¬c<0) (hs:iC c=false):Ok Tryz.prog 92 [dR a,dR b,dR c] [.a ((cR a++cR (rB b c)++cR (rC b c))),.c (.i .i64 0)]:=by
 have ka:Rz 6000000 a:=ha.m_
 have kb:Rz 6000000 b:=hb.m_
 have kc:Rz 6000000 c:=hc.m_
 have kt:Rz 1000000 (rt c):=hc.rt
 refine bW Tryz.func92 rfl<|ac rfl (di) ?_
 refine df rfl (fun hc1=>?_) (fun hc1=>?_)
 ·exact absurd (Fr hc1) h0
 ·refine ac rfl (zN (aE hc)) ?_
  refine df rfl (fun hc2=>?_) (fun hc2=>?_)
  ·exact absurd hc2 (by rw[hs];decide)
  ·refine ac rfl (tE) ?_
   exact ah (aQ cG rfl (ak aa))
theorem xF (hc1:Rz 6000000 c1) (hc2:Rz 6000000 c2) (hbad: ¬Um b1 c1 b2 c2):Ok Tryz.prog 129 [.a ((cR a1++cR b1++cR c1)),.a ((cR a2++cR b2++cR c2))] [.a ((cR a1++cR b1++cR a2++cR b2++cR (Md b1 b2 (cc b1 c1 c2)))),.c (.i .i64 0)]:=by
 have kc1:=hc1
 have kc2:=hc2
 refine ex Tryz.func129 39 [.cell 4 47,.tmp 5] rfl<|ae<|ag<|ae<|ag ?_
 refine ae<|ae<|ag ?_
 refine ac rfl (cn) ?_
 refine aS rfl (fun hc1=>?_) (fun hc1=>?_)
 ·refine ag ?_
  refine ae<|bz<|bQ 1 ?_
  refine aW (ed (cR a1) aX rfl) ?_
  refine bQ 1 ?_
  refine aW (ed (cR b1) aX rfl)<|bQ 1 ?_
  refine aW (ed (cR a2) aX rfl)<|bQ 1 ?_
  refine aW (ed (cR b2) aX rfl)<|bQ 1 ?_
  refine aW (az (us:=(cR a1++cR b1++cR a2++cR b2++cR c2)) EY z8 rfl rfl rfl) ?_
  refine aW (cb rfl (tu))<|fL<|a9 ?_
  rw[Fn (qk hc1)]
  exact ah (aQ bE rfl (ak aa))
 ·refine ae<|ag ?_
  refine ac rfl (cn) ?_
  refine jC (bq rfl) (fun c2 hb2=>?_)
  cases c2
  ·refine bn rfl<|aB<|ae<|bz<|bQ 1<|aW (ed (cR a1) aX rfl)<|bQ 1<|aW (ed (cR b1) aX rfl)<|bQ 1<|aW (ed (cR a2) aX rfl)<|bQ 1<|aW (ed (cR b2) aX rfl)<|bQ 1<|aW (az (us:=(cR a1++cR b1++cR a2++cR b2++cR c1)) EY z8 rfl rfl rfl) ?_
   refine aW (cb rfl (tu))<|fL<|a9 ?_
   rw[zU (nW hc1)]
   exact ah (aQ bE rfl (ak aa))
  ·refine ac rfl (kQ (aE kc1) (aE kc2)) ?_
   refine aS rfl (fun hc3=>?_) (fun hc3=>?_)
   ·exact absurd ⟨nW hc1,Hg hb2,Hg hc3⟩ hbad
   ·refine aB<|ae<|bz<|bQ 1<|aW (ed (cR a1) aX rfl)<|bQ 1<|aW (ed (cR b1) aX rfl)<|bQ 1<|aW (ed (cR a2) aX rfl)<|bQ 1<|aW (ed (cR b2) aX rfl)<|bQ 1<|aW (az (us:=(cR a1++cR b1++cR a2++cR b2++cR c1)) EY z8 rfl rfl rfl) ?_
    refine aW (cb rfl (tu))<|fL<|a9 ?_
    rw[zU (nW hc1)]
    exact ah (aQ bE rfl (ak aa))
theorem I8 (hc1:Rz 6000000 c1) (hc2:Rz 6000000 c2) (hbad: ¬Um b1 c1 b2 c2):Ok Tryz.prog 270 [.a ((cR a1++cR b1++cR c1)),.a ((cR a2++cR b2++cR c2))] [.a ((cR a1++cR b1++cR a2++cR b2++cR (Md b1 b2 (cc b1 c1 c2)))),.c (.i .i64 0)]:=by
 have kc1:=hc1
 have kc2:=hc2
 refine bW Tryz.func270 rfl<|ac rfl (di) ?_
 refine jC (bq rfl) (fun c1 hb1=>?_)
 cases c1
 ·refine ar (bq rfl)<|qg rfl<|ac rfl (di) ?_
  refine df rfl (fun hc2=>?_) (fun hc2=>?_)
  ·refine ac rfl (jP) ?_
   refine ah ?_
   rw[Fn (qk hc2)]
   exact aQ bE rfl (ak aa)
  ·refine ac rfl (jP) ?_
   refine ah ?_
   rw[zU (nW hc2)]
   exact aQ bE rfl (ak aa)
 ·refine ac rfl (di) ?_
  refine jC (bq rfl) (fun c3 hb3=>?_)
  cases c3
  ·refine qg rfl<|ac rfl (di) ?_
   refine df rfl (fun hc4=>?_) (fun hc4=>?_)
   ·refine ac rfl (jP) ?_
    refine ah ?_
    rw[Fn (qk hc4)]
    exact aQ bE rfl (ak aa)
   ·refine ac rfl (jP) ?_
    refine ah ?_
    rw[zU (nW hc4)]
    exact aQ bE rfl (ak aa)
  ·refine ac rfl (pE (aE kc1) (aE kc2)) ?_
   refine df rfl (fun hc5=>?_) (fun hc5=>?_)
   ·exact absurd ⟨Hg hb1,Hg hb3,Hg hc5⟩ hbad
   ·refine ac rfl (di) ?_
    refine df rfl (fun hc6=>?_) (fun hc6=>?_)
    ·refine ac rfl (jP) ?_
     refine ah ?_
     rw[Fn (qk hc6)]
     exact aQ bE rfl (ak aa)
    ·refine ac rfl (jP) ?_
     refine ah ?_
     rw[zU (nW hc6)]
     exact aQ bE rfl (ak aa)
theorem n6 {x:Rat}(h:(decide (-1000000000<x.num)&&(decide (x.num<1000000000)&&(decide ((x.den:Int)<1000000000)&&decide (1≤k))))=true):Rz k x:=by
 simp only[dF,decide_eq_true_eq] at h
 have h1:=lq h.2.2.2
 have e:pw 1=1000000000:=by decide+kernel
 have hp:=den_pos x
 exact⟨⟨by omega,by omega⟩,⟨by omega,by omega⟩⟩
theorem yF (h:tZ b1 b2 c=true):0≤c:=by
 unfold tZ at h
 split at h
 ·grind
 grind
theorem jW (h:0≤c):0≤zc b c:=by unfold zc;split<;>grind
def wt (a b c:Rat):Re:=am a b (zc b c)
theorem q7 {p q:Rat}(hc:0≤c) (hr:0≤r):CN a b c p q r=aO (wt a b c-wt p q r):=mW (jW hc) (jW hr)
theorem MN {p q:Rat}(hc:0≤c) (hr:0≤r):td a b (zc b c) p q (zc q r)=aO (wt a b c-wt p q r):=JY (jW hc) (jW hr)
section
variable {a1 b1 a2 b2 c p1 q1 p2 q2 r:Rat}
theorem HK (hc:0≤c) (hr:0≤r):Al a1 b1 a2 b2 c p1 q1 p2 q2 r=rI a1 b1 a2 b2 c p1 q1 p2 q2 r:=by
 unfold Al rI
 rw[MN hc hr,MN hc hr,q7 hc hr,q7 hc hr]
theorem uE (x y:Re):aO (y-x)= -aO (x-y):=by
 rw[←b8]
 exact congrArg aO (ba fun k=>by simp only[ao,bg];grind)
theorem pe (x:Re):aO (x-x)=0:=by
 have h:=uE x x
 omega
theorem Ik (hc:0≤c) (hr:0≤r):rI p1 q1 p2 q2 r a1 b1 a2 b2 c= -rI a1 b1 a2 b2 c p1 q1 p2 q2 r:=by
 unfold rI
 rw[q7 hc hr,q7 hc hr,q7 hr hc,q7 hr hc,uE (wt a1 b1 c),uE (wt a2 b2 c)]
 grind
theorem Il (hc:0≤c):rI a1 b1 a2 b2 c a1 b1 a2 b2 c=0:=by
 unfold rI
 rw[q7 hc hc,q7 hc hc,pe,pe];simp
end
theorem OB (n:Int):Cy (n*n)=true:=by
 have h:bO (n*n)=(n.natAbs:Int):=by
  have e:(n.natAbs:Int)*(n.natAbs:Int)=n*n:=by grind
  refine Ae ?_ (by omega) (by omega) ?_
  ·grind
  grind
 unfold Cy
 grind
theorem xE (x:Rat):iC (x*x)=true:=by
 have e:x*x=Rat.divInt (x.num*x.num) ((x.den:Int)*(x.den:Int)):=by
  conv=>lhs;rw[←Rat.num_divInt_den x]
  exact Rat.divInt_mul_divInt _ _
 have hd:=den_pos x
 have hg:Int.gcd (x.num*x.num) ((x.den:Int)*(x.den:Int))=1:=by
  have hr:Nat.Coprime x.num.natAbs x.den:=x.reduced
  show Nat.gcd (x.num*x.num).natAbs ((x.den:Int)*(x.den:Int)).natAbs=1
  rw[rW,rW,xz]
  exact(hr.mul_left hr).mul_right (hr.mul_left hr)
 have hv:vQ (x.num*x.num) ((x.den:Int)*(x.den:Int))=true:=by
  unfold vQ
  rw[hg,decide_eq_true (p5 hd hd)];rfl
 obtain⟨h1,h2⟩:=Qb hv
 rw[←e] at h1 h2
 unfold iC
 rw[h1,h2,OB,OB];rfl
theorem OA (hc:0≤c) (hv:b≠0→0<c∧iC c=false):s3 a b c=aO (am a b c):=by
 rw[←iD hc]
 unfold s3 bd rf
 by_cases hb:b=0
 ·have h0:aw b 0=0:=lQ.2 hb
  rw[if_pos (.inr h0),h0,lX,if_pos (.inl rfl)]
 ·obtain⟨hp,hs⟩:=hv hb
  have h1:aw c 0=1:=by unfold aw;rw[if_neg (by grind),if_pos hp]
  have h2:aw b 0≠0:=fun e=>hb (lQ.1 e)
  rw[h1,ri]
  by_cases h3:aw a 0=aw b 0
  ·grind
  ·have n1: ¬(aw a 0=aw b 0∨aw b 0=0):=by omega
   have n2: ¬(aw b 0=0∨aw a 0=aw b 0):=by omega
   rw[if_neg n1,if_neg n2]
   by_cases h4:aw a 0=0
   ·grind
   ·rw[if_neg h4,if_neg h4]
    have hn:a*a≠b*b*c:=by
     intro e
     have e2:c=(a/b)*(a/b):=by grind
     rw[e2,xE] at hs
     grind
    have a1:=dA a 0
    have b1:=dA b 0
    by_cases h5:0<a*a-b*b*c
    ·have:aw (a*a) (b*b*c)=1:=by unfold aw;rw[if_neg (by grind),if_pos (by grind)]
     rw[if_pos h5,this,ri]
    ·have:aw (a*a) (b*b*c)= -1:=by unfold aw;rw[if_pos (by grind)]
     rw[if_neg h5,this];omega
theorem pk (a b c:Rat):wt a b c=Re.of a+Re.of b*Re.rt c:=by
 unfold wt am
 by_cases h:b=0
 ·subst h
  exact ba fun k=>by simp only[aI,aD,aV];grind
 ·rw[nF h]
def zf (x y b1 b2 c:Rat):Rat:=x*x+y*y+(b1*b1+b2*b2)*c
def Cc (x y b1 b2:Rat):Rat:=(x*b1+y*b2)+(x*b1+y*b2)
theorem PB {x y:Rat}(hv:tZ b1 b2 c=true) (h:Cc x y b1 b2≠0):0<c∧iC c=false:=by
 have hb: ¬(b1=0∧b2=0):=by
  rintro⟨rfl,rfl⟩
  apply h;unfold Cc;grind
 unfold tZ at hv
 grind
theorem YP:a*a+b*b*cc b (zc b c) (zc b c)=a*a+b*b*c:=by
 by_cases h:b=0
 ·grind
 ·rw[zU h,nF h]
theorem Zk (hc:b≠0→c≠0):rB (a*b+b*a) (cc b (zc b c) (zc b c))=a*b+a*b:=by
 unfold rB
 split
 ·rename_i h
  by_cases hb:b=0
  ·grind
  ·rw[zU hb,nF hb] at h
   rcases h with h|h
   ·grind
   grind
 grind
theorem YN (hc:b≠0→c≠0):rC (a*b+b*a) (cc b (zc b c) (zc b c))=zc (a*b+a*b) c:=by
 have e:a*b+b*a=a*b+a*b:=by grind
 rw[e]
 unfold rC
 by_cases hb:b=0
 ·subst hb
  rw[if_pos (.inl (by grind)),EM (by grind)]
 ·rw[zU hb,nF hb]
  by_cases h:a*b+a*b=0
  ·rw[if_pos (.inl h),EM h]
  ·rw[if_neg (fun e=>e.elim h (hc hb)),nF h]
theorem XG: ¬Um B1 (zc B1 c) B2 (zc B2 c):=by
 rintro⟨h1,h2,h3⟩
 rw[nF h1,nF h2] at h3
 exact h3 rfl
theorem abE (hc:B1+B2≠0→c≠0):rB (B1+B2) (cc B1 (zc B1 c) (zc B2 c))=B1+B2:=by
 unfold rB
 split
 ·rename_i h
  by_cases hs:B1+B2=0
  ·grind
  ·exfalso
   rcases h with h|h
   ·grind
   ·by_cases h1:B1=0
    ·rw[Fn h1] at h
     have h2:B2≠0:=by grind
     rw[nF h2] at h
     grind
    ·rw[zU h1,nF h1] at h
     exact hc hs h
 ·rfl
theorem abH (hc:B1+B2≠0→c≠0):rC (B1+B2) (cc B1 (zc B1 c) (zc B2 c))=zc (B1+B2) c:=by
 unfold rC
 by_cases hs:B1+B2=0
 ·rw[if_pos (.inl hs),EM hs]
 ·have e:cc B1 (zc B1 c) (zc B2 c)=c:=by
   by_cases h1:B1=0
   ·rw[Fn h1,nF (fun e=>hs (by grind))]
   ·rw[zU h1,nF h1]
  rw[e,if_neg (fun e=>e.elim hs (hc hs)),nF hs]
theorem Ux (a v:Rat):a+ -v=a-v:=by grind
section
variable {P:Program}{f:FuncId}{ds rs:List D0}{x y z x' y' z':Rat}
theorem vJ (h:Ok P f ds (.a (cR x++cR y++cR z)::rs)) (e1:x=x') (e2:y=y') (e3:z=z'):Ok P f ds (.a (cR x'++cR y'++cR z')::rs):=by subst e1 e2 e3;exact h
end
theorem Zf (x y b1 b2 c:Rat):(x*x+b1*b1*c)+(y*y+b2*b2*c)=zf x y b1 b2 c:=by unfold zf;grind
theorem Nj (x y b1 b2:Rat):(x*b1+x*b1)+(y*b2+y*b2)=Cc x y b1 b2:=by unfold Cc;grind
theorem aaD (h:tZ b1 b2 c=true):(b1≠0→c≠0)∧(b2≠0→c≠0):=by
 have key: ¬(b1=0∧b2=0)→c≠0:=by
  unfold tZ at h
  grind
 grind
section
variable {P:Program}{ops:Array Oper}{T:TF}{B:BF}{av:Nat→Prop}{w0:Ent}{w:World}{N:Nat}{β:Nat→Nat}{a:Act}
theorem Rel.ren (h:Rel av w0 N T B β a w) {d:Nat}(hdN:d<N) (hk:B k≠none) (hd:d=k∨B d=none):
 Rel av w0 N (nE k T) (fun l=>if l=d then B k else if l=k then none else B l) (fun l=>if l=d then β k else β l) a w:=by
 have hB: ∀l,(if l=d then B k else if l=k then none else B l)≠none→(l=d∨(l≠d∧l≠k∧B l≠none)):=by grind
 have hne: ∀l,B l≠none→l≠k→l≠d:=by grind
 have hV:(fun b=>av b∨ ∃l,(if l=d then B k else if l=k then none else B l)≠none∧(if l=d then β k else β l)=b)=(fun b=>av b∨ ∃l,B l≠none∧β l=b):=by grind
 have hT: ∀t x,nE k T t=some x→x=.n∨(T t=some x∧lH x≠some k):=by
  intro t x ht
  unfold nE at ht
  grind
 refine⟨h.dfr,h.siz,h.bel,h.avl,h.avE,h.big,fun b hb hK=>?_,?_,?_,?_,?_⟩
 ·have hKd:w0.K≠d:=by have:=h.big;omega
  rcases hB _ hK with e|⟨_,_,e⟩
  ·grind
  ·rw[if_neg hKd];exact h.fix b hb e
 ·intro l m hl hm e
  rcases hB l hl with e1|⟨e1,e2,e3⟩<;>rcases hB m hm with f1|⟨f1,f2,f3⟩
  ·grind
  ·rw[if_pos e1,if_neg f1] at e
   exact absurd (h.inj k m hk f3 e).symm f2
  ·rw[if_neg e1,if_pos f1] at e
   exact absurd (h.inj l k e3 hk e) e2
  ·rw[if_neg e1,if_neg f1] at e
   exact h.inj l m e3 f3 e
 ·intro l hl
  rcases hB l hl with e1|⟨e1,e2,e3⟩
  ·rw[if_pos e1];exact h.own k hk
  ·rw[if_neg e1];exact h.own l e3
 ·intro t x l ht hx
  rcases hT t x ht with rfl|⟨h1,h2⟩
  ·cases hx
  ·have h3:=h.wf t x l h1 hx
   grind
 ·rw[hV]
  refine⟨h.sees.av,?_,?_⟩
  ·intro l U cs hl
   have hl0:(if l=d then B k else if l=k then none else B l)=some (U,cs):=hl
   by_cases e:l=d
   ·rw[if_pos e] at hl0
    rw[if_pos e];exact h.sees.box k U cs hl0
   ·rw[if_neg e] at hl0
    rw[if_neg e]
    by_cases e2:l=k
    ·grind
    ·rw[if_neg e2] at hl0;exact h.sees.box l U cs hl0
  ·intro t x hL ht
   rcases hT t x ht with rfl|⟨h1,h2⟩
   ·unfold nE at ht
    split at ht
    ·rename_i y hy
     obtain⟨v,e,_⟩:=h.sees.tmp t y hL hy
     exact⟨v,e,trivial⟩
    grind
   ·obtain⟨v,e,hr⟩:=h.sees.tmp t x hL h1
    refine⟨v,e,?_⟩
    cases x with
    |p l off=>
     have h3:=h.wf t _ l h1 rfl
     have h4:l≠k:=fun e=>h2 (by rw[e];rfl)
     show v=.pointer (some ⟨if l=d then β k else β l,off,none⟩)
     rw[if_neg (hne l h3 h4)];exact hr
    |o l n c=>
     have h3:=h.wf t _ l h1 rfl
     have h4:l≠k:=fun e=>h2 (by rw[e];rfl)
     show v=.slice (some ⟨if l=d then β k else β l,0,none⟩) n c
     rw[if_neg (hne l h3 h4)];exact hr
    |w l off n c=>
     have h3:=h.wf t _ l h1 rfl
     have h4:l≠k:=fun e=>h2 (by rw[e];rfl)
     show v=.slice (some ⟨if l=d then β k else β l,off,none⟩) n c
     rw[if_neg (hne l h3 h4)];exact hr
    |v d=>exact hr
    |t ds=>exact hr
    |q us=>exact hr
    |u=>exact hr
    |n=>trivial
    |z=>exact hr
    |f n us=>exact hr
    |tn l n c ds=>
     have h3:=h.wf t _ l h1 rfl
     have h4:l≠k:=fun e=>h2 (by rw[e];rfl)
     obtain⟨xs,e,h⟩:=hr
     exact⟨xs,by show v=Value.tuple (Value.slice (some ⟨if l=d then β k else β l,0,none⟩) n c::xs).toArray;rw[if_neg (hne l h3 h4)];exact e,h⟩
theorem AK (a:Act) (d:Nat) (v v':Value):(a.put (some d) v).put (some d) v'=a.put (some d) v':=by simp[Act.put]
theorem QK {x:DV}:(⟨N,(t,x)::mr k tm,bx⟩:St).T=fun s=>if some t=some s then some x else nE k (fun s=>aK s tm) s:=by
 funext s
 show aK s ((t,x)::mr k tm)=_
 rw[b6,mV]
 by_cases e:t=s
 ·grind
 ·rw[if_neg e,if_neg (by simpa using e)];rfl
theorem QH {x:TypeId×List CellD}:(⟨N,tm,(t,x)::kI k bx⟩:St).B=fun l=>if some t=some l then some x else if l=k then none else aK l bx:=by
 funext s
 show aK s ((t,x)::kI k bx)=(if some t=some s then some x else if s=k then none else aK s bx)
 rw[b6,kZ]
 grind
theorem QN {z:Value}(hzl:zs.length=m) (hzr: ∀(V:Nat→Prop) (w:World),RdCs V w z.cells.toList zs) (r:Nat):
 ∃rest:List CellD,rest.length=r*m∧ ∀(V:Nat→Prop) (w:World),RdCs V w (Builtin.zeroCells z.cells r).toList rest:=by
 have hzs:z.cells.size=m:=by have:=(hzr (fun _=>False) default).1;rw[hzl] at this;simpa using this
 have key: ∀(r:Nat) (V:Nat→Prop) (w:World),RdCs V w ((List.range (r*m)).map (fun j=>z.cells[j%z.cells.size]!)) (List.replicate r zs).flatten:=by
  intro r V w
  induction r with
  |zero=>simp;exact vm
  |succ r ih=>
   rw[Nat.succ_mul,List.range_add,ts,List.replicate_succ',List.flatten_append]
   refine vn ih ?_
   have e2:(List.map (fun x=>r*m+x) (List.range m)).map (fun j=>z.cells[j%z.cells.size]!)=z.cells.toList:=by
    apply wJ (by simp[hzs])
    intro j h1 h2
    simp at h1
    simp only[List.getElem_map,List.getElem_range,hzs]
    rw[Nat.mul_comm r,Nat.mul_add_mod,rZ (by omega),getElem!_pos z.cells j (by omega)]
    simp
   grind
 refine⟨(List.replicate r zs).flatten,?_,fun V w=>?_⟩
 ·simp_all
 ·have:=key r V w
  unfold Builtin.zeroCells
  simpa [hzs] using this
variable {tm:List (Nat×DV)}{bx:List (Nat×TypeId×List CellD)}
theorem En {c q:Nat}
 (hU:xG P U=some (e,m,by_,zs)) (hx:cO (fun s=>aK s tm) x=some (.o k n c)) (hsc: ∀V β a w,Sees V (iK ops ⟨some t,.call ⟨.builtin .append,#[x,y],#[U,U]⟩,ty,pos,af,g⟩) (fun s=>aK s tm) (fun l=>aK l bx) β a w→ ∃V',RdC V' w (a.eval y) (.s q ys)∧ ∀news,RdCs V' w news ys→RdCs V w news ys) (hb:aK k bx=some (e,cs)) (hcs:cs.length=c*m) (hys:ys.length=q*m) (hm:0<m)
 (hnc:n≤c) (hcm:c≤maxLen) (hbytes:(n+q)*by_≤140737488355328) (h63:n+q≤maxLen) (hpre:cs.take (n*m)=pre) (hd:t=k∨aK t bx=none)
 (hg:gd ops ⟨some t,.call ⟨.builtin .append,#[x,y],#[U,U]⟩,ty,pos,af,g⟩ (fun s=>aK s tm)=some true):
 Iv P ops ⟨some t,.call ⟨.builtin .append,#[x,y],#[U,U]⟩,ty,pos,af,g⟩ ⟨N,tm,bx⟩ (fun σ'=> ∃c' rest,n+q≤c'∧c'≤maxLen∧rest.length=(c'-(n+q))*m∧σ'=⟨N,(t,.o t (n+q) c')::mr k tm,(t,e,pre++ys++rest)::kI k bx⟩):=by
 intro av w0 β a w hrel htn
 have hs:=Sees.of hrel.sees (L:=iK ops ⟨some t,.call ⟨.builtin .append,#[x,y],#[U,U]⟩,ty,pos,af,g⟩) (fun _ _=>trivial) (fun _ _ _ h=>h) (fun _ _ h=>h)
 refine⟨d9 hs hg,?_⟩
 have e1:a.eval x=.slice (some ⟨β k,0,none⟩) n c:=ap hs (x:=x) (by simp[Op.operands,Call.operands]) hx
 obtain⟨V',h2,hconv⟩:=hsc _ _ _ _ hs
 obtain⟨news,hsrc,hrn'⟩:=zI hU h2 hys
 have hrn:=hconv _ hrn'
 obtain⟨hu,i,z,hi,hz,hsz,hby,hzl,hzr⟩:=jj hU
 obtain⟨hvk,vs,ev,hr⟩:=hs.box k e cs hb
 subst hsz
 have hkn:(aK k bx)≠none:=by rw[hb];simp
 have hle:n*i.size≤cs.length:=by rw[hcs];exact rc _ hnc
 have hvl:vs.size=c*i.size:=by have:=hr.1;rw[hcs] at this;simpa using this
 have hr2:=hr.take (n*i.size)
 rw[hpre] at hr2
 have hlen:(vs.toList.take (n*i.size)).length=n*i.size:=by
  rw[gz,Array.length_toList,hvl]
  exact qO (rc _ hnc)
 have ht:t<N:=htn t rfl
 have hnl:news.length=q*i.size:=hsrc.newsLen
 unfold Gives
 by_cases hroom:n+q≤c
 ·--in place
  have hfit:0+n*i.size+0+news.length≤vs.size:=by
   rw[hvl,hnl]
   have:=rc i.size hroom
   rw[tF] at this;omega
  have hst:=run_storeCells_at P (β k) (0+n*i.size) e news 0 vs w ev hfit hsrc.one
  simp only[iq,tC] at hst
  have hrun:(Builtin.append_ #[U,U] ty #[.slice (some ⟨β k,0,none⟩) n c,a.eval y]).run P w=.ok (.slice (some ⟨β k,0,none⟩) (n+q) c) (w.setRow (β k) (vs.toList.take (n*i.size)++news++vs.toList.drop (n*i.size+news.length)).toArray):=by
   rcases hsrc.kind with⟨e',hk⟩|hk<;>simp[Builtin.append_,run_underlying hu,sizeOf,typeInfo,hi,hsrc.len,hroom,hsrc.cells,Addr.add_lit,hst]
  have hexec:(execOp a.eval ⟨some t,.call ⟨.builtin .append,#[x,y],#[U,U]⟩,ty,pos,af,g⟩).run P w=.ok (.value (.slice (some ⟨β k,0,none⟩) (n+q) c)) (w.setRow (β k) (vs.toList.take (n*i.size)++news++vs.toList.drop (n*i.size+news.length)).toArray):=by
   simp only[execOp,resolve,invoke,builtin,eH,fQ,fa,tk,si,sV,e1]
   rw[hrun]
   rfl
  rw[hexec]
  have hrest:((cs.drop (n*i.size+news.length))).length=(c-(n+q))*i.size:=by
   rw[jF,hcs,hnl,←tF,←Nat.sub_mul]
  refine⟨⟨N,(t,.o t (n+q) c)::mr k tm,(t,e,pre++ys++cs.drop (n*i.size+news.length))::kI k bx⟩,fun l=>if l=t then β k else β l,⟨c,_,hroom,hcm,hrest,rfl⟩,rfl,?_⟩
  have hren:=hrel.ren (k:=k) (d:=t) (htn t rfl) hkn hd
  have hstore:=hren.store (k:=t) (U:=e) (cs0:=cs) (cs:=pre++ys++cs.drop (n*i.size+news.length)) (vs:=(vs.toList.take (n*i.size)++news++vs.toList.drop (n*i.size+news.length)).toArray)
   (w':=w.setRow (β k) (vs.toList.take (n*i.size)++news++vs.toList.drop (n*i.size+news.length)).toArray) (by rw[if_pos rfl];exact hb) (by rw[if_pos rfl];exact nN ev) rfl rfl rfl ?_
  ·have hval:=hstore.value (d:=some t) (x:=.o t (n+q) c) (v:=.slice (some ⟨β k,0,none⟩) (n+q) c) (by intro s hs;injection hs with hs;subst hs;exact ht) (cU _ _) (by show _=Value.slice (some ⟨if t=t then β k else β t,0,none⟩) _ _;rw[if_pos rfl]) (by intro l hl;injection hl with hl;subst hl;rw[if_pos rfl];simp)
   refine hval.congr (fun s=>?_) (fun l=>?_)
   ·rw[QK];rfl
   ·rw[QH]
    show(if some t=some l then _ else _)=(if t=l then _ else if l=t then _ else _)
    by_cases e:t=l
    ·rw[if_pos (by rw[e]),if_pos e]
    ·rw[if_neg (show ¬some t=some l by simpa using e),if_neg e,if_neg (Ne.symm e)];rfl
  ·have hrd:RdCs (fun b=>av b∨ ∃k,aK k bx≠none∧β k=b) w (vs.toList.take (n*i.size)++news++vs.toList.drop (n*i.size+news.length)) (pre++ys++cs.drop (n*i.size+news.length)):=(hr2.append hrn).append (hr.drop _)
   refine RdCs.keep (av:=fun b=>av b∨ ∃k,aK k bx≠none∧β k=b) ⟨Nat.le_refl _,fun _ _ _=>rfl,?_⟩ hrd
   rintro b _ (hb'|⟨l,hl,hb'⟩)
   ·exact .inl hb'
   ·try dsimp only at hl hb'
    by_cases e:l=t
    ·rw[if_pos e] at hb';exact .inr ⟨k,hkn,hb'⟩
    ·rw[if_neg e] at hl hb'
     by_cases e2:l=k
     ·rw[if_pos e2] at hl;exact absurd rfl hl
     ·rw[if_neg e2] at hl;exact .inr ⟨l,hl,hb'⟩
 ·--new memory
  have hgrow:c<n+q:=by omega
  have hold:(Builtin.firstCells i.size n (.slice (some ⟨β k,0,none⟩) n c)).run P w.drew=.ok (vs.toList.take (n*i.size)).toArray w.drew:=by
   have:=run_loadCells_list (P:=P) w.drew ⟨β k,0,none⟩ (vs.toList.take (n*i.size)) (fun j u hj=>by
    rw[jB,iq]
    show w.cell? _=_
    rw[tL] at hj
    split at hj
    ·rw[cZ ev,←hj];simp
    ·cases hj)
   rw[hlen] at this
   exact this
  have hrun:=run_append_grow_src (P:=P) (w:=w) U U ty e i z hu hi hz (some ⟨β k,0,none⟩) n c _ hold (a.eval y) q news hsrc hgrow (by have:maxLen=9223372036854775807:=rfl;omega) (growslice_fits hgrow (by rw[hby];exact hbytes))
  generalize hcap:grownCap w (n+q) c e=c' at hrun
  have hc1:n+q≤c':=by rw[←hcap];exact grownCap_ge _ _ _ _
  have hc2:c'≤maxLen:=by rw[←hcap];exact grownCap_le_maxLen _ _ _ _ h63
  have hexec:(execOp a.eval ⟨some t,.call ⟨.builtin .append,#[x,y],#[U,U]⟩,ty,pos,af,g⟩).run P w=.ok (.value (.slice (some ⟨w.heap.size,0,none⟩) (n+q) c'))
   (w.drew.alloc (.cells ((vs.toList.take (n*i.size)++news).toArray++Builtin.zeroCells z.cells (c'-(n+q))) e)):=by
   simp only[execOp,resolve,invoke,builtin,eH,fQ,fa,tk,si,sV,e1]
   rw[hrun]
   rfl
  rw[hexec]
  have hdr:=(hrel.drop k).drew
  obtain⟨rest,hrl,hrz⟩:=QN hzl hzr (c'-(n+q))
  have hrd:RdCs (fun b=>av b∨ ∃l,(if l=k then none else aK l bx)≠none∧β l=b) w.drew ((vs.toList.take (n*i.size)++news).toArray++Builtin.zeroCells z.cells (c'-(n+q))).toList (pre++ys++rest):=by
   have h0:RdCs (fun b=>av b∨ ∃k,aK k bx≠none∧β k=b) w (vs.toList.take (n*i.size)++news) (pre++ys):=hr2.append hrn
   have h1:=vn (RdCs.keep (av:=fun b=>av b∨ ∃k,aK k bx≠none∧β k=b) (w:=w) (av':=fun b=>av b∨ ∃l,(if l=k then none else aK l bx)≠none∧β l=b) (w':=w.drew) ⟨Nat.le_refl _,fun _ _ _=>rfl,fun b _ hb'=>hb'.imp id fun⟨l,hl,e⟩=>⟨l,fun h0=>by rw[h0] at hl;exact hl (by split<;>rfl),e⟩⟩ h0) (hrz (fun b=>av b∨ ∃l,(if l=k then none else aK l bx)≠none∧β l=b) w.drew)
   simpa using h1
  have hbox:=hdr.box (d:=t) ht (by
   show(if t=k then none else aK t bx)=none
   rcases hd with hd|hd
   ·rw[if_pos hd]
   ·rw[hd];split<;>rfl) (U:=e) (sl:=some c') hrd
  refine⟨⟨N,(t,.o t (n+q) c')::mr k tm,(t,e,pre++ys++rest)::kI k bx⟩,fun l=>if l=t then w.drew.heap.size else β l,⟨c',_,hc1,hc2,hrl,rfl⟩,rfl,?_⟩
  have hval:=hbox.value (d:=some t) (x:=.o t (n+q) c') (v:=.slice (some ⟨w.heap.size,0,none⟩) (n+q) c') (by intro s hs;injection hs with hs;subst hs;exact ht) (cU _ _) (by show _=Value.slice (some ⟨if t=t then w.drew.heap.size else β t,0,none⟩) _ _;rw[if_pos rfl];rfl) (by intro l hl;injection hl with hl;subst hl;rw[if_pos rfl];simp)
  rw[AK] at hval
  refine hval.congr (fun s=>?_) (fun l=>?_)
  ·rw[QK]
   show(if some t=some s then _ else _)=(if some t=some s then _ else if some t=some s then _ else nE k _ s)
   by_cases e:some t=some s
   ·rw[if_pos e,if_pos e]
   ·rw[if_neg e,if_neg e,if_neg e];rfl
  ·rw[QH];rfl
theorem HR {c q:Nat}
 (hU:xG P U=some (e,m,by_,zs)) (hx:cO (fun s=>aK s tm) x=some (.o k n c)) (hy:cO (fun s=>aK s tm) y=some (.v (.c (.s q ys)))) (hb:aK k bx=some (e,cs)) (hcs:cs.length=c*m) (hys:ys.length=q*m) (hm:0<m)
 (hnc:n≤c) (hcm:c≤maxLen) (hbytes:(n+q)*by_≤140737488355328) (h63:n+q≤maxLen) (hpre:cs.take (n*m)=pre) (hd:t=k∨aK t bx=none)
 (hg:gd ops ⟨some t,.call ⟨.builtin .append,#[x,y],#[U,U]⟩,ty,pos,af,g⟩ (fun s=>aK s tm)=some true):
 Iv P ops ⟨some t,.call ⟨.builtin .append,#[x,y],#[U,U]⟩,ty,pos,af,g⟩ ⟨N,tm,bx⟩ (fun σ'=> ∃c' rest,n+q≤c'∧c'≤maxLen∧rest.length=(c'-(n+q))*m∧σ'=⟨N,(t,.o t (n+q) c')::mr k tm,(t,e,pre++ys++rest)::kI k bx⟩):=by
 exact En hU hx (fun V β a w hs=>⟨V,ap hs (x:=y) (by simp[Op.operands,Call.operands]) hy,fun _ h=>h⟩) hb hcs hys hm hnc hcm hbytes h63 hpre hd hg
theorem Fy {q:Nat}
 (hU:xG P U=some (e,m,by_,zs)) (hx:cO (fun s=>aK s tm) x=some .z) (hy:cO (fun s=>aK s tm) y=some (.v (.c (.s q ys)))) (hys:ys.length=q*m) (hq:0<q)
 (hbytes:q*by_≤140737488355328) (h63:q≤maxLen) (hd:aK t bx=none)
 (hg:gd ops ⟨some t,.call ⟨.builtin .append,#[x,y],#[U,U]⟩,ty,pos,af,g⟩ (fun s=>aK s tm)=some true):
 Iv P ops ⟨some t,.call ⟨.builtin .append,#[x,y],#[U,U]⟩,ty,pos,af,g⟩ ⟨N,tm,bx⟩ (fun σ'=> ∃c' rest,q≤c'∧c'≤maxLen∧rest.length=(c'-q)*m∧σ'=⟨N,(t,.o t q c')::tm,(t,e,ys++rest)::bx⟩):=by
 intro av w0 β a w hrel htn
 have hs:=Sees.of hrel.sees (L:=iK ops ⟨some t,.call ⟨.builtin .append,#[x,y],#[U,U]⟩,ty,pos,af,g⟩) (fun _ _=>trivial) (fun _ _ _ h=>h) (fun _ _ h=>h)
 refine⟨d9 hs hg,?_⟩
 have e1:a.eval x=.slice none 0 0:=ap hs (x:=x) (by simp[Op.operands,Call.operands]) hx
 have h2:=ap hs (x:=y) (by simp[Op.operands,Call.operands]) hy
 obtain⟨news,hsrc,hrn⟩:=zI hU h2 hys
 obtain⟨hu,i,z,hi,hz,hsz,hby,hzl,hzr⟩:=jj hU
 subst hsz
 have ht:t<N:=htn t rfl
 unfold Gives
 have hold:(Builtin.firstCells i.size 0 (.slice none 0 0)).run P w.drew=.ok ([]:List Value).toArray w.drew:=rfl
 have hgrow:0<0+q:=by omega
 have hrun:=run_append_grow_src (P:=P) (w:=w) U U ty e i z hu hi hz none 0 0 _ hold (a.eval y) q news hsrc hgrow (by have:maxLen=9223372036854775807:=rfl;omega) (growslice_fits hgrow (by rw[hby,iq];exact hbytes))
 rw[iq] at hrun
 generalize hcap:grownCap w q 0 e=c' at hrun
 have hc1:q≤c':=by rw[←hcap];exact grownCap_ge _ _ _ _
 have hc2:c'≤maxLen:=by rw[←hcap];exact grownCap_le_maxLen _ _ _ _ h63
 have hexec:(execOp a.eval ⟨some t,.call ⟨.builtin .append,#[x,y],#[U,U]⟩,ty,pos,af,g⟩).run P w=.ok (.value (.slice (some ⟨w.heap.size,0,none⟩) q c'))
  (w.drew.alloc (.cells (([]++news).toArray++Builtin.zeroCells z.cells (c'-q)) e)):=by
  simp only[execOp,resolve,invoke,builtin,eH,fQ,fa,tk,si,sV,e1]
  rw[hrun]
  rfl
 rw[hexec]
 obtain⟨rest,hrl,hrz⟩:=QN hzl hzr (c'-q)
 have hrd:RdCs (fun b=>av b∨ ∃k,aK k bx≠none∧β k=b) w.drew (([]++news).toArray++Builtin.zeroCells z.cells (c'-q)).toList (ys++rest):=by
  have h1:RdCs (fun b=>av b∨ ∃k,aK k bx≠none∧β k=b) w.drew (news++(Builtin.zeroCells z.cells (c'-q)).toList) (ys++rest):=vn (RdCs.keep (Keep.below (cU _ w).drew) hrn) (hrz (fun b=>av b∨ ∃k,aK k bx≠none∧β k=b) w.drew)
  grind
 have hbox:=hrel.drew.box (d:=t) ht hd (U:=e) (sl:=some c') hrd
 refine⟨⟨N,(t,.o t q c')::tm,(t,e,ys++rest)::bx⟩,fun l=>if l=t then w.drew.heap.size else β l,⟨c',_,hc1,hc2,hrl,rfl⟩,rfl,?_⟩
 have hval:=hbox.value (d:=some t) (x:=.o t q c') (v:=.slice (some ⟨w.heap.size,0,none⟩) q c') (by intro s hs;injection hs with hs;subst hs;exact ht) (cU _ _) (by show _=Value.slice (some ⟨if t=t then w.drew.heap.size else β t,0,none⟩) _ _;rw[if_pos rfl];rfl) (by intro l hl;injection hl with hl;subst hl;rw[if_pos rfl];simp)
 rw[AK] at hval
 refine hval.congr (fun s=>?_) (fun l=>?_)
 ·show aK s ((t,DV.o t q c')::tm)=(if some t=some s then _ else if some t=some s then _ else aK s tm)
  rw[b6]
  grind
 ·show aK l ((t,e,ys++rest)::bx)=(if some t=some l then _ else aK l bx)
  rw[b6]
  grind
variable {os:List Oper}{K:St→Prop}
theorem vt {c q:Nat}
 (hU:xG P U=some (e,m,by_,zs)) (hx:cO (fun s=>aK s tm) x=some (.o k n c)) (hy:cO (fun s=>aK s tm) y=some (.v (.c (.s q ys)))) (hb:aK k bx=some (e,us++rest)) (hus:us.length=n*m) (hr:rest.length=(c-n)*m)
 (hys:ys.length=q*m) (hm:0<m) (hnc:n≤c) (hcm:c≤maxLen) (hbytes:(n+q)*by_≤140737488355328) (h63:n+q≤maxLen) (hd:t=k∨aK t bx=none)
 (hg:gd ops ⟨some t,.call ⟨.builtin .append,#[x,y],#[U,U]⟩,ty,pos,af,g⟩ (fun s=>aK s tm)=some true)
 (hk: ∀c' rest',n+q≤c'→c'≤maxLen→rest'.length=(c'-(n+q))*m→dl P ops os ⟨N,(t,.o t (n+q) c')::mr k tm,(t,e,us++ys++rest')::kI k bx⟩ K):
 dl P ops (⟨some t,.call ⟨.builtin .append,#[x,y],#[U,U]⟩,ty,pos,af,g⟩::os) ⟨N,tm,bx⟩ K:=
 .inr ⟨_,HR (pre:=us) hU hx hy hb (by rw[dj,hus,hr,←tF];congr 1;omega) hys hm hnc hcm hbytes h63 (by rw[←hus];simp) hd hg,fun σ' ⟨c',rest',h1,h2,h3,e⟩=>by subst e;exact hk c' rest' h1 h2 h3⟩
theorem rJ {q:Nat}
 (hU:xG P U=some (e,m,by_,zs)) (hx:cO (fun s=>aK s tm) x=some .z) (hy:cO (fun s=>aK s tm) y=some (.v (.c (.s q ys)))) (hys:ys.length=q*m) (hq:0<q)
 (hbytes:q*by_≤140737488355328) (h63:q≤maxLen) (hd:aK t bx=none)
 (hg:gd ops ⟨some t,.call ⟨.builtin .append,#[x,y],#[U,U]⟩,ty,pos,af,g⟩ (fun s=>aK s tm)=some true)
 (hk: ∀c' rest',q≤c'→c'≤maxLen→rest'.length=(c'-q)*m→dl P ops os ⟨N,(t,.o t q c')::tm,(t,e,ys++rest')::bx⟩ K):
 dl P ops (⟨some t,.call ⟨.builtin .append,#[x,y],#[U,U]⟩,ty,pos,af,g⟩::os) ⟨N,tm,bx⟩ K:=
 .inr ⟨_,Fy hU hx hy hys hq hbytes h63 hd hg,fun σ' ⟨c',rest',h1,h2,h3,e⟩=>by subst e;exact hk c' rest' h1 h2 h3⟩
theorem i9 {T:TF}{B:BF}{dst:Option Nat}
 (hg:gd ops ⟨dst,.assign (.const (.slice none 0 0)),ty,pos,af,g⟩ T=some true):Sem P ops ⟨dst,.assign (.const (.slice none 0 0)),ty,pos,af,g⟩ T B (.r .z):=
 bG hg (fun k e=>by cases e) (fun V β a w hs=>⟨.slice none 0 0,rfl,rfl⟩)
theorem ER {c:Code}(ht:aK t tm=some .z) (h:Dw P c ⟨N,(t,.v (.c (.s 0 [])))::tm,bx⟩ Q):Dw P c ⟨N,tm,bx⟩ Q:=fun av w0 β a w hr=>by
 obtain⟨v,hv,hx⟩:=hr.sees.tmp t _ trivial ht
 have hx:v=.slice none 0 0:=hx
 subst hx
 have h2:=hr.upd (t:=t) (x:=.v (.c (.s 0 []))) hv (.s0 _ _ (by decide)) rfl
 refine h av w0 β a w (h2.congr (fun s=>?_) (fun _=>rfl))
 show aK s ((t,.v (.c (.s 0 [])))::tm)=_
 rw[b6];rfl
theorem Qz {ι:Type}{c:Code}{σ:St}(I:ι→St) (μ:ι→Nat) (M:Nat)
 (first:Dw P c σ (DH (fun σ'=> ∃j,Sub σ' (I j)∧μ j<M) Q)) (round: ∀i,Dw P c (I i) (DH (fun σ'=> ∃j,Sub σ' (I j)∧μ j<μ i) Q)):Dw P (.loop c) σ Q:=fun av w0 β a w hr=>by
 refine bF (ι:=Option ι) (fun i=>match i with|none=>σ|some i=>I i) (fun i=>match i with|none=>M|some i=>μ i) none ⟨rfl,fun _ _ h=>h,fun _ _ h=>h,hr.wf⟩ (fun i=>?_) av w0 β a w hr
 cases i with
 |none=>
  refine first.mono fun e σ' h=>?_
  cases e with
  |normal=>obtain⟨j,h1,h2⟩:=h;exact⟨some j,h1,h2⟩
  |_=>exact h
 |some i=>
  refine(round i).mono fun e σ' h=>?_
  cases e with
  |normal=>obtain⟨j,h1,h2⟩:=h;exact⟨some j,h1,h2⟩
  |_=>exact h
theorem tP {c:Nat}(h:us.length=n*m) (hr:rest.length=(c-n)*m) (hn:n≤c):(us++rest).length=c*m:=by
 rw[dj,h,hr,←tF];congr 1;omega
theorem nQ (h:us.length=n*m):(us++rest).take (n*m)=us:=by rw[←h];simp
theorem wC (h:n≤1000000):n≤maxLen:=mM h (by decide)
end
inductive Wk:List CellD→List CellD→Prop
 |nil:Wk [] []
 |same {us us':List CellD}(u:CellD):Wk us us'→Wk (u::us) (u::us')
 |any {us us':List CellD}(u:CellD):Wk us us'→Wk (u::us) (.x::us')
theorem Wk.refl: ∀us:List CellD,Wk us us
 |[]=>.nil
 |u::us=>.same u (Wk.refl us)
theorem Wk.app {a b b':List CellD}(h:Wk a a') (g:Wk b b'):Wk (a++b) (a'++b'):=by
 induction h with
 |nil=>exact g
 |same u _ ih=>exact .same u ih
 |any u _ ih=>exact .any u ih
theorem Wk.len {a:List CellD}(h:Wk a a'):a.length=a'.length:=by
 induction h with
 |nil=>rfl
 |same u _ ih=>simp[ih]
 |any u _ ih=>simp[ih]
section
variable {av:Nat→Prop}{w:World}
theorem RdCs.wk (hw:Wk us us'): ∀ {vs:List Value},RdCs av w vs us→RdCs av w vs us':=by
 induction hw with
 |nil=>exact fun h=>h
 |same u _ ih=>
  intro vs h
  cases vs with
  |nil=>exact absurd h.1 (by simp)
  |cons v vs=>exact qA h.uncons.1 (ih h.uncons.2)
 |any u _ ih=>
  intro vs h
  cases vs with
  |nil=>exact absurd h.1 (by simp)
  |cons v vs=>exact qA (.x v h.uncons.1.one.1 h.uncons.1.one.2) (ih h.uncons.2)
theorem RdC.wks {v:Value}(hw:Wk us us') (h:RdC av w v (.s n us)):RdC av w v (.s n us'):=by
 cases h with
 |s0 A c hc=>cases hw;exact .s0 A c hc
 |s b off c sz n xs cv h0 h1 h2 h3 h4 h5 h6 h7=>
  refine .s b off c sz n us' cv h0 h1 h2 (hw.len▸h3) h4 h5 h6 fun j u hu=>?_
  have hj:j<us.length:=by rw[hw.len];exact(jH.1 hu).1
  have key:RdCs av w ((List.range us.length).map cv) us':=RdCs.wk hw ⟨by simp,fun i v u hv hu=>by
   simp only[qY] at hv
   have hi:i<us.length:=(jH.1 hu).1
   rw[List.getElem?_range hi] at hv
   cases hv
   exact h7 i u hu⟩
  exact key.2 j (cv j) u (by simp only[qY];rw[List.getElem?_range hj];rfl) hu
end
section
variable {P:Program}{f:FuncId}{ds:List D0}{us us':List CellD}
theorem Ok.wks (h:Ok P f ds [.c (.s n us)]) (hw:Wk us us'):Ok P f ds [.c (.s n us')]:=⟨h.cal,fun av vs w hav hr=>(h.run av vs w hav hr).mono fun _e _w' ⟨v,he,hv,hb⟩=>⟨v,he,RdC.wks hw hv,hb⟩⟩
end
structure Pt where
 a1:Rat
 b1:Rat
 a2:Rat
 b2:Rat
 c:Rat
structure Ln where
 a:Rat
 b:Rat
 c:Rat
structure Ci where
 x:Rat
 y:Rat
 q:Rat
inductive Cv where
 |seg (l:Ln) (p q:Pt)
 |arc (k:Ci) (w:Bool) (p q:Pt)
def LB:List CellD:=[.b false,.s 0 [],.b false,.s 0 []]
def tK:List CellD:=LB++LB++LB
def xR4:List CellD:=[.x,.x,.x,.x]
def mw:List CellD:=xR4++xR4++xR4
def ai (p:Pt):List CellD:=cR p.a1++cR p.b1++cR p.a2++cR p.b2++cR p.c
def jq (l:Ln):List CellD:=cR l.a++cR l.b++cR l.c
def bo (k:Ci):List CellD:=cR k.x++cR k.y++cR k.q
def aG:Cv→List CellD
 | .seg l p q=>[.b false]++jq l++tK++[.b false]++ai p++ai q
 | .arc k w p q=>[.b true]++mw++bo k++[.b w]++ai p++ai q
def TU (z:List CellD):Cv→List CellD
 | .seg l p q=>[.b false]++jq l++z++[.b false]++ai p++ai q
 | .arc k w p q=>[.b true]++z++bo k++[.b w]++ai p++ai q
theorem YU (h:z.length=12):Wk z mw:=by
 match z,h with
 |[a,b,c,d,e,f,g,h,i,j,k,l],_=>exact .any _ (.any _ (.any _ (.any _ (.any _ (.any _ (.any _ (.any _ (.any _ (.any _ (.any _ (.any _ .nil)))))))))))
theorem wkA (h:z.length=12) (k:Ci) (w:Bool) (p q:Pt):Wk (TU z (.arc k w p q)) (aG (.arc k w p q)):=(((((Wk.refl _).app (YU h)).app (Wk.refl _)).app (Wk.refl _)).app (Wk.refl _)).app (Wk.refl _)
theorem aT (p:Pt):(ai p).length=20:=rfl
theorem aj (c:Cv):(aG c).length=66:=by cases c<;>rfl
section
variable {α:Type}
def aJ (enc:α→List CellD):List α→List CellD
 |[]=>[]
 |x::l=>enc x++aJ enc l
variable {enc:α→List CellD}{m:Nat}
theorem aM (h: ∀x,(enc x).length=m): ∀l:List α,(aJ enc l).length=l.length*m
 |[]=>by simp[aJ]
 |x::l=>by
  show(enc x++aJ enc l).length=(l.length+1)*m
  rw[dj,h,aM h l,tF];omega
theorem gW: ∀l r:List α,aJ enc (l++r)=aJ enc l++aJ enc r
 |[],r=>rfl
 |x::l,r=>by
  show enc x++aJ enc (l++r)=enc x++aJ enc l++aJ enc r
  rw[gW l r,qc]
theorem jc (x:α):aJ enc [x]=enc x:=l9 _
theorem DR (h: ∀x,(enc x).length=m) (l:List α) (j:Nat):(aJ enc l).drop (j*m)=aJ enc (l.drop j):=by
 by_cases hj:j≤l.length
 ·have e:aJ enc l=aJ enc (l.take j)++aJ enc (l.drop j):=by rw[←gW,A7]
  have hl:(aJ enc (l.take j)).length=j*m:=by rw[aM h,gz,qO hj]
  grind
 ·rw[pg (by rw[aM h];exact rc _ (by omega)),pg (by omega)];rfl
theorem Du (h: ∀x,(enc x).length=m) (l:List α) (j:Nat):(aJ enc l).take (j*m)=aJ enc (l.take j):=by
 by_cases hj:j≤l.length
 ·have e:aJ enc l=aJ enc (l.take j)++aJ enc (l.drop j):=by rw[←gW,A7]
  have hl:(aJ enc (l.take j)).length=j*m:=by rw[aM h,gz,qO hj]
  grind
 ·rw[jY (by rw[aM h];exact rc _ (by omega)),jY (by omega)]
theorem iH (h: ∀x,(enc x).length=m) {l:List α}{x:α}(hj:l[j]? =some x):(aJ enc l).drop (j*m)=enc x++aJ enc (l.drop (j+1)):=by
 obtain⟨h1,h2⟩:=jH.1 hj
 rw[DR h,oD h1,h2];rfl
theorem eh {l:List α}{d:α}(h:j<l.length):l[j]? =some (l.getD j d):=by grind
section
variable {P:Program}{ops:Array Oper}{T:TF}{B:BF}{dst:Option Nat}{x y:Operand}{ty U:TypeId}{pos:String}{af:Array Edge}{g:Option (Nat×Bool)}
theorem tX {kk:IntKind}{l:List α}(d:α) (h: ∀x,(enc x).length=m) (hj:j<l.length) (hU:wW P U=some m) (e:(cO T x,cO T y,gd ops ⟨dst,.indexAddr U x y,ty,pos,af,g⟩ T)=(some (.v (.c (.s l.length (aJ enc l)))),some (.v (.c (.i kk (j:Int)))),some true)):
 Sem P ops ⟨dst,.indexAddr U x y,ty,pos,af,g⟩ T B (.r (.q (enc (l.getD j d)++aJ enc (l.drop (j+1))))):=
 bK (j:=(j:Int)) hU (congrArg Prod.fst e) (congrArg (fun q=>q.2.1) e) (by omega) (aM h _) (iH h (eh hj)) (congrArg (fun q=>q.2.2) e)
theorem qh {a:α}{r:List CellD}(h: ∀x,(enc x).length=m) (hU:sw P U=some (true,m)) (e:(cO T x,gd ops ⟨dst,.load U x,ty,pos,af,g⟩ T)=(some (.q (enc a++r)),some true)):Sem P ops ⟨dst,.load U x,ty,pos,af,g⟩ T B (.r (.v (.a (enc a)))):=
 gF hU (congrArg Prod.fst e) (by rw[←h a];exact List.take_left) (h a) (congrArg Prod.snd e)
end
theorem r6 {l:List α}{d:α}(h:j<l.length):l.take (j+1)=l.take j++[l.getD j d]:=by simp_all
theorem bJ {l:List α}{d:α}(h:j<l.length):l.getD j d∈l:=by grind
end
def dPt:Pt:=⟨0,0,0,0,0⟩
def bL:Cv:=.seg ⟨0,0,0⟩ dPt dPt
def Cv.p:Cv→Pt
 | .seg _ p _=>p
 | .arc _ _ p _=>p
def Cv.q:Cv→Pt
 | .seg _ _ q=>q
 | .arc _ _ _ q=>q
def Cv.isArc:Cv→Bool
 | .seg ..=>false
 | .arc ..=>true
def Cv.cw:Cv→Bool
 | .seg ..=>false
 | .arc _ w _ _=>w
def Cv.ends:Cv→Pt→Pt→Cv
 | .seg l _ _,p,q=>.seg l p q
 | .arc k w _ _,p,q=>.arc k w p q
def Cv.rev:Cv→Cv
 | .seg l p q=>.seg l q p
 | .arc k w p q=>.arc k (!w) q p
def vA (l:Ln) (p:Pt):Rat:=l.a*p.a1+l.b*p.a2-l.c
def vB (l:Ln) (p:Pt):Rat:=l.a*p.b1+l.b*p.b2
def z9 (l:Ln) (p:Pt):Int:=s3 (vA l p) (rB (vB l p) p.c) (rC (vB l p) p.c)
def Ac (k:Ci) (p:Pt):Rat:=zf (p.a1-k.x) (p.a2-k.y) p.b1 p.b2 p.c+ -k.q
def qC (k:Ci) (p:Pt):Rat:=Cc (p.a1-k.x) (p.a2-k.y) p.b1 p.b2
def jQ (k:Ci) (p:Pt):Int:= -s3 (Ac k p) (qC k p) (zc (qC k p) p.c)
def Cv.supp:Cv→Pt→Bool
 | .seg l _ _,p=>z9 l p==0
 | .arc k _ _ _,p=>jQ k p==0
def jm (p:Pt) (v:Rat):Int:=bd (p.a1-v) p.b1 (zc p.b1 p.c)
def qf (p:Pt) (v:Rat):Int:=bd (p.a2-v) p.b2 (zc p.b2 p.c)
def j6 (k:Ci) (p:Pt):Bool:=decide (qf p k.y>0)||(qf p k.y==0&&decide (jm p k.x>0))
def cx (p q:Pt):Int:=CN p.a1 p.b1 p.c q.a1 q.b1 q.c
def cy (p q:Pt):Int:=CN p.a2 p.b2 p.c q.a2 q.b2 q.c
def cP (p q:Pt):Int:=rI p.a1 p.b1 p.a2 p.b2 p.c q.a1 q.b1 q.a2 q.b2 q.c
def fh (k:Ci) (p q:Pt):Int:=if j6 k p !=j6 k q then(if j6 k q then-1 else 1) else if j6 k p then-cx p q else cx p q
def ru (k:Ci) (f p q:Pt):Int:=if decide (fh k p f<0) !=decide (fh k q f<0) then(if decide (fh k q f<0) then-1 else 1) else fh k p q
def Pt.flip (p:Pt):Pt:=⟨-p.a1,-p.b1,p.a2,p.b2,p.c⟩
def Ci.mir (k:Ci):Ci:=⟨-k.x,k.y,k.q⟩
def Cv.ord:Cv→Pt→Pt→Int
 | .seg _ f t,p,q=>if decide (cP f t>0) then-cP p q else cP p q
 | .arc k w f _,p,q=>if !w then ru k f p q else ru k.mir f.flip p.flip q.flip
def Cv.on (c:Cv) (p:Pt):Bool:=c.supp p&&decide (c.ord c.p p≤0)&&decide (c.ord p c.q≤0)
def wu (c:Cv) (x:Pt):List Pt→Nat
 |[]=>0
 |o::l=>if c.ord o x<0 then wu c x l+1 else 0
def lE (c:Cv) (out:List Pt) (x:Pt):List Pt:=
 if wu c x out<out.length∧cP (out.getD (wu c x out) dPt) x=0 then out else out.take (wu c x out)++x::out.drop (wu c x out)
def qy (c:Cv) (l:List Pt):List Pt:=l.foldl (lE c) []
def jX (c:Cv):List Pt→List Cv
 |p::q::l=>c.ends p q::jX c (q::l)
 |_=>[]
def mN (c:Cv) (l:List Pt):List Cv:=jX c (qy c ([c.p,c.q]++l))
def yV (x y:Rat):Bool:=aw x y==0
def UA:Cv→Cv→Bool
 | .seg l _ _,.seg m _ _=>yV (l.a*m.b) (l.b*m.a)&&yV (l.a*m.c) (l.c*m.a)&&yV (l.b*m.c) (l.c*m.b)
 | .arc k _ _ _,.arc d _ _ _=>yV k.x d.x&&yV k.y d.y&&yV k.q d.q
 |_,_=>false
def dU (a1 b1 a2 b2 c:Rat):Pt:=if iC c then⟨a1+b1*rt c,0,a2+b2*rt c,0,0⟩ else⟨a1,b1,a2,b2,c⟩
def fM (l:Ln):Rat:=l.a*l.a+l.b*l.b
def tj (l:Ln) (x y:Rat):Rat:=l.a*x+l.b*y-l.c
def qi (l:Ln) (k:Ci):Rat:=fM l*k.q-tj l k.x k.y*tj l k.x k.y
def l7 (l:Ln) (k:Ci):Rat:=k.x-tj l k.x k.y/fM l*l.a
def ms (l:Ln) (k:Ci):Rat:=k.y-tj l k.x k.y/fM l*l.b
def TA (l:Ln) (k:Ci):Pt:=dU (l7 l k) (-(l.b/fM l)) (ms l k) (-(-l.a/fM l)) (qi l k)
def TH (l:Ln) (k:Ci):Pt:=dU (l7 l k) (l.b/fM l) (ms l k) (-l.a/fM l) (qi l k)
def ve (l:Ln) (k:Ci):List Pt:=
 if aw (qi l k) 0<0 then[] else if aw (qi l k) 0=0 then[⟨l7 l k,0,ms l k,0,0⟩]
 else if cP (TA l k) (TH l k)>0 then[TH l k,TA l k] else[TA l k,TH l k]
def wi (k d:Ci):Bool:=yV k.x d.x&&yV k.y d.y
def CF (k:Ci):Rat:=k.x*k.x+k.y*k.y-k.q
def lv (k d:Ci):Ln:=⟨2*(d.x-k.x),2*(d.y-k.y),CF d-CF k⟩
def BM (k d:Ci):List Pt:=if wi k d then[] else ve (lv k d) k
theorem qa (c:Cv):((aG c).drop 26).take 20=ai c.p:=by cases c<;>rfl
theorem uu (c:Cv):((aG c).drop 46).take 20=ai c.q:=by cases c<;>rfl
theorem C9 (hz:zs.length=m) (hx:xs.length=m):yo (fun i=>some (i*m,m)) (List.replicate 1 zs).flatten [(0,.a xs)]=some xs:=by
 subst hz
 simp[yo,D0.cells,hx]
theorem je (hx:xs.length=m):xs.length=1*m:=by omega
def Cv.setp:Cv→Pt→Cv
 | .seg l _ q,p=>.seg l p q
 | .arc k w _ q,p=>.arc k w p q
theorem DY (c:Cv) (p:Pt):(aG c).take 26++ai p++(aG c).drop 46=aG (c.setp p):=by cases c<;>rfl
theorem Lm (c:Cv) (p q:Pt):(aG (c.setp p)).take 46++ai q++(aG (c.setp p)).drop 66=aG (c.ends p q):=by cases c<;>rfl
structure GP (p:Pt):Prop where
 a1:Rz 113 p.a1
 b1:Rz 21 p.b1
 a2:Rz 113 p.a2
 b2:Rz 21 p.b2
 c:Rz 78 p.c
 ir:p.c≠0→Rz 52 p.a1∧Rz 52 p.a2
 v:tZ p.b1 p.b2 p.c=true
structure GB (p:Pt):Prop where
 a1:Rz 40000 p.a1
 b1:Rz 40000 p.b1
 a2:Rz 40000 p.a2
 b2:Rz 40000 p.b2
 c:Rz 40000 p.c
 v:tZ p.b1 p.b2 p.c=true
theorem GP.gb {p:Pt}(h:GP p):GB p:=⟨h.a1.mono (by decide),h.b1.mono (by decide),h.a2.mono (by decide),h.b2.mono (by decide),h.c.mono (by decide),h.v⟩
structure GL (l:Ln):Prop where
 a:Rz 4 l.a
 b:Rz 4 l.b
 c:Rz 17 l.c
 n:fM l≠0
structure GK (k:Ci):Prop where
 x:Rz 1 k.x
 y:Rz 1 k.y
 q:Rz 2 k.q
def Cv.good:Cv→Prop
 | .seg l p q=>GL l∧GP p∧GP q
 | .arc k _ p q=>GK k∧GP p∧GP q
theorem Tf (h:tZ b1 b2 c=true):tZ (-b1) b2 c=true:=by
 unfold tZ at*
 by_cases h1:b1=0
 ·grind
 grind
theorem GP.flip {p:Pt}(h:GP p):GP p.flip:=⟨h.a1.neg,h.b1.neg,h.a2,h.b2,h.c,fun e=>⟨(h.ir e).1.neg,(h.ir e).2⟩,Tf h.v⟩
theorem GK.mir {k:Ci}(h:GK k):GK k.mir:=⟨h.x.neg,h.y,h.q⟩
theorem GP.rat {v w:Rat}(h:Rz 113 v) (g:Rz 113 w):GP ⟨v,0,w,0,0⟩:=⟨h,eK (by decide),g,eK (by decide),eK (by decide),fun e=>absurd rfl e,by unfold tZ;rw[if_pos ⟨rfl,rfl⟩];exact decide_eq_true rfl⟩
theorem GP.dPt:GP dPt:=GP.rat (eK (by decide)) (eK (by decide))
theorem GP.getD {l:List Pt}(h: ∀p∈l,GP p) (j:Nat):GP (l.getD j Go.Proofs.YtegpmhlfjkhjmaaGreat.dPt):=by
 by_cases hj:j<l.length
 ·exact h _ (bJ hj)
 ·rw[List.getD,uU (by omega)];exact GP.dPt
section
variable {c:Cv}{x:Pt}
theorem rO {out:List Pt}{y:Pt}(h:y∈lE c out x):y∈out∨y=x:=by
 unfold lE at h
 split at h
 ·grind
 grind
end
theorem Ge {c:Cv}: ∀(l out:List Pt) {y:Pt},y∈l.foldl (lE c) out→y∈out∨y∈l
 |[],out,y,h=>.inl h
 |x::l,out,y,h=>by
  rcases Ge l (lE c out x) h with h|h
  ·exact(rO h).imp id fun e=>by rw[e];exact gT
  ·exact .inr (gN _ h)
theorem mX {c:Cv}{l:List Pt}{y:Pt}(h:y∈qy c l):y∈l:=(Ge l [] h).elim (fun e=>by cases e) id
theorem sb (c:Cv): ∀l:List Pt,(jX c l).length=l.length-1
 |[]=>rfl
 |[_]=>rfl
 |p::q::l=>by
  show(jX c (q::l)).length+1=l.length+1+1-1
  rw[sb c (q::l)]
  show l.length+1-1+1=_
  omega
theorem jK {c:Cv}(h:c.good):GP c.p:=by cases c<;>exact h.2.1
theorem s8 {c:Cv}(h:c.good):GP c.q:=by cases c<;>exact h.2.2
theorem Mm {c:Cv}(h:c.good) {p q:Pt}(hp:GP p) (hq:GP q):(c.ends p q).good:=by cases c<;>exact⟨h.1,hp,hq⟩
theorem FY {c:Cv}(h:c.good):c.rev.good:=by cases c<;>exact⟨h.1,h.2.2,h.2.1⟩
end Go.Proofs.YtegpmhlfjkhjmaaGreat
