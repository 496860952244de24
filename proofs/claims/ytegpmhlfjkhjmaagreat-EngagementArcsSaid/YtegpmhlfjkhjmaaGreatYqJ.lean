/-The order of points and the square of a root:the reference. -/
import Derived.Test.YtegpmhlfjkhjmaaGreatYqI
namespace Go.Proofs.YtegpmhlfjkhjmaaGreat
open Go Go.RowKit
variable {Q:Exit→St→Prop}{hi lo u v:Int}{tm:List (Nat×DV)}{bx:List (Nat×TypeId×List CellD)}{a' cs pre rest us us' xs ys z zs:List CellD}{by_ i j k m n t:Nat}{x y:Operand}{A B B1 B2 C D M N a a1 a2 b b1 b2 c c1 c2 d f p1 p2 q1 q2 r:Rat}{L X:Re}{U e:TypeId}
variable {ty:TypeId}{pos:String}{af:Array Edge}{g:Option (Nat×Bool)}
theorem bt:type_of% @Re.ext:=@Re.ext
theorem dH:type_of% @Rz.zero:=@Rz.zero
theorem il:type_of% @Rz.zc:=@Rz.zc
theorem rF:type_of% @Rat.intCast_neg:=@Rat.intCast_neg
theorem oX:type_of% @Rat.intCast_sub:=@Rat.intCast_sub
theorem GY (ha:Rz 1000000 a) (hb:Rz 1000000 b) (hc:Rz 1000000 c):Ok Tryz.prog 87 [.a ((cR a++cR b++cR c))] [.a ((cR (a*a+b*b*cc b c c)++cR (rB (a*b+b*a) (cc b c c))++cR (rC (a*b+b*a) (cc b c c))))]:=by
 have hbad: ¬Vq b c b c:=fun h=>h.2.2 rfl
 refine ca Tryz.func87 rfl<|ac rfl (MT ha hb hc ha hb hc hbad) ?_
 exact ah (aV dh rfl ae)
def AP (a1 b1 a2 b2 c p1 q1 p2 q2 r:Rat):Int:=if ug a1 b1 (zc b1 c) p1 q1 (zc q1 r)≠0 then ug a1 b1 (zc b1 c) p1 q1 (zc q1 r) else ug a2 b2 (zc b2 c) p2 q2 (zc q2 r)
theorem TM (h:(ug a1 b1 (zc b1 c) p1 q1 (zc q1 r) !=0)=true):AP a1 b1 a2 b2 c p1 q1 p2 q2 r=ug a1 b1 (zc b1 c) p1 q1 (zc q1 r):=by unfold AP;rw[if_pos (by simpa using h)]
theorem Tz (h:(ug a1 b1 (zc b1 c) p1 q1 (zc q1 r) !=0)=false):AP a1 b1 a2 b2 c p1 q1 p2 q2 r=ug a2 b2 (zc b2 c) p2 q2 (zc q2 r):=by unfold AP;rw[if_neg (by simpa using h)]
def cD (x y:Re):Prop:=0≤aS (y-x)
theorem eo {x y z:Re}(h:cD x y) (g:cD y z):cD x z:=by
 unfold cD at*
 have e:z-x=(z-y)+(y-x):=bt fun k=>by simp only[aG,aU];grind
 rw[e];exact p9 g h
theorem of_le {p q:Rat}(h:p≤q):cD (Re.of p) (Re.of q):=by
 unfold cD
 rw[xO,cO]
 unfold aJ
 grind
theorem kZ {x y:Re}(h: ∀k,x.s k=y.s k) (g:0≤aS x):0≤aS y:=by rw[←bt h];exact g
def uG (lo hi:Int) (x:Re):Prop:=cD (Re.of (lo:Rat)) (Re.of 65536*x)∧cD (Re.of 65536*x) (Re.of (hi:Rat))
theorem fl {x y u v:Re}(h:cD x y) (g:cD u v):cD (x+u) (y+v):=by
 exact kZ (fun k=>by simp only[aG,aU];grind) (p9 h g)
theorem Vn (y:Rat):((y.num.fdiv (y.den:Int):Int):Rat)≤y:=by
 have hd:=den_pos y
 have h1:=uo y
 have hp:(0:Rat)<((y.den:Int):Rat):=tv.2 hd
 refine qj hp ?_
 rw[h1,←fZ]
 refine fH.2 ?_
 rw[pv _ (by omega),sG]
 have:=rL y.num (y.den:Int)
 have:=pu y.num (show(y.den:Int)≠0 by omega)
 omega
theorem Id (a:Rat):uG (jB a) (jk a) (Re.of a):=by
 have h1:=Vn (a*((65536:Int):Rat))
 have h2:=Vn (-(a*((65536:Int):Rat)))
 refine⟨?_,?_⟩
 ·rw[gZ]
  refine of_le ?_
  unfold jB
  grind
 ·rw[gZ]
  refine of_le ?_
  unfold jk
  grind
theorem HB (h:jj a=true):uG (gL a) (gH a) (Re.of a):=by
 unfold gL gH;rw[h,if_pos rfl,if_pos rfl];exact Id a
theorem qz {p q:Re}(_hp:0≤aS p) (hq:0≤aS q) (h:0≤aS (q*q-p*p)):cD p q:=by
 unfold cD
 rcases bL (q-p) with a|a|a
 ·omega
 ·omega
 ·exfalso
  have h1:0<aS (p-q):=by
   have e:p-q= -(q-p):=bt fun k=>by simp only[aG,bE];grind
   rw[e,cm,a];decide
  have h2:0<aS (p+q):=by
   have e:p+q=(p-q)+(q+q):=bt fun k=>by simp only[aG,aU];grind
   rw[e];exact BA h1 (p9 hq hq)
  have h3:aS ((q-p)*(p+q))=aS (q*q-p*p):=congrArg aS (bt fun k=>by simp only[aG,aU,aT];grind)
  rw[bJ,a] at h3
  omega
theorem wm {n:Int}(h:0≤n):0≤aS (Re.of (n:Rat)):=by
 have:=of_le (Rat.intCast_nonneg.2 h)
 refine kZ (fun k=>?_) this
 simp only[aG,bi];grind
theorem gg {p q:Rat}(h:cD (Re.of p) (Re.of q)):p≤q:=by
 unfold cD at h
 rw[xO,cO] at h
 unfold aJ at h
 grind
theorem Ky (m:Rat):0≤aS (Re.of 65536*Re.rt m):=by
 have h1:=xd m
 have h2:aS (Re.of 65536)=1:=by rw[cO];decide+kernel
 rw[bJ,h2];omega
theorem KB {m:Rat}(h:0≤m) (q:Rat):aS (Re.of 65536*Re.rt m*(Re.of 65536*Re.rt m)-Re.of q)=aJ (65536*65536*m) q:=by
 rw[←qb,←cO]
 refine dP ?_
 have e:Re.of 65536*Re.rt m*(Re.of 65536*Re.rt m)-Re.of q-Re.of (65536*65536*m-q)=Re.of (65536*65536)*(Re.rt m*Re.rt m-Re.of m):=bt fun k=>by
  simp only[aG,aT,bi];grind
 rw[e,bJ,ow h,pD]
theorem kO {x y:Rat}(h:y≤x):0≤aJ x y:=by unfold aJ;rw[if_neg (by grind)];split<;>omega
theorem BR {x y:Rat}(h:x≤y):aJ x y≤0:=by
 unfold aJ
 split
 ·omega
 ·rw[if_neg (by grind)];omega
theorem Ry {m:Rat}(hm:0≤m) (h:uG lo hi (Re.of m)):uG (p8 lo) (lv hi) (Re.rt m):=by
 obtain⟨h1,h2⟩:=h
 rw[gZ] at h1 h2
 have g1:=gg h1
 have g2:=gg h2
 have hq:(0:Rat)≤65536*m:=by grind
 refine⟨?_,?_⟩
 ·refine qz (wm (eP _)) (Ky m) ?_
  rw[gZ,KB hm]
  refine kO ?_
  have h3:=ro (x:=max lo 0*65536) (by omega)
  have h4:((bV (max lo 0*65536)*bV (max lo 0*65536):Int):Rat)≤((max lo 0*65536:Int):Rat):=fH.2 h3
  have h5:((max lo 0:Int):Rat)≤65536*m:=by
   by_cases hl:0≤lo
   ·grind
   ·rw[show max lo 0=0 from by omega];simpa using hq
  unfold p8
  grind
 ·refine qz (Ky m) (wm ?_) ?_
  ·unfold lv;have:=eP (hi*65536);split<;>omega
  have h3:0≤ -aS (Re.of 65536*Re.rt m*(Re.of 65536*Re.rt m)-Re.of (((lv hi:Int):Rat)*((lv hi:Int):Rat))):=by
   rw[KB hm]
   have hh:(0:Int)≤hi:=by
    have:(0:Rat)≤(hi:Rat):=by grind
    exact Rat.intCast_nonneg.1 this
   have h4:hi*65536≤lv hi*lv hi:=by
    unfold lv
    split
    ·rename_i hs
     unfold Dg at hs
     grind
    ·have:=wx (x:=hi*65536) (by omega)
     omega
   have h5:((hi*65536:Int):Rat)≤((lv hi*lv hi:Int):Rat):=fH.2 h4
   have:=BR (x:=65536*65536*m) (y:=((lv hi:Int):Rat)*((lv hi:Int):Rat)) (by grind)
   omega
  rw[←cm] at h3
  refine kZ (fun k=>?_) h3
  simp only[bE,aG,aT,bi];grind
theorem JJ {k u v U:Re}(h1:0≤aS (k*u-L)) (h2:0≤aS (k*v-L)) (g1:cD u U) (g2:cD U v):0≤aS (k*U-L):=by
 unfold cD at*
 have e:(v-u)*(k*U-L)=(v-U)*(k*u-L)+(U-u)*(k*v-L):=bt fun j=>by simp only[aG,aT,aU];grind
 have hr:0≤aS ((v-U)*(k*u-L)+(U-u)*(k*v-L)):=by
  refine p9 ?_ ?_
  ·rw[bJ];exact f5 g2 h1
  ·rw[bJ];exact f5 g1 h2
 rw[←e,bJ] at hr
 have e2:aS (v-u)=aS ((v-U)+(U-u)):=congrArg aS (bt fun j=>by simp only[aG,aU];grind)
 rcases bL (v-u) with a|a|a
 ·grind
 ·rcases bL (U-u) with b|b|b
  ·have:=BA (x:=U-u) (y:=v-U) (by omega) g2
   rw[KX] at this
   omega
  ·have e3:k*U-L=(k*u-L)+k*(U-u):=bt fun j=>by simp only[aG,aU,aT];grind
   rw[e3,dO _ (by rw[bJ,b,pD])]
   grind
  grind
 ·have:=p9 g2 g1
  omega
theorem Om {x y u v U:Re}(h1:0≤aS (x*u-L)) (h2:0≤aS (x*v-L)) (h3:0≤aS (y*u-L)) (h4:0≤aS (y*v-L)) (g1:cD x X) (g2:cD X y) (g3:cD u U) (g4:cD U v):0≤aS (X*U-L):=by
 have a:=JJ h1 h2 g3 g4
 have b:=JJ h3 h4 g3 g4
 rw[wq x U] at a
 rw[wq y U] at b
 have:=JJ a b g1 g2
 rw[wq U X] at this
 grind
theorem Va (a b:Int):mO a b*65536≤a*b∧a*b≤mN a b*65536:=by
 have e:a*b=if (!(decide (a<0)==decide (b<0)))=true then-Ns a b else Ns a b:=by
  unfold Ns
  by_cases ha:a<0<;>by_cases hb:b<0
  ·grind
  ·grind
  ·grind
  grind
 rw[e]
 unfold mO mN
 generalize Ns a b=p
 have hu:p≤Dj p*65536:=by unfold Dj;split<;>omega
 grind
theorem Ri {x y:Int}{U:Re}(h:uG x y X) (g:uG u v U):uG (Do x y u v 4) (Df x y u v 4) (X*U):=by
 have lo: ∀a b:Int,Do x y u v 4≤mO a b→0≤aS (Re.of (a:Rat)*Re.of (b:Rat)-Re.of ((Do x y u v 4*65536:Int):Rat)):=by
  intro a b hl
  rw[gZ]
  refine of_le ?_
  rw[←fZ]
  exact fH.2 (by have:=(Va a b).1;omega)
 have hi: ∀a b:Int,mN a b≤Df x y u v 4→0≤aS (-Re.of (a:Rat)*Re.of (b:Rat)-Re.of (-((Df x y u v 4*65536:Int):Rat))):=by
  intro a b hl
  rw[Ox,gZ]
  refine of_le ?_
  have h1:((a*b:Int):Rat)≤((Df x y u v 4*65536:Int):Rat):=fH.2 (by have:=(Va a b).2;omega)
  grind
 have hlo:Do x y u v 4=min (min (min (min 2305843009213693952 (mO x u)) (mO x v)) (mO y u)) (mO y v):=rfl
 have hhi:Df x y u v 4=max (max (max (max (-2305843009213693952) (mN x u)) (mN x v)) (mN y u)) (mN y v):=rfl
 have e65:((65536:Int):Rat)=65536:=rfl
 have p65:aS (Re.of 65536)=1:=by rw[cO];decide+kernel
 refine⟨?_,?_⟩
 ·have hb:=Om (lo x u (by omega)) (lo x v (by omega)) (lo y u (by omega)) (lo y v (by omega)) h.1 h.2 g.1 g.2
  have e:aS (Re.of 65536*(Re.of 65536*(X*U)-Re.of ((Do x y u v 4:Int):Rat)))=aS (Re.of 65536*X*(Re.of 65536*U)-Re.of ((Do x y u v 4*65536:Int):Rat)):=congrArg aS (bt fun k=>by
   simp only[aG,aT,bi,fZ,e65];grind)
  rw[←e,bJ,p65,pt] at hb
  exact hb
 ·have n1:cD (-Re.of (y:Rat)) (-(Re.of 65536*X)):=kZ (fun k=>by simp only[aG,bE];grind) h.2
  have n2:cD (-(Re.of 65536*X)) (-Re.of (x:Rat)):=kZ (fun k=>by simp only[aG,bE];grind) h.1
  have hb:=Om (hi y u (by omega)) (hi y v (by omega)) (hi x u (by omega)) (hi x v (by omega)) n1 n2 g.1 g.2
  have e:aS (Re.of 65536*(Re.of ((Df x y u v 4:Int):Rat)-Re.of 65536*(X*U)))=aS (-(Re.of 65536*X)*(Re.of 65536*U)-Re.of (-((Df x y u v 4*65536:Int):Rat))):=congrArg aS (bt fun k=>by
   simp only[aG,aT,bi,bE,fZ,e65];grind)
  rw[←e,bJ,p65,pt] at hb
  exact hb
theorem MH {x y:Int}{U:Re}(h:uG x y X) (g:uG u v U) (hk:zl x y u v 4=true):uG (pL x y u v) (pH x y u v) (X*U):=by
 unfold pL pH;rw[hk,if_pos rfl,if_pos rfl];exact Ri h g
theorem NA {x y:Int}{U:Re}(h:uG x y X) (g:uG u v U):uG (x+u) (y+v) (X+U):=by
 have a:=fl h.1 g.1
 have b:=fl h.2 g.2
 refine⟨kZ (fun k=>?_) a,kZ (fun k=>?_) b⟩
 ·simp only[aG,aU,aT,bi,jw];grind
 ·simp only[aG,aU,aT,bi,jw];grind
theorem Ni {x y:Int}{U:Re}(h:uG x y X) (g:uG u v U) (hk:wS (x+u) (y+v)=true):uG (aL x y u v) (aH x y u v) (X+U):=by
 unfold aL aH;rw[hk,if_pos rfl,if_pos rfl];exact NA h g
theorem UC (X:Re):aS (Re.of 65536*X)=aS X:=by
 have p65:aS (Re.of 65536)=1:=by rw[cO];decide+kernel
 rw[bJ,p65,pt]
theorem CF {n:Int}(h:0<n):0<aS (Re.of (n:Rat)):=by
 rw[cO]
 have h1:(0:Rat)<(n:Rat):=tv.2 h
 unfold aJ
 grind
theorem VX (h:uG lo hi X) (hl:0<lo):aS X=1:=by
 have h1:=BA (CF hl) h.1
 have e:aS (Re.of (lo:Rat)+(Re.of 65536*X-Re.of (lo:Rat)))=aS (Re.of 65536*X):=congrArg aS (bt fun k=>by simp only[aG,aU];grind)
 rw[e,UC] at h1
 have:=bL X
 omega
theorem V1 (h:uG lo hi X) (hl:hi<0):aS X= -1:=by
 have h0:0<aS (-Re.of (hi:Rat)):=by
  rw[Ox,←rF];exact CF (by omega)
 have h1:=BA h0 h.2
 have e:aS (-Re.of (hi:Rat)+(Re.of (hi:Rat)-Re.of 65536*X))=aS (-(Re.of 65536*X)):=congrArg aS (bt fun k=>by simp only[aG,aU,bE];grind)
 rw[e,cm,UC] at h1
 have:=bL X
 omega
theorem SF (h:uG 0 0 X):aS X=0:=by
 have h1:=h.1
 have h2:=h.2
 unfold cD at h1 h2
 have e1:aS (Re.of 65536*X-Re.of ((0:Int):Rat))=aS (Re.of 65536*X):=congrArg aS (bt fun k=>by simp only[aG,bi];grind)
 have e2:aS (Re.of ((0:Int):Rat)-Re.of 65536*X)=aS (-(Re.of 65536*X)):=congrArg aS (bt fun k=>by simp only[aG,bi,bE];grind)
 rw[e1,UC] at h1
 rw[e2,cm,UC] at h2
 omega
theorem Ks (h:uG lo hi X) (hs:Mz lo hi=true):Md lo hi=aS X:=by
 unfold Mz at hs
 simp only[ss,decide_eq_true_eq,dN,beq_iff_eq] at hs
 unfold Md
 by_cases h1:lo>0
 ·rw[if_pos h1,VX h h1]
 ·rw[if_neg h1]
  by_cases h2:hi<0
  ·rw[if_pos h2,V1 h h2]
  ·rw[if_neg h2]
   rcases hs with hs|hs|⟨hs,hs'⟩
   ·omega
   ·omega
   ·subst hs hs'
    exact(SF h).symm
theorem SC (hM:0≤M) (hN:0≤N) (h:RP A B C D M N=true):Vu A B C D M N=aS (ms A B C D M N):=by
 unfold RP at h
 rw[dN] at h
 obtain⟨h3,hs⟩:=h
 rw[(IX h3).1]
 unfold Ku WH YY at h3
 simp only[dN] at h3
 obtain⟨⟨⟨k1,k2⟩,k3,k4,k5,k6,k7,k8,k9⟩,k10,k11,k12,k13⟩:=h3
 have im:=Ry hM (HB k1)
 have in_:=Ry hN (HB k2)
 have ib:uG (Vw B M) (Vb B M) _:=MH (HB k3) im k4
 have ic:uG (Vw C N) (Vb C N) _:=MH (HB k5) in_ k6
 have imn:uG (Tp M N) (Um M N) _:=MH im in_ k8
 have id':uG (qdL D M N) (qdH D M N) _:=MH (HB k7) imn k9
 have iab:uG (RY A B M) (TE A B M) _:=Ni (HB k10) ib k11
 have icd:uG (SK C D M N) (S1 C D M N) _:=Ni ic id' k12
 have is':uG (qsL A B C D M N) (Y9 A B C D M N) _:=Ni iab icd k13
 rw[Ks is' hs]
 refine congrArg aS (bt fun k=>?_)
 unfold ms aC
 simp only[aU,aT,bi];grind
theorem Sd (hM:0≤M) (hN:0≤N):C4 A B C D M N=aS (ms A B C D M N):=by
 unfold C4
 rw[if_neg (by rintro(h|h)<;>grind)]
 split
 ·rename_i h;exact SC hM hN h
 ·exact Hn hM hN
theorem J6 (h:ei a b c=true):uG (eB a b c) (eF a b c) (aC a b c):=by
 have h0:=h
 unfold ei at h
 rw[dN] at h
 obtain⟨h1,h2⟩:=h
 cases hb:(aJ b 0==0) with
 |true=>
  obtain⟨e1,e2,_⟩:=abv (c:=c) h1 hb
  have hb0:b=0:=qT hb
  have:=Id a
  have e:aC a 0 c=Re.of a:=bt fun k=>by unfold aC;simp only[aU,aT,bi];grind
  grind
 |false=>
  rw[hb,Bool.false_or] at h2
  unfold Tj at h2
  simp only[dN,qf] at h2
  obtain⟨g1,g2,g3,g4,g5⟩:=h2
  have hc:0≤c:=Rat.not_lt.1 (Db g3)
  have ir:=Ry hc (Id c)
  have im:=Ri (Id b) ir
  have:=NA (Id a) im
  unfold eB eF
  rw[h0,if_pos rfl,if_pos rfl,hb,if_neg (by decide),if_neg (by decide)]
  exact this
theorem Ut {e:Rat}(h:G4 (ei a b c) (ei d e f) (eB a b c) (eF a b c) (eB d e f) (eF d e f)=true):
 Jb (ei a b c) (ei d e f) (eB a b c) (eF a b c) (eB d e f) (eF d e f)=aS (aC a b c-aC d e f):=by
 unfold G4 at h
 simp only[dN,ss,decide_eq_true_eq] at h
 obtain⟨⟨k1,k2⟩,hs⟩:=h
 have i1:=J6 k1
 have i2:=J6 k2
 have i3:uG (eB a b c-eF d e f) (eF a b c-eB d e f) (aC a b c-aC d e f):=by
  have n:=fl i1.1 (kZ (y:= -(Re.of 65536*aC d e f)- -Re.of ((eF d e f:Int):Rat)) (fun k=>by simp only[aG,bE];grind) i2.2)
  have m:=fl i1.2 (kZ (y:= -Re.of ((eB d e f:Int):Rat)- -(Re.of 65536*aC d e f)) (fun k=>by simp only[aG,bE];grind) i2.1)
  refine⟨kZ (fun k=>?_) n,kZ (fun k=>?_) m⟩
  ·simp only[aG,aU,aT,bi,bE,oX];grind
  ·simp only[aG,aU,aT,bi,bE,oX];grind
 unfold Jb
 rw[k1,k2,Bool.and_self,if_pos rfl]
 by_cases h1:eF a b c<eB d e f
 ·rw[if_pos (decide_eq_true h1),V1 i3 (by omega)]
 ·rw[if_neg (by simpa using h1)]
  rcases hs with hs|hs
  ·omega
  ·rw[if_pos (decide_eq_true hs),VX i3 (by omega)]
theorem KU {e:Rat}(hc:0≤c) (hf:0≤f):ug a b c d e f=aS (aC a b c-aC d e f):=by
 unfold ug
 split
 ·rename_i h
  have hb:b=0:=qT h.1
  have he:e=0:=qT h.2
  rw[←qb,←cO]
  refine congrArg aS (bt fun k=>?_)
  unfold aC;simp only[aG,aU,aT,bi];grind
 ·split
  ·rename_i h;exact Ut h
  ·split
   ·rename_i h
    have e1:c=f:=ng.1 (by simpa using h)
    rw[iX hc]
    refine congrArg aS (bt fun k=>?_)
    unfold aC;simp only[aG,aU,aT,bi];grind
   ·rw[Sd hc hf]
    refine congrArg aS (bt fun k=>?_)
    unfold ms aC;simp only[aG,aU,aT,bi];grind
theorem xc (ha1:Rz 2000000 a1) (hb1:Rz 160000 b1) (ha2:Rz 2000000 a2) (hb2:Rz 160000 b2) (hc:Rz 160000 c) (hp1:Rz 2000000 p1) (hq1:Rz 160000 q1) (hp2:Rz 2000000 p2) (hq2:Rz 160000 q2) (hr:Rz 160000 r) (s1:Rz 160000 (a1-p1)) (s2:Rz 160000 (a2-p2)):Ok Tryz.prog 51 [.a ((cR a1++cR b1++cR a2++cR b2++cR c)),.a ((cR p1++cR q1++cR p2++cR q2++cR r))] [.c (.i .i64 (AP a1 b1 a2 b2 c p1 q1 p2 q2 r))]:=by
 have kb1:Rz 160000 (zc b1 c):=il hc (by decide)
 have kb2:Rz 160000 (zc b2 c):=il hc (by decide)
 have kq1:Rz 160000 (zc q1 r):=il hr (by decide)
 have kq2:Rz 160000 (zc q2 r):=il hr (by decide)
 refine ca Tryz.func51 rfl<|cT 6 [] ?_
 refine aK rfl (p6) ?_
 refine aK rfl (p6) ?_
 refine aK rfl (CH (by assumption) (by assumption) (by assumption) (by assumption) (by assumption) (by assumption) (by assumption)) ?_
 refine dD rfl (fun hc1=>?_) (fun hc1=>?_)
 ·refine ah ?_
  rw[TM hc1]
  exact az ae
 ·refine cT 6 [] ?_
  refine aK rfl (I1) ?_
  refine aK rfl (I1) ?_
  refine aK rfl (CH (by assumption) (by assumption) (by assumption) (by assumption) (by assumption) (by assumption) (by assumption))<|ah ?_
  rw[Tz hc1]
  exact az ae
theorem G1 (ha1:Rz 2000000 a1) (hb1:Rz 160000 b1) (ha2:Rz 2000000 a2) (hb2:Rz 160000 b2) (hc:Rz 160000 c) (hp1:Rz 2000000 p1) (hq1:Rz 160000 q1) (hp2:Rz 2000000 p2) (hq2:Rz 160000 q2) (hr:Rz 160000 r) (s1:Rz 160000 (a1-p1)) (s2:Rz 160000 (a2-p2)):Ok Tryz.prog 220 [.a ((cR a1++cR b1++cR a2++cR b2++cR c)),.a ((cR p1++cR q1++cR p2++cR q2++cR r))] [.c (.b (AP a1 b1 a2 b2 c p1 q1 p2 q2 r==0))]:=by
 refine ca Tryz.func220 rfl ?_
 refine ac rfl (xc (by assumption) (by assumption) (by assumption) (by assumption) (by assumption) (by assumption) (by assumption) (by assumption) (by assumption) (by assumption) (by assumption) (by assumption)) ?_
 exact ah (az ae)
theorem yP {x:Int}(h:0<x):0<bV x:=by
 have h1:=wx (x:=x) (by omega)
 have h2:=eP x
 by_cases e:bV x=0
 ·rw[e] at h1;omega
 ·omega
theorem Rz.rt (h:Rz k c):Rz k (rt c):=Rz.of h.n.isq h.d.isq (by have:=yP (den_pos c);omega)
theorem Cy (h:jd c=true):cQ (if jd c then bV c.num else 0) (if jd c then bV (c.den:Int) else 0)=cR (rt c):=by
 have:=RW h
 unfold dQ dR at this
 injection this
def zR:List CellD:=[.b false,.s 0 [],.b false,.s 0 [],.b false,.s 0 [],.b false,.s 0 [],.b false,.s 0 [],.b false,.s 0 []]
theorem xB (ha:Rz 1000000 a) (hb:Rz 1000000 b) (hc:Rz 1000000 c) (h0: ¬c<0) (hs:jd c=true):Ok Tryz.prog 92 [dR a,dR b,dR c] [.a ((cR (a+b*rt c)++cR 0++cR 0)),.c (.i .i64 0)]:=by
 have ka:Rz 6000000 a:=ha.m_
 have kb:Rz 6000000 b:=hb.m_
 have kc:Rz 6000000 c:=hc.m_
 have kt:Rz 1000000 (rt c):=hc.rt
 refine ca Tryz.func92 rfl<|ac rfl (dj) ?_
 refine dD rfl (fun hc1=>?_) (fun hc1=>?_)
 ·exact absurd (FV hc1) h0
 ·refine ac rfl (sT (aQ hc)) ?_
  refine DW.mk<|aI rfl (fun hc2=>?_) (fun hc2=>?_)
  ·refine lj (σ':=⟨30,[(3,.p 3 0),(4,.p 4 0),(6,.p 6 0),(8,.p 8 0)],[(3,38,cR a),(4,38,cR b),(6,129,zR),(8,38,cR (rt c))]⟩) (ao ⟨rfl,rfl,rfl,rfl,trivial⟩ ⟨rfl,rfl,rfl,by rw[←Cy hs];rfl,trivial⟩ rfl)<|no ?_
   refine cT 6 [] ?_
   refine aK rfl (ck (aQ hb) (Ix)) ?_
   refine aK rfl (cn (aQ ha) (aQ (aO hb (by assumption)))) ?_
   refine aK rfl (fh) ?_
   exact ah (aV dh rfl (az ae))
  ·exact absurd hs (by rw[hc2];decide)
theorem xv (ha:Rz 1000000 a) (hb:Rz 1000000 b) (hc:Rz 1000000 c) (h0: ¬c<0) (hs:jd c=false):Ok Tryz.prog 92 [dR a,dR b,dR c] [.a ((cR a++cR (rB b c)++cR (rC b c))),.c (.i .i64 0)]:=by
 have ka:Rz 6000000 a:=ha.m_
 have kb:Rz 6000000 b:=hb.m_
 have kc:Rz 6000000 c:=hc.m_
 have kt:Rz 1000000 (rt c):=hc.rt
 refine ca Tryz.func92 rfl<|ac rfl (dj) ?_
 refine dD rfl (fun hc1=>?_) (fun hc1=>?_)
 ·exact absurd (FV hc1) h0
 ·refine ac rfl (sT (aQ hc)) ?_
  refine dD rfl (fun hc2=>?_) (fun hc2=>?_)
  ·exact absurd hc2 (by rw[hs];decide)
  ·refine ac rfl (tY) ?_
   exact ah (aV dh rfl (az ae))
theorem xl (hc1:Rz 6000000 c1) (hc2:Rz 6000000 c2) (hbad: ¬Vq b1 c1 b2 c2):Ok Tryz.prog 129 [.a ((cR a1++cR b1++cR c1)),.a ((cR a2++cR b2++cR c2))] [.a ((cR a1++cR b1++cR a2++cR b2++cR (Mm b1 b2 (cc b1 c1 c2)))),.c (.i .i64 0)]:=by
 have kc1:=hc1
 have kc2:=hc2
 refine eH Tryz.func129 39 [.cell 4 47,.tmp 5] rfl<|aa<|ag<|aa<|ag ?_
 refine aa<|aa<|ag ?_
 refine ac rfl (cH) ?_
 refine aI rfl (fun hc1=>?_) (fun hc1=>?_)
 ·refine ag ?_
  refine aa<|bg<|bK 1 ?_
  refine aR (js (cR a1) bF rfl) ?_
  refine bK 1 ?_
  refine aR (js (cR b1) bF rfl)<|bK 1 ?_
  refine aR (js (cR a2) bF rfl)<|bK 1 ?_
  refine aR (js (cR b2) bF rfl)<|bK 1 ?_
  refine aR (aM (us:=(cR a1++cR b1++cR a2++cR b2++cR c2)) Dn yY rfl rfl rfl) ?_
  refine aR (cj rfl (tI))<|ex<|aZ ?_
  rw[Fv (qT hc1)]
  exact ah (aV bv rfl (az ae))
 ·refine aa<|ag ?_
  refine ac rfl (cH) ?_
  refine jT (bz rfl) (fun c2 hb2=>?_)
  cases c2
  ·refine a8 rfl<|aA<|aa<|bg<|bK 1<|aR (js (cR a1) bF rfl)<|bK 1<|aR (js (cR b1) bF rfl)<|bK 1<|aR (js (cR a2) bF rfl)<|bK 1<|aR (js (cR b2) bF rfl)<|bK 1<|aR (aM (us:=(cR a1++cR b1++cR a2++cR b2++cR c1)) Dn yY rfl rfl rfl) ?_
   refine aR (cj rfl (tI))<|ex<|aZ ?_
   rw[Ap (pf hc1)]
   exact ah (aV bv rfl (az ae))
  ·refine ac rfl (lF (aQ kc1) (aQ kc2)) ?_
   refine aI rfl (fun hc3=>?_) (fun hc3=>?_)
   ·exact absurd ⟨pf hc1,HJ hb2,HJ hc3⟩ hbad
   ·refine aA<|aa<|bg<|bK 1<|aR (js (cR a1) bF rfl)<|bK 1<|aR (js (cR b1) bF rfl)<|bK 1<|aR (js (cR a2) bF rfl)<|bK 1<|aR (js (cR b2) bF rfl)<|bK 1<|aR (aM (us:=(cR a1++cR b1++cR a2++cR b2++cR c1)) Dn yY rfl rfl rfl) ?_
    refine aR (cj rfl (tI))<|ex<|aZ ?_
    rw[Ap (pf hc1)]
    exact ah (aV bv rfl (az ae))
theorem Ja (hc1:Rz 6000000 c1) (hc2:Rz 6000000 c2) (hbad: ¬Vq b1 c1 b2 c2):Ok Tryz.prog 270 [.a ((cR a1++cR b1++cR c1)),.a ((cR a2++cR b2++cR c2))] [.a ((cR a1++cR b1++cR a2++cR b2++cR (Mm b1 b2 (cc b1 c1 c2)))),.c (.i .i64 0)]:=by
 have kc1:=hc1
 have kc2:=hc2
 refine ca Tryz.func270 rfl<|ac rfl (dj) ?_
 refine jT (bz rfl) (fun c1 hb1=>?_)
 cases c1
 ·refine ar (bz rfl)<|qQ rfl<|ac rfl (dj) ?_
  refine dD rfl (fun hc2=>?_) (fun hc2=>?_)
  ·refine ac rfl (kX) ?_
   refine ah ?_
   rw[Fv (qT hc2)]
   exact aV bv rfl (az ae)
  ·refine ac rfl (kX) ?_
   refine ah ?_
   rw[Ap (pf hc2)]
   exact aV bv rfl (az ae)
 ·refine ac rfl (dj) ?_
  refine jT (bz rfl) (fun c3 hb3=>?_)
  cases c3
  ·refine qQ rfl<|ac rfl (dj) ?_
   refine dD rfl (fun hc4=>?_) (fun hc4=>?_)
   ·refine ac rfl (kX) ?_
    refine ah ?_
    rw[Fv (qT hc4)]
    exact aV bv rfl (az ae)
   ·refine ac rfl (kX) ?_
    refine ah ?_
    rw[Ap (pf hc4)]
    exact aV bv rfl (az ae)
  ·refine ac rfl (jF (aQ kc1) (aQ kc2)) ?_
   refine dD rfl (fun hc5=>?_) (fun hc5=>?_)
   ·exact absurd ⟨HJ hb1,HJ hb3,HJ hc5⟩ hbad
   ·refine ac rfl (dj) ?_
    refine dD rfl (fun hc6=>?_) (fun hc6=>?_)
    ·refine ac rfl (kX) ?_
     refine ah ?_
     rw[Fv (qT hc6)]
     exact aV bv rfl (az ae)
    ·refine ac rfl (kX) ?_
     refine ah ?_
     rw[Ap (pf hc6)]
     exact aV bv rfl (az ae)
theorem nr {x:Rat}(h:(decide (-1000000000<x.num)&&(decide (x.num<1000000000)&&(decide ((x.den:Int)<1000000000)&&decide (1≤k))))=true):Rz k x:=by
 simp only[dN,decide_eq_true_eq] at h
 have h1:=mK h.2.2.2
 have e:pw 1=1000000000:=by decide+kernel
 have hp:=den_pos x
 exact⟨⟨by omega,by omega⟩,⟨by omega,by omega⟩⟩
theorem C9 (h:uE b1 b2 c=true):0≤c:=by
 unfold uE at h
 split at h
 ·grind
 grind
theorem li (h:0≤c):0≤zc b c:=by unfold zc;split<;>grind
def wY (a b c:Rat):Re:=aC a b (zc b c)
theorem r6 {p q:Rat}(hc:0≤c) (hr:0≤r):Dp a b c p q r=aS (wY a b c-wY p q r):=nM (li hc) (li hr)
theorem Q9 {p q:Rat}(hc:0≤c) (hr:0≤r):ug a b (zc b c) p q (zc q r)=aS (wY a b c-wY p q r):=KU (li hc) (li hr)
section
variable {a1 b1 a2 b2 c p1 q1 p2 q2 r:Rat}
theorem HU (hc:0≤c) (hr:0≤r):AP a1 b1 a2 b2 c p1 q1 p2 q2 r=sK a1 b1 a2 b2 c p1 q1 p2 q2 r:=by
 unfold AP sK
 rw[Q9 hc hr,Q9 hc hr,r6 hc hr,r6 hc hr]
theorem u6 (x y:Re):aS (y-x)= -aS (x-y):=by
 rw[←cm]
 exact congrArg aS (bt fun k=>by simp only[aG,bE];grind)
theorem sX (x:Re):aS (x-x)=0:=by
 have h:=u6 x x
 omega
theorem I4 (hc:0≤c) (hr:0≤r):sK p1 q1 p2 q2 r a1 b1 a2 b2 c= -sK a1 b1 a2 b2 c p1 q1 p2 q2 r:=by
 unfold sK
 rw[r6 hc hr,r6 hc hr,r6 hr hc,r6 hr hc,u6 (wY a1 b1 c),u6 (wY a2 b2 c)]
 grind
theorem JR (hc:0≤c):sK a1 b1 a2 b2 c a1 b1 a2 b2 c=0:=by
 unfold sK
 rw[r6 hc hc,r6 hc hc,sX,sX];simp
end
theorem Pf (n:Int):Dg (n*n)=true:=by
 have h:bV (n*n)=(n.natAbs:Int):=by
  have e:(n.natAbs:Int)*(n.natAbs:Int)=n*n:=by grind
  refine AN ?_ (by omega) (by omega) ?_
  ·grind
  grind
 unfold Dg
 grind
theorem IF (x:Rat):jd (x*x)=true:=by
 have e:x*x=Rat.divInt (x.num*x.num) ((x.den:Int)*(x.den:Int)):=by
  conv=>lhs;rw[←Rat.num_divInt_den x]
  exact Rat.divInt_mul_divInt _ _
 have hd:=den_pos x
 have hg:Int.gcd (x.num*x.num) ((x.den:Int)*(x.den:Int))=1:=by
  have hr:Nat.Coprime x.num.natAbs x.den:=x.reduced
  show Nat.gcd (x.num*x.num).natAbs ((x.den:Int)*(x.den:Int)).natAbs=1
  rw[sV,sV,xS]
  exact(hr.mul_left hr).mul_right (hr.mul_left hr)
 have hv:vQ (x.num*x.num) ((x.den:Int)*(x.den:Int))=true:=by
  unfold vQ
  rw[hg,decide_eq_true (qP hd hd)];rfl
 obtain⟨h1,h2⟩:=Rb hv
 rw[←e] at h1 h2
 unfold jd
 rw[h1,h2,Pf,Pf];rfl
theorem Oa (hc:0≤c) (hv:b≠0→0<c∧jd c=false):s3 a b c=aS (aC a b c):=by
 rw[←iX hc]
 unfold s3 bo rR
 by_cases hb:b=0
 ·have h0:aJ b 0=0:=ng.2 hb
  rw[if_pos (.inr h0),h0,qk,if_pos (.inl rfl)]
 ·obtain⟨hp,hs⟩:=hv hb
  have h1:aJ c 0=1:=by unfold aJ;rw[if_neg (by grind),if_pos hp]
  have h2:aJ b 0≠0:=fun e=>hb (ng.1 e)
  rw[h1,Int.mul_one]
  by_cases h3:aJ a 0=aJ b 0
  ·grind
  ·have n1: ¬(aJ a 0=aJ b 0∨aJ b 0=0):=by omega
   have n2: ¬(aJ b 0=0∨aJ a 0=aJ b 0):=by omega
   rw[if_neg n1,if_neg n2]
   by_cases h4:aJ a 0=0
   ·grind
   ·rw[if_neg h4,if_neg h4]
    have hn:a*a≠b*b*c:=by
     intro e
     have e2:c=(a/b)*(a/b):=by grind
     rw[e2,IF] at hs
     grind
    have a1:=dZ a 0
    have b1:=dZ b 0
    by_cases h5:0<a*a-b*b*c
    ·have:aJ (a*a) (b*b*c)=1:=by unfold aJ;rw[if_neg (by grind),if_pos (by grind)]
     rw[if_pos h5,this,Int.mul_one]
    ·have:aJ (a*a) (b*b*c)= -1:=by unfold aJ;rw[if_pos (by grind)]
     rw[if_neg h5,this];omega
theorem t9 (a b c:Rat):wY a b c=Re.of a+Re.of b*Re.rt c:=by
 unfold wY aC
 by_cases h:b=0
 ·subst h
  exact bt fun k=>by simp only[aU,aT,bi];grind
 ·rw[pe h]
def Iu (x y b1 b2 c:Rat):Rat:=x*x+y*y+(b1*b1+b2*b2)*c
def IR (x y b1 b2:Rat):Rat:=(x*b1+y*b2)+(x*b1+y*b2)
theorem QE {x y:Rat}(hv:uE b1 b2 c=true) (h:IR x y b1 b2≠0):0<c∧jd c=false:=by
 have hb: ¬(b1=0∧b2=0):=by
  rintro⟨rfl,rfl⟩
  apply h;unfold IR;grind
 unfold uE at hv
 grind
theorem ZL:a*a+b*b*cc b (zc b c) (zc b c)=a*a+b*b*c:=by
 by_cases h:b=0
 ·grind
 ·rw[Ap h,pe h]
theorem Zg (hc:b≠0→c≠0):rB (a*b+b*a) (cc b (zc b c) (zc b c))=a*b+a*b:=by
 unfold rB
 split
 ·rename_i h
  by_cases hb:b=0
  ·grind
  ·rw[Ap hb,pe hb] at h
   rcases h with h|h
   ·grind
   grind
 grind
theorem aaz (hc:b≠0→c≠0):rC (a*b+b*a) (cc b (zc b c) (zc b c))=zc (a*b+a*b) c:=by
 have e:a*b+b*a=a*b+a*b:=by grind
 rw[e]
 unfold rC
 by_cases hb:b=0
 ·subst hb
  rw[if_pos (.inl (by grind)),Fh (by grind)]
 ·rw[Ap hb,pe hb]
  by_cases h:a*b+a*b=0
  ·rw[if_pos (.inl h),Fh h]
  ·rw[if_neg (fun e=>e.elim h (hc hb)),pe h]
theorem Yp: ¬Vq B1 (zc B1 c) B2 (zc B2 c):=by
 rintro⟨h1,h2,h3⟩
 rw[pe h1,pe h2] at h3
 exact h3 rfl
theorem acg (hc:B1+B2≠0→c≠0):rB (B1+B2) (cc B1 (zc B1 c) (zc B2 c))=B1+B2:=by
 unfold rB
 split
 ·rename_i h
  by_cases hs:B1+B2=0
  ·grind
  ·exfalso
   rcases h with h|h
   ·grind
   ·by_cases h1:B1=0
    ·rw[Fv h1] at h
     have h2:B2≠0:=by grind
     rw[pe h2] at h
     grind
    ·rw[Ap h1,pe h1] at h
     exact hc hs h
 ·rfl
theorem acd (hc:B1+B2≠0→c≠0):rC (B1+B2) (cc B1 (zc B1 c) (zc B2 c))=zc (B1+B2) c:=by
 unfold rC
 by_cases hs:B1+B2=0
 ·rw[if_pos (.inl hs),Fh hs]
 ·have e:cc B1 (zc B1 c) (zc B2 c)=c:=by
   by_cases h1:B1=0
   ·rw[Fv h1,pe (fun e=>hs (by grind))]
   ·rw[Ap h1,pe h1]
  rw[e,if_neg (fun e=>e.elim hs (hc hs)),pe hs]
theorem VV (a v:Rat):a+ -v=a-v:=by grind
section
variable {P:Program}{f:FuncId}{ds rs:List D0}{x y z x' y' z':Rat}
theorem wM (h:Ok P f ds (.a (cR x++cR y++cR z)::rs)) (e1:x=x') (e2:y=y') (e3:z=z'):Ok P f ds (.a (cR x'++cR y'++cR z')::rs):=by subst e1 e2 e3;exact h
end
theorem aan (x y b1 b2 c:Rat):(x*x+b1*b1*c)+(y*y+b2*b2*c)=Iu x y b1 b2 c:=by unfold Iu;grind
theorem Pc (x y b1 b2:Rat):(x*b1+x*b1)+(y*b2+y*b2)=IR x y b1 b2:=by unfold IR;grind
theorem aaN (h:uE b1 b2 c=true):(b1≠0→c≠0)∧(b2≠0→c≠0):=by
 have key: ¬(b1=0∧b2=0)→c≠0:=by
  unfold uE at h
  grind
 grind
section
variable {P:Program}{ops:Array Oper}{T:TF}{B:BF}{av:Nat→Prop}{w0:Ent}{w:World}{N:Nat}{β:Nat→Nat}{a:Act}
theorem Rel.ren (h:Rel av w0 N T B β a w) {d:Nat}(hdN:d<N) (hk:B k≠none) (hd:d=k∨B d=none):
 Rel av w0 N (oN k T) (fun l=>if l=d then B k else if l=k then none else B l) (fun l=>if l=d then β k else β l) a w:=by
 have hB: ∀l,(if l=d then B k else if l=k then none else B l)≠none→(l=d∨(l≠d∧l≠k∧B l≠none)):=by grind
 have hne: ∀l,B l≠none→l≠k→l≠d:=by grind
 have hV:(fun b=>av b∨ ∃l,(if l=d then B k else if l=k then none else B l)≠none∧(if l=d then β k else β l)=b)=(fun b=>av b∨ ∃l,B l≠none∧β l=b):=by grind
 have hT: ∀t x,oN k T t=some x→x=.n∨(T t=some x∧jR x≠some k):=by
  intro t x ht
  unfold oN at ht
  grind
 refine⟨h.dfr,h.siz,h.bel,h.avl,h.avE,h.big,fun b hb hK=>?_,?_,?_,?_,?_⟩
 ·have hKd:w0.K≠d:=by have:=h.big;omega
  rcases hB _ hK with e|⟨_,_,e⟩
  ·grind
  ·rw[if_neg hKd];exact h.fix b hb e
 ·intro l m hl hm e
  rcases hB l hl with e1|⟨e1,e2,e3⟩<;>rcases hB m hm with f1|⟨f1,f2,f3⟩
  ·grind
  ·rw[if_pos e1,if_neg f1] at e
   exact absurd (h.inj k m hk f3 e).symm f2
  ·rw[if_neg e1,if_pos f1] at e
   exact absurd (h.inj l k e3 hk e) e2
  ·rw[if_neg e1,if_neg f1] at e
   exact h.inj l m e3 f3 e
 ·intro l hl
  rcases hB l hl with e1|⟨e1,e2,e3⟩
  ·rw[if_pos e1];exact h.own k hk
  ·rw[if_neg e1];exact h.own l e3
 ·intro t x l ht hx
  rcases hT t x ht with rfl|⟨h1,h2⟩
  ·cases hx
  ·have h3:=h.wf t x l h1 hx
   grind
 ·rw[hV]
  refine⟨h.sees.av,?_,?_⟩
  ·intro l U cs hl
   have hl0:(if l=d then B k else if l=k then none else B l)=some (U,cs):=hl
   by_cases e:l=d
   ·rw[if_pos e] at hl0
    rw[if_pos e];exact h.sees.box k U cs hl0
   ·rw[if_neg e] at hl0
    rw[if_neg e]
    by_cases e2:l=k
    ·grind
    ·rw[if_neg e2] at hl0;exact h.sees.box l U cs hl0
  ·intro t x hL ht
   rcases hT t x ht with rfl|⟨h1,h2⟩
   ·unfold oN at ht
    split at ht
    ·rename_i y hy
     obtain⟨v,e,_⟩:=h.sees.tmp t y hL hy
     exact⟨v,e,trivial⟩
    grind
   ·obtain⟨v,e,hr⟩:=h.sees.tmp t x hL h1
    refine⟨v,e,?_⟩
    cases x with
    |p l off=>
     have h3:=h.wf t _ l h1 rfl
     have h4:l≠k:=fun e=>h2 (by rw[e];rfl)
     show v=.pointer (some ⟨if l=d then β k else β l,off,none⟩)
     rw[if_neg (hne l h3 h4)];exact hr
    |o l n c=>
     have h3:=h.wf t _ l h1 rfl
     have h4:l≠k:=fun e=>h2 (by rw[e];rfl)
     show v=.slice (some ⟨if l=d then β k else β l,0,none⟩) n c
     rw[if_neg (hne l h3 h4)];exact hr
    |w l off n c=>
     have h3:=h.wf t _ l h1 rfl
     have h4:l≠k:=fun e=>h2 (by rw[e];rfl)
     show v=.slice (some ⟨if l=d then β k else β l,off,none⟩) n c
     rw[if_neg (hne l h3 h4)];exact hr
    |v d=>exact hr
    |t ds=>exact hr
    |q us=>exact hr
    |u=>exact hr
    |n=>trivial
    |z=>exact hr
    |f n us=>exact hr
    |tn l n c ds=>
     have h3:=h.wf t _ l h1 rfl
     have h4:l≠k:=fun e=>h2 (by rw[e];rfl)
     obtain⟨xs,e,h⟩:=hr
     exact⟨xs,by show v=Value.tuple (Value.slice (some ⟨if l=d then β k else β l,0,none⟩) n c::xs).toArray;rw[if_neg (hne l h3 h4)];exact e,h⟩
theorem A6 (a:Act) (d:Nat) (v v':Value):(a.put (some d) v).put (some d) v'=a.put (some d) v':=by simp[Act.put]
theorem Rv {x:DV}:(⟨N,(t,x)::lK k tm,bx⟩:St).T=fun s=>if some t=some s then some x else oN k (fun s=>aF s tm) s:=by
 funext s
 show aF s ((t,x)::lK k tm)=_
 rw[br,mq]
 by_cases e:t=s
 ·grind
 ·rw[if_neg e,if_neg (by simpa using e)];rfl
theorem Ru {x:TypeId×List CellD}:(⟨N,tm,(t,x)::kj k bx⟩:St).B=fun l=>if some t=some l then some x else if l=k then none else aF l bx:=by
 funext s
 show aF s ((t,x)::kj k bx)=(if some t=some s then some x else if s=k then none else aF s bx)
 rw[br,kI]
 grind
theorem RD {z:Value}(hzl:zs.length=m) (hzr: ∀(V:Nat→Prop) (w:World),RdCs V w z.cells.toList zs) (r:Nat):
 ∃rest:List CellD,rest.length=r*m∧ ∀(V:Nat→Prop) (w:World),RdCs V w (Builtin.zeroCells z.cells r).toList rest:=by
 have hzs:z.cells.size=m:=by have:=(hzr (fun _=>False) default).1;rw[hzl] at this;simpa using this
 have key: ∀(r:Nat) (V:Nat→Prop) (w:World),RdCs V w ((List.range (r*m)).map (fun j=>z.cells[j%z.cells.size]!)) (List.replicate r zs).flatten:=by
  intro r V w
  induction r with
  |zero=>simp;exact uw
  |succ r ih=>
   rw[Nat.succ_mul,List.range_add,o5,List.replicate_succ',List.flatten_append]
   refine qA ih ?_
   have e2:(List.map (fun x=>r*m+x) (List.range m)).map (fun j=>z.cells[j%z.cells.size]!)=z.cells.toList:=by
    apply vh (by simp[hzs])
    intro j h1 h2
    simp at h1
    simp only[List.getElem_map,List.getElem_range,hzs]
    rw[Nat.mul_comm r,Nat.mul_add_mod,rc (by omega),getElem!_pos z.cells j (by omega)]
    simp
   grind
 refine⟨(List.replicate r zs).flatten,?_,fun V w=>?_⟩
 ·simp_all
 ·have:=key r V w
  unfold Builtin.zeroCells
  simpa [hzs] using this
variable {tm:List (Nat×DV)}{bx:List (Nat×TypeId×List CellD)}
theorem ER {c q:Nat}
 (hU:tR P U=some (e,m,by_,zs)) (hx:cE (fun s=>aF s tm) x=some (.o k n c)) (hsc: ∀V β a w,Sees V (iS ops ⟨some t,.call ⟨.builtin .append,#[x,y],#[U,U]⟩,ty,pos,af,g⟩) (fun s=>aF s tm) (fun l=>aF l bx) β a w→ ∃V',RdC V' w (a.eval y) (.s q ys)∧ ∀news,RdCs V' w news ys→RdCs V w news ys) (hb:aF k bx=some (e,cs)) (hcs:cs.length=c*m) (hys:ys.length=q*m) (hm:0<m)
 (hnc:n≤c) (hcm:c≤maxLen) (hbytes:(n+q)*by_≤140737488355328) (h63:n+q≤maxLen) (hpre:cs.take (n*m)=pre) (hd:t=k∨aF t bx=none)
 (hg:gd ops ⟨some t,.call ⟨.builtin .append,#[x,y],#[U,U]⟩,ty,pos,af,g⟩ (fun s=>aF s tm)=some true):
 JM P ops ⟨some t,.call ⟨.builtin .append,#[x,y],#[U,U]⟩,ty,pos,af,g⟩ ⟨N,tm,bx⟩ (fun σ'=> ∃c' rest,n+q≤c'∧c'≤maxLen∧rest.length=(c'-(n+q))*m∧σ'=⟨N,(t,.o t (n+q) c')::lK k tm,(t,e,pre++ys++rest)::kj k bx⟩):=by
 intro av w0 β a w hrel htn
 have hs:=Sees.of hrel.sees (L:=iS ops ⟨some t,.call ⟨.builtin .append,#[x,y],#[U,U]⟩,ty,pos,af,g⟩) (fun _ _=>trivial) (fun _ _ _ h=>h) (fun _ _ h=>h)
 refine⟨et hs hg,?_⟩
 have e1:a.eval x=.slice (some ⟨β k,0,none⟩) n c:=aE hs (x:=x) (by simp[Op.operands,Call.operands]) hx
 obtain⟨V',h2,hconv⟩:=hsc _ _ _ _ hs
 obtain⟨news,hsrc,hrn'⟩:=rW hU h2 hys
 have hrn:=hconv _ hrn'
 obtain⟨hu,i,z,hi,hz,hsz,hby,hzl,hzr⟩:=iZ hU
 obtain⟨hvk,vs,ev,hr⟩:=hs.box k e cs hb
 subst hsz
 have hkn:(aF k bx)≠none:=by rw[hb];simp
 have hle:n*i.size≤cs.length:=by rw[hcs];exact o9 _ hnc
 have hvl:vs.size=c*i.size:=by have:=hr.1;rw[hcs] at this;simpa using this
 have hr2:=hr.take (n*i.size)
 rw[hpre] at hr2
 have hlen:(vs.toList.take (n*i.size)).length=n*i.size:=by
  rw[dE,Array.length_toList,hvl]
  exact ij (o9 _ hnc)
 have ht:t<N:=htn t rfl
 have hnl:news.length=q*i.size:=hsrc.newsLen
 unfold Gives
 by_cases hroom:n+q≤c
 ·--in place
  have hfit:0+n*i.size+0+news.length≤vs.size:=by
   rw[hvl,hnl]
   have:=o9 i.size hroom
   rw[oH] at this;omega
  have hst:=run_storeCells_at P (β k) (0+n*i.size) e news 0 vs w ev hfit hsrc.one
  simp only[gY,r8] at hst
  have hrun:(Builtin.append_ #[U,U] ty #[.slice (some ⟨β k,0,none⟩) n c,a.eval y]).run P w=.ok (.slice (some ⟨β k,0,none⟩) (n+q) c) (w.setRow (β k) (vs.toList.take (n*i.size)++news++vs.toList.drop (n*i.size+news.length)).toArray):=by
   rcases hsrc.kind with⟨e',hk⟩|hk<;>simp[Builtin.append_,run_underlying hu,sizeOf,typeInfo,hi,hsrc.len,hroom,hsrc.cells,Addr.add_lit,hst]
  have hexec:(execOp a.eval ⟨some t,.call ⟨.builtin .append,#[x,y],#[U,U]⟩,ty,pos,af,g⟩).run P w=.ok (.value (.slice (some ⟨β k,0,none⟩) (n+q) c)) (w.setRow (β k) (vs.toList.take (n*i.size)++news++vs.toList.drop (n*i.size+news.length)).toArray):=by
   simp only[execOp,resolve,invoke,builtin,eQ,fX,fe,qC,oU,qM,e1]
   rw[hrun]
   rfl
  rw[hexec]
  have hrest:((cs.drop (n*i.size+news.length))).length=(c-(n+q))*i.size:=by
   rw[fO,hcs,hnl,←oH,←Nat.sub_mul]
  refine⟨⟨N,(t,.o t (n+q) c)::lK k tm,(t,e,pre++ys++cs.drop (n*i.size+news.length))::kj k bx⟩,fun l=>if l=t then β k else β l,⟨c,_,hroom,hcm,hrest,rfl⟩,rfl,?_⟩
  have hren:=hrel.ren (k:=k) (d:=t) (htn t rfl) hkn hd
  have hstore:=hren.store (k:=t) (U:=e) (cs0:=cs) (cs:=pre++ys++cs.drop (n*i.size+news.length)) (vs:=(vs.toList.take (n*i.size)++news++vs.toList.drop (n*i.size+news.length)).toArray)
   (w':=w.setRow (β k) (vs.toList.take (n*i.size)++news++vs.toList.drop (n*i.size+news.length)).toArray) (by rw[if_pos rfl];exact hb) (by rw[if_pos rfl];exact oY ev) rfl rfl rfl ?_
  ·have hval:=hstore.value (d:=some t) (x:=.o t (n+q) c) (v:=.slice (some ⟨β k,0,none⟩) (n+q) c) (by intro s hs;injection hs with hs;subst hs;exact ht) (eL _ _) (by show _=Value.slice (some ⟨if t=t then β k else β t,0,none⟩) _ _;rw[if_pos rfl]) (by intro l hl;injection hl with hl;subst hl;rw[if_pos rfl];simp)
   refine hval.congr (fun s=>?_) (fun l=>?_)
   ·rw[Rv];rfl
   ·rw[Ru]
    show(if some t=some l then _ else _)=(if t=l then _ else if l=t then _ else _)
    by_cases e:t=l
    ·rw[if_pos (by rw[e]),if_pos e]
    ·rw[if_neg (show ¬some t=some l by simpa using e),if_neg e,if_neg (Ne.symm e)];rfl
  ·have hrd:RdCs (fun b=>av b∨ ∃k,aF k bx≠none∧β k=b) w (vs.toList.take (n*i.size)++news++vs.toList.drop (n*i.size+news.length)) (pre++ys++cs.drop (n*i.size+news.length)):=(hr2.append hrn).append (hr.drop _)
   refine RdCs.keep (av:=fun b=>av b∨ ∃k,aF k bx≠none∧β k=b) ⟨Nat.le_refl _,fun _ _ _=>rfl,?_⟩ hrd
   rintro b _ (hb'|⟨l,hl,hb'⟩)
   ·exact .inl hb'
   ·try dsimp only at hl hb'
    by_cases e:l=t
    ·rw[if_pos e] at hb';exact .inr ⟨k,hkn,hb'⟩
    ·rw[if_neg e] at hl hb'
     by_cases e2:l=k
     ·rw[if_pos e2] at hl;exact absurd rfl hl
     ·rw[if_neg e2] at hl;exact .inr ⟨l,hl,hb'⟩
 ·--new memory
  have hgrow:c<n+q:=by omega
  have hold:(Builtin.firstCells i.size n (.slice (some ⟨β k,0,none⟩) n c)).run P w.drew=.ok (vs.toList.take (n*i.size)).toArray w.drew:=by
   have:=run_loadCells_list (P:=P) w.drew ⟨β k,0,none⟩ (vs.toList.take (n*i.size)) (fun j u hj=>by
    rw[kv,gY]
    show w.cell? _=_
    rw[rx] at hj
    split at hj
    ·rw[cS ev,←hj];simp
    ·cases hj)
   rw[hlen] at this
   exact this
  have hrun:=run_append_grow_src (P:=P) (w:=w) U U ty e i z hu hi hz (some ⟨β k,0,none⟩) n c _ hold (a.eval y) q news hsrc hgrow (by have:maxLen=9223372036854775807:=rfl;omega) (growslice_fits hgrow (by rw[hby];exact hbytes))
  generalize hcap:grownCap w (n+q) c e=c' at hrun
  have hc1:n+q≤c':=by rw[←hcap];exact grownCap_ge _ _ _ _
  have hc2:c'≤maxLen:=by rw[←hcap];exact grownCap_le_maxLen _ _ _ _ h63
  have hexec:(execOp a.eval ⟨some t,.call ⟨.builtin .append,#[x,y],#[U,U]⟩,ty,pos,af,g⟩).run P w=.ok (.value (.slice (some ⟨w.heap.size,0,none⟩) (n+q) c'))
   (w.drew.alloc (.cells ((vs.toList.take (n*i.size)++news).toArray++Builtin.zeroCells z.cells (c'-(n+q))) e)):=by
   simp only[execOp,resolve,invoke,builtin,eQ,fX,fe,qC,oU,qM,e1]
   rw[hrun]
   rfl
  rw[hexec]
  have hdr:=(hrel.drop k).drew
  obtain⟨rest,hrl,hrz⟩:=RD hzl hzr (c'-(n+q))
  have hrd:RdCs (fun b=>av b∨ ∃l,(if l=k then none else aF l bx)≠none∧β l=b) w.drew ((vs.toList.take (n*i.size)++news).toArray++Builtin.zeroCells z.cells (c'-(n+q))).toList (pre++ys++rest):=by
   have h0:RdCs (fun b=>av b∨ ∃k,aF k bx≠none∧β k=b) w (vs.toList.take (n*i.size)++news) (pre++ys):=hr2.append hrn
   have h1:=qA (RdCs.keep (av:=fun b=>av b∨ ∃k,aF k bx≠none∧β k=b) (w:=w) (av':=fun b=>av b∨ ∃l,(if l=k then none else aF l bx)≠none∧β l=b) (w':=w.drew) ⟨Nat.le_refl _,fun _ _ _=>rfl,fun b _ hb'=>hb'.imp id fun⟨l,hl,e⟩=>⟨l,fun h0=>by rw[h0] at hl;exact hl (by split<;>rfl),e⟩⟩ h0) (hrz (fun b=>av b∨ ∃l,(if l=k then none else aF l bx)≠none∧β l=b) w.drew)
   simpa using h1
  have hbox:=hdr.box (d:=t) ht (by
   show(if t=k then none else aF t bx)=none
   rcases hd with hd|hd
   ·rw[if_pos hd]
   ·rw[hd];split<;>rfl) (U:=e) (sl:=some c') hrd
  refine⟨⟨N,(t,.o t (n+q) c')::lK k tm,(t,e,pre++ys++rest)::kj k bx⟩,fun l=>if l=t then w.drew.heap.size else β l,⟨c',_,hc1,hc2,hrl,rfl⟩,rfl,?_⟩
  have hval:=hbox.value (d:=some t) (x:=.o t (n+q) c') (v:=.slice (some ⟨w.heap.size,0,none⟩) (n+q) c') (by intro s hs;injection hs with hs;subst hs;exact ht) (eL _ _) (by show _=Value.slice (some ⟨if t=t then w.drew.heap.size else β t,0,none⟩) _ _;rw[if_pos rfl];rfl) (by intro l hl;injection hl with hl;subst hl;rw[if_pos rfl];simp)
  rw[A6] at hval
  refine hval.congr (fun s=>?_) (fun l=>?_)
  ·rw[Rv]
   show(if some t=some s then _ else _)=(if some t=some s then _ else if some t=some s then _ else oN k _ s)
   by_cases e:some t=some s
   ·rw[if_pos e,if_pos e]
   ·rw[if_neg e,if_neg e,if_neg e];rfl
  ·rw[Ru];rfl
theorem AJ {c q:Nat}
 (hU:tR P U=some (e,m,by_,zs)) (hx:cE (fun s=>aF s tm) x=some (.o k n c)) (hy:cE (fun s=>aF s tm) y=some (.v (.c (.s q ys)))) (hb:aF k bx=some (e,cs)) (hcs:cs.length=c*m) (hys:ys.length=q*m) (hm:0<m)
 (hnc:n≤c) (hcm:c≤maxLen) (hbytes:(n+q)*by_≤140737488355328) (h63:n+q≤maxLen) (hpre:cs.take (n*m)=pre) (hd:t=k∨aF t bx=none)
 (hg:gd ops ⟨some t,.call ⟨.builtin .append,#[x,y],#[U,U]⟩,ty,pos,af,g⟩ (fun s=>aF s tm)=some true):
 JM P ops ⟨some t,.call ⟨.builtin .append,#[x,y],#[U,U]⟩,ty,pos,af,g⟩ ⟨N,tm,bx⟩ (fun σ'=> ∃c' rest,n+q≤c'∧c'≤maxLen∧rest.length=(c'-(n+q))*m∧σ'=⟨N,(t,.o t (n+q) c')::lK k tm,(t,e,pre++ys++rest)::kj k bx⟩):=by
 exact ER hU hx (fun V β a w hs=>⟨V,aE hs (x:=y) (by simp[Op.operands,Call.operands]) hy,fun _ h=>h⟩) hb hcs hys hm hnc hcm hbytes h63 hpre hd hg
theorem FF {q:Nat}
 (hU:tR P U=some (e,m,by_,zs)) (hx:cE (fun s=>aF s tm) x=some .z) (hy:cE (fun s=>aF s tm) y=some (.v (.c (.s q ys)))) (hys:ys.length=q*m) (hq:0<q)
 (hbytes:q*by_≤140737488355328) (h63:q≤maxLen) (hd:aF t bx=none)
 (hg:gd ops ⟨some t,.call ⟨.builtin .append,#[x,y],#[U,U]⟩,ty,pos,af,g⟩ (fun s=>aF s tm)=some true):
 JM P ops ⟨some t,.call ⟨.builtin .append,#[x,y],#[U,U]⟩,ty,pos,af,g⟩ ⟨N,tm,bx⟩ (fun σ'=> ∃c' rest,q≤c'∧c'≤maxLen∧rest.length=(c'-q)*m∧σ'=⟨N,(t,.o t q c')::tm,(t,e,ys++rest)::bx⟩):=by
 intro av w0 β a w hrel htn
 have hs:=Sees.of hrel.sees (L:=iS ops ⟨some t,.call ⟨.builtin .append,#[x,y],#[U,U]⟩,ty,pos,af,g⟩) (fun _ _=>trivial) (fun _ _ _ h=>h) (fun _ _ h=>h)
 refine⟨et hs hg,?_⟩
 have e1:a.eval x=.slice none 0 0:=aE hs (x:=x) (by simp[Op.operands,Call.operands]) hx
 have h2:=aE hs (x:=y) (by simp[Op.operands,Call.operands]) hy
 obtain⟨news,hsrc,hrn⟩:=rW hU h2 hys
 obtain⟨hu,i,z,hi,hz,hsz,hby,hzl,hzr⟩:=iZ hU
 subst hsz
 have ht:t<N:=htn t rfl
 unfold Gives
 have hold:(Builtin.firstCells i.size 0 (.slice none 0 0)).run P w.drew=.ok ([]:List Value).toArray w.drew:=rfl
 have hgrow:0<0+q:=by omega
 have hrun:=run_append_grow_src (P:=P) (w:=w) U U ty e i z hu hi hz none 0 0 _ hold (a.eval y) q news hsrc hgrow (by have:maxLen=9223372036854775807:=rfl;omega) (growslice_fits hgrow (by rw[hby,gY];exact hbytes))
 rw[gY] at hrun
 generalize hcap:grownCap w q 0 e=c' at hrun
 have hc1:q≤c':=by rw[←hcap];exact grownCap_ge _ _ _ _
 have hc2:c'≤maxLen:=by rw[←hcap];exact grownCap_le_maxLen _ _ _ _ h63
 have hexec:(execOp a.eval ⟨some t,.call ⟨.builtin .append,#[x,y],#[U,U]⟩,ty,pos,af,g⟩).run P w=.ok (.value (.slice (some ⟨w.heap.size,0,none⟩) q c'))
  (w.drew.alloc (.cells (([]++news).toArray++Builtin.zeroCells z.cells (c'-q)) e)):=by
  simp only[execOp,resolve,invoke,builtin,eQ,fX,fe,qC,oU,qM,e1]
  rw[hrun]
  rfl
 rw[hexec]
 obtain⟨rest,hrl,hrz⟩:=RD hzl hzr (c'-q)
 have hrd:RdCs (fun b=>av b∨ ∃k,aF k bx≠none∧β k=b) w.drew (([]++news).toArray++Builtin.zeroCells z.cells (c'-q)).toList (ys++rest):=by
  have h1:RdCs (fun b=>av b∨ ∃k,aF k bx≠none∧β k=b) w.drew (news++(Builtin.zeroCells z.cells (c'-q)).toList) (ys++rest):=qA (RdCs.keep (Keep.below (eL _ w).drew) hrn) (hrz (fun b=>av b∨ ∃k,aF k bx≠none∧β k=b) w.drew)
  grind
 have hbox:=hrel.drew.box (d:=t) ht hd (U:=e) (sl:=some c') hrd
 refine⟨⟨N,(t,.o t q c')::tm,(t,e,ys++rest)::bx⟩,fun l=>if l=t then w.drew.heap.size else β l,⟨c',_,hc1,hc2,hrl,rfl⟩,rfl,?_⟩
 have hval:=hbox.value (d:=some t) (x:=.o t q c') (v:=.slice (some ⟨w.heap.size,0,none⟩) q c') (by intro s hs;injection hs with hs;subst hs;exact ht) (eL _ _) (by show _=Value.slice (some ⟨if t=t then w.drew.heap.size else β t,0,none⟩) _ _;rw[if_pos rfl];rfl) (by intro l hl;injection hl with hl;subst hl;rw[if_pos rfl];simp)
 rw[A6] at hval
 refine hval.congr (fun s=>?_) (fun l=>?_)
 ·show aF s ((t,DV.o t q c')::tm)=(if some t=some s then _ else if some t=some s then _ else aF s tm)
  rw[br]
  grind
 ·show aF l ((t,e,ys++rest)::bx)=(if some t=some l then _ else aF l bx)
  rw[br]
  grind
variable {os:List Oper}{K:St→Prop}
theorem l6 {c q:Nat}
 (hU:tR P U=some (e,m,by_,zs)) (hx:cE (fun s=>aF s tm) x=some (.o k n c)) (hy:cE (fun s=>aF s tm) y=some (.v (.c (.s q ys)))) (hb:aF k bx=some (e,us++rest)) (hus:us.length=n*m) (hr:rest.length=(c-n)*m)
 (hys:ys.length=q*m) (hm:0<m) (hnc:n≤c) (hcm:c≤maxLen) (hbytes:(n+q)*by_≤140737488355328) (h63:n+q≤maxLen) (hd:t=k∨aF t bx=none)
 (hg:gd ops ⟨some t,.call ⟨.builtin .append,#[x,y],#[U,U]⟩,ty,pos,af,g⟩ (fun s=>aF s tm)=some true)
 (hk: ∀c' rest',n+q≤c'→c'≤maxLen→rest'.length=(c'-(n+q))*m→dl P ops os ⟨N,(t,.o t (n+q) c')::lK k tm,(t,e,us++ys++rest')::kj k bx⟩ K):
 dl P ops (⟨some t,.call ⟨.builtin .append,#[x,y],#[U,U]⟩,ty,pos,af,g⟩::os) ⟨N,tm,bx⟩ K:=
 .inr ⟨_,AJ (pre:=us) hU hx hy hb (by rw[dm,hus,hr,←oH];congr 1;omega) hys hm hnc hcm hbytes h63 (by rw[←hus];simp) hd hg,fun σ' ⟨c',rest',h1,h2,h3,e⟩=>by subst e;exact hk c' rest' h1 h2 h3⟩
theorem lW {q:Nat}
 (hU:tR P U=some (e,m,by_,zs)) (hx:cE (fun s=>aF s tm) x=some .z) (hy:cE (fun s=>aF s tm) y=some (.v (.c (.s q ys)))) (hys:ys.length=q*m) (hq:0<q)
 (hbytes:q*by_≤140737488355328) (h63:q≤maxLen) (hd:aF t bx=none)
 (hg:gd ops ⟨some t,.call ⟨.builtin .append,#[x,y],#[U,U]⟩,ty,pos,af,g⟩ (fun s=>aF s tm)=some true)
 (hk: ∀c' rest',q≤c'→c'≤maxLen→rest'.length=(c'-q)*m→dl P ops os ⟨N,(t,.o t q c')::tm,(t,e,ys++rest')::bx⟩ K):
 dl P ops (⟨some t,.call ⟨.builtin .append,#[x,y],#[U,U]⟩,ty,pos,af,g⟩::os) ⟨N,tm,bx⟩ K:=
 .inr ⟨_,FF hU hx hy hys hq hbytes h63 hd hg,fun σ' ⟨c',rest',h1,h2,h3,e⟩=>by subst e;exact hk c' rest' h1 h2 h3⟩
theorem ed {T:TF}{B:BF}{dst:Option Nat}
 (hg:gd ops ⟨dst,.assign (.const (.slice none 0 0)),ty,pos,af,g⟩ T=some true):Sem P ops ⟨dst,.assign (.const (.slice none 0 0)),ty,pos,af,g⟩ T B (.r .z):=
 bQ hg (fun k e=>by cases e) (fun V β a w hs=>⟨.slice none 0 0,rfl,rfl⟩)
theorem vw {c:Code}(ht:aF t tm=some .z) (h:Dw P c ⟨N,(t,.v (.c (.s 0 [])))::tm,bx⟩ Q):Dw P c ⟨N,tm,bx⟩ Q:=fun av w0 β a w hr=>by
 obtain⟨v,hv,hx⟩:=hr.sees.tmp t _ trivial ht
 have hx:v=.slice none 0 0:=hx
 subst hx
 have h2:=hr.upd (t:=t) (x:=.v (.c (.s 0 []))) hv (.s0 _ _ (by decide)) rfl
 refine h av w0 β a w (h2.congr (fun s=>?_) (fun _=>rfl))
 show aF s ((t,.v (.c (.s 0 [])))::tm)=_
 rw[br];rfl
theorem BL {ι:Type}{c:Code}{σ:St}(I:ι→St) (μ:ι→Nat) (M:Nat)
 (first:Dw P c σ (DT (fun σ'=> ∃j,Sub σ' (I j)∧μ j<M) Q)) (round: ∀i,Dw P c (I i) (DT (fun σ'=> ∃j,Sub σ' (I j)∧μ j<μ i) Q)):Dw P (.loop c) σ Q:=fun av w0 β a w hr=>by
 refine bh (ι:=Option ι) (fun i=>match i with|none=>σ|some i=>I i) (fun i=>match i with|none=>M|some i=>μ i) none ⟨rfl,fun _ _ h=>h,fun _ _ h=>h,hr.wf⟩ (fun i=>?_) av w0 β a w hr
 cases i with
 |none=>
  refine first.mono fun e σ' h=>?_
  cases e with
  |normal=>obtain⟨j,h1,h2⟩:=h;exact⟨some j,h1,h2⟩
  |_=>exact h
 |some i=>
  refine(round i).mono fun e σ' h=>?_
  cases e with
  |normal=>obtain⟨j,h1,h2⟩:=h;exact⟨some j,h1,h2⟩
  |_=>exact h
theorem jC {c:Nat}(h:us.length=n*m) (hr:rest.length=(c-n)*m) (hn:n≤c):(us++rest).length=c*m:=by
 rw[dm,h,hr,←oH];congr 1;omega
theorem gh (h:us.length=n*m):(us++rest).take (n*m)=us:=by rw[←h];simp
theorem iM (h:n≤1000000):n≤maxLen:=iK h (by decide)
end
inductive Wk:List CellD→List CellD→Prop
 |nil:Wk [] []
 |same {us us':List CellD}(u:CellD):Wk us us'→Wk (u::us) (u::us')
 |any {us us':List CellD}(u:CellD):Wk us us'→Wk (u::us) (.x::us')
theorem Wk.refl: ∀us:List CellD,Wk us us
 |[]=>.nil
 |u::us=>.same u (Wk.refl us)
theorem Wk.app {a b b':List CellD}(h:Wk a a') (g:Wk b b'):Wk (a++b) (a'++b'):=by
 induction h with
 |nil=>exact g
 |same u _ ih=>exact .same u ih
 |any u _ ih=>exact .any u ih
theorem Wk.len {a:List CellD}(h:Wk a a'):a.length=a'.length:=by
 induction h with
 |nil=>rfl
 |same u _ ih=>simp[ih]
 |any u _ ih=>simp[ih]
section
variable {av:Nat→Prop}{w:World}
theorem RdCs.wk (hw:Wk us us'): ∀ {vs:List Value},RdCs av w vs us→RdCs av w vs us':=by
 induction hw with
 |nil=>exact fun h=>h
 |same u _ ih=>
  intro vs h
  cases vs with
  |nil=>exact absurd h.1 (by simp)
  |cons v vs=>exact uk h.uncons.1 (ih h.uncons.2)
 |any u _ ih=>
  intro vs h
  cases vs with
  |nil=>exact absurd h.1 (by simp)
  |cons v vs=>exact uk (.x v h.uncons.1.one.1 h.uncons.1.one.2) (ih h.uncons.2)
theorem RdC.wks {v:Value}(hw:Wk us us') (h:RdC av w v (.s n us)):RdC av w v (.s n us'):=by
 cases h with
 |s0 A c hc=>cases hw;exact .s0 A c hc
 |s b off c sz n xs cv h0 h1 h2 h3 h4 h5 h6 h7=>
  refine .s b off c sz n us' cv h0 h1 h2 (hw.len▸h3) h4 h5 h6 fun j u hu=>?_
  have hj:j<us.length:=by rw[hw.len];exact(ji.1 hu).1
  have key:RdCs av w ((List.range us.length).map cv) us':=RdCs.wk hw ⟨by simp,fun i v u hv hu=>by
   simp only[s9] at hv
   have hi:i<us.length:=(ji.1 hu).1
   rw[List.getElem?_range hi] at hv
   cases hv
   exact h7 i u hu⟩
  exact key.2 j (cv j) u (by simp only[s9];rw[List.getElem?_range hj];rfl) hu
end
section
variable {P:Program}{f:FuncId}{ds:List D0}{us us':List CellD}
theorem Ok.wks (h:Ok P f ds [.c (.s n us)]) (hw:Wk us us'):Ok P f ds [.c (.s n us')]:=⟨h.cal,fun av vs w hav hr=>(h.run av vs w hav hr).mono fun _e _w' ⟨v,he,hv,hb⟩=>⟨v,he,RdC.wks hw hv,hb⟩⟩
end
structure Pt where
 a1:Rat
 b1:Rat
 a2:Rat
 b2:Rat
 c:Rat
structure Ln where
 a:Rat
 b:Rat
 c:Rat
structure Ci where
 x:Rat
 y:Rat
 q:Rat
inductive Cv where
 |seg (l:Ln) (p q:Pt)
 |arc (k:Ci) (w:Bool) (p q:Pt)
def Na:List CellD:=[.b false,.s 0 [],.b false,.s 0 []]
def qR:List CellD:=Na++Na++Na
def xR4:List CellD:=[.x,.x,.x,.x]
def np:List CellD:=xR4++xR4++xR4
def aj (p:Pt):List CellD:=cR p.a1++cR p.b1++cR p.a2++cR p.b2++cR p.c
def gK (l:Ln):List CellD:=cR l.a++cR l.b++cR l.c
def aX (k:Ci):List CellD:=cR k.x++cR k.y++cR k.q
def aD:Cv→List CellD
 | .seg l p q=>[.b false]++gK l++qR++[.b false]++aj p++aj q
 | .arc k w p q=>[.b true]++np++aX k++[.b w]++aj p++aj q
def Rr (z:List CellD):Cv→List CellD
 | .seg l p q=>[.b false]++gK l++z++[.b false]++aj p++aj q
 | .arc k w p q=>[.b true]++z++aX k++[.b w]++aj p++aj q
theorem aaA (h:z.length=12):Wk z np:=by
 match z,h with
 |[a,b,c,d,e,f,g,h,i,j,k,l],_=>exact .any _ (.any _ (.any _ (.any _ (.any _ (.any _ (.any _ (.any _ (.any _ (.any _ (.any _ (.any _ .nil)))))))))))
theorem wkA (h:z.length=12) (k:Ci) (w:Bool) (p q:Pt):Wk (Rr z (.arc k w p q)) (aD (.arc k w p q)):=(((((Wk.refl _).app (aaA h)).app (Wk.refl _)).app (Wk.refl _)).app (Wk.refl _)).app (Wk.refl _)
theorem ak (p:Pt):(aj p).length=20:=rfl
theorem ai (c:Cv):(aD c).length=66:=by cases c<;>rfl
section
variable {α:Type}
def aw (enc:α→List CellD):List α→List CellD
 |[]=>[]
 |x::l=>enc x++aw enc l
variable {enc:α→List CellD}{m:Nat}
theorem am (h: ∀x,(enc x).length=m): ∀l:List α,(aw enc l).length=l.length*m
 |[]=>by simp[aw]
 |x::l=>by
  show(enc x++aw enc l).length=(l.length+1)*m
  rw[dm,h,am h l,oH];omega
theorem dB: ∀l r:List α,aw enc (l++r)=aw enc l++aw enc r
 |[],r=>rfl
 |x::l,r=>by
  show enc x++aw enc (l++r)=enc x++aw enc l++aw enc r
  rw[dB l r,mV]
theorem dV (x:α):aw enc [x]=enc x:=jc _
theorem pW (h: ∀x,(enc x).length=m) (l:List α) (j:Nat):(aw enc l).drop (j*m)=aw enc (l.drop j):=by
 by_cases hj:j≤l.length
 ·have e:aw enc l=aw enc (l.take j)++aw enc (l.drop j):=by rw[←dB,xi]
  have hl:(aw enc (l.take j)).length=j*m:=by rw[am h,dE,ij hj]
  grind
 ·rw[pn (by rw[am h];exact o9 _ (by omega)),pn (by omega)];rfl
theorem pZ (h: ∀x,(enc x).length=m) (l:List α) (j:Nat):(aw enc l).take (j*m)=aw enc (l.take j):=by
 by_cases hj:j≤l.length
 ·have e:aw enc l=aw enc (l.take j)++aw enc (l.drop j):=by rw[←dB,xi]
  have hl:(aw enc (l.take j)).length=j*m:=by rw[am h,dE,ij hj]
  grind
 ·rw[ja (by rw[am h];exact o9 _ (by omega)),ja (by omega)]
theorem jf (h: ∀x,(enc x).length=m) {l:List α}{x:α}(hj:l[j]? =some x):(aw enc l).drop (j*m)=enc x++aw enc (l.drop (j+1)):=by
 obtain⟨h1,h2⟩:=ji.1 hj
 rw[pW h,pj h1,h2];rfl
theorem ew {l:List α}{d:α}(h:j<l.length):l[j]? =some (l.getD j d):=by grind
section
variable {P:Program}{ops:Array Oper}{T:TF}{B:BF}{dst:Option Nat}{x y:Operand}{ty U:TypeId}{pos:String}{af:Array Edge}{g:Option (Nat×Bool)}
theorem eM {kk:IntKind}{l:List α}(d:α) (h: ∀x,(enc x).length=m) (hj:j<l.length) (hU:th P U=some m) (e:(cE T x,cE T y,gd ops ⟨dst,.indexAddr U x y,ty,pos,af,g⟩ T)=(some (.v (.c (.s l.length (aw enc l)))),some (.v (.c (.i kk (j:Int)))),some true)):
 Sem P ops ⟨dst,.indexAddr U x y,ty,pos,af,g⟩ T B (.r (.q (enc (l.getD j d)++aw enc (l.drop (j+1))))):=
 bH (j:=(j:Int)) hU (congrArg Prod.fst e) (congrArg (fun q=>q.2.1) e) (by omega) (am h _) (jf h (ew hj)) (congrArg (fun q=>q.2.2) e)
theorem ip {a:α}{r:List CellD}(h: ∀x,(enc x).length=m) (hU:ti P U=some (true,m)) (e:(cE T x,gd ops ⟨dst,.load U x,ty,pos,af,g⟩ T)=(some (.q (enc a++r)),some true)):Sem P ops ⟨dst,.load U x,ty,pos,af,g⟩ T B (.r (.v (.a (enc a)))):=
 cg hU (congrArg Prod.fst e) (by rw[←h a];exact List.take_left) (h a) (congrArg Prod.snd e)
end
theorem qu {l:List α}{d:α}(h:j<l.length):l.take (j+1)=l.take j++[l.getD j d]:=by simp_all
theorem bj {l:List α}{d:α}(h:j<l.length):l.getD j d∈l:=by grind
end
def dPt:Pt:=⟨0,0,0,0,0⟩
def aY:Cv:=.seg ⟨0,0,0⟩ dPt dPt
def Cv.p:Cv→Pt
 | .seg _ p _=>p
 | .arc _ _ p _=>p
def Cv.q:Cv→Pt
 | .seg _ _ q=>q
 | .arc _ _ _ q=>q
def Cv.isArc:Cv→Bool
 | .seg ..=>false
 | .arc ..=>true
def Cv.cw:Cv→Bool
 | .seg ..=>false
 | .arc _ w _ _=>w
def Cv.ends:Cv→Pt→Pt→Cv
 | .seg l _ _,p,q=>.seg l p q
 | .arc k w _ _,p,q=>.arc k w p q
def Cv.rev:Cv→Cv
 | .seg l p q=>.seg l q p
 | .arc k w p q=>.arc k (!w) q p
def vA (l:Ln) (p:Pt):Rat:=l.a*p.a1+l.b*p.a2-l.c
def vB (l:Ln) (p:Pt):Rat:=l.a*p.b1+l.b*p.b2
def AI (l:Ln) (p:Pt):Int:=s3 (vA l p) (rB (vB l p) p.c) (rC (vB l p) p.c)
def F9 (k:Ci) (p:Pt):Rat:=Iu (p.a1-k.x) (p.a2-k.y) p.b1 p.b2 p.c+ -k.q
def Dh (k:Ci) (p:Pt):Rat:=IR (p.a1-k.x) (p.a2-k.y) p.b1 p.b2
def mp (k:Ci) (p:Pt):Int:= -s3 (F9 k p) (Dh k p) (zc (Dh k p) p.c)
def Cv.supp:Cv→Pt→Bool
 | .seg l _ _,p=>AI l p==0
 | .arc k _ _ _,p=>mp k p==0
def mS (p:Pt) (v:Rat):Int:=bo (p.a1-v) p.b1 (zc p.b1 p.c)
def sY (p:Pt) (v:Rat):Int:=bo (p.a2-v) p.b2 (zc p.b2 p.c)
def ll (k:Ci) (p:Pt):Bool:=decide (sY p k.y>0)||(sY p k.y==0&&decide (mS p k.x>0))
def cx (p q:Pt):Int:=Dp p.a1 p.b1 p.c q.a1 q.b1 q.c
def cy (p q:Pt):Int:=Dp p.a2 p.b2 p.c q.a2 q.b2 q.c
def cP (p q:Pt):Int:=sK p.a1 p.b1 p.a2 p.b2 p.c q.a1 q.b1 q.a2 q.b2 q.c
def fG (k:Ci) (p q:Pt):Int:=if ll k p !=ll k q then(if ll k q then-1 else 1) else if ll k p then-cx p q else cx p q
def r9 (k:Ci) (f p q:Pt):Int:=if decide (fG k p f<0) !=decide (fG k q f<0) then(if decide (fG k q f<0) then-1 else 1) else fG k p q
def Pt.flip (p:Pt):Pt:=⟨-p.a1,-p.b1,p.a2,p.b2,p.c⟩
def Ci.mir (k:Ci):Ci:=⟨-k.x,k.y,k.q⟩
def Cv.ord:Cv→Pt→Pt→Int
 | .seg _ f t,p,q=>if decide (cP f t>0) then-cP p q else cP p q
 | .arc k w f _,p,q=>if !w then r9 k f p q else r9 k.mir f.flip p.flip q.flip
def Cv.on (c:Cv) (p:Pt):Bool:=c.supp p&&decide (c.ord c.p p≤0)&&decide (c.ord p c.q≤0)
def nD (c:Cv) (x:Pt):List Pt→Nat
 |[]=>0
 |o::l=>if c.ord o x<0 then nD c x l+1 else 0
def gz (c:Cv) (out:List Pt) (x:Pt):List Pt:=
 if nD c x out<out.length∧cP (out.getD (nD c x out) dPt) x=0 then out else out.take (nD c x out)++x::out.drop (nD c x out)
def cr (c:Cv) (l:List Pt):List Pt:=l.foldl (gz c) []
def gC (c:Cv):List Pt→List Cv
 |p::q::l=>c.ends p q::gC c (q::l)
 |_=>[]
def je (c:Cv) (l:List Pt):List Cv:=gC c (cr c ([c.p,c.q]++l))
def wV (x y:Rat):Bool:=aJ x y==0
def B5:Cv→Cv→Bool
 | .seg l _ _,.seg m _ _=>wV (l.a*m.b) (l.b*m.a)&&wV (l.a*m.c) (l.c*m.a)&&wV (l.b*m.c) (l.c*m.b)
 | .arc k _ _ _,.arc d _ _ _=>wV k.x d.x&&wV k.y d.y&&wV k.q d.q
 |_,_=>false
def fS (a1 b1 a2 b2 c:Rat):Pt:=if jd c then⟨a1+b1*rt c,0,a2+b2*rt c,0,0⟩ else⟨a1,b1,a2,b2,c⟩
def fa (l:Ln):Rat:=l.a*l.a+l.b*l.b
def nN (l:Ln) (x y:Rat):Rat:=l.a*x+l.b*y-l.c
def mu (l:Ln) (k:Ci):Rat:=fa l*k.q-nN l k.x k.y*nN l k.x k.y
def nt (l:Ln) (k:Ci):Rat:=k.x-nN l k.x k.y/fa l*l.a
def nF (l:Ln) (k:Ci):Rat:=k.y-nN l k.x k.y/fa l*l.b
def J4 (l:Ln) (k:Ci):Pt:=fS (nt l k) (-(l.b/fa l)) (nF l k) (-(-l.a/fa l)) (mu l k)
def Kb (l:Ln) (k:Ci):Pt:=fS (nt l k) (l.b/fa l) (nF l k) (-l.a/fa l) (mu l k)
def jg (l:Ln) (k:Ci):List Pt:=
 if aJ (mu l k) 0<0 then[] else if aJ (mu l k) 0=0 then[⟨nt l k,0,nF l k,0,0⟩]
 else if cP (J4 l k) (Kb l k)>0 then[Kb l k,J4 l k] else[J4 l k,Kb l k]
def pM (k d:Ci):Bool:=wV k.x d.x&&wV k.y d.y
def B9 (k:Ci):Rat:=k.x*k.x+k.y*k.y-k.q
def mQ (k d:Ci):Ln:=⟨2*(d.x-k.x),2*(d.y-k.y),B9 d-B9 k⟩
def bG (k d:Ci):List Pt:=if pM k d then[] else jg (mQ k d) k
def CT (k d:Ci):Int:=if pM k d then(if aJ k.q d.q=0 then 10 else 0) else 0
theorem LS (c:Cv):(aD c)[25]? =some (.b c.cw):=by cases c<;>rfl
theorem lr (c:Cv):((aD c).drop 26).take 20=aj c.p:=by cases c<;>rfl
theorem qt (c:Cv):((aD c).drop 46).take 20=aj c.q:=by cases c<;>rfl
theorem uV (hz:zs.length=m) (hx:xs.length=m):xe (fun i=>some (i*m,m)) (List.replicate 1 zs).flatten [(0,.a xs)]=some xs:=by
 subst hz
 simp[xe,D0.cells,hx]
theorem d8 (hx:xs.length=m):xs.length=1*m:=by omega
def Cv.setp:Cv→Pt→Cv
 | .seg l _ q,p=>.seg l p q
 | .arc k w _ q,p=>.arc k w p q
theorem wl (c:Cv) (p:Pt):(aD c).take 26++aj p++(aD c).drop 46=aD (c.setp p):=by cases c<;>rfl
theorem Ai (c:Cv) (p q:Pt):(aD (c.setp p)).take 46++aj q++(aD (c.setp p)).drop 66=aD (c.ends p q):=by cases c<;>rfl
structure GP (p:Pt):Prop where
 a1:Rz 113 p.a1
 b1:Rz 21 p.b1
 a2:Rz 113 p.a2
 b2:Rz 21 p.b2
 c:Rz 78 p.c
 ir:p.c≠0→Rz 52 p.a1∧Rz 52 p.a2
 v:uE p.b1 p.b2 p.c=true
structure GB (p:Pt):Prop where
 a1:Rz 40000 p.a1
 b1:Rz 40000 p.b1
 a2:Rz 40000 p.a2
 b2:Rz 40000 p.b2
 c:Rz 40000 p.c
 v:uE p.b1 p.b2 p.c=true
theorem GP.gb {p:Pt}(h:GP p):GB p:=⟨h.a1.mono (by decide),h.b1.mono (by decide),h.a2.mono (by decide),h.b2.mono (by decide),h.c.mono (by decide),h.v⟩
structure GL (l:Ln):Prop where
 a:Rz 4 l.a
 b:Rz 4 l.b
 c:Rz 17 l.c
 n:fa l≠0
structure GK (k:Ci):Prop where
 x:Rz 1 k.x
 y:Rz 1 k.y
 q:Rz 2 k.q
def Cv.good:Cv→Prop
 | .seg l p q=>GL l∧GP p∧GP q
 | .arc k _ p q=>GK k∧GP p∧GP q
theorem Ty (h:uE b1 b2 c=true):uE (-b1) b2 c=true:=by
 unfold uE at*
 by_cases h1:b1=0
 ·grind
 grind
theorem GP.flip {p:Pt}(h:GP p):GP p.flip:=⟨h.a1.neg,h.b1.neg,h.a2,h.b2,h.c,fun e=>⟨(h.ir e).1.neg,(h.ir e).2⟩,Ty h.v⟩
theorem GK.mir {k:Ci}(h:GK k):GK k.mir:=⟨h.x.neg,h.y,h.q⟩
theorem GP.rat {v w:Rat}(h:Rz 113 v) (g:Rz 113 w):GP ⟨v,0,w,0,0⟩:=⟨h,dH (by decide),g,dH (by decide),dH (by decide),fun e=>absurd rfl e,by unfold uE;rw[if_pos ⟨rfl,rfl⟩];exact decide_eq_true rfl⟩
theorem GP.dPt:GP dPt:=GP.rat (dH (by decide)) (dH (by decide))
theorem GP.getD {l:List Pt}(h: ∀p∈l,GP p) (j:Nat):GP (l.getD j Go.Proofs.YtegpmhlfjkhjmaaGreat.dPt):=by
 by_cases hj:j<l.length
 ·exact h _ (bj hj)
 ·rw[List.getD,tL (by omega)];exact GP.dPt
section
variable {c:Cv}{x:Pt}
theorem R6: ∀l:List Pt,nD c x l≤l.length
 |[]=>ce _
 |o::l=>by
  show(if c.ord o x<0 then nD c x l+1 else 0)≤l.length+1
  have:=R6 l
  split<;>omega
theorem EB: ∀ {l:List Pt}{k:Nat},k≤l.length→(∀j,j<k→c.ord (l.getD j dPt) x<0)→(k=l.length∨ ¬c.ord (l.getD k dPt) x<0)→nD c x l=k
 |[],k,h,_,_=>by
  have:k=0:=by simpa using h
  subst this;rfl
 |o::l,k,h,h1,h2=>by
  show(if c.ord o x<0 then nD c x l+1 else 0)=k
  match k with
  |0=>
   rcases h2 with h2|h2
   ·simp at h2
   ·exact if_neg (show ¬c.ord o x<0 from h2)
  |k+1=>
   rw[if_pos (show c.ord o x<0 from h1 0 (by omega)),EB (l:=l) (k:=k) (by simpa using h) (fun j hj=>h1 (j+1) (by omega)) (h2.imp (fun e=>by simpa using e) id)]
theorem sP {out:List Pt}{y:Pt}(h:y∈gz c out x):y∈out∨y=x:=by
 unfold gz at h
 split at h
 ·grind
 grind
theorem Oy {out:List Pt}:out.length≤(gz c out x).length∧(gz c out x).length≤out.length+1:=by
 unfold gz
 split
 ·omega
 grind
end
theorem H7 {c:Cv}: ∀(l out:List Pt) {y:Pt},y∈l.foldl (gz c) out→y∈out∨y∈l
 |[],out,y,h=>.inl h
 |x::l,out,y,h=>by
  rcases H7 l (gz c out x) h with h|h
  ·exact(sP h).imp id fun e=>by rw[e];exact fJ
  ·exact .inr (fB _ h)
theorem mI {c:Cv}{l:List Pt}{y:Pt}(h:y∈cr c l):y∈l:=(H7 l [] h).elim (fun e=>by cases e) id
theorem Ch {c:Cv}: ∀(l out:List Pt),out.length≤(l.foldl (gz c) out).length∧(l.foldl (gz c) out).length≤out.length+l.length
 |[],out=>⟨Nat.le_refl _,ce _⟩
 |x::l,out=>by
  have h1:=Oy (c:=c) (x:=x) (out:=out)
  have h2:=Ch (c:=c) l (gz c out x)
  show out.length≤(l.foldl (gz c) (gz c out x)).length∧(l.foldl (gz c) (gz c out x)).length≤out.length+(l.length+1)
  omega
theorem Am {c:Cv}{l:List Pt}:(cr c l).length≤l.length:=by
 have:=(Ch (c:=c) l []).2
 rw[List.length_nil,gY] at this
 exact this
theorem sZ {c:Cv}{l:List Pt}(h:i<l.length):cr c (l.take (i+1))=gz c (cr c (l.take i)) (l.getD i dPt):=by
 unfold cr
 rw[qu (d:=dPt) h,List.foldl_append];rfl
theorem Ng {c:Cv}{l:List Pt}(h:l.length≤i):cr c (l.take i)=cr c l:=by rw[ja h]
theorem Tl {c:Cv}{out:List Pt}{x:Pt}(hs:nD c x out=k) (h:k<out.length) (he:cP (out.getD k dPt) x=0):gz c out x=out:=by
 unfold gz;rw[hs,if_pos ⟨h,he⟩]
theorem yu {c:Cv}{out:List Pt}{x:Pt}(hs:nD c x out=k) (h: ¬(k<out.length∧cP (out.getD k dPt) x=0)):gz c out x=out.take k++x::out.drop k:=by
 unfold gz;rw[hs,if_neg h]
theorem yl {out:List Pt}{x:Pt}:aw aj (out.take k++x::out.drop k)=aw aj (out.take k)++aj x++aw aj (out.drop k):=by
 rw[dB]
 show _++(aj x++aw aj (out.drop k))=_
 grind
theorem mg {out:List Pt}{x:Pt}(h:k≤out.length):(out.take k++x::out.drop k).length=out.length+1:=by grind
theorem iW (c:Cv): ∀l:List Pt,(gC c l).length=l.length-1
 |[]=>rfl
 |[_]=>rfl
 |p::q::l=>by
  show(gC c (q::l)).length+1=l.length+1+1-1
  rw[iW c (q::l)]
  show l.length+1-1+1=_
  omega
theorem zF (c:Cv): ∀ {l:List Pt}{i:Nat},i+1<l.length→gC c (l.take (i+2))=gC c (l.take (i+1))++[c.ends (l.getD i dPt) (l.getD (i+1) dPt)]
 |p::q::l,0,_=>rfl
 |p::q::l,i+1,h=>by
  show c.ends p q::gC c ((q::l).take (i+2))=c.ends p q::gC c ((q::l).take (i+1))++_
  rw[zF c (l:=q::l) (i:=i) (by simpa using h)];rfl
 |[_],i,h=>by simp at h
 |[],i,h=>by simp at h
theorem MP (c:Cv) {l:List Pt}:gC c (l.take 1)=[]:=by
 match l with
 |[]=>rfl
 |p::l=>rfl
theorem iq {c:Cv}(h:c.good):GP c.p:=by cases c<;>exact h.2.1
theorem o7 {c:Cv}(h:c.good):GP c.q:=by cases c<;>exact h.2.2
theorem Ma {c:Cv}(h:c.good) {p q:Pt}(hp:GP p) (hq:GP q):(c.ends p q).good:=by cases c<;>exact⟨h.1,hp,hq⟩
theorem H4 {c:Cv}(h:c.good):c.rev.good:=by cases c<;>exact⟨h.1,h.2.2,h.2.1⟩
end Go.Proofs.YtegpmhlfjkhjmaaGreat
