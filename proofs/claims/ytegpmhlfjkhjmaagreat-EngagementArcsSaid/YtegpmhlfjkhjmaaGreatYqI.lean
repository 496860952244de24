/-Roots and points in reduced form:the reference. -/
import Derived.Test.YtegpmhlfjkhjmaaGreatYqH
import Derived.Test.YtegpmhlfjkhjmaaGreatProg
namespace Go.Proofs.YtegpmhlfjkhjmaaGreat
open Go Go.RowKit
variable {hi lo n p r u v x y:Int}{j k:Nat}{A B C D M N a a1 a2 b b1 b2 c d e f m p1 p2 q1 q2:Rat}{U xt yt:TypeId}
variable {ty:TypeId}{pos:String}{af:Array Edge}{g:Option (Nat×Bool)}{dst:Option Nat}
theorem fH:type_of% @Rat.intCast_le_intCast:=@Rat.intCast_le_intCast
theorem fZ:type_of% @Rat.intCast_mul:=@Rat.intCast_mul
theorem iN:type_of% @Rat.intCast_lt_intCast:=@Rat.intCast_lt_intCast
theorem jq:type_of% @Rat.mul_nonneg:=@Rat.mul_nonneg
theorem jw:type_of% @Rat.intCast_add:=@Rat.intCast_add
theorem kG:type_of% @Rat.mul_pos:=@Rat.mul_pos
theorem tv:type_of% @Rat.intCast_pos:=@Rat.intCast_pos
theorem tD:type_of% @Rat.le_refl:=@Rat.le_refl
theorem zo:type_of% @Rat.divInt_eq_div:=@Rat.divInt_eq_div
theorem v7 (ha1:Rz 300 a1) (hb1:Rz 300 b1) (ha2:Rz 300 a2) (hb2:Rz 300 b2) (hc:Rz 300 c):Ok Tryz.prog 58 [.a ((cR a1++cR b1++cR a2++cR b2++cR c))] [.c (.b (uE b1 b2 c))]:=by
 refine ca Tryz.func58 rfl ?_
 refine ac rfl (kH (aQ ha1)) ?_
 refine ar (bz rfl) ?_
 refine ac rfl (kH (aQ ha2)) ?_
 refine ar (bz rfl) ?_
 refine ac rfl (kH (aQ hb1)) ?_
 refine ar (bz rfl) ?_
 refine ac rfl (kH (aQ hb2)) ?_
 refine ar (bz rfl) ?_
 refine ac rfl (kH (aQ hc)) ?_
 refine qQ rfl ?_
 refine ac rfl (gW) ?_
 refine jT (bz rfl) (fun c1 hb1=>?_)
 cases c1
 ·refine qQ rfl<|ac rfl (Gv (aQ hc))<|ac rfl (gW) ?_
  refine jT (bz rfl) (fun c2 hb2=>?_)
  cases c2
  ·refine ah ?_
   rw[Vd hb1,hb2,pk]
   exact az ae
  ·refine ah ?_
   rw[Vd hb1,hb2,iO]
   exact az ae
 ·refine ac rfl (gW) ?_
  refine dD rfl (fun hc3=>?_) (fun hc3=>?_)
  ·refine ac rfl (gW)<|ah ?_
   rw[ZK hb1 hc3]
   exact az ae
  ·refine ac rfl (Gv (aQ hc))<|ac rfl (gW) ?_
   refine jT (bz rfl) (fun c4 hb4=>?_)
   cases c4
   ·refine ah ?_
    rw[UY hc3,hb4,pk]
    exact az ae
   ·refine ah ?_
    rw[UY hc3,hb4,iO]
    exact az ae
def Dp (a b c p q r:Rat):Int:=f6 (a-p) b (-q) 0 (zc b c) (zc q r)
def sK (a1 b1 a2 b2 c p1 q1 p2 q2 r:Rat):Int:=if Dp a1 b1 c p1 q1 r≠0 then Dp a1 b1 c p1 q1 r else Dp a2 b2 c p2 q2 r
theorem TA {r:Rat}(h:(Dp a1 b1 c p1 q1 r !=0)=true):sK a1 b1 a2 b2 c p1 q1 p2 q2 r=Dp a1 b1 c p1 q1 r:=by unfold sK;rw[if_pos (by simpa using h)]
theorem Uj {r:Rat}(h:(Dp a1 b1 c p1 q1 r !=0)=false):sK a1 b1 a2 b2 c p1 q1 p2 q2 r=Dp a2 b2 c p2 q2 r:=by unfold sK;rw[if_neg (by simpa using h)]
theorem Rz.zero (hk:1≤k):Rz k (0:Rat):=⟨⟨by have:=cX k;rw[Rat.zero_num];omega,by have:=cX k;rw[Rat.zero_num];omega⟩,by rw[Rat.zero_den];exact Sz.one hk⟩
theorem Rz.zc (h:Rz k c) (hk:1≤k):Rz k (zc b c):=by
 unfold Go.Proofs.YtegpmhlfjkhjmaaGreat.zc
 split
 ·exact Rz.zero hk
 ·exact h
def rt (c:Rat):Rat:=Rat.divInt (bV c.num) (bV (c.den:Int))
theorem RW (h:jd c=true):dQ (if jd c then bV c.num else 0) (if jd c then bV (c.den:Int) else 0)=dR (rt c):=by
 rw[if_pos h,if_pos h]
 unfold jd Dg at h
 simp only[dN,beq_iff_eq] at h
 obtain⟨h1,h2⟩:=h
 have d0:=eP (c.den:Int)
 have dp:=den_pos c
 have hd:0<bV (c.den:Int):=by grind
 have hg:Int.gcd (bV c.num) (bV (c.den:Int))=1:=by
  have hr:Int.gcd c.num (c.den:Int)=1:=c.reduced
  have d1:Int.gcd (bV c.num) (bV (c.den:Int))∣Int.gcd c.num (c.den:Int):=by
   refine Int.dvd_gcd ?_ ?_
   ·have t:((Int.gcd (bV c.num) (bV (c.den:Int)):Nat):Int)∣bV c.num*bV c.num:=Int.dvd_mul_of_dvd_left (Int.gcd_dvd_left ..)
    rw[h1] at t;exact t
   ·have t:((Int.gcd (bV c.num) (bV (c.den:Int)):Nat):Int)∣bV (c.den:Int)*bV (c.den:Int):=Int.dvd_mul_of_dvd_left (Int.gcd_dvd_right ..)
    rw[h2] at t;exact t
  rw[hr] at d1
  exact Nat.dvd_one.1 d1
 exact(By hd (by rw[hg];rfl)).symm
def S5 (x:Nat→Rat):Prop:= ∀e:Rat,0<e→ ∃K:Nat,∀i j,K≤i→K≤j→x i-x j≤e
def Gq (x:Nat→Rat):Prop:= ∃e:Rat,0<e∧ ∃K:Nat,∀k,K≤k→e≤x k
def Mr (x:Nat→Rat):Prop:= ∀e:Rat,0<e→ ∃K:Nat,∀k,K≤k→ -e≤x k∧x k≤e
structure Re where
 s:Nat→Rat
 c:S5 s
theorem Re.ext {x y:Re}(h: ∀k,x.s k=y.s k):x=y:=by
 cases x;cases y
 have:_=_:=funext h
 subst this;rfl
theorem pg (h:0<e):0<e/2:=by grind
theorem GT (h:0<e) (h2:0<B):0<e/B∧B*(e/B)=e:=by
 refine⟨?_,by grind⟩
 exact kG h (Rat.inv_pos.2 h2)
theorem Re.bnd (x:Re): ∃B:Rat,0<B∧ ∃K:Nat,∀k,K≤k→ -B≤x.s k∧x.s k≤B:=by
 obtain⟨K,h⟩:=x.c 1 (by decide)
 by_cases hs:0≤x.s K
 ·exact⟨x.s K+1,by grind,K,fun k hk=>by have h1:=h k K hk (ce _);have h2:=h K k (ce _) hk;constructor<;>grind⟩
 ·exact⟨1-x.s K,by grind,K,fun k hk=>by have h1:=h k K hk (ce _);have h2:=h K k (ce _) hk;constructor<;>grind⟩
theorem Ef (q:Rat):S5 (fun _=>q):=fun e he=>⟨0,fun i j _ _=>by grind⟩
theorem S4 {x y:Nat→Rat}(hx:S5 x) (hy:S5 y):S5 (fun k=>x k+y k):=fun e he=>by
 obtain⟨K,h⟩:=hx (e/2) (pg he)
 obtain⟨L,g⟩:=hy (e/2) (pg he)
 exact⟨max K L,fun i j hi hj=>by have h1:=h i j (by omega) (by omega);have h2:=g i j (by omega) (by omega);grind⟩
theorem S7 {x:Nat→Rat}(hx:S5 x):S5 (fun k=> -x k):=fun e he=>by
 obtain⟨K,h⟩:=hx e he
 exact⟨K,fun i j hi hj=>by have h1:=h j i hj hi;grind⟩
theorem Jz (h1: -e≤a) (h2:a≤e) (h3: -f≤b) (h4:b≤f):a*b≤e*f∧ -(e*f)≤a*b:=by
 have p1:0≤(e-a)*(f+b):=jq (by grind) (by grind)
 have p2:0≤(e+a)*(f-b):=jq (by grind) (by grind)
 have p3:0≤(e-a)*(f-b):=jq (by grind) (by grind)
 have p4:0≤(e+a)*(f+b):=jq (by grind) (by grind)
 grind
theorem Sm (x y:Re):S5 (fun k=>x.s k*y.s k):=fun e he=>by
 obtain⟨B,hB,K,hb⟩:=x.bnd
 obtain⟨D,hD,L,hd⟩:=y.bnd
 obtain⟨d1,e1⟩:=GT (pg he) hB
 obtain⟨d2,e2⟩:=GT (pg he) hD
 obtain⟨K',h⟩:=x.c _ d2
 obtain⟨L',g⟩:=y.c _ d1
 refine⟨max (max K L) (max K' L'),fun i j hi hj=>?_⟩
 have b1:=hb i (by omega)
 have b2:=hd j (by omega)
 have h1:=h i j (by omega) (by omega)
 have h2:=h j i (by omega) (by omega)
 have g1:=g i j (by omega) (by omega)
 have g2:=g j i (by omega) (by omega)
 have p1:=(Jz b1.1 b1.2 (a:=x.s i) (b:=y.s i-y.s j) (f:=e/2/B) (by grind) (by grind)).1
 have p2:=(Jz b2.1 b2.2 (a:=y.s j) (b:=x.s i-x.s j) (f:=e/2/D) (by grind) (by grind)).1
 rw[e1] at p1
 rw[e2] at p2
 grind
def Re.of (q:Rat):Re:=⟨fun _=>q,Ef q⟩
instance:Add Re:=⟨fun x y=>⟨fun k=>x.s k+y.s k,S4 x.c y.c⟩⟩
instance:Neg Re:=⟨fun x=>⟨fun k=> -x.s k,S7 x.c⟩⟩
instance:_root_.Sub Re:=⟨fun x y=>x+ -y⟩
instance:Mul Re:=⟨fun x y=>⟨fun k=>x.s k*y.s k,Sm x y⟩⟩
theorem aU (x y:Re) (k:Nat):(x+y).s k=x.s k+y.s k:=rfl
theorem bE (x:Re) (k:Nat):(-x).s k= -x.s k:=rfl
theorem aG (x y:Re) (k:Nat):(x-y).s k=x.s k+ -y.s k:=rfl
theorem aT (x y:Re) (k:Nat):(x*y).s k=x.s k*y.s k:=rfl
theorem bi (q:Rat) (k:Nat):(Re.of q).s k=q:=rfl
theorem mH (x:Re):Gq x.s∨Mr x.s∨Gq (-x).s:=by
 by_cases hn:Mr x.s
 ·grind
 ·unfold Mr at hn
  obtain⟨e,hn⟩:=zI.1 hn
  obtain⟨he,hn⟩:=Aq.1 hn
  obtain⟨K,h⟩:=x.c (e/2) (pg he)
  have hn2:=not_exists.1 hn K
  obtain⟨k,hn3⟩:=zI.1 hn2
  obtain⟨hk,hn4⟩:=Aq.1 hn3
  by_cases h1:e<x.s k
  ·exact .inl ⟨e/2,pg he,K,fun j hj=>by have:=h k j hk hj;grind⟩
  ·have h2:x.s k< -e:=by
    apply f7
    grind
   exact .inr (.inr ⟨e/2,pg he,K,fun j hj=>by rw[bE];have:=h j k hj hk;grind⟩)
section
variable {x y z:Re}
theorem Tt (h:Gq x.s): ¬Gq (-x).s:=fun g=>by
 obtain⟨e,he,K,h⟩:=h
 obtain⟨f,hf,L,g⟩:=g
 have h1:=h (max K L) (by omega)
 have h2:=g (max K L) (by omega)
 rw[bE] at h2
 grind
theorem AA (h:Gq x.s): ¬Mr x.s:=fun g=>by
 obtain⟨e,he,K,h⟩:=h
 obtain⟨L,g⟩:=g (e/2) (pg he)
 have h1:=h (max K L) (by omega)
 have h2:=g (max K L) (by omega)
 grind
theorem FR (h:Mr x.s):Mr (-x).s:=fun e he=>by
 obtain⟨K,h⟩:=h e he
 exact⟨K,fun k hk=>by rw[bE];have:=h k hk;constructor<;>grind⟩
theorem SZ (h:Mr x.s) (g:Mr y.s):Mr (x+y).s:=fun e he=>by
 obtain⟨K,h⟩:=h (e/2) (pg he)
 obtain⟨L,g⟩:=g (e/2) (pg he)
 exact⟨max K L,fun k hk=>by rw[aU];have:=h k (by omega);have:=g k (by omega);constructor<;>grind⟩
theorem AQ (h:Gq x.s) (g:Mr y.s):Gq (x+y).s:=by
 obtain⟨e,he,K,h⟩:=h
 obtain⟨L,g⟩:=g (e/2) (pg he)
 exact⟨e/2,pg he,max K L,fun k hk=>by rw[aU];have:=h k (by omega);have:=g k (by omega);grind⟩
theorem JZ (h:Gq x.s) (g:Gq y.s):Gq (x+y).s:=by
 obtain⟨e,he,K,h⟩:=h
 obtain⟨f,hf,L,g⟩:=g
 exact⟨e,he,max K L,fun k hk=>by rw[aU];have:=h k (by omega);have:=g k (by omega);grind⟩
theorem Bm (h:Gq x.s) (g:Gq y.s):Gq (x*y).s:=by
 obtain⟨e,he,K,h⟩:=h
 obtain⟨f,hf,L,g⟩:=g
 refine⟨e*f,kG he hf,max K L,fun k hk=>?_⟩
 rw[aT]
 have p1:0≤(x.s k-e)*f:=jq (by grind) (by grind)
 have p2:0≤x.s k*(y.s k-f):=jq (by grind) (by grind)
 grind
theorem yJ (x:Re) (g:Mr y.s):Mr (x*y).s:=fun e he=>by
 obtain⟨B,hB,K,hb⟩:=x.bnd
 obtain⟨d1,e1⟩:=GT he hB
 obtain⟨L,g⟩:=g _ d1
 refine⟨max K L,fun k hk=>?_⟩
 rw[aT]
 have h1:=hb k (by omega)
 have h2:=g k (by omega)
 have p:=Jz h1.1 h1.2 h2.1 h2.2
 rw[e1] at p
 exact⟨p.2,p.1⟩
theorem Nf (x:Re): - -x=x:=Re.ext fun k=>by rw[bE,bE];grind
theorem wq (x y:Re):x*y=y*x:=Re.ext fun k=>by rw[aT,aT];grind
theorem Mn (x y:Re): -(x*y)= -x*y:=Re.ext fun k=>by rw[bE,aT,aT,bE];grind
theorem MV (x y:Re): -(x*y)=x* -y:=Re.ext fun k=>by rw[bE,aT,aT,bE];grind
theorem DJ (x y:Re): -(x+y)= -x+ -y:=Re.ext fun k=>by rw[bE,aU,aU,bE,bE];grind
noncomputable def aS (x:Re):Int:=open Classical in if Gq x.s then 1 else if Gq (-x).s then-1 else 0
theorem po:aS x=1↔Gq x.s:=by
 unfold aS
 split
 ·rename_i h;simp[h]
 ·rename_i h;split<;>simp[h]
theorem oO:aS x= -1↔Gq (-x).s:=by
 unfold aS
 split
 ·rename_i h;simp[Tt h]
 grind
theorem nC:aS x=0↔Mr x.s:=by
 unfold aS
 split
 ·rename_i h;simp[AA h]
 ·rename_i h
  split
  ·rename_i h2
   have h3:=AA h2
   simp
   exact fun g=>h3 (FR g)
  ·rename_i h2
   simp
   exact((mH x).resolve_left h).resolve_right h2
theorem bL (x:Re):aS x=1∨aS x=0∨aS x= -1:=by
 rcases mH x with h|h|h
 ·exact .inl (po.2 h)
 ·exact .inr (.inl (nC.2 h))
 ·exact .inr (.inr (oO.2 h))
theorem cm (x:Re):aS (-x)= -aS x:=by
 rcases mH x with h|h|h
 ·rw[po.2 h,oO,Nf];exact h
 ·rw[nC.2 h,nC.2 (FR h)];rfl
 ·rw[oO.2 h,po.2 h];rfl
theorem bJ (x y:Re):aS (x*y)=aS x*aS y:=by
 rcases mH x with h|h|h<;>rcases mH y with g|g|g
 ·rw[po.2 h,po.2 g,po.2 (Bm h g)];rfl
 ·rw[po.2 h,nC.2 g,nC.2 (yJ x g)];rfl
 ·rw[po.2 h,oO.2 g,pt,oO,MV];exact Bm h g
 ·rw[nC.2 h,qk,nC,wq];exact yJ y h
 ·rw[nC.2 h,qk,nC,wq];exact yJ y h
 ·rw[nC.2 h,qk,nC,wq];exact yJ y h
 ·rw[oO.2 h,po.2 g,Int.mul_one,oO,Mn];exact Bm h g
 ·rw[oO.2 h,nC.2 g,nC.2 (yJ x g)];rfl
 ·rw[oO.2 h,oO.2 g]
  have e:x*y= -x* -y:=Re.ext fun k=>by rw[aT,aT,bE,bE];grind
  rw[e,po.2 (Bm h g)];rfl
theorem dO (x:Re) (h:aS y=0):aS (x+y)=aS x:=by
 have g:=nC.1 h
 rcases mH x with h|h|h
 ·rw[po.2 h,po.2 (AQ h g)]
 ·rw[nC.2 h,nC.2 (SZ h g)]
 ·rw[oO.2 h,oO,DJ];exact AQ h (FR g)
theorem KX (x y:Re):x+y=y+x:=Re.ext fun k=>by rw[aU,aU];grind
theorem m8 (h:aS x=0) (y:Re):aS (x+y)=aS y:=by rw[KX];exact dO y h
theorem jD (h:aS x=aS y):aS (x+y)=aS x:=by
 rcases bL x with g|g|g
 ·rw[g,po];exact JZ (po.1 g) (po.1 (h.symm.trans g))
 ·rw[dO x (h.symm.trans g)]
 ·rw[g,oO,DJ];exact JZ (oO.1 g) (oO.1 (h.symm.trans g))
theorem p9 (h:0≤aS x) (g:0≤aS y):0≤aS (x+y):=by
 rcases bL x with a|a|a
 ·rcases bL y with b|b|b
  ·rw[jD (a.trans b.symm)];exact h
  ·rw[dO x b];exact h
  grind
 ·rw[m8 a];exact g
 grind
theorem BA (h:0<aS x) (g:0≤aS y):0<aS (x+y):=by
 rcases bL y with b|b|b
 ·rcases bL x with a|a|a
  ·rw[jD (a.trans b.symm)];exact h
  ·omega
  grind
 ·rw[dO x b];exact h
 grind
theorem dP (h:aS (x-y)=0):aS x=aS y:=by
 have e:x=(x-y)+y:=Re.ext fun k=>by rw[aU,aG];grind
 rw[e]
 exact m8 h y
theorem cO (q:Rat):aS (Re.of q)=aJ q 0:=by
 unfold aJ
 split
 ·rename_i h
  exact oO.2 ⟨-q,by grind,0,fun k _=>by rw[bE,bi];grind⟩
 ·split
  ·rename_i h;exact po.2 ⟨q,h,0,fun k _=>by rw[bi];grind⟩
  ·exact nC.2 fun e he=>⟨0,fun k _=>by rw[bi];constructor<;>grind⟩
end
theorem Ir {X Y r n:Re}(hr:0≤aS r) (hn:aS (r*r-n)=0):aS (X+Y*r)=rR (aS X) (aS Y*aS n) (aS (X*X-Y*Y*n)):=by
 have hrn:aS r=aS n:=by
  have h1:=dP hn
  rw[bJ] at h1
  rcases bL r with h|h|h
  ·grind
  ·grind
  grind
 have ht:aS (Y*r)=aS Y*aS n:=by rw[bJ,hrn]
 rw[←ht]
 unfold rR
 split
 ·rename_i h
  rcases h with h|h
  ·exact dO X h
  ·exact jD h
 ·rename_i h
  split
  ·rename_i h2;exact m8 h2 _
  ·rename_i h2
   have hopp:aS (Y*r)= -aS X:=by
    have a:=bL X
    have b:=bL (Y*r)
    omega
   have hm:aS (X+ -(Y*r))=aS X:=jD (by rw[cm,hopp];omega)
   have e1:aS ((X+Y*r)*(X+ -(Y*r)))=aS (X*X-Y*Y*n):=by
    refine dP ?_
    have e:(X+Y*r)*(X+ -(Y*r))-(X*X-Y*Y*n)= -(Y*Y)*(r*r-n):=Re.ext fun k=>by
     simp only[aG,aT,aU,bE];grind
    rw[e,bJ,hn,pD]
   rw[bJ,hm] at e1
   have a:=bL X
   grind
def xu (m:Rat) (k:Nat):Rat:=(((m.den:Int)*((k:Int)+1):Int):Rat)
def VS (m:Rat) (k:Nat):Int:=bV (m.num*(m.den:Int)*(((k:Int)+1)*((k:Int)+1)))
def x8 (m:Rat) (k:Nat):Rat:=((VS m k:Int):Rat)/xu m k
theorem qj {x y:Rat}(hd:0<d) (h:x*d≤y*d):x≤y:=by
 apply f7
 intro hn
 have h1:0<(x-y)*d:=kG (by grind) hd
 grind
theorem uo (m:Rat):m*((m.den:Int):Rat)=((m.num:Int):Rat):=by
 have h:=Rat.num_divInt_den m
 rw[zo] at h
 have hd:(0:Rat)<((m.den:Int):Rat):=tv.2 (by have:=m.den_pos;omega)
 grind
theorem zf (m:Rat) (k:Nat):0<xu m k:=by
 have h1:=den_pos m
 have h2:(0:Int)<(m.den:Int)*((k:Int)+1):=by grind
 exact tv.2 h2
theorem FE (m:Rat) (k:Nat):x8 m k*xu m k=((VS m k:Int):Rat):=by
 have:=zf m k
 unfold x8;grind
theorem O1 (m:Rat) (k:Nat):m*(xu m k*xu m k)=((m.num*(m.den:Int)*(((k:Int)+1)*((k:Int)+1)):Int):Rat):=by
 have h:=uo m
 unfold xu
 grind
theorem YE (m:Rat) (k:Nat):0≤VS m k:=eP _
theorem NW (h:0≤m) (k:Nat):0≤m.num*(m.den:Int)*(((k:Int)+1)*((k:Int)+1)):=
 f5 (f5 (Rat.num_nonneg.2 h) (by have:=den_pos m;omega)) (f5 (by omega) (by omega))
theorem FX (m:Rat) (k:Nat):0≤x8 m k:=by
 refine qj (zf m k) ?_
 rw[FE]
 have:(0:Rat)≤((VS m k:Int):Rat):=Rat.intCast_nonneg.2 (YE m k)
 grind
theorem Rg (h:0≤m) (k:Nat):x8 m k*x8 m k≤m:=by
 have hd:=zf m k
 refine qj (kG hd hd) ?_
 rw[O1]
 have e:x8 m k*x8 m k*(xu m k*xu m k)=((VS m k*VS m k:Int):Rat):=by
  rw[fZ,←FE];grind
 rw[e]
 exact fH.2 (ro (NW h k))
theorem Pm (h:0≤m) (k:Nat):m<(x8 m k+1/xu m k)*(x8 m k+1/xu m k):=by
 have hd:=zf m k
 have e:(x8 m k+1/xu m k)*(x8 m k+1/xu m k)*(xu m k*xu m k)=(((VS m k+1)*(VS m k+1):Int):Rat):=by
  rw[fZ,jw,←FE]
  grind
 have h1:=iN.2 (wx (NW h k))
 rw[←O1] at h1
 have h2:m*(xu m k*xu m k)<(x8 m k+1/xu m k)*(x8 m k+1/xu m k)*(xu m k*xu m k):=by rw[e];exact h1
 apply f7
 intro hn
 have h3:0≤(m-(x8 m k+1/xu m k)*(x8 m k+1/xu m k))*(xu m k*xu m k):=jq (by grind) (by have:=kG hd hd;grind)
 grind
theorem zK (m:Rat) (he:0<e) (hk:e.den≤k):0<1/xu m k∧1/xu m k≤e:=by
 have hd:=zf m k
 refine⟨?_,?_⟩
 ·have:=(GT (e:=1) (by decide) hd).1;exact this
 ·refine qj hd ?_
  have h1:=uo e
  have h2:0<e.num:=tv.1 (by rw[←h1];exact kG he (tv.2 (by have:=e.den_pos;omega)))
  have h3:(1:Rat)≤((e.num:Int):Rat):=by
   have:((1:Int):Rat)≤((e.num:Int):Rat):=fH.2 (by omega)
   grind
  have h4:((e.den:Int):Rat)≤xu m k:=by
   refine fH.2 ?_
   have:=den_pos m
   have h5:1*((k:Int)+1)≤(m.den:Int)*((k:Int)+1):=zL (by omega) (by omega)
   omega
  have h6:0≤e*(xu m k-((e.den:Int):Rat)):=jq (by grind) (by grind)
  grind
theorem XY (h:0≤m):S5 (x8 m):=fun e he=>by
 refine⟨e.den,fun i j _ hj=>?_⟩
 obtain⟨hp,hs⟩:=zK m he hj
 have h1:=Rg h i
 have h2:=Pm h j
 have h3:=FX m i
 have h4:=FX m j
 apply f7
 intro hn
 have h5:0≤(x8 m i-(x8 m j+1/xu m j))*(x8 m i+(x8 m j+1/xu m j)):=jq (by grind) (by grind)
 grind
def Re.rt (m:Rat):Re:=⟨fun k=>if 0≤m then x8 m k else 0,by
 by_cases h:0≤m
 ·simp only[h,if_true];exact XY h
 ·simp only[h,if_false];exact Ef 0⟩
theorem Xt {x:Re}(h: ∀k,0≤x.s k):0≤aS x:=by
 rcases bL x with a|a|a
 ·omega
 ·omega
 ·obtain⟨e,he,K,g⟩:=oO.1 a
  have h1:=g K (ce _)
  rw[bE] at h1
  grind
theorem xd (m:Rat):0≤aS (Re.rt m):=Xt fun k=>by
 show 0≤(if 0≤m then x8 m k else 0)
 split
 ·exact FX m k
 ·exact tD
theorem ow (h:0≤m):aS (Re.rt m*Re.rt m-Re.of m)=0:=nC.2 fun e he=>by
 obtain⟨d1,d2⟩:=GT he (show 0<2*m+3 by grind)
 refine⟨(e/(2*m+3)).den,fun k hk=>?_⟩
 rw[aG,aT,bi]
 show-e≤(if 0≤m then x8 m k else 0)*(if 0≤m then x8 m k else 0)+ -m∧(if 0≤m then x8 m k else 0)*(if 0≤m then x8 m k else 0)+ -m≤e
 rw[if_pos h]
 obtain⟨hp,hs⟩:=zK m d1 hk
 obtain⟨hp1,hs1⟩:=zK m (e:=1) (by decide) (k:=k) (by
  have:(1:Rat).den=1:=rfl
  rw[this]
  have:=(e/(2*m+3)).den_pos
  omega)
 have h1:=Rg h k
 have h2:=Pm h k
 have h3:=FX m k
 refine⟨?_,by grind⟩
 have h4:x8 m k≤m+1:=by
  apply f7
  intro hn
  have h5:0≤(x8 m k-(m+1))*(x8 m k+(m+1)):=jq (by grind) (by grind)
  have h6:0≤m*m:=jq h h
  grind
 generalize 1/xu m k=d at*
 have h7:0≤d*((m+1)-x8 m k):=jq (by grind) (by grind)
 have h8:0≤d*(1-d):=jq (by grind) (by grind)
 have h9:0≤(2*m+3)*(e/(2*m+3)-d):=jq (by grind) (by grind)
 grind
theorem qb (x y:Rat):aJ (x-y) 0=aJ x y:=by
 unfold aJ
 grind
theorem gZ (x y:Rat):Re.of x*Re.of y=Re.of (x*y):=rfl
theorem Ox (x:Rat): -Re.of x=Re.of (-x):=rfl
theorem XR (x y:Rat):Re.of x+Re.of y=Re.of (x+y):=rfl
theorem xO (x y:Rat):Re.of x-Re.of y=Re.of (x-y):=Re.ext fun k=>by rw[aG,bi,bi,bi];grind
def aC (a b m:Rat):Re:=Re.of a+Re.of b*Re.rt m
theorem iX (h:0≤m):bo a b m=aS (aC a b m):=by
 unfold aC
 rw[Ir (n:=Re.of m) (xd m) (ow h),cO,cO,cO,gZ,gZ,gZ,xO,cO,qb]
 rfl
def ms (A B C D M N:Rat):Re:=aC A B M+aC C D M*Re.rt N
theorem Hn (hM:0≤M) (hN:0≤N):f6 A B C D M N=aS (ms A B C D M N):=by
 unfold ms
 rw[Ir (n:=Re.of N) (xd N) (ow hN),←iX hM,←iX hM,cO,wL (by grind) (by grind)]
 have e:aS (aC A B M*aC A B M-aC C D M*aC C D M*Re.of N)=aS (aC (DS A B C D M N) (xb A B C D N+xb A B C D N) M):=by
  refine dP ?_
  have e:(aC A B M*aC A B M-aC C D M*aC C D M*Re.of N)-aC (DS A B C D M N) (xb A B C D N+xb A B C D N) M=(Re.of (B*B-D*D*N))*(Re.rt M*Re.rt M-Re.of M):=Re.ext fun k=>by
   unfold aC DS xb
   simp only[aG,aT,aU,bi];grind
  rw[e,bJ,ow hM,pD]
 rw[e,←iX hM]
theorem nM (hc:0≤c) (hf:0≤f):f6 (a-d) b (-e) 0 c f=aS (aC a b c-aC d e f):=by
 rw[Hn hc hf]
 refine congrArg aS (Re.ext fun k=>?_)
 unfold ms aC
 simp only[aG,aT,aU,bi];grind
section
variable {P:Program}{ops:Array Oper}{T:TF}{B:BF}
theorem tj {x y:Operand}{k yk:IntKind}{m:Int}
 (hx:cE T x=some (.v (.c (.i k m)))) (hy:cE T y=some (.v (.c (.i yk n)))) (h0: ¬n<0) (hr:m.fdiv (2^(min n.toNat k.bits))=r) (hg:gd ops ⟨dst,.binOp .shr xt x y yt,ty,pos,af,g⟩ T=some true):
 Sem P ops ⟨dst,.binOp .shr xt x y yt,ty,pos,af,g⟩ T B (.r (.v (.c (.i k r)))):=
 bQ hg (pP rfl) (fun V β a w hs=>by
  have e1:a.eval x=.int k m:=fQ (aE hs (x:=x) (by simp[Op.operands]) hx)
  have e2:a.eval y=.int yk n:=fQ (aE hs (x:=y) (by simp[Op.operands]) hy)
  subst hr
  exact⟨.int k (m.fdiv (2^(min n.toNat k.bits))),by simp[execOp,e1,e2,eqGuard,binOp,Op.shift,h0],.i _ _⟩)
theorem TR {x y:Operand}{k yk:IntKind}{m:Int}
 (hx:cE T x=some (.v (.c (.i k m)))) (hy:cE T y=some (.v (.c (.i yk n)))) (h0: ¬n<0) (hr:k.wrap (m*2^(min n.toNat k.bits))=r) (hg:gd ops ⟨dst,.binOp .shl xt x y yt,ty,pos,af,g⟩ T=some true):
 Sem P ops ⟨dst,.binOp .shl xt x y yt,ty,pos,af,g⟩ T B (.r (.v (.c (.i k r)))):=
 bQ hg (pP rfl) (fun V β a w hs=>by
  have e1:a.eval x=.int k m:=fQ (aE hs (x:=x) (by simp[Op.operands]) hx)
  have e2:a.eval y=.int yk n:=fQ (aE hs (x:=y) (by simp[Op.operands]) hy)
  subst hr
  exact⟨.int k (k.wrap (m*2^(min n.toNat k.bits))),by simp[execOp,e1,e2,eqGuard,binOp,Op.shift,h0],.i _ _⟩)
end
def p8 (x:Int):Int:=bV (max x 0*65536)
def lv (y:Int):Int:=if Dg (y*65536) then bV (y*65536) else bV (y*65536)+1
theorem CW (h0:0≤n) (h1:n≤2305843009213693952):0≤bV (n*65536)∧bV (n*65536)≤549755813888:=by
 refine⟨eP _,?_⟩
 have h2:=ro (x:=n*65536) (by omega)
 by_cases h:bV (n*65536)≤549755813888
 ·exact h
 ·have:=Qp (a:=549755813889) (b:=bV (n*65536)) (by decide) (by omega)
  omega
theorem L8 (h0: -4611686018427387904≤x) (h1:x≤4611686018427387904):xy x=true:=So.2 ⟨by omega,by omega⟩
theorem Gc (h0: -2305843009213693952≤lo) (h1:hi≤2305843009213693952):wS lo hi=true:=Vg (by omega) (by omega)
theorem pO (ha:Rz 4000000 a):Ok Tryz.prog 238 [dR a] [.a (([.i .i64 (if jj a then jB a else 0)]++[.i .i64 (if jj a then jk a else 0)])),.c (.b (jj a))]:=by
 have hz:Rz 6000000 (a*((65536:Int):Rat)):=(aO ha (d6 (dY (k:=3) (by decide) (by decide) (by decide)) (by decide))).m_
 have ha3:Rz 6000000 a:=ha.m_
 have h65:Rz 6000000 ((65536:Int):Rat):=(d6 (dY (k:=3) (by decide) (by decide) (by decide)) (by decide)).m_
 have hzn:Rz 6000000 (-(a*((65536:Int):Rat))):=hz.neg
 have hs1:Sz 100000000 (jB a):=(Sz.fdiv hz.n).m_
 have hs2:Sz 100000000 ((-(a*((65536:Int):Rat))).num.fdiv ((-(a*((65536:Int):Rat))).den:Int)):=(Sz.fdiv hzn.n).m_
 have hs3:Sz 100000000 (jk a):=hs2.neg
 have hf1:Ok Tryz.prog 323 [dR (a*((65536:Int):Rat))] [dI (jB a)]:=xq hz
 have hf3:Ok Tryz.prog 167 [dI ((-(a*((65536:Int):Rat))).num.fdiv ((-(a*((65536:Int):Rat))).den:Int))] [dI (jk a)]:=yL hs2
 refine eH Tryz.func238 38 [.cell 2 230,.tmp 3] rfl<|aa<|ag<|aa<|dJ 4 [] ?_
 refine aK rfl (iY (by omega) (by omega)) ?_
 refine aK rfl (cW (by first|assumption|exact dU (by assumption) (by decide)) (by first|assumption|exact dU (d6 (dY (k:=3) (by decide) (by decide) (by decide)) (by decide)) (by decide))) ?_
 refine aa<|ag ?_
 refine ac rfl (hf1) ?_
 refine ac rfl (At (by first|assumption|exact Sz.mono (by assumption) (by decide))) ?_
 refine aa<|ag ?_
 refine ac rfl (dS (by first|assumption|exact dU (aO (by assumption) (d6 (dY (k:=3) (by decide) (by decide) (by decide)) (by decide))) (by decide))) ?_
 refine ac rfl (xq hzn)<|ac rfl (hf3) ?_
 refine ac rfl (At (by first|assumption|exact Sz.mono (by assumption) (by decide))) ?_
 refine aa<|aa<|ag ?_
 refine jT (bz rfl) (fun c1 hb1=>?_)
 cases c1
 ·refine aI rfl (fun hc2=>?_) (fun hc2=>?_)
  ·refine aa<|ag<|ar (aM (us:=([.i .i64 0]++[.i .i64 0])) qZ qr rfl rfl rfl) ?_
   refine aZ ?_
   rw[show jj a=false from by unfold jj;rw[jN hc2,pk,oK],if_neg (by decide),if_neg (by decide)]
   exact ah (aV jV rfl (az ae))
  ·have e1:=fA hb1
   have e2:=fA hc2
   refine lj (σ':=⟨38,[(2,.p 2 0),(5,.v (.c (.i .i64 (jB a)))),(7,.v (.c (.i .i64 (jk a))))],[(2,230,([.i .i64 0]++[.i .i64 0]))]⟩) (ao ⟨rfl,by rw[if_pos e1];rfl,by rw[if_pos e2];rfl,trivial⟩ ⟨rfl,trivial⟩ rfl) ?_
   refine aA<|aa<|ag<|ac rfl (tJ) ?_
   refine aZ ?_
   rw[show jj a=wS (jB a) (jk a) from by unfold jj;rw[e1,e2];rfl]
   exact ah (aV jV rfl (az ae))
 ·refine df rfl<|aa<|ag<|ar (aM (us:=([.i .i64 0]++[.i .i64 0])) qZ qr rfl rfl rfl) ?_
  refine aZ ?_
  rw[show jj a=false from by unfold jj;rw[jN hb1];rfl,if_neg (by decide),if_neg (by decide)]
  exact ah (aV jV rfl (az ae))
theorem Ha (h0:0≤n) (h1:n≤2305843009213693952):Ok Tryz.prog 387 [.c (.i .i64 n)] [.c (.i .i64 (bV (n*65536))),.c (.b (Dg (n*65536)))]:=by
 have z1:Sz 100000000 n:=dY (by decide) (by omega) (by omega)
 have z2:Sz 100000000 (65536:Int):=dY (by decide) (by decide) (by decide)
 have z4:Sz 3 (n*65536):=⟨by have:pw 3=1000000000000000000000000000:=by decide
                             omega,by have:pw 3=1000000000000000000000000000:=by decide
                                      omega⟩
 have z5:Sz 99999999 (n*65536):=z4.m_
 have z6:Sz 100000000 (bV (n*65536)):=z4.isq.m_
 have hb:=CW h0 h1
 have e0:(if xy (bV (n*65536)) then bV (n*65536) else 0)=bV (n*65536):=by rw[L8 (by omega) (by omega),if_pos rfl]
 refine ca Tryz.func387 rfl<|ac rfl (jh (by omega) (by omega))<|ac rfl (jh (by omega) (by omega)) ?_
 refine ac rfl (gG (by first|assumption|exact Sz.mono (by assumption) (by decide)) (by first|assumption|exact Sz.mono (dY (k:=3) (by decide) (by decide) (by decide)) (by decide))) ?_
 refine ac rfl (CB (by first|assumption|exact Sz.mono (dC (by assumption) (dY (k:=3) (by decide) (by decide) (by decide))) (by decide))) ?_
 refine ac rfl ((show Ok Tryz.prog 322 [dI (bV (n*65536))] [.c (.i .i64 (bV (n*65536))),.c (.b (xy (bV (n*65536))))] from by have:=At z6;rw[e0] at this;exact this))<|cT 9 [] ?_
 refine aK rfl (gG (by first|assumption|exact Sz.mono (Sz.isq (dC (by assumption) (dY (k:=3) (by decide) (by decide) (by decide)))) (by decide)) (by first|assumption|exact Sz.mono (Sz.isq (dC (by assumption) (dY (k:=3) (by decide) (by decide) (by decide)))) (by decide))) ?_
 refine aK rfl (pI)<|ah ?_
 rw[K3]
 exact az (az ae)
theorem GF (h0: -2305843009213693952≤x) (h1:x≤2305843009213693952) (h2: -2305843009213693952≤y) (h3:y≤2305843009213693952) (hn: ¬y<0):Ok Tryz.prog 365 [.a (([.i .i64 x]++[.i .i64 y]))] [.a (([.i .i64 (p8 x)]++[.i .i64 (lv y)])),.c (.b true)]:=by
 have b1:=CW (n:=max x 0) (by omega) (by omega)
 have b2:=CW (n:=y) (by omega) h3
 refine ca Tryz.func365 rfl ?_
 refine dD rfl (fun hc1=>?_) (fun hc1=>?_)
 ·exact absurd (wX hc1) hn
 ·refine ar (F6 rfl rfl rfl) ?_
  refine ac rfl (Ha (by omega) (by omega))<|ac rfl (Ha (by omega) (by omega)) ?_
  refine dD rfl (fun hc2=>?_) (fun hc2=>?_)
  ·refine ar (ci ((bV (y*65536))+1) (bk (by omega) (by omega)) rfl)<|ac rfl ((show Ok Tryz.prog 324 [.c (.i .i64 (bV ((max x 0)*65536))),.c (.i .i64 ((bV (y*65536))+1))] [.a ([.i .i64 (bV ((max x 0)*65536))]++[.i .i64 ((bV (y*65536))+1)]),.c (.b true)] from by have:=tJ (x:=bV ((max x 0)*65536)) (y:=(bV (y*65536))+1);rw[Gc (by omega) (by omega),if_pos rfl,if_pos rfl] at this;exact this)) ?_
   refine ah ?_
   unfold p8 lv
   rw[jN hc2,if_neg (by decide)]
   exact aV jV rfl (az ae)
  ·refine ac rfl ((show Ok Tryz.prog 324 [.c (.i .i64 (bV ((max x 0)*65536))),.c (.i .i64 (bV (y*65536)))] [.a ([.i .i64 (bV ((max x 0)*65536))]++[.i .i64 (bV (y*65536))]),.c (.b true)] from by have:=tJ (x:=bV ((max x 0)*65536)) (y:=bV (y*65536));rw[Gc (by omega) (by omega),if_pos rfl,if_pos rfl] at this;exact this)) ?_
   refine ah ?_
   unfold p8 lv
   rw[fA hc2,if_pos rfl]
   exact aV jV rfl (az ae)
theorem Lq (h0: -2305843009213693952≤x) (h1:x≤2305843009213693952) (h2: -2305843009213693952≤y) (h3:y≤2305843009213693952) (h4: -2305843009213693952≤u) (h5:u≤2305843009213693952) (h6: -2305843009213693952≤v) (h7:v≤2305843009213693952):Ok Tryz.prog 240 [.a (([.i .i64 x]++[.i .i64 y])),.a (([.i .i64 u]++[.i .i64 v]))] [.a (([.i .i64 (if wS (x+u) (y+v) then x+u else 0)]++[.i .i64 (if wS (x+u) (y+v) then y+v else 0)])),.c (.b (wS (x+u) (y+v)))]:=by
 refine ca Tryz.func240 rfl<|ar (ci (x+u) (bk (by omega) (by omega)) rfl) ?_
 refine ar (ci (y+v) (bk (by omega) (by omega)) rfl) ?_
 refine ac rfl (tJ) ?_
 exact ah (aV jV rfl (az ae))
theorem LN (h0: -9223372036854775808≤x) (h1:x≤9223372036854775807):Ok Tryz.prog 367 [.c (.i .i64 x)] [.c (.i .u64 (x.natAbs:Int))]:=by
 refine ca Tryz.func367 rfl ?_
 refine dD rfl (fun hc1=>?_) (fun hc1=>?_)
 ·have hn:=wX hc1
  have e:(x.natAbs:Int)= -x:=by omega
  refine ar (b6 (r:=x+18446744073709551616) AT fM rfl (Hq hn h0) rfl) ?_
  refine ar (gl (r:= -x) rfl (DA hn h0) rfl) ?_
  refine ah ?_
  rw[e]
  exact az ae
 ·have hn:=pr hc1
  have e:(x.natAbs:Int)=x:=by omega
  refine ar (b6 (r:=x) AT fM rfl (iB (by omega) (by omega)) rfl) ?_
  refine ah ?_
  rw[e]
  exact az ae
section
variable {P:Program}{ops:Array Oper}{T:TF}{B:BF}
theorem A9 {x y:Operand}{k:IntKind}{m:Int}
 (hx:cE T x=some (.v (.c (.i k m)))) (hy:cE T y=some (.v (.c (.i k n)))) (hr:k.wrap ((BitVec.ofInt k.bits m&&&BitVec.ofInt k.bits n).toNat:Int)=r) (hg:gd ops ⟨dst,.binOp .and xt x y yt,ty,pos,af,g⟩ T=some true):
 Sem P ops ⟨dst,.binOp .and xt x y yt,ty,pos,af,g⟩ T B (.r (.v (.c (.i k r)))):=
 bQ hg (pP rfl) (fun V β a w hs=>by
  have e1:a.eval x=.int k m:=fQ (aE hs (x:=x) (by simp[Op.operands]) hx)
  have e2:a.eval y=.int k n:=fQ (aE hs (x:=y) (by simp[Op.operands]) hy)
  subst hr
  exact⟨.int k (k.wrap ((BitVec.ofInt k.bits m&&&BitVec.ofInt k.bits n).toNat:Int)),by simp[execOp,e1,e2,eqGuard,binOp,Op.intBits],.i _ _⟩)
theorem X1 {x y:Operand}{k:IntKind}{m:Int}
 (hx:cE T x=some (.v (.c (.i k m)))) (hy:cE T y=some (.v (.c (.i k n)))) (hr:k.wrap ((BitVec.ofInt k.bits m|||BitVec.ofInt k.bits n).toNat:Int)=r) (hg:gd ops ⟨dst,.binOp .or xt x y yt,ty,pos,af,g⟩ T=some true):
 Sem P ops ⟨dst,.binOp .or xt x y yt,ty,pos,af,g⟩ T B (.r (.v (.c (.i k r)))):=
 bQ hg (pP rfl) (fun V β a w hs=>by
  have e1:a.eval x=.int k m:=fQ (aE hs (x:=x) (by simp[Op.operands]) hx)
  have e2:a.eval y=.int k n:=fQ (aE hs (x:=y) (by simp[Op.operands]) hy)
  subst hr
  exact⟨.int k (k.wrap ((BitVec.ofInt k.bits m|||BitVec.ofInt k.bits n).toNat:Int)),by simp[execOp,e1,e2,eqGuard,binOp,Op.intBits],.i _ _⟩)
end
theorem zu (n:Nat) (h:n<18446744073709551616):(BitVec.ofInt 64 (n:Int)).toNat=n:=by
 rw[BitVec.toNat_ofInt];omega
theorem NJ (h0:0≤x) (h1:x≤18446744073709551615):IntKind.u64.wrap ((BitVec.ofInt IntKind.u64.bits x&&&BitVec.ofInt IntKind.u64.bits 4294967295).toNat:Int)=x%4294967296:=by
 obtain⟨n,rfl⟩:=Az h0
 have e:(BitVec.ofInt IntKind.u64.bits (n:Int)&&&BitVec.ofInt IntKind.u64.bits 4294967295).toNat=n%4294967296:=by
  show(BitVec.ofInt 64 (n:Int)&&&BitVec.ofInt 64 ((4294967295:Nat):Int)).toNat=_
  rw[BitVec.toNat_and,zu n (by omega),zu _ (by decide)]
  exact Nat.and_two_pow_sub_one_eq_mod n 32
 rw[e,iB (by omega) (by omega)];omega
theorem abh (h0:0≤x) (h1:x≤18446744073709551615):IntKind.u64.wrap ((BitVec.ofInt IntKind.u64.bits x&&&BitVec.ofInt IntKind.u64.bits 65535).toNat:Int)=x%65536:=by
 obtain⟨n,rfl⟩:=Az h0
 have e:(BitVec.ofInt IntKind.u64.bits (n:Int)&&&BitVec.ofInt IntKind.u64.bits 65535).toNat=n%65536:=by
  show(BitVec.ofInt 64 (n:Int)&&&BitVec.ofInt 64 ((65535:Nat):Int)).toNat=_
  rw[BitVec.toNat_and,zu n (by omega),zu _ (by decide)]
  exact Nat.and_two_pow_sub_one_eq_mod n 16
 rw[e,iB (by omega) (by omega)];omega
theorem acb {h l:Int}(h0:0≤h) (h1:h<65536) (l0:0≤l) (l1:l<281474976710656):IntKind.u64.wrap ((BitVec.ofInt IntKind.u64.bits (h*281474976710656)|||BitVec.ofInt IntKind.u64.bits l).toNat:Int)=h*281474976710656+l:=by
 obtain⟨n,rfl⟩:=Az h0
 obtain⟨m,rfl⟩:=Az l0
 have e:(BitVec.ofInt IntKind.u64.bits ((n:Int)*281474976710656)|||BitVec.ofInt IntKind.u64.bits (m:Int)).toNat=n*281474976710656+m:=by
  show(BitVec.ofInt 64 ((n:Int)*((281474976710656:Nat):Int))|||BitVec.ofInt 64 (m:Int)).toNat=_
  rw[←Int.natCast_mul,BitVec.toNat_or,zu _ (by omega),zu _ (by omega)]
  have:=Nat.two_pow_add_eq_or_of_lt (i:=48) (b:=m) (by omega) n
  grind
 rw[e,iB (by omega) (by omega)];omega
theorem G3:x.fdiv (2^(min (32:Int).toNat IntKind.u64.bits))=x/4294967296:=by
 rw[show(2:Int)^(min (32:Int).toNat IntKind.u64.bits)=4294967296 from rfl];exact pv _ (by decide)
theorem UI:x.fdiv (2^(min (16:Int).toNat IntKind.u64.bits))=x/65536:=by
 rw[show(2:Int)^(min (16:Int).toNat IntKind.u64.bits)=65536 from rfl];exact pv _ (by decide)
theorem aaX (h0:0≤x) (h1:x<65536):IntKind.u64.wrap (x*2^(min (48:Int).toNat IntKind.u64.bits))=x*281474976710656:=by
 rw[show(2:Int)^(min (48:Int).toNat IntKind.u64.bits)=281474976710656 from rfl,iB (by omega) (by omega)]
theorem ach:IntKind.u64.wrap x=x%18446744073709551616:=by unfold IntKind.wrap;simp[IntKind.bits,IntKind.signed]
theorem Zs (_h0:0≤x) (_h1:x≤18446744073709551615) (_h2:0≤y) (_h3:y≤18446744073709551615):
 (x/4294967296)*(y/4294967296)+((x/4294967296)*(y%4294967296)+(x%4294967296)*(y%4294967296)/4294967296)/4294967296+(((x/4294967296)*(y%4294967296)+(x%4294967296)*(y%4294967296)/4294967296)%4294967296+(x%4294967296)*(y/4294967296))/4294967296=x*y/18446744073709551616:=by
 obtain⟨a,ha⟩: ∃a,x/4294967296=a:=⟨_,rfl⟩
 obtain⟨b,hb⟩: ∃b,x%4294967296=b:=⟨_,rfl⟩
 obtain⟨c,hc⟩: ∃c,y/4294967296=c:=⟨_,rfl⟩
 obtain⟨d,hd⟩: ∃d,y%4294967296=d:=⟨_,rfl⟩
 rw[ha,hb,hc,hd]
 have e:x*y=18446744073709551616*(a*c)+4294967296*(a*d)+4294967296*(b*c)+b*d:=by grind
 omega
theorem MX (h0:0≤x) (h1:x≤18446744073709551615) (h2:0≤y) (h3:y≤18446744073709551615):Ok Tryz.prog 366 [.c (.i .u64 x),.c (.i .u64 y)] [.c (.i .u64 (x*y/18446744073709551616)),.c (.i .u64 (x*y%18446744073709551616))]:=by
 obtain⟨a,ha⟩: ∃a,x/4294967296=a:=⟨_,rfl⟩
 obtain⟨b,hb⟩: ∃b,x%4294967296=b:=⟨_,rfl⟩
 obtain⟨c,hc⟩: ∃c,y/4294967296=c:=⟨_,rfl⟩
 obtain⟨d,hd⟩: ∃d,y%4294967296=d:=⟨_,rfl⟩
 have hm:=Zs h0 h1 h2 h3
 rw[ha,hb,hc,hd] at hm
 have pb: ∀u v:Int,0≤u→u≤4294967295→0≤v→v≤4294967295→0≤u*v∧u*v≤18446744065119617025:=fun u v u0 u1 v0 v1=>⟨Int.mul_nonneg u0 v0,rG (c:=(4294967295:Int)) u1 v1 v0 (by decide)⟩
 have q1:=pb b d (by omega) (by omega) (by omega) (by omega)
 have q2:=pb a d (by omega) (by omega) (by omega) (by omega)
 have q3:=pb b c (by omega) (by omega) (by omega) (by omega)
 have q4:=pb a c (by omega) (by omega) (by omega) (by omega)
 refine ca Tryz.func366 rfl<|ar (A9 (r:=b) rfl rfl (by rw[←hb];exact NJ h0 h1) rfl) ?_
 refine ar (tj (r:=a) rfl rfl (by decide) (by rw[←ha];exact G3) rfl) ?_
 refine ar (A9 (r:=d) rfl rfl (by rw[←hd];exact NJ h2 h3) rfl) ?_
 refine ar (tj (r:=c) rfl rfl (by decide) (by rw[←hc];exact G3) rfl) ?_
 refine ar (ci (b*d) (iA (by omega) (by omega)) rfl)<|ar (ci (a*d) (iA (by omega) (by omega)) rfl)<|ar (tj (r:=b*d/4294967296) rfl rfl (by decide) (G3) rfl) ?_
 refine ar (ci ((a*d)+(b*d/4294967296)) (fW (by omega) (by omega)) rfl)<|ar (A9 (r:=(a*d+b*d/4294967296)%4294967296) rfl rfl (NJ (by omega) (by omega)) rfl) ?_
 refine ar (tj (r:=(a*d+b*d/4294967296)/4294967296) rfl rfl (by decide) (G3) rfl) ?_
 refine ar (ci (b*c) (iA (by omega) (by omega)) rfl)<|ar (ci (((a*d+b*d/4294967296)%4294967296)+(b*c)) (fW (by omega) (by omega)) rfl)<|ar (ci (a*c) (iA (by omega) (by omega)) rfl)<|ar (ci ((a*c)+((a*d+b*d/4294967296)/4294967296)) (fW (by omega) (by omega)) rfl)<|ar (tj (r:=((a*d+b*d/4294967296)%4294967296+b*c)/4294967296) rfl rfl (by decide) (G3) rfl) ?_
 refine ar (ci (((a*c)+((a*d+b*d/4294967296)/4294967296))+(((a*d+b*d/4294967296)%4294967296+b*c)/4294967296)) (fW (by omega) (by omega)) rfl)<|ar (ci (x*y%18446744073709551616) (congrArg some ach) rfl)<|ah ?_
 rw[←hm]
 exact az (az ae)
def Ns (x y:Int):Int:=(x.natAbs:Int)*(y.natAbs:Int)
def Dj (p:Int):Int:=if p%65536=0 then p/65536 else p/65536+1
def mO (x y:Int):Int:=if (!(decide (x<0)==decide (y<0)))=true then-(Dj (Ns x y)) else Ns x y/65536
def mN (x y:Int):Int:=if (!(decide (x<0)==decide (y<0)))=true then-(Ns x y/65536) else Dj (Ns x y)
def w8 (x y:Int):Bool:=decide (Ns x y/65536>2305843009213693952)
def qS (x y:Int):Bool:= !w8 x y&&(decide (mO x y≥ -2305843009213693952)&&decide (mN x y≤2305843009213693952))
theorem Yl (h:(p%18446744073709551616%65536 !=0)=true):Dj p=p/65536+1:=by
 have h:p%18446744073709551616%65536≠0:=by simpa using h
 unfold Dj;rw[if_neg (by omega)]
theorem XI (h:(p%18446744073709551616%65536 !=0)=false):Dj p=p/65536:=by
 have h:p%18446744073709551616%65536=0:=by simpa using h
 unfold Dj;rw[if_pos (by omega)]
theorem acv {a:Int}(h:(a !=0)=true):a≠0:=by simpa using h
theorem abU {a:Int}(h:(a !=0)=false):a=0:=by simpa using h
theorem IT (h0: -9223372036854775808≤x) (h1:x≤9223372036854775807) (h2: -9223372036854775808≤y) (h3:y≤9223372036854775807):Ok Tryz.prog 325 [.c (.i .i64 x),.c (.i .i64 y)] [.c (.i .i64 (if w8 x y then 0 else mO x y)),.c (.i .i64 (if w8 x y then 0 else mN x y)),.c (.b (qS x y))]:=by
 obtain⟨p,hp⟩: ∃p,Ns x y=p:=⟨_,rfl⟩
 have hp':(x.natAbs:Int)*(y.natAbs:Int)=p:=hp
 have hp0:0≤p:=by rw[←hp'];exact f5 (by omega) (by omega)
 have hp1:p≤9223372036854775808*9223372036854775808:=by rw[←hp'];exact rG (by omega) (by omega) (by omega) (by decide)
 have hmul:Ok Tryz.prog 366 [.c (.i .u64 (x.natAbs:Int)),.c (.i .u64 (y.natAbs:Int))] [.c (.i .u64 (p/18446744073709551616)),.c (.i .u64 (p%18446744073709551616))]:=by rw[←hp'];exact MX (by omega) (by omega) (by omega) (by omega)
 have big:p/65536>2305843009213693952→w8 x y=true:=fun h=>by unfold w8;rw[hp];exact decide_eq_true h
 have small: ¬p/65536>2305843009213693952→w8 x y=false:=fun h=>by unfold w8;rw[hp];exact decide_eq_false h
 refine ca Tryz.func325 rfl<|ac rfl (LN (by omega) (by omega))<|ac rfl (LN (by omega) (by omega))<|ac rfl (hmul)<|ar (tj (r:=p/18446744073709551616/65536) rfl rfl (by decide) (UI) rfl) ?_
 refine dD rfl (fun hc1=>?_) (fun hc1=>?_)
 ·have g1:=acv hc1
  refine ah ?_
  rw[show qS x y=false from by unfold qS;rw[big (by omega)];rfl,big (by omega),if_pos rfl,if_pos rfl]
  exact az (az (az ae))
 ·have g1:=abU hc1
  refine ar (TR (r:=(p/18446744073709551616)*281474976710656) rfl rfl (by decide) (aaX (by omega) (by omega)) rfl) ?_
  refine ar (tj (r:=p%18446744073709551616/65536) rfl rfl (by decide) (UI) rfl) ?_
  refine ar (X1 (r:=p/65536) rfl rfl ((acb (by omega) (by omega) (by omega) (by omega)).trans (by omega)) rfl) ?_
  refine dD rfl (fun hc2=>?_) (fun hc2=>?_)
  ·refine ah ?_
   rw[show qS x y=false from by unfold qS;rw[big (wX hc2)];rfl,big (wX hc2),if_pos rfl,if_pos rfl]
   exact az (az (az ae))
  ·have g2:=pr hc2
   refine ar (b6 (r:=p/65536) fM AT rfl (qN (by omega) (by omega)) rfl) ?_
   refine ar (b6 (r:=p/65536) fM AT rfl (qN (by omega) (by omega)) rfl) ?_
   refine ar (A9 (r:=p%18446744073709551616%65536) rfl rfl (abh (by omega) (by omega)) rfl) ?_
   refine dD rfl (fun hc3=>?_) (fun hc3=>?_)
   ·have hu:=Yl hc3
    refine ar (ci ((p/65536)+1) (bk (by omega) (by omega)) rfl)<|ar (gV rfl rfl gO rfl) ?_
    refine dD rfl (fun hc4=>?_) (fun hc4=>?_)
    ·refine ar (gl (r:= -(p/65536+1)) rfl (by rw[qN (by omega) (by omega)];omega) rfl) ?_
     refine ar (gl (r:= -(p/65536)) rfl (by rw[qN (by omega) (by omega)];omega) rfl) ?_
     refine jT (bz rfl) (fun c5 hb5=>?_)
     cases c5
     ·refine ah ?_
      unfold qS
      rw[small (pr hc2),if_neg (by decide),if_neg (by decide),ui,iO]
      rw[show mO x y= -(p/65536+1) from by unfold mO;rw[hp,hu,if_pos hc4],show mN x y= -(p/65536) from by unfold mN;rw[hp,hu,if_pos hc4]]
      rw[hb5,pk]
      exact az (az (az ae))
     ·refine ah ?_
      unfold qS
      rw[small (pr hc2),if_neg (by decide),if_neg (by decide),ui,iO]
      rw[show mO x y= -(p/65536+1) from by unfold mO;rw[hp,hu,if_pos hc4],show mN x y= -(p/65536) from by unfold mN;rw[hp,hu,if_pos hc4]]
      rw[hb5,iO]
      exact az (az (az ae))
    ·refine jT (bz rfl) (fun c6 hb6=>?_)
     cases c6
     ·refine ah ?_
      unfold qS
      rw[small (pr hc2),if_neg (by decide),if_neg (by decide),ui,iO]
      rw[show mO x y=p/65536 from by unfold mO;rw[hp,hu,if_neg (by rw[hc4];decide)],show mN x y=p/65536+1 from by unfold mN;rw[hp,hu,if_neg (by rw[hc4];decide)]]
      rw[hb6,pk]
      exact az (az (az ae))
     ·refine ah ?_
      unfold qS
      rw[small (pr hc2),if_neg (by decide),if_neg (by decide),ui,iO]
      rw[show mO x y=p/65536 from by unfold mO;rw[hp,hu,if_neg (by rw[hc4];decide)],show mN x y=p/65536+1 from by unfold mN;rw[hp,hu,if_neg (by rw[hc4];decide)]]
      rw[hb6,iO]
      exact az (az (az ae))
   ·have hu:=XI hc3
    refine ar (gV rfl rfl gO rfl) ?_
    refine dD rfl (fun hc7=>?_) (fun hc7=>?_)
    ·refine ar (gl (r:= -(p/65536)) rfl (by rw[qN (by omega) (by omega)];omega) rfl) ?_
     refine ar (gl (r:= -(p/65536)) rfl (by rw[qN (by omega) (by omega)];omega) rfl) ?_
     refine jT (bz rfl) (fun c8 hb8=>?_)
     cases c8
     ·refine ah ?_
      unfold qS
      rw[small (pr hc2),if_neg (by decide),if_neg (by decide),ui,iO]
      rw[show mO x y= -(p/65536) from by unfold mO;rw[hp,hu,if_pos hc7],show mN x y= -(p/65536) from by unfold mN;rw[hp,hu,if_pos hc7]]
      rw[hb8,pk]
      exact az (az (az ae))
     ·refine ah ?_
      unfold qS
      rw[small (pr hc2),if_neg (by decide),if_neg (by decide),ui,iO]
      rw[show mO x y= -(p/65536) from by unfold mO;rw[hp,hu,if_pos hc7],show mN x y= -(p/65536) from by unfold mN;rw[hp,hu,if_pos hc7]]
      rw[hb8,iO]
      exact az (az (az ae))
    ·refine jT (bz rfl) (fun c9 hb9=>?_)
     cases c9
     ·refine ah ?_
      unfold qS
      rw[small (pr hc2),if_neg (by decide),if_neg (by decide),ui,iO]
      rw[show mO x y=p/65536 from by unfold mO;rw[hp,hu,if_neg (by rw[hc7];decide)],show mN x y=p/65536 from by unfold mN;rw[hp,hu,if_neg (by rw[hc7];decide)]]
      rw[hb9,pk]
      exact az (az (az ae))
     ·refine ah ?_
      unfold qS
      rw[small (pr hc2),if_neg (by decide),if_neg (by decide),ui,iO]
      rw[show mO x y=p/65536 from by unfold mO;rw[hp,hu,if_neg (by rw[hc7];decide)],show mN x y=p/65536 from by unfold mN;rw[hp,hu,if_neg (by rw[hc7];decide)]]
      rw[hb9,iO]
      exact az (az (az ae))
def Md (x y:Int):Int:=if x>0 then 1 else if y<0 then-1 else 0
def Mz (x y:Int):Bool:=decide (x>0)||(decide (y<0)||(x==0&&y==0))
theorem aam (h:decide (x>0)=true):Md x y=1∧Mz x y=true:=by
 unfold Md Mz;rw[if_pos (by simpa using h),h];exact⟨rfl,rfl⟩
theorem aaQ (h:decide (x>0)=false) (h2:decide (y<0)=true):Md x y= -1∧Mz x y=true:=by
 unfold Md Mz;rw[if_neg (by simpa using h),if_pos (by simpa using h2),h,h2];exact⟨rfl,rfl⟩
theorem T5 (h:decide (x>0)=false) (h2:decide (y<0)=false):Md x y=0∧Mz x y=(x==0&&y==0):=by
 unfold Md Mz;rw[if_neg (by simpa using h),if_neg (by simpa using h2),h,h2];exact⟨rfl,rfl⟩
theorem GG:Ok Tryz.prog 242 [.a (([.i .i64 x]++[.i .i64 y]))] [.c (.i .i64 (Md x y)),.c (.b (Mz x y))]:=by
 refine ca Tryz.func242 rfl ?_
 refine dD rfl (fun hc1=>?_) (fun hc1=>?_)
 ·refine ah ?_
  rw[(aam hc1).1,(aam hc1).2]
  exact az (az ae)
 ·refine dD rfl (fun hc2=>?_) (fun hc2=>?_)
  ·refine ah ?_
   rw[(aaQ hc1 hc2).1,(aaQ hc1 hc2).2]
   exact az (az ae)
  ·refine cT 10 [] ?_
   refine AF (bz rfl) (fun c3 hb3=>?_)
   cases c3
   ·refine ah ?_
    rw[(T5 hc1 hc2).1,(T5 hc1 hc2).2,hb3,pk]
    exact az (az ae)
   ·refine ah ?_
    rw[(T5 hc1 hc2).1,(T5 hc1 hc2).2,hb3,iO]
    exact az (az ae)
def wU (x y:Int) (k:Nat):Int:=if k=0 then x else y
theorem Li (h:k<2):([CellD.i .i64 x,.i .i64 y])[k*1]? =some (.i .i64 (wU x y k)):=by
 have:k=0∨k=1:=by omega
 rcases this with rfl|rfl<;>rfl
theorem Oq (h0: -2305843009213693952≤x) (h1:x≤2305843009213693952) (h2: -2305843009213693952≤y) (h3:y≤2305843009213693952): -2305843009213693952≤wU x y k∧wU x y k≤2305843009213693952:=by
 unfold wU;split<;>omega
def Do (x y u v:Int):Nat→Int
 |0=>2305843009213693952
 |n+1=>min (Do x y u v n) (mO (wU x y (n/2)) (wU u v (n%2)))
def Df (x y u v:Int):Nat→Int
 |0=> -2305843009213693952
 |n+1=>max (Df x y u v n) (mN (wU x y (n/2)) (wU u v (n%2)))
def zl (x y u v:Int):Nat→Bool
 |0=>true
 |n+1=>zl x y u v n&&qS (wU x y (n/2)) (wU u v (n%2))
theorem Qo (h:qS x y=true): ¬w8 x y=true:=by
 unfold qS at h
 grind
theorem Ro {n:Nat}(h:zl x y u v n=false) (m:Nat):zl x y u v (n+m)=false:=by
 induction m with
 |zero=>exact h
 |succ m ih=>show(zl x y u v (n+m)&&_)=false;rw[ih];rfl
theorem Sy (hj:j<2) (h:qS (wU x y k) (wU u v j)=true):min (Do x y u v (2*k+j)) (if w8 (wU x y k) (wU u v j) then 0 else mO (wU x y k) (wU u v j))=Do x y u v (2*k+(j+1)):=by
 rw[if_neg (Qo h)]
 show _=min (Do x y u v (2*k+j)) (mO (wU x y ((2*k+j)/2)) (wU u v ((2*k+j)%2)))
 grind
theorem Tq (hj:j<2) (h:qS (wU x y k) (wU u v j)=true):max (Df x y u v (2*k+j)) (if w8 (wU x y k) (wU u v j) then 0 else mN (wU x y k) (wU u v j))=Df x y u v (2*k+(j+1)):=by
 rw[if_neg (Qo h)]
 show _=max (Df x y u v (2*k+j)) (mN (wU x y ((2*k+j)/2)) (wU u v ((2*k+j)%2)))
 grind
theorem Kr (hj:j<2):zl x y u v (2*k+(j+1))=(zl x y u v (2*k+j)&&qS (wU x y k) (wU u v j)):=by
 show(zl x y u v (2*k+j)&&qS (wU x y ((2*k+j)/2)) (wU u v ((2*k+j)%2)))=_
 grind
theorem Lk (h0: -2305843009213693952≤x) (h1:x≤2305843009213693952) (h2: -2305843009213693952≤y) (h3:y≤2305843009213693952) (h4: -2305843009213693952≤u) (h5:u≤2305843009213693952) (h6: -2305843009213693952≤v) (h7:v≤2305843009213693952):Ok Tryz.prog 239 [.a (([.i .i64 x]++[.i .i64 y])),.a (([.i .i64 u]++[.i .i64 v]))] [.a (([.i .i64 (if zl x y u v 4 then Do x y u v 4 else 0)]++[.i .i64 (if zl x y u v 4 then Df x y u v 4 else 0)])),.c (.b (zl x y u v 4))]:=by
 refine eH Tryz.func239 56 [.cell 4 230,.tmp 5] rfl<|aa<|ag<|aa<|ag<|aa<|aa<|ag ?_
 refine DL.mk<|pi (oD (us:=[.i .i64 x,.i .i64 y]) VT rfl rfl (by decide) (by decide) rfl) rfl<|dX ?_
 refine ar (iv KH rfl rfl) ?_
 refine aB<|bh (ι:={k:Nat // k≤2∧zl x y u v (2*k)=true}) (fun i=>⟨56,[(2,.p 2 0),(3,.p 3 0),(4,.p 4 0),(6,.v (.c (.i .i64 (Do x y u v (2*i.1))))),(7,.v (.c (.i .i64 (Df x y u v (2*i.1))))),(19,.o 19 2 2),(20,.v (.c (.i .i64 (2:Int)))),(21,.v (.c (.i .i64 (i.1:Int))))],[(2,230,([.i .i64 x]++[.i .i64 y])),(3,230,([.i .i64 u]++[.i .i64 v])),(4,230,([.i .i64 0]++[.i .i64 0])),(19,2,[.i .i64 x,.i .i64 y])]⟩) (fun i=>2-i.1) ⟨0,by omega,rfl⟩ (ao ⟨rfl,rfl,rfl,rfl,rfl,rfl,rfl,rfl,trivial⟩ ⟨rfl,rfl,rfl,rfl,trivial⟩ rfl) ?_
 rintro⟨k,hk0,hok⟩
 replace hk0:k≤2:=hk0
 replace hok:zl x y u v (2*k)=true:=hok
 have gx:=Oq (k:=k) h0 h1 h2 h3
 dsimp only
 refine aa<|ag<|aa ?_
 refine aI rfl (fun hc1=>?_) (fun hc1=>?_)
 ·have hk:k<2:=by have:=wX hc1;omega
  refine aA<|aa<|aB<|aa<|bg<|aR (bq KH rfl rfl (by omega) rfl) ?_
  refine aR (kW Tk rfl rfl (Li (x:=x) (y:=y) (k:=k) (by omega)) rfl) ?_
  refine ex<|aa<|ag ?_
  refine DL.mk<|pi (oD (us:=[.i .i64 u,.i .i64 v]) VT rfl rfl (by decide) (by decide) rfl) rfl<|dX ?_
  refine ar (iv KH rfl rfl) ?_
  refine aB<|bh (ι:={j:Nat // j≤2∧zl x y u v (2*k+j)=true}) (fun i=>⟨56,[(2,.p 2 0),(3,.p 3 0),(4,.p 4 0),(6,.v (.c (.i .i64 (Do x y u v (2*k+i.1))))),(7,.v (.c (.i .i64 (Df x y u v (2*k+i.1))))),(19,.o 19 2 2),(20,.v (.c (.i .i64 (2:Int)))),(21,.v (.c (.i .i64 (k:Int)))),(9,.v (.c (.i .i64 (wU x y k)))),(29,.o 29 2 2),(30,.v (.c (.i .i64 (2:Int)))),(31,.v (.c (.i .i64 (i.1:Int))))],[(2,230,([.i .i64 x]++[.i .i64 y])),(3,230,([.i .i64 u]++[.i .i64 v])),(4,230,([.i .i64 0]++[.i .i64 0])),(19,2,[.i .i64 x,.i .i64 y]),(29,2,[.i .i64 u,.i .i64 v])]⟩) (fun i=>2-i.1) ⟨0,by omega,hok⟩ (ao ⟨rfl,rfl,rfl,rfl,rfl,rfl,rfl,rfl,rfl,rfl,rfl,rfl,trivial⟩ ⟨rfl,rfl,rfl,rfl,rfl,trivial⟩ rfl) ?_
  rintro⟨j,hj0,hokj⟩
  replace hj0:j≤2:=hj0
  replace hokj:zl x y u v (2*k+j)=true:=hokj
  have gu:=Oq (k:=j) h4 h5 h6 h7
  dsimp only
  refine aa<|ag<|aa ?_
  refine aI rfl (fun hc2=>?_) (fun hc2=>?_)
  ·have hj:j<2:=by have:=wX hc2;omega
   refine aA<|aa<|aB<|aa<|bg<|aR (bq KH rfl rfl (by omega) rfl) ?_
   refine aR (kW Tk rfl rfl (Li (x:=u) (y:=v) (k:=j) (by omega)) rfl) ?_
   refine ex<|aa<|ag<|ac rfl (IT (by omega) (by omega) (by omega) (by omega))<|aa<|aa<|ag ?_
   refine aI rfl (fun hc3=>?_) (fun hc3=>?_)
   ·have hbad:zl x y u v 4=false:=by
     have h8:=Ro (n:=2*k+(j+1)) (by rw[Kr hj,jN hc3,oK]) (4-(2*k+(j+1)))
     rw[show 2*k+(j+1)+(4-(2*k+(j+1)))=4 from by omega] at h8;exact h8
    refine aa<|ag<|ar (aM (us:=([.i .i64 0]++[.i .i64 0])) qZ qr rfl rfl rfl) ?_
    refine aZ ?_
    rw[hbad,if_neg (by decide),if_neg (by decide)]
    exact ah (aV jV rfl (az ae))
   ·have hsc:=fA hc3
    refine aA<|ag<|ar (LO rfl rfl rfl) ?_
    refine ar (F6 rfl rfl rfl) ?_
    refine ag<|ar (ci ((j:Int)+1) (bk (by omega) (by omega)) rfl) ?_
    exact⟨⟨j+1,by omega,by rw[Kr hj,hokj,hsc];rfl⟩,ao ⟨rfl,rfl,rfl,by rw[←Sy hj hsc];rfl,by rw[←Tq hj hsc];rfl,rfl,rfl,rfl,rfl,rfl,rfl,by rw[show((j+1:Nat):Int)=(j:Int)+1 from by omega];rfl,trivial⟩ ⟨rfl,rfl,rfl,rfl,rfl,trivial⟩ rfl,by show 2-(j+1)<2-j;omega⟩
  ·have hj2:2*k+j=2*k+2:=by have:=pr hc2;omega
   refine a7<|ag<|ar (ci ((k:Int)+1) (bk (by omega) (by omega)) rfl) ?_
   exact⟨⟨k+1,by omega,by rw[show 2*(k+1)=2*k+2 from by omega,←hj2];exact hokj⟩,ao ⟨rfl,rfl,rfl,by rw[show 2*(k+1)=2*k+2 from by omega,←hj2];rfl,by rw[show 2*(k+1)=2*k+2 from by omega,←hj2];rfl,rfl,rfl,by rw[show((k+1:Nat):Int)=(k:Int)+1 from by omega];rfl,trivial⟩ ⟨rfl,rfl,rfl,rfl,trivial⟩ rfl,by show 2-(k+1)<2-k;omega⟩
 ·have hk2:2*k=4:=by have:=pr hc1;omega
  refine a7<|aa<|ag<|ar (aM (us:=([.i .i64 (Do x y u v (2*k))]++[.i .i64 (Df x y u v (2*k))])) qZ qr rfl rfl rfl) ?_
  refine aZ ?_
  rw[hk2] at hok
  have e1:Do x y u v 4=Do x y u v (2*k):=by rw[hk2]
  have e2:Df x y u v 4=Df x y u v (2*k):=by rw[hk2]
  rw[hok,if_pos rfl,if_pos rfl,e1,e2]
  exact ah (aV jV rfl (az ae))
theorem AH (h: ¬c<0):0≤jk c:=by
 unfold jk
 have h1:0≤c*((65536:Int):Rat):=by grind
 have h2:0≤(c*((65536:Int):Rat)).num:=Rat.num_nonneg.2 h1
 have h3:=den_pos (-(c*((65536:Int):Rat)))
 rw[pv _ (by omega),Rat.neg_num]
 have h4:(-(c*((65536:Int):Rat)).num)/((-(c*((65536:Int):Rat))).den:Int)≤0:=by
  have h5:=Int.ediv_le_ediv h3 (show-(c*((65536:Int):Rat)).num≤0 by omega)
  rw[Int.zero_ediv] at h5;exact h5
 omega
theorem LZ (h:wS lo hi=true): -2305843009213693952≤lo∧hi≤2305843009213693952:=by unfold wS at h;simpa using h
theorem Vy (c:Rat):jB c≤jk c:=by
 unfold jB jk
 have h3:=den_pos (c*((65536:Int):Rat))
 rw[Rat.neg_num,Rat.neg_den,pv _ (by omega),pv _ (by omega)]
 generalize (c*((65536:Int):Rat)).num=n at*
 generalize ((c*((65536:Int):Rat)).den:Int)=d at*
 have e1:=rL n d
 have e2:=rL (-n) d
 have m1:=pu n (show d≠0 by omega)
 have m2:=pu (-n) (show d≠0 by omega)
 have h4:d*(n/d+(-n)/d)≤d*0:=by grind
 have:=Int.le_of_mul_le_mul_left h4 h3
 omega
theorem Dz (h:jj c=true): -2305843009213693952≤jB c∧jB c≤2305843009213693952∧ -2305843009213693952≤jk c∧jk c≤2305843009213693952:=by
 unfold jj at h
 simp only[dN] at h
 have h1:=LZ h.2.2
 have h2:=Vy c
 omega
theorem QA (h1:x≤2305843009213693952) (h2:0≤y) (h3:y≤2305843009213693952):0≤p8 x∧p8 x≤549755813889∧0≤lv y∧lv y≤549755813889:=by
 have b1:=CW (n:=max x 0) (by omega) (by omega)
 have b2:=CW (n:=y) h2 h3
 unfold p8 lv
 grind
theorem YD (n:Nat) (h:zl x y u v n=true): -2305843009213693952≤Do x y u v n∧Do x y u v n≤2305843009213693952∧ -2305843009213693952≤Df x y u v n∧Df x y u v n≤2305843009213693952:=by
 induction n with
 |zero=>show _≤(2305843009213693952:Int)∧(2305843009213693952:Int)≤_∧_≤(-2305843009213693952:Int)∧(-2305843009213693952:Int)≤_;omega
 |succ n ih=>
  have h':(zl x y u v n&&qS (wU x y (n/2)) (wU u v (n%2)))=true:=h
  rw[dN] at h'
  have i:=ih h'.1
  have s1:=h'.2
  unfold qS at s1
  simp only[dN,decide_eq_true_eq] at s1
  show _≤min _ _∧min _ _≤_∧_≤max _ _∧max _ _≤_
  omega
def Sa (b c:Rat):Bool:=zl (jB b) (jk b) (p8 (jB c)) (lv (jk c)) 4
def Fs (b c:Rat):Int:=Do (jB b) (jk b) (p8 (jB c)) (lv (jk c)) 4
def EO (b c:Rat):Int:=Df (jB b) (jk b) (p8 (jB c)) (lv (jk c)) 4
def Tj (a b c:Rat):Bool:=jj b&&(jj c&&(!decide (aJ c 0<0)&&(Sa b c&&wS (jB a+Fs b c) (jk a+EO b c))))
def ei (a b c:Rat):Bool:=jj a&&((aJ b 0==0)||Tj a b c)
def eB (a b c:Rat):Int:=if ei a b c then(if (aJ b 0==0)=true then jB a else jB a+Fs b c) else 0
def eF (a b c:Rat):Int:=if ei a b c then(if (aJ b 0==0)=true then jk a else jk a+EO b c) else 0
theorem rE (h:ei a b c=false):eB a b c=0∧eF a b c=0:=by
 unfold eB eF;rw[h];exact⟨rfl,rfl⟩
theorem abN (h:jj a=false):ei a b c=false:=by unfold ei;rw[h];rfl
theorem Tm (h:(aJ b 0==0)=false) (hx:Tj a b c=false):ei a b c=false:=by unfold ei;rw[h,hx];cases jj a<;>rfl
theorem abv (h:jj a=true) (h2:(aJ b 0==0)=true):eB a b c=jB a∧eF a b c=jk a∧ei a b c=true:=by
 have e:ei a b c=true:=by unfold ei;rw[h,h2];rfl
 unfold eB eF;rw[e,if_pos rfl,if_pos rfl,if_pos h2,if_pos h2];exact⟨rfl,rfl,rfl⟩
theorem abT (h:jj a=true) (h2:(aJ b 0==0)=false) (h3:jj b=true) (h4:jj c=true) (h5:decide (aJ c 0<0)=false) (h6:Sa b c=true):
 eB a b c=(if wS (jB a+Fs b c) (jk a+EO b c) then jB a+Fs b c else 0)∧eF a b c=(if wS (jB a+Fs b c) (jk a+EO b c) then jk a+EO b c else 0)∧ei a b c=wS (jB a+Fs b c) (jk a+EO b c):=by
 have e:ei a b c=wS (jB a+Fs b c) (jk a+EO b c):=by unfold ei Tj;rw[h,h2,h3,h4,h5,h6];rfl
 unfold eB eF;rw[e,h2];exact⟨rfl,rfl,rfl⟩
theorem xG (ha:Rz 4000000 a) (hb:Rz 4000000 b) (hc:Rz 4000000 c):Ok Tryz.prog 321 [.a ((cR a++cR b++cR c))] [.a (([.i .i64 (eB a b c)]++[.i .i64 (eF a b c)])),.c (.b (ei a b c))]:=by
 refine eH Tryz.func321 72 [.cell 2 230,.tmp 3] rfl<|aa<|ag<|aa<|ag ?_
 refine ac rfl (pO (aQ ha))<|aa<|aa<|ag ?_
 refine jT (bz rfl) (fun c1 hb1=>?_)
 cases c1
 ·have ea:=fA hb1
  refine ac rfl (cH) ?_
  refine aI rfl (fun hc2=>?_) (fun hc2=>?_)
  ·obtain⟨w1,w2,w3⟩:=abv (c:=c) ea hc2
   refine aa<|ag ?_
   refine aZ ?_
   have x1:eB a b c=(if jj a then jB a else 0):=by rw[w1,ea];rfl
   have x2:eF a b c=(if jj a then jk a else 0):=by rw[w2,ea];rfl
   have x3:ei a b c=jj a:=by rw[w3,ea]
   rw[x1,x2,x3]
   exact ah (aV jV rfl (az ae))
  ·have hb0:=hc2
   refine aA<|aa<|ag ?_
   refine ac rfl (pO (aQ hb))<|aa<|ag ?_
   refine ac rfl (pO (aQ hc))<|aa<|aa<|ag ?_
   refine jT (bz rfl) (fun c3 hb3=>?_)
   cases c3
   ·have eb:=fA hb3
    refine jT (bz rfl) (fun c4 hb4=>?_)
    cases c4
    ·have ec:=fA hb4
     refine ac rfl (cH) ?_
     refine aI rfl (fun hc5=>?_) (fun hc5=>?_)
     ·have hno:ei a b c=false:=Tm hb0 (by unfold Tj;rw[hc5,Bool.not_true,pk,oK,oK])
      refine aa<|ag<|ar (aM (us:=([.i .i64 0]++[.i .i64 0])) qZ qr rfl rfl rfl) ?_
      refine aZ ?_
      rw[(rE hno).1,(rE hno).2,hno]
      exact ah (aV jV rfl (az ae))
     ·have hcn:=hc5
      have bA:=Dz ea
      have bB:=Dz eb
      have bC:=Dz ec
      have hH:=AH (c:=c) (Db hc5)
      have bS:=QA (x:=jB c) (y:=jk c) (by omega) hH (by omega)
      refine lj (σ':=⟨72,[(1,.p 1 0),(2,.p 2 0),(4,.p 4 0),(6,.p 6 0),(7,.p 7 0)],[(1,129,(cR a++cR b++cR c)),(2,230,([.i .i64 0]++[.i .i64 0])),(4,230,([.i .i64 (jB a)]++[.i .i64 (jk a)])),(6,230,([.i .i64 (jB b)]++[.i .i64 (jk b)])),(7,230,([.i .i64 (jB c)]++[.i .i64 (jk c)]))]⟩) (ao ⟨rfl,rfl,rfl,rfl,rfl,trivial⟩ ⟨rfl,rfl,by rw[if_pos ea,if_pos ea];rfl,by rw[if_pos eb,if_pos eb];rfl,by rw[if_pos ec,if_pos ec];rfl,trivial⟩ rfl) ?_
      refine aA<|aa<|aa<|ag ?_
      refine ac rfl (GF (by omega) (by omega) (by omega) (by omega) (by omega)) ?_
      refine aa<|ag ?_
      refine a8 rfl ?_
      refine aA<|aa<|aa<|ag ?_
      refine ac rfl (Lk (by omega) (by omega) (by omega) (by omega) (by omega) (by omega) (by omega) (by omega)) ?_
      refine aa ?_
      refine ag ?_
      refine aI rfl (fun hc6=>?_) (fun hc6=>?_)
      ·have hno:ei a b c=false:=Tm hb0 (by unfold Tj Sa;rw[jN hc6,pk,oK,oK,oK])
       refine aa<|ag<|ar (aM (us:=([.i .i64 0]++[.i .i64 0])) qZ qr rfl rfl rfl) ?_
       refine aZ ?_
       rw[(rE hno).1,(rE hno).2,hno]
       exact ah (aV jV rfl (az ae))
      ·have hm:Sa b c=true:=fA hc6
       have bM:=YD 4 hm
       obtain⟨w1,w2,w3⟩:=abT ea hb0 eb ec hcn hm
       refine lj (σ':=⟨72,[(1,.p 1 0),(2,.p 2 0),(4,.p 4 0),(6,.p 6 0),(7,.p 7 0)],[(1,129,(cR a++cR b++cR c)),(2,230,([.i .i64 0]++[.i .i64 0])),(4,230,([.i .i64 (jB a)]++[.i .i64 (jk a)])),(6,230,([.i .i64 (Fs b c)]++[.i .i64 (EO b c)])),(7,230,([.i .i64 (p8 (jB c))]++[.i .i64 (lv (jk c))]))]⟩) (ao ⟨rfl,rfl,rfl,rfl,rfl,trivial⟩ ⟨rfl,rfl,rfl,by rw[if_pos (fA hc6),if_pos (fA hc6)];rfl,rfl,trivial⟩ rfl) ?_
       refine aA<|aa<|ag ?_
       refine ac rfl (Lq (x:=jB a) (y:=jk a) (u:=Fs b c) (v:=EO b c) (by omega) (by omega) (by omega) (by omega) bM.1 bM.2.1 bM.2.2.1 bM.2.2.2) ?_
       refine aZ ?_
       rw[w1,w2,w3]
       exact ah (aV jV rfl (az ae))
    ·have hno:ei a b c=false:=Tm hb0 (by unfold Tj;rw[jN hb4,pk,oK])
     refine df rfl<|aa<|ag<|ar (aM (us:=([.i .i64 0]++[.i .i64 0])) qZ qr rfl rfl rfl) ?_
     refine aZ ?_
     rw[(rE hno).1,(rE hno).2,hno]
     exact ah (aV jV rfl (az ae))
   ·have hno:ei a b c=false:=Tm hb0 (by unfold Tj;rw[jN hb3];rfl)
    refine ar (bz rfl)<|df rfl<|aa<|ag<|ar (aM (us:=([.i .i64 0]++[.i .i64 0])) qZ qr rfl rfl rfl) ?_
    refine aZ ?_
    rw[(rE hno).1,(rE hno).2,hno]
    exact ah (aV jV rfl (az ae))
 ·refine df rfl<|aa<|ag ?_
  refine aZ ?_
  have hno:ei a b c=false:=abN (jN hb1)
  have x1:eB a b c=(if jj a then jB a else 0):=by rw[(rE hno).1,jN hb1];rfl
  have x2:eF a b c=(if jj a then jk a else 0):=by rw[(rE hno).2,jN hb1];rfl
  have x3:ei a b c=jj a:=by rw[hno,jN hb1]
  rw[x1,x2,x3]
  exact ah (aV jV rfl (az ae))
def Jb (o1 o2:Bool) (l1 h1 l2 h2:Int):Int:=if (o1&&o2)=true then(if decide (h1<l2)=true then-1 else if decide (l1>h2)=true then 1 else 0) else 0
def G4 (o1 o2:Bool) (l1 h1 l2 h2:Int):Bool:=(o1&&o2)&&(decide (h1<l2)||decide (l1>h2))
theorem B3 (ha:Rz 4000000 a) (hb:Rz 4000000 b) (hc:Rz 4000000 c) (hd:Rz 4000000 d) (he:Rz 4000000 e) (hf:Rz 4000000 f):Ok Tryz.prog 253 [.a ((cR a++cR b++cR c)),.a ((cR d++cR e++cR f))] [.c (.i .i64 (Jb (ei a b c) (ei d e f) (eB a b c) (eF a b c) (eB d e f) (eF d e f))),.c (.b (G4 (ei a b c) (ei d e f) (eB a b c) (eF a b c) (eB d e f) (eF d e f)))]:=by
 refine ca Tryz.func253 rfl ?_
 refine ac rfl (xG (by assumption) (by assumption) (by assumption)) ?_
 refine ac rfl (xG (by assumption) (by assumption) (by assumption)) ?_
 refine jT (bz rfl) (fun c1 hb1=>?_)
 cases c1
 ·refine dD rfl (fun hc2=>?_) (fun hc2=>?_)
  ·refine ah ?_
   rw[show Jb (ei a b c) (ei d e f) (eB a b c) (eF a b c) (eB d e f) (eF d e f)=0 from by unfold Jb;rw[fA hb1,jN hc2];rfl,show G4 (ei a b c) (ei d e f) (eB a b c) (eF a b c) (eB d e f) (eF d e f)=false from by unfold G4;rw[fA hb1,jN hc2];rfl]
   exact az (az ae)
  ·refine dD rfl (fun hc3=>?_) (fun hc3=>?_)
   ·refine ah ?_
    rw[show Jb (ei a b c) (ei d e f) (eB a b c) (eF a b c) (eB d e f) (eF d e f)= -1 from by unfold Jb;rw[fA hb1,fA hc2,hc3];rfl,show G4 (ei a b c) (ei d e f) (eB a b c) (eF a b c) (eB d e f) (eF d e f)=true from by unfold G4;rw[fA hb1,fA hc2,hc3];rfl]
    exact az (az ae)
   ·refine dD rfl (fun hc4=>?_) (fun hc4=>?_)
    ·refine ah ?_
     rw[show Jb (ei a b c) (ei d e f) (eB a b c) (eF a b c) (eB d e f) (eF d e f)=1 from by unfold Jb;rw[fA hb1,fA hc2,hc3,hc4];rfl,show G4 (ei a b c) (ei d e f) (eB a b c) (eF a b c) (eB d e f) (eF d e f)=true from by unfold G4;rw[fA hb1,fA hc2,hc3,hc4];rfl]
     exact az (az ae)
    ·refine ah ?_
     rw[show Jb (ei a b c) (ei d e f) (eB a b c) (eF a b c) (eB d e f) (eF d e f)=0 from by unfold Jb;rw[fA hb1,fA hc2,hc3,hc4];rfl,show G4 (ei a b c) (ei d e f) (eB a b c) (eF a b c) (eB d e f) (eF d e f)=false from by unfold G4;rw[fA hb1,fA hc2,hc3,hc4];rfl]
     exact az (az ae)
 ·refine tg rfl<|ah ?_
  rw[show Jb (ei a b c) (ei d e f) (eB a b c) (eF a b c) (eB d e f) (eF d e f)=0 from by unfold Jb;rw[jN hb1];rfl,show G4 (ei a b c) (ei d e f) (eB a b c) (eF a b c) (eB d e f) (eF d e f)=false from by unfold G4;rw[jN hb1];rfl]
  exact az (az ae)
theorem Ce (w:World) (b:Nat) (v:Value) (U T:TypeId) (cs ds:Array Value) (u:Value) (hlt:b<w.heap.size) (hb:w.heap[b]? =some (.cells #[u] T (0,0))):
 (((w.setCell ⟨b,0,none⟩ v).alloc (.cells cs U)).alloc (.cells ds U)).heap[w.heap.size+1]? =some (.cells ds U (0,0))∧
 (((w.setCell ⟨b,0,none⟩ v).alloc (.cells cs U)).alloc (.cells ds U)).heap[b]? =some (.cells #[v] T (0,0))∧Mid b w (((w.setCell ⟨b,0,none⟩ v).alloc (.cells cs U)).alloc (.cells ds U)):=by
 have hs:(w.setCell ⟨b,0,none⟩ v).heap.size=w.heap.size:=by simp
 refine⟨?_,?_,?_⟩
 ·have:=heap_alloc_new ((w.setCell ⟨b,0,none⟩ v).alloc (.cells cs U)) (.cells ds U)
  rw[iu,hs] at this
  grind
 ·rw[x5 _ _ _ (by rw[iu,hs];omega),x5 _ _ _ (by rw[hs];omega)]
  exact heap_setCell_same w b 0 #[u] T v hb
 ·refine⟨rfl,rfl,rfl,by rw[iu,iu,hs];omega,fun c hc hne=>?_⟩
  rw[x5 _ _ _ (by rw[iu,hs];omega),x5 _ _ _ (by rw[hs];omega)]
  exact heap_setCell_other w ⟨b,0,none⟩ c v hne
set_option maxRecDepth 10000 in
theorem RE (b:Nat) (ok c:Bool) (lo hi:Int) (w:World) (hb:w.heap[b]? =some (.cells #[.bool ok] 313 (0,0))):
 Calls Tryz.prog 369 #[.pointer (some ⟨b,0,none⟩),.agg #[.int .i64 lo,.int .i64 hi],.bool c] w fun e w'=>
  e=.returned (.agg #[.int .i64 lo,.int .i64 hi])∧w'.heap[b]? =some (.cells #[.bool (ok&&c)] 313 (0,0))∧Mid b w w':=by
 have hlt:b<w.heap.size:=(sO.1 hb).1
 have e1:((w.alloc (.cells #[.int .i64 lo,.int .i64 hi] 230)).alloc (.cells #[.int .i64 0,.int .i64 0] 230)).heap[b]? =some (.cells #[.bool ok] 313 (0,0)):=by
  rw[x5 _ _ _ (by simp;omega),x5 _ _ _ hlt];exact hb
 have c1:((w.alloc (.cells #[.int .i64 lo,.int .i64 hi] 230)).alloc (.cells #[.int .i64 0,.int .i64 0] 230)).cell? ⟨b,0,none⟩=some (.bool ok):=(cS e1 0).trans rfl
 have f0:w.frozen? ⟨b,0,none⟩=false:=Bk.frozen (t:=313) (cs:= #[.bool ok]) hb 0
 cases ok
 ·go_enter Tryz.func369,Tryz.ntmps369
  go_wp2_with fail
  obtain⟨h1,h2,h3⟩:=Ce w b (.bool false) 230 313 #[.int .i64 lo,.int .i64 hi] #[.int .i64 lo,.int .i64 hi] _ hlt hb
  have k0:=(cS h1 0).trans rfl
  have k1:=(cS h1 1).trans rfl
  refine⟨rfl,.agg #[.int .i64 lo,.int .i64 hi],?_,rfl,h2,h3⟩
  simp[results,Tryz.results369,go_sem,k0,k1]
  try rfl
 ·go_enter Tryz.func369,Tryz.ntmps369
  go_wp2_with fail
  obtain⟨h1,h2,h3⟩:=Ce w b (.bool c) 230 313 #[.int .i64 lo,.int .i64 hi] #[.int .i64 lo,.int .i64 hi] _ hlt hb
  have k0:=(cS h1 0).trans rfl
  have k1:=(cS h1 1).trans rfl
  refine⟨rfl,.agg #[.int .i64 lo,.int .i64 hi],?_,rfl,h2,h3⟩
  simp[results,Tryz.results369,go_sem,k0,k1]
  try rfl
structure OkP (P:Program) (f:FuncId) (U:TypeId) (cs0 cs1:List CellD) (ds rs:List D0):Prop where
 cal:fI P f=true
 run: ∀(V:Nat→Prop) (b:Nat) (bs:Array Value) (vs:Array Value) (vl:List Value) (w:World),vs.toList=.pointer (some ⟨b,0,none⟩)::vl→(∀c,V c→c<w.heap.size)→V b→w.heap[b]? =some (.cells bs U (0,0))→RdCs V w bs.toList cs0→RdL V w vl ds→
  Calls P f vs w fun e w'=> ∃v,∃bs':Array Value,e=.returned v∧w'.heap[b]? =some (.cells bs' U (0,0))∧Mid b w w'∧RdCs V w' bs'.toList cs1∧UQ V w' v rs
section
variable {P:Program}{ops:Array Oper}{T:TF}{B:BF}
theorem fN {fo x:Operand}{xs:List Operand}{args:Array Operand}{at_:Array TypeId}{f:FuncId}{cs0 cs1:List CellD}{ds rs:List D0}
 (hf:cE T fo=some (.v (.c (.f f)))) (hargs:args.toList=x::xs) (hx:cE T x=some (.p k 0)) (ha:qo T xs=some ds) (hb:B k=some (U,cs0)) (hok:OkP P f U cs0 cs1 ds rs) (hg:gd ops ⟨dst,.call ⟨.value fo,args,at_⟩,ty,pos,af,g⟩ T=some true):
 Sem P ops ⟨dst,.call ⟨.value fo,args,at_⟩,ty,pos,af,g⟩ T B (.rs k U cs1 (xx rs)):=by
 refine⟨by unfold xx;split<;>rfl,⟨_,hb⟩,fun V β a w hs=>⟨et hs hg,?_⟩⟩
 have hin: ∀y∈x::xs,y∈(⟨dst,.call ⟨.value fo,args,at_⟩,ty,pos,af,g⟩:Oper).op.operands:=fun y hy=>by
  have hx2:y∈args:=by grind
  simp[Op.operands,Call.operands,hx2]
 have h1:=RdC.func_eq (aE hs (x:=fo) (by simp[Op.operands,Call.operands]) hf)
 have h2:=jn hs xs ds (fun y hy=>hin y (fB _ hy)) ha
 have h3:a.eval x=.pointer (some ⟨β k,0,none⟩):=aE hs (hin x (fJ ..)) hx
 obtain⟨hV,bs,e,hr⟩:=hs.box k U cs0 hb
 have hc:=hok.cal
 unfold fI at hc
 cases hfn:P.funcs[f]? with
 |none=>rw[hfn] at hc;cases hc
 |some fn=>
  rw[hfn] at hc
  simp only[dN,bne_iff_ne,ne_eq,qf] at hc
  have hrun:(execOp a.eval ⟨dst,.call ⟨.value fo,args,at_⟩,ty,pos,af,g⟩).run P w=.ok (.enter f (args.map a.eval)) w:=by
   have hb2:fn.body≠none:=by have:=hc.2;cases hbb:fn.body with
    |none=>rw[hbb] at this;cases this
    |some c=>simp
   simp[execOp,resolve,h1,Deferred.ofValue,invoke,callFunc,program,Sem.run,hfn,hc.1,hb2]
  unfold Gives
  rw[hrun]
  refine(hok.run V (β k) bs (args.map a.eval) (xs.map a.eval) w (by rw[xL,hargs,oU,h3]) hs.av hV e hr h2).mono ?_
  rintro e w' ⟨v,bs',rfl,hbl,hm,hr1,hr2⟩
  refine⟨v,rfl,bs',hbl,hm,hr1,?_⟩
  unfold UQ at hr2
  split at hr2
  ·exact hr2
  ·rename_i hne
   have e2:xx rs=.t rs:=by
    unfold xx
    grind
   rw[e2];exact hr2
theorem tN {x:Operand}{off:Nat}
 (hx:cE T x=some (.p k off)) (hg:gd ops ⟨dst,.nilCheck x,ty,pos,af,g⟩ T=some true):Sem P ops ⟨dst,.nilCheck x,ty,pos,af,g⟩ T B (.r (.p k off)):=
 bQ hg (fun l e=>pQ (ops:=ops) (o:=⟨dst,.nilCheck x,ty,pos,af,g⟩) (by simp[Op.operands]) hx e)
  (fun V β a w hs=>by
   have hp:a.eval x=.pointer (some ⟨β k,off,none⟩):=aE hs (x:=x) (by simp[Op.operands]) hx
   exact⟨_,by simp[execOp,hp],rfl⟩)
end
theorem TX (ok c:Bool) (lo hi:Int):OkP Tryz.prog 369 313 [.b ok] [.b (ok&&c)] [.a [.i .i64 lo,.i .i64 hi],.c (.b c)] [.a [.i .i64 lo,.i .i64 hi]]:=
 ⟨by kernel_rfl,fun V b bs vs vl w hvs hV hb hbl hcs hds=>by
  obtain⟨vs⟩:=vs
  replace hvs:vs=_:=hvs
  subst hvs
  match vl,hds with
  |[],hds=>have:=hds.1;simp at this
  |v1::vl,hds=>
  obtain⟨h1,hds⟩:=hds.uncons
  match vl,hds with
  |[],hds=>have:=hds.1;simp at this
  |v2::vl,hds=>
  obtain⟨h2,hds⟩:=hds.uncons
  have hn:vl=[]:=jP.1 hds.1
  subst hn
  have h2:=uY h2
  subst h2
  obtain⟨cs,rfl,h1⟩:=h1
  obtain⟨cs⟩:=cs
  obtain⟨bs⟩:=bs
  match cs,h1 with
  |[],h1=>have:=h1.1;simp at this
  |x1::cs,h1=>
  obtain⟨g1,h1⟩:=h1.uncons
  match cs,h1 with
  |[],h1=>have:=h1.1;simp at this
  |x2::cs,h1=>
  obtain⟨g2,h1⟩:=h1.uncons
  have hn:cs=[]:=jP.1 h1.1
  subst hn
  have g1:=fQ g1
  have g2:=fQ g2
  subst g1 g2
  match bs,hcs with
  |[],hcs=>have:=hcs.1;simp at this
  |y1::bs,hcs=>
  obtain⟨g3,hcs⟩:=hcs.uncons
  have hn:bs=[]:=jP.1 hcs.1
  subst hn
  have g3:=uY g3
  subst g3
  refine(RE b ok c lo hi w hbl).mono ?_
  rintro e w' ⟨rfl,h3,h4⟩
  exact⟨_,_,rfl,h3,h4,uk (.b _) uw,_,rfl,uk (.i _ _) (uk (.i _ _) uw)⟩⟩
def Bd (x:Int):Prop:= -2305843009213693952≤x∧x≤2305843009213693952
theorem Bd.zero:Bd 0:=by unfold Bd;omega
def gL (e:Rat):Int:=if jj e then jB e else 0
def gH (e:Rat):Int:=if jj e then jk e else 0
theorem uP (e:Rat):Bd (gL e):=by
 unfold gL;split
 ·rename_i h;have:=Dz h;exact⟨this.1,this.2.1⟩
 ·exact Bd.zero
theorem vq (e:Rat):Bd (gH e):=by
 unfold gH;split
 ·rename_i h;have:=Dz h;exact⟨this.2.2.1,this.2.2.2⟩
 ·exact Bd.zero
theorem Di (e:Rat):gL e≤gH e:=by
 unfold gL gH;split
 ·exact Vy e
 ·exact nH _
theorem K0 (h: ¬e<0): ¬gH e<0:=by
 unfold gH;split
 ·have:=AH h;omega
 ·omega
theorem Kw (e:Rat):Bd (p8 (gL e)):=by
 have:=QA (x:=gL e) (y:=0) (uP e).2 (by omega) (by omega)
 unfold Bd;omega
theorem Kx (h: ¬e<0):Bd (lv (gH e)):=by
 have:=QA (x:=0) (y:=gH e) (by omega) (by have:=K0 h;omega) (vq e).2
 unfold Bd;omega
theorem ZZ (x y:Int):mO x y≤mN x y:=by
 have h:Ns x y/65536≤Dj (Ns x y):=by unfold Dj;split<;>omega
 unfold mO mN;split<;>omega
theorem aaf (x y u v:Int):Do x y u v 4≤Df x y u v 4:=by
 exact Int.le_trans (Int.min_le_right _ _) (Int.le_trans (ZZ _ _) (Int.le_max_right _ _))
def pL (x y u v:Int):Int:=if zl x y u v 4 then Do x y u v 4 else 0
def pH (x y u v:Int):Int:=if zl x y u v 4 then Df x y u v 4 else 0
theorem D8 (x y u v:Int):Bd (pL x y u v):=by
 unfold pL;split
 ·rename_i h;have:=YD 4 h;exact⟨this.1,this.2.1⟩
 ·exact Bd.zero
theorem Eh (x y u v:Int):Bd (pH x y u v):=by
 unfold pH;split
 ·rename_i h;have:=YD 4 h;exact⟨this.2.2.1,this.2.2.2⟩
 ·exact Bd.zero
theorem AS (x y u v:Int):pL x y u v≤pH x y u v:=by
 unfold pL pH;split
 ·exact aaf x y u v
 ·exact nH _
def aL (x y u v:Int):Int:=if wS (x+u) (y+v) then x+u else 0
def aH (x y u v:Int):Int:=if wS (x+u) (y+v) then y+v else 0
theorem Lw (h:x≤y) (h2:u≤v):Bd (aL x y u v):=by
 unfold aL;split
 ·rename_i h3;have:=LZ h3;unfold Bd;omega
 ·exact Bd.zero
theorem Ke (h:x≤y) (h2:u≤v):Bd (aH x y u v):=by
 unfold aH;split
 ·rename_i h3;have:=LZ h3;unfold Bd;omega
 ·exact Bd.zero
theorem jp (h:Rz 4000000 e):Ok Tryz.prog 238 [dR e] [.a ([.i .i64 (gL e)]++[.i .i64 (gH e)]),.c (.b (jj e))]:=pO h
theorem HO (h: ¬e<0):Ok Tryz.prog 365 [.a ([.i .i64 (gL e)]++[.i .i64 (gH e)])] [.a ([.i .i64 (p8 (gL e))]++[.i .i64 (lv (gH e))]),.c (.b true)]:=
 GF (uP e).1 (uP e).2 (vq e).1 (vq e).2 (K0 h)
theorem wd (h1:Bd x) (h2:Bd y) (h3:Bd u) (h4:Bd v):Ok Tryz.prog 239 [.a ([.i .i64 x]++[.i .i64 y]),.a ([.i .i64 u]++[.i .i64 v])] [.a ([.i .i64 (pL x y u v)]++[.i .i64 (pH x y u v)]),.c (.b (zl x y u v 4))]:=
 Lk h1.1 h1.2 h2.1 h2.2 h3.1 h3.2 h4.1 h4.2
theorem v5 (h1:Bd x) (h2:Bd y) (h3:Bd u) (h4:Bd v):Ok Tryz.prog 240 [.a ([.i .i64 x]++[.i .i64 y]),.a ([.i .i64 u]++[.i .i64 v])] [.a ([.i .i64 (aL x y u v)]++[.i .i64 (aH x y u v)]),.c (.b (wS (x+u) (y+v)))]:=
 Lq h1.1 h1.2 h2.1 h2.2 h3.1 h3.2 h4.1 h4.2
theorem gX {ok c:Bool}:OkP Tryz.prog 369 313 [.b ok] [.b (ok&&c)] [.a ([.i .i64 x]++[.i .i64 y]),.c (.b c)] [.a ([.i .i64 x]++[.i .i64 y])]:=TX ok c x y
def Vw (B M:Rat):Int:=pL (gL B) (gH B) (p8 (gL M)) (lv (gH M))
def Vb (B M:Rat):Int:=pH (gL B) (gH B) (p8 (gL M)) (lv (gH M))
def qbK (B M:Rat):Bool:=zl (gL B) (gH B) (p8 (gL M)) (lv (gH M)) 4
def Tp (M N:Rat):Int:=pL (p8 (gL M)) (lv (gH M)) (p8 (gL N)) (lv (gH N))
def Um (M N:Rat):Int:=pH (p8 (gL M)) (lv (gH M)) (p8 (gL N)) (lv (gH N))
def acj (M N:Rat):Bool:=zl (p8 (gL M)) (lv (gH M)) (p8 (gL N)) (lv (gH N)) 4
def qdL (D M N:Rat):Int:=pL (gL D) (gH D) (Tp M N) (Um M N)
def qdH (D M N:Rat):Int:=pH (gL D) (gH D) (Tp M N) (Um M N)
def qdK (D M N:Rat):Bool:=zl (gL D) (gH D) (Tp M N) (Um M N) 4
def RY (A B M:Rat):Int:=aL (gL A) (gH A) (Vw B M) (Vb B M)
def TE (A B M:Rat):Int:=aH (gL A) (gH A) (Vw B M) (Vb B M)
def acH (A B M:Rat):Bool:=wS (gL A+Vw B M) (gH A+Vb B M)
def SK (C D M N:Rat):Int:=aL (Vw C N) (Vb C N) (qdL D M N) (qdH D M N)
def S1 (C D M N:Rat):Int:=aH (Vw C N) (Vb C N) (qdL D M N) (qdH D M N)
def acc (C D M N:Rat):Bool:=wS (Vw C N+qdL D M N) (Vb C N+qdH D M N)
def qsL (A B C D M N:Rat):Int:=aL (RY A B M) (TE A B M) (SK C D M N) (S1 C D M N)
def Y9 (A B C D M N:Rat):Int:=aH (RY A B M) (TE A B M) (SK C D M N) (S1 C D M N)
def qsK (A B C D M N:Rat):Bool:=wS (RY A B M+SK C D M N) (TE A B M+S1 C D M N)
def YY (M N:Rat):Bool:=jj M&&jj N
def WH (B C D M N:Rat):Bool:=YY M N&&(jj B&&(qbK B M&&(jj C&&(qbK C N&&(jj D&&(acj M N&&qdK D M N))))))
def Ku (A B C D M N:Rat):Bool:=WH B C D M N&&(jj A&&(acH A B M&&(acc C D M N&&qsK A B C D M N)))
def RP (A B C D M N:Rat):Bool:=Ku A B C D M N&&Mz (qsL A B C D M N) (Y9 A B C D M N)
def Vu (A B C D M N:Rat):Int:=if Ku A B C D M N then Md (qsL A B C D M N) (Y9 A B C D M N) else 0
theorem Ek (h:Ku A B C D M N=false):Vu A B C D M N=0∧RP A B C D M N=false:=by
 unfold Vu RP;rw[h];exact⟨rfl,rfl⟩
theorem IX (h:Ku A B C D M N=true):Vu A B C D M N=Md (qsL A B C D M N) (Y9 A B C D M N)∧RP A B C D M N=Mz (qsL A B C D M N) (Y9 A B C D M N):=by
 unfold Vu RP;rw[h];exact⟨rfl,rfl⟩
theorem Oc (h:WH B C D M N=false):Ku A B C D M N=false:=by unfold Ku;rw[h];rfl
theorem Wo (h:YY M N=false):Ku A B C D M N=false:=Oc (by unfold WH;rw[h];rfl)
theorem IN {b c:Bool}(h:(!b)=true) (e:c=b):c=false:=by rw[e];simpa using h
theorem Xd {b c:Bool}(h:(!b)=false) (e:c=b):c=true:=by rw[e];simpa using h
theorem IA (hA:Rz 4000000 A) (hB:Rz 4000000 B) (hC:Rz 4000000 C) (hD:Rz 4000000 D) (hM:Rz 4000000 M) (hN:Rz 4000000 N) (hm: ¬M<0) (hn: ¬N<0):Ok Tryz.prog 331 [.a ((cR A++cR B++cR C++cR D++cR M++cR N))] [.c (.i .i64 (Vu A B C D M N)),.c (.b (RP A B C D M N))]:=by
 refine ca Tryz.func331 rfl<|ar (aM (us:=([.b true])) Zn abE rfl rfl rfl) ?_
 refine ac rfl (jp (aQ hM)) ?_
 refine DL.mk<|sN (fN rfl rfl rfl rfl rfl (gX) rfl)<|dX ?_
 refine ac rfl (HO (by assumption)) ?_
 refine DL.mk<|sN (fN rfl rfl rfl rfl rfl (gX) rfl)<|dX ?_
 refine ac rfl (jp (aQ hN)) ?_
 refine DL.mk<|sN (fN rfl rfl rfl rfl rfl (gX) rfl)<|dX ?_
 refine ac rfl (HO (by assumption)) ?_
 refine DL.mk<|sN (fN rfl rfl rfl rfl rfl (gX) rfl)<|dX ?_
 refine ar (tN rfl rfl) ?_
 refine dD rfl (fun hc1=>?_) (fun hc1=>?_)
 ·have hk:Ku A B C D M N=false:=Wo (IN hc1 (by unfold YY;simp only[iO,Bool.and_true];try rfl))
  refine ah ?_
  rw[(Ek hk).1,(Ek hk).2]
  exact az (az ae)
 ·refine cT 14 [12] ?_
  refine aK rfl (jp (aQ hB)) ?_
  refine DQ.mk<|vW (fN rfl rfl rfl rfl rfl (gX) rfl) rfl rfl rfl rfl rfl (by kernel_rfl) rfl<|d7 ?_
  refine aK rfl (wd (uP _) (vq _) (Kw _) (Kx (by assumption))) ?_
  refine DQ.mk<|vW (fN rfl rfl rfl rfl rfl (gX) rfl) rfl rfl rfl rfl rfl (by kernel_rfl) rfl<|d7 ?_
  refine cT 14 [12] ?_
  refine aK rfl (jp (aQ hC)) ?_
  refine DQ.mk<|vW (fN rfl rfl rfl rfl rfl (gX) rfl) rfl rfl rfl rfl rfl (by kernel_rfl) rfl<|d7 ?_
  refine aK rfl (wd (uP _) (vq _) (Kw _) (Kx (by assumption))) ?_
  refine DQ.mk<|vW (fN rfl rfl rfl rfl rfl (gX) rfl) rfl rfl rfl rfl rfl (by kernel_rfl) rfl<|d7 ?_
  refine cT 20 [12] ?_
  refine aK rfl (jp (aQ hD)) ?_
  refine DQ.mk<|vW (fN rfl rfl rfl rfl rfl (gX) rfl) rfl rfl rfl rfl rfl (by kernel_rfl) rfl<|d7 ?_
  refine aK rfl (wd (Kw _) (Kx (by assumption)) (Kw _) (Kx (by assumption))) ?_
  refine DQ.mk<|vW (fN rfl rfl rfl rfl rfl (gX) rfl) rfl rfl rfl rfl rfl (by kernel_rfl) rfl<|d7 ?_
  refine aK rfl (wd (uP _) (vq _) (D8 _ _ _ _) (Eh _ _ _ _)) ?_
  refine DQ.mk<|vW (fN rfl rfl rfl rfl rfl (gX) rfl) rfl rfl rfl rfl rfl (by kernel_rfl) rfl<|d7 ?_
  refine ar (tN rfl rfl) ?_
  refine dD rfl (fun hc2=>?_) (fun hc2=>?_)
  ·have hk:Ku A B C D M N=false:=Oc (IN hc2 (by unfold WH YY;simp only[iO,Bool.and_true,Bool.and_assoc];try rfl))
   refine ah ?_
   rw[(Ek hk).1,(Ek hk).2]
   exact az (az ae)
  ·refine cT 26 [12] ?_
   refine aK rfl (jp (aQ hA)) ?_
   refine DQ.mk<|vW (fN rfl rfl rfl rfl rfl (gX) rfl) rfl rfl rfl rfl rfl (by kernel_rfl) rfl<|d7 ?_
   refine aK rfl (v5 (uP _) (vq _) (D8 _ _ _ _) (Eh _ _ _ _)) ?_
   refine DQ.mk<|vW (fN rfl rfl rfl rfl rfl (gX) rfl) rfl rfl rfl rfl rfl (by kernel_rfl) rfl<|d7 ?_
   refine aK rfl (v5 (D8 _ _ _ _) (Eh _ _ _ _) (D8 _ _ _ _) (Eh _ _ _ _)) ?_
   refine DQ.mk<|vW (fN rfl rfl rfl rfl rfl (gX) rfl) rfl rfl rfl rfl rfl (by kernel_rfl) rfl<|d7 ?_
   refine aK rfl (v5 (Lw (by first|exact Di _|exact AS _ _ _ _) (by first|exact Di _|exact AS _ _ _ _)) (Ke (by first|exact Di _|exact AS _ _ _ _) (by first|exact Di _|exact AS _ _ _ _)) (Lw (by first|exact Di _|exact AS _ _ _ _) (by first|exact Di _|exact AS _ _ _ _)) (Ke (by first|exact Di _|exact AS _ _ _ _) (by first|exact Di _|exact AS _ _ _ _))) ?_
   refine DQ.mk<|vW (fN rfl rfl rfl rfl rfl (gX) rfl) rfl rfl rfl rfl rfl (by kernel_rfl) rfl<|d7 ?_
   refine ar (tN rfl rfl) ?_
   refine dD rfl (fun hc3=>?_) (fun hc3=>?_)
   ·have hk:Ku A B C D M N=false:=IN hc3 (by unfold Ku WH YY;simp only[iO,Bool.and_true,Bool.and_assoc];try rfl)
    refine ah ?_
    rw[(Ek hk).1,(Ek hk).2]
    exact az (az ae)
   ·refine ac rfl (GG) ?_
    have hk:Ku A B C D M N=true:=Xd hc3 (by unfold Ku WH YY;simp only[iO,Bool.and_true,Bool.and_assoc];try rfl)
    refine ah ?_
    rw[(IX hk).1,(IX hk).2]
    exact az (az ae)
def C4 (A B C D M N:Rat):Int:=if M<0∨N<0 then 0 else if RP A B C D M N=true then Vu A B C D M N else f6 A B C D M N
theorem Pe (h:M<0∨N<0):C4 A B C D M N=0:=by unfold C4;rw[if_pos h]
theorem W4 (h: ¬M<0) (h': ¬N<0) (hq:RP A B C D M N=true):C4 A B C D M N=Vu A B C D M N:=by unfold C4;rw[if_neg (fun e=>e.elim h h'),if_pos hq]
theorem FD (h: ¬M<0) (h': ¬N<0) (hq:RP A B C D M N=false):C4 A B C D M N=rR (bo A B M) (bo C D M*aJ N 0) (bo (A*A+M*(B*B)-N*(C*C+M*(D*D))) (A*B-N*(C*D)+(A*B-N*(C*D))) M):=by
 unfold C4;rw[if_neg (fun e=>e.elim h h'),hq,if_neg (by decide),wL h h']
 unfold DS xb
 grind
def ug (a b c d e f:Rat):Int:=
 if (aJ b 0==0)=true∧(aJ e 0==0)=true then aJ a d else
 if G4 (ei a b c) (ei d e f) (eB a b c) (eF a b c) (eB d e f) (eF d e f)=true then Jb (ei a b c) (ei d e f) (eB a b c) (eF a b c) (eB d e f) (eF d e f) else
 if (aJ c f==0)=true then bo (a-d) (b-e) c else C4 (a-d) b (-e) 0 c f
section
variable {a b c d e f:Rat}
theorem WW (h:(aJ b 0==0)=true) (h2:(aJ e 0==0)=true):ug a b c d e f=aJ a d:=by unfold ug;rw[if_pos ⟨h,h2⟩]
theorem PN (h: ¬((aJ b 0==0)=true∧(aJ e 0==0)=true)) (h2:G4 (ei a b c) (ei d e f) (eB a b c) (eF a b c) (eB d e f) (eF d e f)=true):
 ug a b c d e f=Jb (ei a b c) (ei d e f) (eB a b c) (eF a b c) (eB d e f) (eF d e f):=by unfold ug;rw[if_neg h,if_pos h2]
theorem Qj (h: ¬((aJ b 0==0)=true∧(aJ e 0==0)=true)) (h2:G4 (ei a b c) (ei d e f) (eB a b c) (eF a b c) (eB d e f) (eF d e f)=false) (h3:(aJ c f==0)=true):
 ug a b c d e f=bo (a-d) (b-e) c:=by unfold ug;rw[if_neg h,h2,if_neg (by decide),if_pos h3]
theorem PE (h: ¬((aJ b 0==0)=true∧(aJ e 0==0)=true)) (h2:G4 (ei a b c) (ei d e f) (eB a b c) (eF a b c) (eB d e f) (eF d e f)=false) (h3:(aJ c f==0)=false):
 ug a b c d e f=C4 (a-d) b (-e) 0 c f:=by unfold ug;rw[if_neg h,h2,if_neg (by decide),h3,if_neg (by decide)]
theorem Wn {b c:Bool}(h:b=false): ¬(b=true∧c=true):=fun e=>by rw[h] at e;exact absurd e.1 (by decide)
theorem Xs {b c:Bool}(h:c=false): ¬(b=true∧c=true):=fun e=>by rw[h] at e;exact absurd e.2 (by decide)
end
theorem tM (ha:Rz 6000000 a) (hb:Rz 6000000 b):Ok Tryz.prog 332 [dR a,dR b] [dR (a+b)]:=by
 refine ca Tryz.func332 rfl<|ac rfl (jy (aQ ha) (aQ hb)) ?_
 exact ah (aV bF rfl ae)
theorem DG (hA:Rz 160000 A) (hB:Rz 160000 B) (hC:Rz 160000 C) (hD:Rz 160000 D) (hM:Rz 160000 M) (hN:Rz 160000 N):Ok Tryz.prog 255 [.a ((cR A++cR B++cR C++cR D++cR M++cR N))] [.c (.i .i64 (C4 A B C D M N))]:=by
 have z1:=jO (ix C D M) (dZ N 0)
 have z2:=jO (ix A B M) (ix (A*A+M*(B*B)-N*(C*C+M*(D*D))) ((A*B-N*(C*D))+(A*B-N*(C*D))) M)
 have kA:Rz 4000000 A:=hA.m_
 have kB:Rz 4000000 B:=hB.m_
 have kC:Rz 4000000 C:=hC.m_
 have kD:Rz 4000000 D:=hD.m_
 have kM:Rz 4000000 M:=hM.m_
 have kN:Rz 4000000 N:=hN.m_
 refine ca Tryz.func255 rfl ?_
 refine ac rfl (cH) ?_
 refine jT (bz rfl) (fun c1 hb1=>?_)
 cases c1
 ·have n1:=Db hb1
  refine ac rfl (cH) ?_
  refine dD rfl (fun hc2=>?_) (fun hc2=>?_)
  ·refine ah ?_
   rw[Pe (.inr (FV hc2))]
   exact az ae
  ·have n2:=Db hc2
   refine ac rfl (IA (by assumption) (by assumption) (by assumption) (by assumption) (by assumption) (by assumption) (by assumption) (by assumption)) ?_
   refine dD rfl (fun hc3=>?_) (fun hc3=>?_)
   ·refine ah ?_
    rw[W4 n1 n2 hc3]
    exact az ae
   ·refine cT 20 [] ?_
    refine aK rfl (qm (aQ hA) (aQ hB) (aQ hM)) ?_
    refine aK rfl (qm (aQ hC) (aQ hD) (aQ hM)) ?_
    refine aK rfl (cH) ?_
    refine aq (ci ((bo C D M)*(aJ N 0)) (fU (by omega) (by omega)) rfl) ?_
    refine jT (bz rfl) (fun c4 hb4=>?_)
    cases c4
    ·refine dD rfl (fun hc5=>?_) (fun hc5=>?_)
     ·refine ah ?_
      rw[FD n1 n2 hc3,yS hc5]
      exact az ae
     ·refine dD rfl (fun hc6=>?_) (fun hc6=>?_)
      ·refine ah ?_
       rw[FD n1 n2 hc3,yT hc6]
       exact az ae
      ·refine cT 42 [] ?_
       refine aK rfl (cW (aQ hA) (aQ hA)) ?_
       refine aK rfl (cW (aQ hB) (aQ hB)) ?_
       refine aK rfl (cW (aQ hM) (aQ (aO hB hB))) ?_
       refine aK rfl (tM (aQ (aO hA hA)) (aQ (aO hM (aO hB hB)))) ?_
       refine aK rfl (cW (aQ hC) (aQ hC)) ?_
       refine aK rfl (cW (aQ hD) (aQ hD)) ?_
       refine aK rfl (cW (aQ hM) (aQ (aO hD hD))) ?_
       refine aK rfl (tM (aQ (aO hC hC)) (aQ (aO hM (aO hD hD)))) ?_
       refine aK rfl (cW (aQ hN) (aQ (gD (aO hC hC) (aO hM (aO hD hD))))) ?_
       refine aK rfl (fp (aQ (gD (aO hA hA) (aO hM (aO hB hB)))) (aQ (aO hN (gD (aO hC hC) (aO hM (aO hD hD))))))<|cT 18 [] ?_
       refine aK rfl (cW (aQ hA) (aQ hB)) ?_
       refine aK rfl (cW (aQ hC) (aQ hD)) ?_
       refine aK rfl (cW (aQ hN) (aQ (aO hC hD)))<|aK rfl (fp (aQ (aO hA hB)) (aQ (aO hN (aO hC hD))))<|cT 11 [] ?_
       refine aK rfl (tM (aQ (dd (aO hA hB) (aO hN (aO hC hD)))) (aQ (dd (aO hA hB) (aO hN (aO hC hD))))) ?_
       refine aK rfl (qm (aQ (dd (gD (aO hA hA) (aO hM (aO hB hB))) (aO hN (gD (aO hC hC) (aO hM (aO hD hD)))))) (aQ (gD (dd (aO hA hB) (aO hN (aO hC hD))) (dd (aO hA hB) (aO hN (aO hC hD))))) (aQ hM)) ?_
       refine aq (ci ((bo A B M)*(bo (((A*A)+(M*(B*B)))-(N*((C*C)+(M*(D*D))))) (((A*B)-(N*(C*D)))+((A*B)-(N*(C*D)))) M)) (fU (by omega) (by omega)) rfl)<|ah ?_
       rw[FD n1 n2 hc3,yp hc6 hb4 hc5]
       exact az ae
    ·refine tg rfl<|ah ?_
     rw[FD n1 n2 hc3,yE hb4]
     exact az ae
 ·refine tg rfl<|ah ?_
  rw[Pe (.inl (FV hb1))]
  exact az ae
theorem CH (ha:Rz 2000000 a) (hb:Rz 160000 b) (hc:Rz 160000 c) (hd:Rz 2000000 d) (he:Rz 160000 e) (hf:Rz 160000 f) (h1:Rz 160000 (a-d)):Ok Tryz.prog 139 [.a ((cR a++cR b++cR c)),.a ((cR d++cR e++cR f))] [.c (.i .i64 (ug a b c d e f))]:=by
 have ka:Rz 6000000 a:=ha.m_
 have la:Rz 4000000 a:=ha.m_
 have kb:Rz 6000000 b:=hb.m_
 have lb:Rz 4000000 b:=hb.m_
 have kc:Rz 6000000 c:=hc.m_
 have lc:Rz 4000000 c:=hc.m_
 have kd:Rz 6000000 d:=hd.m_
 have ld:Rz 4000000 d:=hd.m_
 have ke:Rz 6000000 e:=he.m_
 have le:Rz 4000000 e:=he.m_
 have kf:Rz 6000000 f:=hf.m_
 have lf:Rz 4000000 f:=hf.m_
 have m2:Rz 160000 (-e):=he.neg
 have m0:Rz 160000 (0:Rat):=d6 (n:=0) (dY (by decide) (by decide) (by decide)) (by decide)
 have w1:Rz 2000000 (a-d):=h1.m_
 have w2:Rz 2000000 (b-e):=(hb.sub he).m_
 have w3:Rz 2000000 c:=hc.m_
 refine ca Tryz.func139 rfl ?_
 refine ac rfl (cH) ?_
 refine jT (bz rfl) (fun c1 hb1=>?_)
 cases c1
 ·refine qQ rfl<|ac rfl (B3 (by assumption) (by assumption) (by assumption) (by assumption) (by assumption) (by assumption)) ?_
  refine dD rfl (fun hc2=>?_) (fun hc2=>?_)
  ·refine ah ?_
   rw[PN (Wn hb1) hc2]
   exact az ae
  ·refine ac rfl (lF (aQ hc) (aQ hf)) ?_
   refine dD rfl (fun hc3=>?_) (fun hc3=>?_)
   ·refine cT 14 [] ?_
    refine aK rfl (fp (aQ ha) (aQ hd)) ?_
    refine aK rfl (fp (aQ hb) (aQ he)) ?_
    refine aK rfl (qm w1 w2 w3)<|ah ?_
    rw[Qj (Wn hb1) hc2 hc3]
    exact az ae
   ·refine ac rfl (If (by assumption) (by assumption) (by assumption) (by assumption) (by assumption) (by assumption))<|ac rfl (DG (by assumption) (by assumption) (by assumption) (by assumption) (by assumption) (by assumption))<|ah ?_
    rw[PE (Wn hb1) hc2 hc3]
    exact az ae
 ·refine ac rfl (cH) ?_
  refine dD rfl (fun hc4=>?_) (fun hc4=>?_)
  ·refine ac rfl (lF (aQ ha) (aQ hd))<|ah ?_
   rw[WW hb1 hc4]
   exact az ae
  ·refine ac rfl (B3 (by assumption) (by assumption) (by assumption) (by assumption) (by assumption) (by assumption)) ?_
   refine dD rfl (fun hc5=>?_) (fun hc5=>?_)
   ·refine ah ?_
    rw[PN (Xs hc4) hc5]
    exact az ae
   ·refine ac rfl (lF (aQ hc) (aQ hf)) ?_
    refine dD rfl (fun hc6=>?_) (fun hc6=>?_)
    ·refine cT 14 [] ?_
     refine aK rfl (fp (aQ ha) (aQ hd)) ?_
     refine aK rfl (fp (aQ hb) (aQ he)) ?_
     refine aK rfl (qm w1 w2 w3)<|ah ?_
     rw[Qj (Xs hc4) hc5 hc6]
     exact az ae
    ·refine ac rfl (If (by assumption) (by assumption) (by assumption) (by assumption) (by assumption) (by assumption))<|ac rfl (DG (by assumption) (by assumption) (by assumption) (by assumption) (by assumption) (by assumption))<|ah ?_
     rw[PE (Xs hc4) hc5 hc6]
     exact az ae
end Go.Proofs.YtegpmhlfjkhjmaaGreat
