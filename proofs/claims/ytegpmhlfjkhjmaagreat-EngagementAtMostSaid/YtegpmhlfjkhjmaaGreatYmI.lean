/-Roots and points in reduced form:the reference. -/
import Derived.Test.YtegpmhlfjkhjmaaGreatYmH
import Derived.Test.YtegpmhlfjkhjmaaGreatProg
namespace Go.Proofs.YtegpmhlfjkhjmaaGreat
open Go Go.RowKit
variable {hi lo n p r u v x y:Int}{j k:Nat}{A B C D M N a a1 a2 b b1 b2 c d e f m p1 p2 q1 q2:Rat}{U xt yt:TypeId}
variable {ty:TypeId}{pos:String}{af:Array Edge}{g:Option (Nat×Bool)}{dst:Option Nat}
theorem fI:type_of% @Rat.intCast_le_intCast:=@Rat.intCast_le_intCast
theorem f8:type_of% @Rat.intCast_mul:=@Rat.intCast_mul
theorem iM:type_of% @Rat.intCast_lt_intCast:=@Rat.intCast_lt_intCast
theorem jo:type_of% @Rat.mul_nonneg:=@Rat.mul_nonneg
theorem kw:type_of% @Rat.mul_pos:=@Rat.mul_pos
theorem kW:type_of% @Rat.intCast_add:=@Rat.intCast_add
theorem uv:type_of% @Rat.intCast_pos:=@Rat.intCast_pos
theorem tI:type_of% @Rat.le_refl:=@Rat.le_refl
theorem Bf:type_of% @Rat.divInt_eq_div:=@Rat.divInt_eq_div
theorem xh (ha1:Rz 300 a1) (hb1:Rz 300 b1) (ha2:Rz 300 a2) (hb2:Rz 300 b2) (hc:Rz 300 c):Ok Tryz.prog 58 [.a ((cR a1++cR b1++cR a2++cR b2++cR c))] [.c (.b (uU b1 b2 c))]:=by
 refine bX Tryz.func58 rfl ?_
 refine ac rfl (kh (aO ha1)) ?_
 refine ar (bE rfl) ?_
 refine ac rfl (kh (aO ha2)) ?_
 refine ar (bE rfl) ?_
 refine ac rfl (kh (aO hb1)) ?_
 refine ar (bE rfl) ?_
 refine ac rfl (kh (aO hb2)) ?_
 refine ar (bE rfl) ?_
 refine ac rfl (kh (aO hc)) ?_
 refine sb rfl ?_
 refine ac rfl (jz) ?_
 refine jU (bE rfl) (fun c1 hb1=>?_)
 cases c1
 ·refine sb rfl<|ac rfl (Iu (aO hc))<|ac rfl (jz) ?_
  refine jU (bE rfl) (fun c2 hb2=>?_)
  cases c2
  ·refine ah ?_
   rw[V4 hb1,hb2,pi]
   exact az ae
  ·refine ah ?_
   rw[V4 hb1,hb2,iF]
   exact az ae
 ·refine ac rfl (jz) ?_
  refine dk rfl (fun hc3=>?_) (fun hc3=>?_)
  ·refine ac rfl (jz)<|ah ?_
   rw[ab2 hb1 hc3]
   exact az ae
  ·refine ac rfl (Iu (aO hc))<|ac rfl (jz) ?_
   refine jU (bE rfl) (fun c4 hb4=>?_)
   cases c4
   ·refine ah ?_
    rw[V9 hc3,hb4,pi]
    exact az ae
   ·refine ah ?_
    rw[V9 hc3,hb4,iF]
    exact az ae
def D1 (a b c p q r:Rat):Int:=fD (a-p) b (-q) 0 (zc b c) (zc q r)
def th (a1 b1 a2 b2 c p1 q1 p2 q2 r:Rat):Int:=if D1 a1 b1 c p1 q1 r≠0 then D1 a1 b1 c p1 q1 r else D1 a2 b2 c p2 q2 r
theorem Uo {r:Rat}(h:(D1 a1 b1 c p1 q1 r !=0)=true):th a1 b1 a2 b2 c p1 q1 p2 q2 r=D1 a1 b1 c p1 q1 r:=by unfold th;rw[if_pos (by simpa using h)]
theorem U6 {r:Rat}(h:(D1 a1 b1 c p1 q1 r !=0)=false):th a1 b1 a2 b2 c p1 q1 p2 q2 r=D1 a2 b2 c p2 q2 r:=by unfold th;rw[if_neg (by simpa using h)]
theorem Rz.zero (hk:1≤k):Rz k (0:Rat):=⟨⟨by have:=db k;rw[Rat.zero_num];omega,by have:=db k;rw[Rat.zero_num];omega⟩,by rw[Rat.zero_den];exact Sz.one hk⟩
theorem Rz.zc (h:Rz k c) (hk:1≤k):Rz k (zc b c):=by
 unfold Go.Proofs.YtegpmhlfjkhjmaaGreat.zc
 split
 ·exact Rz.zero hk
 ·exact h
def rt (c:Rat):Rat:=Rat.divInt (bY c.num) (bY (c.den:Int))
theorem UX (h:je c=true):dQ (if je c then bY c.num else 0) (if je c then bY (c.den:Int) else 0)=dR (rt c):=by
 rw[if_pos h,if_pos h]
 unfold je DX at h
 simp only[dL,beq_iff_eq] at h
 obtain⟨h1,h2⟩:=h
 have d0:=fg (c.den:Int)
 have dp:=den_pos c
 have hd:0<bY (c.den:Int):=by grind
 have hg:Int.gcd (bY c.num) (bY (c.den:Int))=1:=by
  have hr:Int.gcd c.num (c.den:Int)=1:=c.reduced
  have d1:Int.gcd (bY c.num) (bY (c.den:Int))∣Int.gcd c.num (c.den:Int):=by
   refine Int.dvd_gcd ?_ ?_
   ·have t:((Int.gcd (bY c.num) (bY (c.den:Int)):Nat):Int)∣bY c.num*bY c.num:=Int.dvd_mul_of_dvd_left (Int.gcd_dvd_left ..)
    rw[h1] at t;exact t
   ·have t:((Int.gcd (bY c.num) (bY (c.den:Int)):Nat):Int)∣bY (c.den:Int)*bY (c.den:Int):=Int.dvd_mul_of_dvd_left (Int.gcd_dvd_right ..)
    rw[h2] at t;exact t
  rw[hr] at d1
  exact Nat.dvd_one.1 d1
 exact(B6 hd (by rw[hg];rfl)).symm
def Vc (x:Nat→Rat):Prop:= ∀e:Rat,0<e→ ∃K:Nat,∀i j,K≤i→K≤j→x i-x j≤e
def HJ (x:Nat→Rat):Prop:= ∃e:Rat,0<e∧ ∃K:Nat,∀k,K≤k→e≤x k
def NE (x:Nat→Rat):Prop:= ∀e:Rat,0<e→ ∃K:Nat,∀k,K≤k→ -e≤x k∧x k≤e
structure Re where
 s:Nat→Rat
 c:Vc s
theorem Re.ext {x y:Re}(h: ∀k,x.s k=y.s k):x=y:=by
 cases x;cases y
 have:_=_:=funext h
 subst this;rfl
theorem pg (h:0<e):0<e/2:=by grind
theorem Hp (h:0<e) (h2:0<B):0<e/B∧B*(e/B)=e:=by
 refine⟨?_,by grind⟩
 exact kw h (Rat.inv_pos.2 h2)
theorem Re.bnd (x:Re): ∃B:Rat,0<B∧ ∃K:Nat,∀k,K≤k→ -B≤x.s k∧x.s k≤B:=by
 obtain⟨K,h⟩:=x.c 1 (by decide)
 by_cases hs:0≤x.s K
 ·exact⟨x.s K+1,by grind,K,fun k hk=>by have h1:=h k K hk (cg _);have h2:=h K k (cg _) hk;constructor<;>grind⟩
 ·exact⟨1-x.s K,by grind,K,fun k hk=>by have h1:=h k K hk (cg _);have h2:=h K k (cg _) hk;constructor<;>grind⟩
theorem Fb (q:Rat):Vc (fun _=>q):=fun e he=>⟨0,fun i j _ _=>by grind⟩
theorem TI {x y:Nat→Rat}(hx:Vc x) (hy:Vc y):Vc (fun k=>x k+y k):=fun e he=>by
 obtain⟨K,h⟩:=hx (e/2) (pg he)
 obtain⟨L,g⟩:=hy (e/2) (pg he)
 exact⟨max K L,fun i j hi hj=>by have h1:=h i j (by omega) (by omega);have h2:=g i j (by omega) (by omega);grind⟩
theorem Ur {x:Nat→Rat}(hx:Vc x):Vc (fun k=> -x k):=fun e he=>by
 obtain⟨K,h⟩:=hx e he
 exact⟨K,fun i j hi hj=>by have h1:=h j i hj hi;grind⟩
theorem JO (h1: -e≤a) (h2:a≤e) (h3: -f≤b) (h4:b≤f):a*b≤e*f∧ -(e*f)≤a*b:=by
 have p1:0≤(e-a)*(f+b):=jo (by grind) (by grind)
 have p2:0≤(e+a)*(f-b):=jo (by grind) (by grind)
 have p3:0≤(e-a)*(f-b):=jo (by grind) (by grind)
 have p4:0≤(e+a)*(f+b):=jo (by grind) (by grind)
 grind
theorem U7 (x y:Re):Vc (fun k=>x.s k*y.s k):=fun e he=>by
 obtain⟨B,hB,K,hb⟩:=x.bnd
 obtain⟨D,hD,L,hd⟩:=y.bnd
 obtain⟨d1,e1⟩:=Hp (pg he) hB
 obtain⟨d2,e2⟩:=Hp (pg he) hD
 obtain⟨K',h⟩:=x.c _ d2
 obtain⟨L',g⟩:=y.c _ d1
 refine⟨max (max K L) (max K' L'),fun i j hi hj=>?_⟩
 have b1:=hb i (by omega)
 have b2:=hd j (by omega)
 have h1:=h i j (by omega) (by omega)
 have h2:=h j i (by omega) (by omega)
 have g1:=g i j (by omega) (by omega)
 have g2:=g j i (by omega) (by omega)
 have p1:=(JO b1.1 b1.2 (a:=x.s i) (b:=y.s i-y.s j) (f:=e/2/B) (by grind) (by grind)).1
 have p2:=(JO b2.1 b2.2 (a:=y.s j) (b:=x.s i-x.s j) (f:=e/2/D) (by grind) (by grind)).1
 rw[e1] at p1
 rw[e2] at p2
 grind
def Re.of (q:Rat):Re:=⟨fun _=>q,Fb q⟩
instance:Add Re:=⟨fun x y=>⟨fun k=>x.s k+y.s k,TI x.c y.c⟩⟩
instance:Neg Re:=⟨fun x=>⟨fun k=> -x.s k,Ur x.c⟩⟩
instance:_root_.Sub Re:=⟨fun x y=>x+ -y⟩
instance:Mul Re:=⟨fun x y=>⟨fun k=>x.s k*y.s k,U7 x y⟩⟩
theorem aQ (x y:Re) (k:Nat):(x+y).s k=x.s k+y.s k:=rfl
theorem bD (x:Re) (k:Nat):(-x).s k= -x.s k:=rfl
theorem aI (x y:Re) (k:Nat):(x-y).s k=x.s k+ -y.s k:=rfl
theorem aR (x y:Re) (k:Nat):(x*y).s k=x.s k*y.s k:=rfl
theorem bc (q:Rat) (k:Nat):(Re.of q).s k=q:=rfl
theorem my (x:Re):HJ x.s∨NE x.s∨HJ (-x).s:=by
 by_cases hn:NE x.s
 ·grind
 ·unfold NE at hn
  obtain⟨e,hn⟩:=Aj.1 hn
  obtain⟨he,hn⟩:=AZ.1 hn
  obtain⟨K,h⟩:=x.c (e/2) (pg he)
  have hn2:=not_exists.1 hn K
  obtain⟨k,hn3⟩:=Aj.1 hn2
  obtain⟨hk,hn4⟩:=AZ.1 hn3
  by_cases h1:e<x.s k
  ·exact .inl ⟨e/2,pg he,K,fun j hj=>by have:=h k j hk hj;grind⟩
  ·have h2:x.s k< -e:=by
    apply gg
    grind
   exact .inr (.inr ⟨e/2,pg he,K,fun j hj=>by rw[bD];have:=h j k hj hk;grind⟩)
section
variable {x y z:Re}
theorem Vx (h:HJ x.s): ¬HJ (-x).s:=fun g=>by
 obtain⟨e,he,K,h⟩:=h
 obtain⟨f,hf,L,g⟩:=g
 have h1:=h (max K L) (by omega)
 have h2:=g (max K L) (by omega)
 rw[bD] at h2
 grind
theorem Bo (h:HJ x.s): ¬NE x.s:=fun g=>by
 obtain⟨e,he,K,h⟩:=h
 obtain⟨L,g⟩:=g (e/2) (pg he)
 have h1:=h (max K L) (by omega)
 have h2:=g (max K L) (by omega)
 grind
theorem FC (h:NE x.s):NE (-x).s:=fun e he=>by
 obtain⟨K,h⟩:=h e he
 exact⟨K,fun k hk=>by rw[bD];have:=h k hk;constructor<;>grind⟩
theorem T7 (h:NE x.s) (g:NE y.s):NE (x+y).s:=fun e he=>by
 obtain⟨K,h⟩:=h (e/2) (pg he)
 obtain⟨L,g⟩:=g (e/2) (pg he)
 exact⟨max K L,fun k hk=>by rw[aQ];have:=h k (by omega);have:=g k (by omega);constructor<;>grind⟩
theorem Br (h:HJ x.s) (g:NE y.s):HJ (x+y).s:=by
 obtain⟨e,he,K,h⟩:=h
 obtain⟨L,g⟩:=g (e/2) (pg he)
 exact⟨e/2,pg he,max K L,fun k hk=>by rw[aQ];have:=h k (by omega);have:=g k (by omega);grind⟩
theorem MG (h:HJ x.s) (g:HJ y.s):HJ (x+y).s:=by
 obtain⟨e,he,K,h⟩:=h
 obtain⟨f,hf,L,g⟩:=g
 exact⟨e,he,max K L,fun k hk=>by rw[aQ];have:=h k (by omega);have:=g k (by omega);grind⟩
theorem B9 (h:HJ x.s) (g:HJ y.s):HJ (x*y).s:=by
 obtain⟨e,he,K,h⟩:=h
 obtain⟨f,hf,L,g⟩:=g
 refine⟨e*f,kw he hf,max K L,fun k hk=>?_⟩
 rw[aR]
 have p1:0≤(x.s k-e)*f:=jo (by grind) (by grind)
 have p2:0≤x.s k*(y.s k-f):=jo (by grind) (by grind)
 grind
theorem zw (x:Re) (g:NE y.s):NE (x*y).s:=fun e he=>by
 obtain⟨B,hB,K,hb⟩:=x.bnd
 obtain⟨d1,e1⟩:=Hp he hB
 obtain⟨L,g⟩:=g _ d1
 refine⟨max K L,fun k hk=>?_⟩
 rw[aR]
 have h1:=hb k (by omega)
 have h2:=g k (by omega)
 have p:=JO h1.1 h1.2 h2.1 h2.2
 rw[e1] at p
 exact⟨p.2,p.1⟩
theorem ND (x:Re): - -x=x:=Re.ext fun k=>by rw[bD,bD];grind
theorem wL (x y:Re):x*y=y*x:=Re.ext fun k=>by rw[aR,aR];grind
theorem N6 (x y:Re): -(x*y)= -x*y:=Re.ext fun k=>by rw[bD,aR,aR,bD];grind
theorem Ns (x y:Re): -(x*y)=x* -y:=Re.ext fun k=>by rw[bD,aR,aR,bD];grind
theorem EQ (x y:Re): -(x+y)= -x+ -y:=Re.ext fun k=>by rw[bD,aQ,aQ,bD,bD];grind
noncomputable def aT (x:Re):Int:=open Classical in if HJ x.s then 1 else if HJ (-x).s then-1 else 0
theorem pj:aT x=1↔HJ x.s:=by
 unfold aT
 split
 ·rename_i h;simp[h]
 ·rename_i h;split<;>simp[h]
theorem oG:aT x= -1↔HJ (-x).s:=by
 unfold aT
 split
 ·rename_i h;simp[Vx h]
 grind
theorem nG:aT x=0↔NE x.s:=by
 unfold aT
 split
 ·rename_i h;simp[Bo h]
 ·rename_i h
  split
  ·rename_i h2
   have h3:=Bo h2
   simp
   exact fun g=>h3 (FC g)
  ·rename_i h2
   simp
   exact((my x).resolve_left h).resolve_right h2
theorem bJ (x:Re):aT x=1∨aT x=0∨aT x= -1:=by
 rcases my x with h|h|h
 ·exact .inl (pj.2 h)
 ·exact .inr (.inl (nG.2 h))
 ·exact .inr (.inr (oG.2 h))
theorem cj (x:Re):aT (-x)= -aT x:=by
 rcases my x with h|h|h
 ·rw[pj.2 h,oG,ND];exact h
 ·rw[nG.2 h,nG.2 (FC h)];rfl
 ·rw[oG.2 h,pj.2 h];rfl
theorem bH (x y:Re):aT (x*y)=aT x*aT y:=by
 rcases my x with h|h|h<;>rcases my y with g|g|g
 ·rw[pj.2 h,pj.2 g,pj.2 (B9 h g)];rfl
 ·rw[pj.2 h,nG.2 g,nG.2 (zw x g)];rfl
 ·rw[pj.2 h,oG.2 g,pn,oG,Ns];exact B9 h g
 ·rw[nG.2 h,qN,nG,wL];exact zw y h
 ·rw[nG.2 h,qN,nG,wL];exact zw y h
 ·rw[nG.2 h,qN,nG,wL];exact zw y h
 ·rw[oG.2 h,pj.2 g,Int.mul_one,oG,N6];exact B9 h g
 ·rw[oG.2 h,nG.2 g,nG.2 (zw x g)];rfl
 ·rw[oG.2 h,oG.2 g]
  have e:x*y= -x* -y:=Re.ext fun k=>by rw[aR,aR,bD,bD];grind
  rw[e,pj.2 (B9 h g)];rfl
theorem dT (x:Re) (h:aT y=0):aT (x+y)=aT x:=by
 have g:=nG.1 h
 rcases my x with h|h|h
 ·rw[pj.2 h,pj.2 (Br h g)]
 ·rw[nG.2 h,nG.2 (T7 h g)]
 ·rw[oG.2 h,oG,EQ];exact Br h (FC g)
theorem LE (x y:Re):x+y=y+x:=Re.ext fun k=>by rw[aQ,aQ];grind
theorem ng (h:aT x=0) (y:Re):aT (x+y)=aT y:=by rw[LE];exact dT y h
theorem jD (h:aT x=aT y):aT (x+y)=aT x:=by
 rcases bJ x with g|g|g
 ·rw[g,pj];exact MG (pj.1 g) (pj.1 (h.symm.trans g))
 ·rw[dT x (h.symm.trans g)]
 ·rw[g,oG,EQ];exact MG (oG.1 g) (oG.1 (h.symm.trans g))
theorem qB (h:0≤aT x) (g:0≤aT y):0≤aT (x+y):=by
 rcases bJ x with a|a|a
 ·rcases bJ y with b|b|b
  ·rw[jD (a.trans b.symm)];exact h
  ·rw[dT x b];exact h
  grind
 ·rw[ng a];exact g
 grind
theorem DI (h:0<aT x) (g:0≤aT y):0<aT (x+y):=by
 rcases bJ y with b|b|b
 ·rcases bJ x with a|a|a
  ·rw[jD (a.trans b.symm)];exact h
  ·omega
  grind
 ·rw[dT x b];exact h
 grind
theorem dV (h:aT (x-y)=0):aT x=aT y:=by
 have e:x=(x-y)+y:=Re.ext fun k=>by rw[aQ,aI];grind
 rw[e]
 exact ng h y
theorem cV (q:Rat):aT (Re.of q)=aM q 0:=by
 unfold aM
 split
 ·rename_i h
  exact oG.2 ⟨-q,by grind,0,fun k _=>by rw[bD,bc];grind⟩
 ·split
  ·rename_i h;exact pj.2 ⟨q,h,0,fun k _=>by rw[bc];grind⟩
  ·exact nG.2 fun e he=>⟨0,fun k _=>by rw[bc];constructor<;>grind⟩
end
theorem Iq {X Y r n:Re}(hr:0≤aT r) (hn:aT (r*r-n)=0):aT (X+Y*r)=sx (aT X) (aT Y*aT n) (aT (X*X-Y*Y*n)):=by
 have hrn:aT r=aT n:=by
  have h1:=dV hn
  rw[bH] at h1
  rcases bJ r with h|h|h
  ·grind
  ·grind
  grind
 have ht:aT (Y*r)=aT Y*aT n:=by rw[bH,hrn]
 rw[←ht]
 unfold sx
 split
 ·rename_i h
  rcases h with h|h
  ·exact dT X h
  ·exact jD h
 ·rename_i h
  split
  ·rename_i h2;exact ng h2 _
  ·rename_i h2
   have hopp:aT (Y*r)= -aT X:=by
    have a:=bJ X
    have b:=bJ (Y*r)
    omega
   have hm:aT (X+ -(Y*r))=aT X:=jD (by rw[cj,hopp];omega)
   have e1:aT ((X+Y*r)*(X+ -(Y*r)))=aT (X*X-Y*Y*n):=by
    refine dV ?_
    have e:(X+Y*r)*(X+ -(Y*r))-(X*X-Y*Y*n)= -(Y*Y)*(r*r-n):=Re.ext fun k=>by
     simp only[aI,aR,aQ,bD];grind
    rw[e,bH,hn,pF]
   rw[bH,hm] at e1
   have a:=bJ X
   grind
def yx (m:Rat) (k:Nat):Rat:=(((m.den:Int)*((k:Int)+1):Int):Rat)
def V3 (m:Rat) (k:Nat):Int:=bY (m.num*(m.den:Int)*(((k:Int)+1)*((k:Int)+1)))
def yz (m:Rat) (k:Nat):Rat:=((V3 m k:Int):Rat)/yx m k
theorem qI {x y:Rat}(hd:0<d) (h:x*d≤y*d):x≤y:=by
 apply gg
 intro hn
 have h1:0<(x-y)*d:=kw (by grind) hd
 grind
theorem uM (m:Rat):m*((m.den:Int):Rat)=((m.num:Int):Rat):=by
 have h:=Rat.num_divInt_den m
 rw[Bf] at h
 have hd:(0:Rat)<((m.den:Int):Rat):=uv.2 (by have:=m.den_pos;omega)
 grind
theorem zW (m:Rat) (k:Nat):0<yx m k:=by
 have h1:=den_pos m
 have h2:(0:Int)<(m.den:Int)*((k:Int)+1):=by grind
 exact uv.2 h2
theorem Gp (m:Rat) (k:Nat):yz m k*yx m k=((V3 m k:Int):Rat):=by
 have:=zW m k
 unfold yz;grind
theorem PL (m:Rat) (k:Nat):m*(yx m k*yx m k)=((m.num*(m.den:Int)*(((k:Int)+1)*((k:Int)+1)):Int):Rat):=by
 have h:=uM m
 unfold yx
 grind
theorem XG (m:Rat) (k:Nat):0≤V3 m k:=fg _
theorem SP (h:0≤m) (k:Nat):0≤m.num*(m.den:Int)*(((k:Int)+1)*((k:Int)+1)):=
 fZ (fZ (Rat.num_nonneg.2 h) (by have:=den_pos m;omega)) (fZ (by omega) (by omega))
theorem Gw (m:Rat) (k:Nat):0≤yz m k:=by
 refine qI (zW m k) ?_
 rw[Gp]
 have:(0:Rat)≤((V3 m k:Int):Rat):=Rat.intCast_nonneg.2 (XG m k)
 grind
theorem Qv (h:0≤m) (k:Nat):yz m k*yz m k≤m:=by
 have hd:=zW m k
 refine qI (kw hd hd) ?_
 rw[PL]
 have e:yz m k*yz m k*(yx m k*yx m k)=((V3 m k*V3 m k:Int):Rat):=by
  rw[f8,←Gp];grind
 rw[e]
 exact fI.2 (rJ (SP h k))
theorem Pv (h:0≤m) (k:Nat):m<(yz m k+1/yx m k)*(yz m k+1/yx m k):=by
 have hd:=zW m k
 have e:(yz m k+1/yx m k)*(yz m k+1/yx m k)*(yx m k*yx m k)=(((V3 m k+1)*(V3 m k+1):Int):Rat):=by
  rw[f8,kW,←Gp]
  grind
 have h1:=iM.2 (wI (SP h k))
 rw[←PL] at h1
 have h2:m*(yx m k*yx m k)<(yz m k+1/yx m k)*(yz m k+1/yx m k)*(yx m k*yx m k):=by rw[e];exact h1
 apply gg
 intro hn
 have h3:0≤(m-(yz m k+1/yx m k)*(yz m k+1/yx m k))*(yx m k*yx m k):=jo (by grind) (by have:=kw hd hd;grind)
 grind
theorem AC (m:Rat) (he:0<e) (hk:e.den≤k):0<1/yx m k∧1/yx m k≤e:=by
 have hd:=zW m k
 refine⟨?_,?_⟩
 ·have:=(Hp (e:=1) (by decide) hd).1;exact this
 ·refine qI hd ?_
  have h1:=uM e
  have h2:0<e.num:=uv.1 (by rw[←h1];exact kw he (uv.2 (by have:=e.den_pos;omega)))
  have h3:(1:Rat)≤((e.num:Int):Rat):=by
   have:((1:Int):Rat)≤((e.num:Int):Rat):=fI.2 (by omega)
   grind
  have h4:((e.den:Int):Rat)≤yx m k:=by
   refine fI.2 ?_
   have:=den_pos m
   have h5:1*((k:Int)+1)≤(m.den:Int)*((k:Int)+1):=AR (by omega) (by omega)
   omega
  have h6:0≤e*(yx m k-((e.den:Int):Rat)):=jo (by grind) (by grind)
  grind
theorem Yl (h:0≤m):Vc (yz m):=fun e he=>by
 refine⟨e.den,fun i j _ hj=>?_⟩
 obtain⟨hp,hs⟩:=AC m he hj
 have h1:=Qv h i
 have h2:=Pv h j
 have h3:=Gw m i
 have h4:=Gw m j
 apply gg
 intro hn
 have h5:0≤(yz m i-(yz m j+1/yx m j))*(yz m i+(yz m j+1/yx m j)):=jo (by grind) (by grind)
 grind
def Re.rt (m:Rat):Re:=⟨fun k=>if 0≤m then yz m k else 0,by
 by_cases h:0≤m
 ·simp only[h,if_true];exact Yl h
 ·simp only[h,if_false];exact Fb 0⟩
theorem Z0 {x:Re}(h: ∀k,0≤x.s k):0≤aT x:=by
 rcases bJ x with a|a|a
 ·omega
 ·omega
 ·obtain⟨e,he,K,g⟩:=oG.1 a
  have h1:=g K (cg _)
  rw[bD] at h1
  grind
theorem xy (m:Rat):0≤aT (Re.rt m):=Z0 fun k=>by
 show 0≤(if 0≤m then yz m k else 0)
 split
 ·exact Gw m k
 ·exact tI
theorem oE (h:0≤m):aT (Re.rt m*Re.rt m-Re.of m)=0:=nG.2 fun e he=>by
 obtain⟨d1,d2⟩:=Hp he (show 0<2*m+3 by grind)
 refine⟨(e/(2*m+3)).den,fun k hk=>?_⟩
 rw[aI,aR,bc]
 show-e≤(if 0≤m then yz m k else 0)*(if 0≤m then yz m k else 0)+ -m∧(if 0≤m then yz m k else 0)*(if 0≤m then yz m k else 0)+ -m≤e
 rw[if_pos h]
 obtain⟨hp,hs⟩:=AC m d1 hk
 obtain⟨hp1,hs1⟩:=AC m (e:=1) (by decide) (k:=k) (by
  have:(1:Rat).den=1:=rfl
  rw[this]
  have:=(e/(2*m+3)).den_pos
  omega)
 have h1:=Qv h k
 have h2:=Pv h k
 have h3:=Gw m k
 refine⟨?_,by grind⟩
 have h4:yz m k≤m+1:=by
  apply gg
  intro hn
  have h5:0≤(yz m k-(m+1))*(yz m k+(m+1)):=jo (by grind) (by grind)
  have h6:0≤m*m:=jo h h
  grind
 generalize 1/yx m k=d at*
 have h7:0≤d*((m+1)-yz m k):=jo (by grind) (by grind)
 have h8:0≤d*(1-d):=jo (by grind) (by grind)
 have h9:0≤(2*m+3)*(e/(2*m+3)-d):=jo (by grind) (by grind)
 grind
theorem oK (x y:Rat):aM (x-y) 0=aM x y:=by
 unfold aM
 grind
theorem ia (x y:Rat):Re.of x*Re.of y=Re.of (x*y):=rfl
theorem QA (x:Rat): -Re.of x=Re.of (-x):=rfl
theorem XO (x y:Rat):Re.of x+Re.of y=Re.of (x+y):=rfl
theorem yn (x y:Rat):Re.of x-Re.of y=Re.of (x-y):=Re.ext fun k=>by rw[aI,bc,bc,bc];grind
def aB (a b m:Rat):Re:=Re.of a+Re.of b*Re.rt m
theorem iX (h:0≤m):bF a b m=aT (aB a b m):=by
 unfold aB
 rw[Iq (n:=Re.of m) (xy m) (oE h),cV,cV,cV,ia,ia,ia,yn,cV,oK]
 rfl
def jH (A B C D M N:Rat):Re:=aB A B M+aB C D M*Re.rt N
theorem nm (hM:0≤M) (hN:0≤N):fD A B C D M N=aT (jH A B C D M N):=by
 unfold jH
 rw[Iq (n:=Re.of N) (xy N) (oE hN),←iX hM,←iX hM,cV,wx (by grind) (by grind)]
 have e:aT (aB A B M*aB A B M-aB C D M*aB C D M*Re.of N)=aT (aB (EM A B C D M N) (xC A B C D N+xC A B C D N) M):=by
  refine dV ?_
  have e:(aB A B M*aB A B M-aB C D M*aB C D M*Re.of N)-aB (EM A B C D M N) (xC A B C D N+xC A B C D N) M=(Re.of (B*B-D*D*N))*(Re.rt M*Re.rt M-Re.of M):=Re.ext fun k=>by
   unfold aB EM xC
   simp only[aI,aR,aQ,bc];grind
  rw[e,bH,oE hM,pF]
 rw[e,←iX hM]
theorem nP (hc:0≤c) (hf:0≤f):fD (a-d) b (-e) 0 c f=aT (aB a b c-aB d e f):=by
 rw[nm hc hf]
 refine congrArg aT (Re.ext fun k=>?_)
 unfold jH aB
 simp only[aI,aR,aQ,bc];grind
section
variable {P:Program}{ops:Array Oper}{T:TF}{B:BF}
theorem tJ {x y:Operand}{k yk:IntKind}{m:Int}
 (hx:cG T x=some (.v (.c (.i k m)))) (hy:cG T y=some (.v (.c (.i yk n)))) (h0: ¬n<0) (hr:m.fdiv (2^(min n.toNat k.bits))=r) (hg:gd ops ⟨dst,.binOp .shr xt x y yt,ty,pos,af,g⟩ T=some true):
 Sem P ops ⟨dst,.binOp .shr xt x y yt,ty,pos,af,g⟩ T B (.r (.v (.c (.i k r)))):=
 bL hg (pS rfl) (fun V β a w hs=>by
  have e1:a.eval x=.int k m:=fT (aD hs (x:=x) (by simp[Op.operands]) hx)
  have e2:a.eval y=.int yk n:=fT (aD hs (x:=y) (by simp[Op.operands]) hy)
  subst hr
  exact⟨.int k (m.fdiv (2^(min n.toNat k.bits))),by simp[execOp,e1,e2,eqGuard,binOp,Op.shift,h0],.i _ _⟩)
theorem Tu {x y:Operand}{k yk:IntKind}{m:Int}
 (hx:cG T x=some (.v (.c (.i k m)))) (hy:cG T y=some (.v (.c (.i yk n)))) (h0: ¬n<0) (hr:k.wrap (m*2^(min n.toNat k.bits))=r) (hg:gd ops ⟨dst,.binOp .shl xt x y yt,ty,pos,af,g⟩ T=some true):
 Sem P ops ⟨dst,.binOp .shl xt x y yt,ty,pos,af,g⟩ T B (.r (.v (.c (.i k r)))):=
 bL hg (pS rfl) (fun V β a w hs=>by
  have e1:a.eval x=.int k m:=fT (aD hs (x:=x) (by simp[Op.operands]) hx)
  have e2:a.eval y=.int yk n:=fT (aD hs (x:=y) (by simp[Op.operands]) hy)
  subst hr
  exact⟨.int k (k.wrap (m*2^(min n.toNat k.bits))),by simp[execOp,e1,e2,eqGuard,binOp,Op.shift,h0],.i _ _⟩)
end
def qo (x:Int):Int:=bY (max x 0*65536)
def lv (y:Int):Int:=if DX (y*65536) then bY (y*65536) else bY (y*65536)+1
theorem Cx (h0:0≤n) (h1:n≤2305843009213693952):0≤bY (n*65536)∧bY (n*65536)≤549755813888:=by
 refine⟨fg _,?_⟩
 have h2:=rJ (x:=n*65536) (by omega)
 by_cases h:bY (n*65536)≤549755813888
 ·exact h
 ·have:=OG (a:=549755813889) (b:=bY (n*65536)) (by decide) (by omega)
  omega
theorem NG (h0: -4611686018427387904≤x) (h1:x≤4611686018427387904):yd x=true:=UD.2 ⟨by omega,by omega⟩
theorem IB (h0: -2305843009213693952≤lo) (h1:hi≤2305843009213693952):xk lo hi=true:=VQ (by omega) (by omega)
theorem pR (ha:Rz 4000000 a):Ok Tryz.prog 238 [dR a] [.a (([.i .i64 (if jj a then jy a else 0)]++[.i .i64 (if jj a then ji a else 0)])),.c (.b (jj a))]:=by
 have hz:Rz 6000000 (a*((65536:Int):Rat)):=(aP ha (eG (dS (k:=3) (by decide) (by decide) (by decide)) (by decide))).m_
 have ha3:Rz 6000000 a:=ha.m_
 have h65:Rz 6000000 ((65536:Int):Rat):=(eG (dS (k:=3) (by decide) (by decide) (by decide)) (by decide)).m_
 have hzn:Rz 6000000 (-(a*((65536:Int):Rat))):=hz.neg
 have hs1:Sz 100000000 (jy a):=(Sz.fdiv hz.n).m_
 have hs2:Sz 100000000 ((-(a*((65536:Int):Rat))).num.fdiv ((-(a*((65536:Int):Rat))).den:Int)):=(Sz.fdiv hzn.n).m_
 have hs3:Sz 100000000 (ji a):=hs2.neg
 have hf1:Ok Tryz.prog 323 [dR (a*((65536:Int):Rat))] [dI (jy a)]:=yh hz
 have hf3:Ok Tryz.prog 167 [dI ((-(a*((65536:Int):Rat))).num.fdiv ((-(a*((65536:Int):Rat))).den:Int))] [dI (ji a)]:=zb hs2
 refine eo Tryz.func238 38 [.cell 2 230,.tmp 3] rfl<|aa<|ag<|aa<|dC 4 [] ?_
 refine aK rfl (gT (by omega) (by omega)) ?_
 refine aK rfl (cX (by first|assumption|exact b4 (by assumption) (by decide)) (by first|assumption|exact b4 (eG (dS (k:=3) (by decide) (by decide) (by decide)) (by decide)) (by decide))) ?_
 refine aa<|ag ?_
 refine ac rfl (hf1) ?_
 refine ac rfl (Bb (by first|assumption|exact Sz.mono (by assumption) (by decide))) ?_
 refine aa<|ag ?_
 refine ac rfl (dX (by first|assumption|exact b4 (aP (by assumption) (eG (dS (k:=3) (by decide) (by decide) (by decide)) (by decide))) (by decide))) ?_
 refine ac rfl (yh hzn)<|ac rfl (hf3) ?_
 refine ac rfl (Bb (by first|assumption|exact Sz.mono (by assumption) (by decide))) ?_
 refine aa<|aa<|ag ?_
 refine jU (bE rfl) (fun c1 hb1=>?_)
 cases c1
 ·refine aJ rfl (fun hc2=>?_) (fun hc2=>?_)
  ·refine aa<|ag<|ar (aG (us:=([.i .i64 0]++[.i .i64 0])) ry qk rfl rfl rfl) ?_
   refine a7 ?_
   rw[show jj a=false from by unfold jj;rw[jN hc2,pi,nj],if_neg (by decide),if_neg (by decide)]
   exact ah (aS jW rfl (az ae))
  ·have e1:=fF hb1
   have e2:=fF hc2
   refine lh (σ':=⟨38,[(2,.p 2 0),(5,.v (.c (.i .i64 (jy a)))),(7,.v (.c (.i .i64 (ji a))))],[(2,230,([.i .i64 0]++[.i .i64 0]))]⟩) (ap ⟨rfl,by rw[if_pos e1];rfl,by rw[if_pos e2];rfl,trivial⟩ ⟨rfl,trivial⟩ rfl) ?_
   refine aA<|aa<|ag<|ac rfl (uw) ?_
   refine a7 ?_
   rw[show jj a=xk (jy a) (ji a) from by unfold jj;rw[e1,e2];rfl]
   exact ah (aS jW rfl (az ae))
 ·refine dO rfl<|aa<|ag<|ar (aG (us:=([.i .i64 0]++[.i .i64 0])) ry qk rfl rfl rfl) ?_
  refine a7 ?_
  rw[show jj a=false from by unfold jj;rw[jN hb1];rfl,if_neg (by decide),if_neg (by decide)]
  exact ah (aS jW rfl (az ae))
theorem HC (h0:0≤n) (h1:n≤2305843009213693952):Ok Tryz.prog 387 [.c (.i .i64 n)] [.c (.i .i64 (bY (n*65536))),.c (.b (DX (n*65536)))]:=by
 have z1:Sz 100000000 n:=dS (by decide) (by omega) (by omega)
 have z2:Sz 100000000 (65536:Int):=dS (by decide) (by decide) (by decide)
 have z4:Sz 3 (n*65536):=⟨by have:pw 3=1000000000000000000000000000:=by decide
                             omega,by have:pw 3=1000000000000000000000000000:=by decide
                                      omega⟩
 have z5:Sz 99999999 (n*65536):=z4.m_
 have z6:Sz 100000000 (bY (n*65536)):=z4.isq.m_
 have hb:=Cx h0 h1
 have e0:(if yd (bY (n*65536)) then bY (n*65536) else 0)=bY (n*65536):=by rw[NG (by omega) (by omega),if_pos rfl]
 refine bX Tryz.func387 rfl<|ac rfl (jb (by omega) (by omega))<|ac rfl (jb (by omega) (by omega)) ?_
 refine ac rfl (gN (by first|assumption|exact Sz.mono (by assumption) (by decide)) (by first|assumption|exact Sz.mono (dS (k:=3) (by decide) (by decide) (by decide)) (by decide))) ?_
 refine ac rfl (Dg (by first|assumption|exact Sz.mono (dE (by assumption) (dS (k:=3) (by decide) (by decide) (by decide))) (by decide))) ?_
 refine ac rfl ((show Ok Tryz.prog 322 [dI (bY (n*65536))] [.c (.i .i64 (bY (n*65536))),.c (.b (yd (bY (n*65536))))] from by have:=Bb z6;rw[e0] at this;exact this))<|cJ 9 [] ?_
 refine aK rfl (gN (by first|assumption|exact Sz.mono (Sz.isq (dE (by assumption) (dS (k:=3) (by decide) (by decide) (by decide)))) (by decide)) (by first|assumption|exact Sz.mono (Sz.isq (dE (by assumption) (dS (k:=3) (by decide) (by decide) (by decide)))) (by decide))) ?_
 refine aK rfl (pN)<|ah ?_
 rw[MU]
 exact az (az ae)
theorem Ja (h0: -2305843009213693952≤x) (h1:x≤2305843009213693952) (h2: -2305843009213693952≤y) (h3:y≤2305843009213693952) (hn: ¬y<0):Ok Tryz.prog 365 [.a (([.i .i64 x]++[.i .i64 y]))] [.a (([.i .i64 (qo x)]++[.i .i64 (lv y)])),.c (.b true)]:=by
 have b1:=Cx (n:=max x 0) (by omega) (by omega)
 have b2:=Cx (n:=y) (by omega) h3
 refine bX Tryz.func365 rfl ?_
 refine dk rfl (fun hc1=>?_) (fun hc1=>?_)
 ·exact absurd (xn hc1) hn
 ·refine ar (Gz rfl rfl rfl) ?_
  refine ac rfl (HC (by omega) (by omega))<|ac rfl (HC (by omega) (by omega)) ?_
  refine dk rfl (fun hc2=>?_) (fun hc2=>?_)
  ·refine ar (ci ((bY (y*65536))+1) (bh (by omega) (by omega)) rfl)<|ac rfl ((show Ok Tryz.prog 324 [.c (.i .i64 (bY ((max x 0)*65536))),.c (.i .i64 ((bY (y*65536))+1))] [.a ([.i .i64 (bY ((max x 0)*65536))]++[.i .i64 ((bY (y*65536))+1)]),.c (.b true)] from by have:=uw (x:=bY ((max x 0)*65536)) (y:=(bY (y*65536))+1);rw[IB (by omega) (by omega),if_pos rfl,if_pos rfl] at this;exact this)) ?_
   refine ah ?_
   unfold qo lv
   rw[jN hc2,if_neg (by decide)]
   exact aS jW rfl (az ae)
  ·refine ac rfl ((show Ok Tryz.prog 324 [.c (.i .i64 (bY ((max x 0)*65536))),.c (.i .i64 (bY (y*65536)))] [.a ([.i .i64 (bY ((max x 0)*65536))]++[.i .i64 (bY (y*65536))]),.c (.b true)] from by have:=uw (x:=bY ((max x 0)*65536)) (y:=bY (y*65536));rw[IB (by omega) (by omega),if_pos rfl,if_pos rfl] at this;exact this)) ?_
   refine ah ?_
   unfold qo lv
   rw[fF hc2,if_pos rfl]
   exact aS jW rfl (az ae)
theorem Mr (h0: -2305843009213693952≤x) (h1:x≤2305843009213693952) (h2: -2305843009213693952≤y) (h3:y≤2305843009213693952) (h4: -2305843009213693952≤u) (h5:u≤2305843009213693952) (h6: -2305843009213693952≤v) (h7:v≤2305843009213693952):Ok Tryz.prog 240 [.a (([.i .i64 x]++[.i .i64 y])),.a (([.i .i64 u]++[.i .i64 v]))] [.a (([.i .i64 (if xk (x+u) (y+v) then x+u else 0)]++[.i .i64 (if xk (x+u) (y+v) then y+v else 0)])),.c (.b (xk (x+u) (y+v)))]:=by
 refine bX Tryz.func240 rfl<|ar (ci (x+u) (bh (by omega) (by omega)) rfl) ?_
 refine ar (ci (y+v) (bh (by omega) (by omega)) rfl) ?_
 refine ac rfl (uw) ?_
 exact ah (aS jW rfl (az ae))
theorem LM (h0: -9223372036854775808≤x) (h1:x≤9223372036854775807):Ok Tryz.prog 367 [.c (.i .i64 x)] [.c (.i .u64 (x.natAbs:Int))]:=by
 refine bX Tryz.func367 rfl ?_
 refine dk rfl (fun hc1=>?_) (fun hc1=>?_)
 ·have hn:=xn hc1
  have e:(x.natAbs:Int)= -x:=by omega
  refine ar (bZ (r:=x+18446744073709551616) Ag fQ rfl (Hg hn h0) rfl) ?_
  refine ar (fa (r:= -x) rfl (Eo hn h0) rfl) ?_
  refine ah ?_
  rw[e]
  exact az ae
 ·have hn:=pt hc1
  have e:(x.natAbs:Int)=x:=by omega
  refine ar (bZ (r:=x) Ag fQ rfl (iC (by omega) (by omega)) rfl) ?_
  refine ah ?_
  rw[e]
  exact az ae
section
variable {P:Program}{ops:Array Oper}{T:TF}{B:BF}
theorem Ce {x y:Operand}{k:IntKind}{m:Int}
 (hx:cG T x=some (.v (.c (.i k m)))) (hy:cG T y=some (.v (.c (.i k n)))) (hr:k.wrap ((BitVec.ofInt k.bits m&&&BitVec.ofInt k.bits n).toNat:Int)=r) (hg:gd ops ⟨dst,.binOp .and xt x y yt,ty,pos,af,g⟩ T=some true):
 Sem P ops ⟨dst,.binOp .and xt x y yt,ty,pos,af,g⟩ T B (.r (.v (.c (.i k r)))):=
 bL hg (pS rfl) (fun V β a w hs=>by
  have e1:a.eval x=.int k m:=fT (aD hs (x:=x) (by simp[Op.operands]) hx)
  have e2:a.eval y=.int k n:=fT (aD hs (x:=y) (by simp[Op.operands]) hy)
  subst hr
  exact⟨.int k (k.wrap ((BitVec.ofInt k.bits m&&&BitVec.ofInt k.bits n).toNat:Int)),by simp[execOp,e1,e2,eqGuard,binOp,Op.intBits],.i _ _⟩)
theorem Yk {x y:Operand}{k:IntKind}{m:Int}
 (hx:cG T x=some (.v (.c (.i k m)))) (hy:cG T y=some (.v (.c (.i k n)))) (hr:k.wrap ((BitVec.ofInt k.bits m|||BitVec.ofInt k.bits n).toNat:Int)=r) (hg:gd ops ⟨dst,.binOp .or xt x y yt,ty,pos,af,g⟩ T=some true):
 Sem P ops ⟨dst,.binOp .or xt x y yt,ty,pos,af,g⟩ T B (.r (.v (.c (.i k r)))):=
 bL hg (pS rfl) (fun V β a w hs=>by
  have e1:a.eval x=.int k m:=fT (aD hs (x:=x) (by simp[Op.operands]) hx)
  have e2:a.eval y=.int k n:=fT (aD hs (x:=y) (by simp[Op.operands]) hy)
  subst hr
  exact⟨.int k (k.wrap ((BitVec.ofInt k.bits m|||BitVec.ofInt k.bits n).toNat:Int)),by simp[execOp,e1,e2,eqGuard,binOp,Op.intBits],.i _ _⟩)
end
theorem A8 (n:Nat) (h:n<18446744073709551616):(BitVec.ofInt 64 (n:Int)).toNat=n:=by
 rw[BitVec.toNat_ofInt];omega
theorem QD (h0:0≤x) (h1:x≤18446744073709551615):IntKind.u64.wrap ((BitVec.ofInt IntKind.u64.bits x&&&BitVec.ofInt IntKind.u64.bits 4294967295).toNat:Int)=x%4294967296:=by
 obtain⟨n,rfl⟩:=As h0
 have e:(BitVec.ofInt IntKind.u64.bits (n:Int)&&&BitVec.ofInt IntKind.u64.bits 4294967295).toNat=n%4294967296:=by
  show(BitVec.ofInt 64 (n:Int)&&&BitVec.ofInt 64 ((4294967295:Nat):Int)).toNat=_
  rw[BitVec.toNat_and,A8 n (by omega),A8 _ (by decide)]
  exact Nat.and_two_pow_sub_one_eq_mod n 32
 rw[e,iC (by omega) (by omega)];omega
theorem aa6 (h0:0≤x) (h1:x≤18446744073709551615):IntKind.u64.wrap ((BitVec.ofInt IntKind.u64.bits x&&&BitVec.ofInt IntKind.u64.bits 65535).toNat:Int)=x%65536:=by
 obtain⟨n,rfl⟩:=As h0
 have e:(BitVec.ofInt IntKind.u64.bits (n:Int)&&&BitVec.ofInt IntKind.u64.bits 65535).toNat=n%65536:=by
  show(BitVec.ofInt 64 (n:Int)&&&BitVec.ofInt 64 ((65535:Nat):Int)).toNat=_
  rw[BitVec.toNat_and,A8 n (by omega),A8 _ (by decide)]
  exact Nat.and_two_pow_sub_one_eq_mod n 16
 rw[e,iC (by omega) (by omega)];omega
theorem adm {h l:Int}(h0:0≤h) (h1:h<65536) (l0:0≤l) (l1:l<281474976710656):IntKind.u64.wrap ((BitVec.ofInt IntKind.u64.bits (h*281474976710656)|||BitVec.ofInt IntKind.u64.bits l).toNat:Int)=h*281474976710656+l:=by
 obtain⟨n,rfl⟩:=As h0
 obtain⟨m,rfl⟩:=As l0
 have e:(BitVec.ofInt IntKind.u64.bits ((n:Int)*281474976710656)|||BitVec.ofInt IntKind.u64.bits (m:Int)).toNat=n*281474976710656+m:=by
  show(BitVec.ofInt 64 ((n:Int)*((281474976710656:Nat):Int))|||BitVec.ofInt 64 (m:Int)).toNat=_
  rw[←Int.natCast_mul,BitVec.toNat_or,A8 _ (by omega),A8 _ (by omega)]
  have:=Nat.two_pow_add_eq_or_of_lt (i:=48) (b:=m) (by omega) n
  grind
 rw[e,iC (by omega) (by omega)];omega
theorem Ii:x.fdiv (2^(min (32:Int).toNat IntKind.u64.bits))=x/4294967296:=by
 rw[show(2:Int)^(min (32:Int).toNat IntKind.u64.bits)=4294967296 from rfl];exact pv _ (by decide)
theorem Wi:x.fdiv (2^(min (16:Int).toNat IntKind.u64.bits))=x/65536:=by
 rw[show(2:Int)^(min (16:Int).toNat IntKind.u64.bits)=65536 from rfl];exact pv _ (by decide)
theorem abS (h0:0≤x) (h1:x<65536):IntKind.u64.wrap (x*2^(min (48:Int).toNat IntKind.u64.bits))=x*281474976710656:=by
 rw[show(2:Int)^(min (48:Int).toNat IntKind.u64.bits)=281474976710656 from rfl,iC (by omega) (by omega)]
theorem ad5:IntKind.u64.wrap x=x%18446744073709551616:=by unfold IntKind.wrap;simp[IntKind.bits,IntKind.signed]
theorem aa3 (_h0:0≤x) (_h1:x≤18446744073709551615) (_h2:0≤y) (_h3:y≤18446744073709551615):
 (x/4294967296)*(y/4294967296)+((x/4294967296)*(y%4294967296)+(x%4294967296)*(y%4294967296)/4294967296)/4294967296+(((x/4294967296)*(y%4294967296)+(x%4294967296)*(y%4294967296)/4294967296)%4294967296+(x%4294967296)*(y/4294967296))/4294967296=x*y/18446744073709551616:=by
 obtain⟨a,ha⟩: ∃a,x/4294967296=a:=⟨_,rfl⟩
 obtain⟨b,hb⟩: ∃b,x%4294967296=b:=⟨_,rfl⟩
 obtain⟨c,hc⟩: ∃c,y/4294967296=c:=⟨_,rfl⟩
 obtain⟨d,hd⟩: ∃d,y%4294967296=d:=⟨_,rfl⟩
 rw[ha,hb,hc,hd]
 have e:x*y=18446744073709551616*(a*c)+4294967296*(a*d)+4294967296*(b*c)+b*d:=by grind
 omega
theorem NI (h0:0≤x) (h1:x≤18446744073709551615) (h2:0≤y) (h3:y≤18446744073709551615):Ok Tryz.prog 366 [.c (.i .u64 x),.c (.i .u64 y)] [.c (.i .u64 (x*y/18446744073709551616)),.c (.i .u64 (x*y%18446744073709551616))]:=by
 obtain⟨a,ha⟩: ∃a,x/4294967296=a:=⟨_,rfl⟩
 obtain⟨b,hb⟩: ∃b,x%4294967296=b:=⟨_,rfl⟩
 obtain⟨c,hc⟩: ∃c,y/4294967296=c:=⟨_,rfl⟩
 obtain⟨d,hd⟩: ∃d,y%4294967296=d:=⟨_,rfl⟩
 have hm:=aa3 h0 h1 h2 h3
 rw[ha,hb,hc,hd] at hm
 have pb: ∀u v:Int,0≤u→u≤4294967295→0≤v→v≤4294967295→0≤u*v∧u*v≤18446744065119617025:=fun u v u0 u1 v0 v1=>⟨Int.mul_nonneg u0 v0,rm (c:=(4294967295:Int)) u1 v1 v0 (by decide)⟩
 have q1:=pb b d (by omega) (by omega) (by omega) (by omega)
 have q2:=pb a d (by omega) (by omega) (by omega) (by omega)
 have q3:=pb b c (by omega) (by omega) (by omega) (by omega)
 have q4:=pb a c (by omega) (by omega) (by omega) (by omega)
 refine bX Tryz.func366 rfl<|ar (Ce (r:=b) rfl rfl (by rw[←hb];exact QD h0 h1) rfl) ?_
 refine ar (tJ (r:=a) rfl rfl (by decide) (by rw[←ha];exact Ii) rfl) ?_
 refine ar (Ce (r:=d) rfl rfl (by rw[←hd];exact QD h2 h3) rfl) ?_
 refine ar (tJ (r:=c) rfl rfl (by decide) (by rw[←hc];exact Ii) rfl) ?_
 refine ar (ci (b*d) (iu (by omega) (by omega)) rfl)<|ar (ci (a*d) (iu (by omega) (by omega)) rfl)<|ar (tJ (r:=b*d/4294967296) rfl rfl (by decide) (Ii) rfl) ?_
 refine ar (ci ((a*d)+(b*d/4294967296)) (gh (by omega) (by omega)) rfl)<|ar (Ce (r:=(a*d+b*d/4294967296)%4294967296) rfl rfl (QD (by omega) (by omega)) rfl) ?_
 refine ar (tJ (r:=(a*d+b*d/4294967296)/4294967296) rfl rfl (by decide) (Ii) rfl) ?_
 refine ar (ci (b*c) (iu (by omega) (by omega)) rfl)<|ar (ci (((a*d+b*d/4294967296)%4294967296)+(b*c)) (gh (by omega) (by omega)) rfl)<|ar (ci (a*c) (iu (by omega) (by omega)) rfl)<|ar (ci ((a*c)+((a*d+b*d/4294967296)/4294967296)) (gh (by omega) (by omega)) rfl)<|ar (tJ (r:=((a*d+b*d/4294967296)%4294967296+b*c)/4294967296) rfl rfl (by decide) (Ii) rfl) ?_
 refine ar (ci (((a*c)+((a*d+b*d/4294967296)/4294967296))+(((a*d+b*d/4294967296)%4294967296+b*c)/4294967296)) (gh (by omega) (by omega)) rfl)<|ar (ci (x*y%18446744073709551616) (congrArg some ad5) rfl)<|ah ?_
 rw[←hm]
 exact az (az ae)
def Ou (x y:Int):Int:=(x.natAbs:Int)*(y.natAbs:Int)
def D5 (p:Int):Int:=if p%65536=0 then p/65536 else p/65536+1
def mM (x y:Int):Int:=if (!(decide (x<0)==decide (y<0)))=true then-(D5 (Ou x y)) else Ou x y/65536
def mS (x y:Int):Int:=if (!(decide (x<0)==decide (y<0)))=true then-(Ou x y/65536) else D5 (Ou x y)
def xu (x y:Int):Bool:=decide (Ou x y/65536>2305843009213693952)
def qZ (x y:Int):Bool:= !xu x y&&(decide (mM x y≥ -2305843009213693952)&&decide (mS x y≤2305843009213693952))
theorem XF (h:(p%18446744073709551616%65536 !=0)=true):D5 p=p/65536+1:=by
 have h:p%18446744073709551616%65536≠0:=by simpa using h
 unfold D5;rw[if_neg (by omega)]
theorem ZA (h:(p%18446744073709551616%65536 !=0)=false):D5 p=p/65536:=by
 have h:p%18446744073709551616%65536=0:=by simpa using h
 unfold D5;rw[if_pos (by omega)]
theorem adr {a:Int}(h:(a !=0)=true):a≠0:=by simpa using h
theorem ac4 {a:Int}(h:(a !=0)=false):a=0:=by simpa using h
theorem Kk (h0: -9223372036854775808≤x) (h1:x≤9223372036854775807) (h2: -9223372036854775808≤y) (h3:y≤9223372036854775807):Ok Tryz.prog 325 [.c (.i .i64 x),.c (.i .i64 y)] [.c (.i .i64 (if xu x y then 0 else mM x y)),.c (.i .i64 (if xu x y then 0 else mS x y)),.c (.b (qZ x y))]:=by
 obtain⟨p,hp⟩: ∃p,Ou x y=p:=⟨_,rfl⟩
 have hp':(x.natAbs:Int)*(y.natAbs:Int)=p:=hp
 have hp0:0≤p:=by rw[←hp'];exact fZ (by omega) (by omega)
 have hp1:p≤9223372036854775808*9223372036854775808:=by rw[←hp'];exact rm (by omega) (by omega) (by omega) (by decide)
 have hmul:Ok Tryz.prog 366 [.c (.i .u64 (x.natAbs:Int)),.c (.i .u64 (y.natAbs:Int))] [.c (.i .u64 (p/18446744073709551616)),.c (.i .u64 (p%18446744073709551616))]:=by rw[←hp'];exact NI (by omega) (by omega) (by omega) (by omega)
 have big:p/65536>2305843009213693952→xu x y=true:=fun h=>by unfold xu;rw[hp];exact decide_eq_true h
 have small: ¬p/65536>2305843009213693952→xu x y=false:=fun h=>by unfold xu;rw[hp];exact decide_eq_false h
 refine bX Tryz.func325 rfl<|ac rfl (LM (by omega) (by omega))<|ac rfl (LM (by omega) (by omega))<|ac rfl (hmul)<|ar (tJ (r:=p/18446744073709551616/65536) rfl rfl (by decide) (Wi) rfl) ?_
 refine dk rfl (fun hc1=>?_) (fun hc1=>?_)
 ·have g1:=adr hc1
  refine ah ?_
  rw[show qZ x y=false from by unfold qZ;rw[big (by omega)];rfl,big (by omega),if_pos rfl,if_pos rfl]
  exact az (az (az ae))
 ·have g1:=ac4 hc1
  refine ar (Tu (r:=(p/18446744073709551616)*281474976710656) rfl rfl (by decide) (abS (by omega) (by omega)) rfl) ?_
  refine ar (tJ (r:=p%18446744073709551616/65536) rfl rfl (by decide) (Wi) rfl) ?_
  refine ar (Yk (r:=p/65536) rfl rfl ((adm (by omega) (by omega) (by omega) (by omega)).trans (by omega)) rfl) ?_
  refine dk rfl (fun hc2=>?_) (fun hc2=>?_)
  ·refine ah ?_
   rw[show qZ x y=false from by unfold qZ;rw[big (xn hc2)];rfl,big (xn hc2),if_pos rfl,if_pos rfl]
   exact az (az (az ae))
  ·have g2:=pt hc2
   refine ar (bZ (r:=p/65536) fQ Ag rfl (pK (by omega) (by omega)) rfl) ?_
   refine ar (bZ (r:=p/65536) fQ Ag rfl (pK (by omega) (by omega)) rfl) ?_
   refine ar (Ce (r:=p%18446744073709551616%65536) rfl rfl (aa6 (by omega) (by omega)) rfl) ?_
   refine dk rfl (fun hc3=>?_) (fun hc3=>?_)
   ·have hu:=XF hc3
    refine ar (ci ((p/65536)+1) (bh (by omega) (by omega)) rfl)<|ar (lE rfl rfl jM rfl) ?_
    refine dk rfl (fun hc4=>?_) (fun hc4=>?_)
    ·refine ar (fa (r:= -(p/65536+1)) rfl (by rw[pK (by omega) (by omega)];omega) rfl) ?_
     refine ar (fa (r:= -(p/65536)) rfl (by rw[pK (by omega) (by omega)];omega) rfl) ?_
     refine jU (bE rfl) (fun c5 hb5=>?_)
     cases c5
     ·refine ah ?_
      unfold qZ
      rw[small (pt hc2),if_neg (by decide),if_neg (by decide),tS,iF]
      rw[show mM x y= -(p/65536+1) from by unfold mM;rw[hp,hu,if_pos hc4],show mS x y= -(p/65536) from by unfold mS;rw[hp,hu,if_pos hc4]]
      rw[hb5,pi]
      exact az (az (az ae))
     ·refine ah ?_
      unfold qZ
      rw[small (pt hc2),if_neg (by decide),if_neg (by decide),tS,iF]
      rw[show mM x y= -(p/65536+1) from by unfold mM;rw[hp,hu,if_pos hc4],show mS x y= -(p/65536) from by unfold mS;rw[hp,hu,if_pos hc4]]
      rw[hb5,iF]
      exact az (az (az ae))
    ·refine jU (bE rfl) (fun c6 hb6=>?_)
     cases c6
     ·refine ah ?_
      unfold qZ
      rw[small (pt hc2),if_neg (by decide),if_neg (by decide),tS,iF]
      rw[show mM x y=p/65536 from by unfold mM;rw[hp,hu,if_neg (by rw[hc4];decide)],show mS x y=p/65536+1 from by unfold mS;rw[hp,hu,if_neg (by rw[hc4];decide)]]
      rw[hb6,pi]
      exact az (az (az ae))
     ·refine ah ?_
      unfold qZ
      rw[small (pt hc2),if_neg (by decide),if_neg (by decide),tS,iF]
      rw[show mM x y=p/65536 from by unfold mM;rw[hp,hu,if_neg (by rw[hc4];decide)],show mS x y=p/65536+1 from by unfold mS;rw[hp,hu,if_neg (by rw[hc4];decide)]]
      rw[hb6,iF]
      exact az (az (az ae))
   ·have hu:=ZA hc3
    refine ar (lE rfl rfl jM rfl) ?_
    refine dk rfl (fun hc7=>?_) (fun hc7=>?_)
    ·refine ar (fa (r:= -(p/65536)) rfl (by rw[pK (by omega) (by omega)];omega) rfl) ?_
     refine ar (fa (r:= -(p/65536)) rfl (by rw[pK (by omega) (by omega)];omega) rfl) ?_
     refine jU (bE rfl) (fun c8 hb8=>?_)
     cases c8
     ·refine ah ?_
      unfold qZ
      rw[small (pt hc2),if_neg (by decide),if_neg (by decide),tS,iF]
      rw[show mM x y= -(p/65536) from by unfold mM;rw[hp,hu,if_pos hc7],show mS x y= -(p/65536) from by unfold mS;rw[hp,hu,if_pos hc7]]
      rw[hb8,pi]
      exact az (az (az ae))
     ·refine ah ?_
      unfold qZ
      rw[small (pt hc2),if_neg (by decide),if_neg (by decide),tS,iF]
      rw[show mM x y= -(p/65536) from by unfold mM;rw[hp,hu,if_pos hc7],show mS x y= -(p/65536) from by unfold mS;rw[hp,hu,if_pos hc7]]
      rw[hb8,iF]
      exact az (az (az ae))
    ·refine jU (bE rfl) (fun c9 hb9=>?_)
     cases c9
     ·refine ah ?_
      unfold qZ
      rw[small (pt hc2),if_neg (by decide),if_neg (by decide),tS,iF]
      rw[show mM x y=p/65536 from by unfold mM;rw[hp,hu,if_neg (by rw[hc7];decide)],show mS x y=p/65536 from by unfold mS;rw[hp,hu,if_neg (by rw[hc7];decide)]]
      rw[hb9,pi]
      exact az (az (az ae))
     ·refine ah ?_
      unfold qZ
      rw[small (pt hc2),if_neg (by decide),if_neg (by decide),tS,iF]
      rw[show mM x y=p/65536 from by unfold mM;rw[hp,hu,if_neg (by rw[hc7];decide)],show mS x y=p/65536 from by unfold mS;rw[hp,hu,if_neg (by rw[hc7];decide)]]
      rw[hb9,iF]
      exact az (az (az ae))
def Nc (x y:Int):Int:=if x>0 then 1 else if y<0 then-1 else 0
def Oo (x y:Int):Bool:=decide (x>0)||(decide (y<0)||(x==0&&y==0))
theorem aaU (h:decide (x>0)=true):Nc x y=1∧Oo x y=true:=by
 unfold Nc Oo;rw[if_pos (by simpa using h),h];exact⟨rfl,rfl⟩
theorem aaO (h:decide (x>0)=false) (h2:decide (y<0)=true):Nc x y= -1∧Oo x y=true:=by
 unfold Nc Oo;rw[if_neg (by simpa using h),if_pos (by simpa using h2),h,h2];exact⟨rfl,rfl⟩
theorem TM (h:decide (x>0)=false) (h2:decide (y<0)=false):Nc x y=0∧Oo x y=(x==0&&y==0):=by
 unfold Nc Oo;rw[if_neg (by simpa using h),if_neg (by simpa using h2),h,h2];exact⟨rfl,rfl⟩
theorem H3:Ok Tryz.prog 242 [.a (([.i .i64 x]++[.i .i64 y]))] [.c (.i .i64 (Nc x y)),.c (.b (Oo x y))]:=by
 refine bX Tryz.func242 rfl ?_
 refine dk rfl (fun hc1=>?_) (fun hc1=>?_)
 ·refine ah ?_
  rw[(aaU hc1).1,(aaU hc1).2]
  exact az (az ae)
 ·refine dk rfl (fun hc2=>?_) (fun hc2=>?_)
  ·refine ah ?_
   rw[(aaO hc1 hc2).1,(aaO hc1 hc2).2]
   exact az (az ae)
  ·refine cJ 10 [] ?_
   refine BD (bE rfl) (fun c3 hb3=>?_)
   cases c3
   ·refine ah ?_
    rw[(TM hc1 hc2).1,(TM hc1 hc2).2,hb3,pi]
    exact az (az ae)
   ·refine ah ?_
    rw[(TM hc1 hc2).1,(TM hc1 hc2).2,hb3,iF]
    exact az (az ae)
def xm (x y:Int) (k:Nat):Int:=if k=0 then x else y
theorem Li (h:k<2):([CellD.i .i64 x,.i .i64 y])[k*1]? =some (.i .i64 (xm x y k)):=by
 have:k=0∨k=1:=by omega
 rcases this with rfl|rfl<;>rfl
theorem Q3 (h0: -2305843009213693952≤x) (h1:x≤2305843009213693952) (h2: -2305843009213693952≤y) (h3:y≤2305843009213693952): -2305843009213693952≤xm x y k∧xm x y k≤2305843009213693952:=by
 unfold xm;split<;>omega
def D9 (x y u v:Int):Nat→Int
 |0=>2305843009213693952
 |n+1=>min (D9 x y u v n) (mM (xm x y (n/2)) (xm u v (n%2)))
def DZ (x y u v:Int):Nat→Int
 |0=> -2305843009213693952
 |n+1=>max (DZ x y u v n) (mS (xm x y (n/2)) (xm u v (n%2)))
def AU (x y u v:Int):Nat→Bool
 |0=>true
 |n+1=>AU x y u v n&&qZ (xm x y (n/2)) (xm u v (n%2))
theorem OB (h:qZ x y=true): ¬xu x y=true:=by
 unfold qZ at h
 grind
theorem RI {n:Nat}(h:AU x y u v n=false) (m:Nat):AU x y u v (n+m)=false:=by
 induction m with
 |zero=>exact h
 |succ m ih=>show(AU x y u v (n+m)&&_)=false;rw[ih];rfl
theorem TD (hj:j<2) (h:qZ (xm x y k) (xm u v j)=true):min (D9 x y u v (2*k+j)) (if xu (xm x y k) (xm u v j) then 0 else mM (xm x y k) (xm u v j))=D9 x y u v (2*k+(j+1)):=by
 rw[if_neg (OB h)]
 show _=min (D9 x y u v (2*k+j)) (mM (xm x y ((2*k+j)/2)) (xm u v ((2*k+j)%2)))
 grind
theorem S3 (hj:j<2) (h:qZ (xm x y k) (xm u v j)=true):max (DZ x y u v (2*k+j)) (if xu (xm x y k) (xm u v j) then 0 else mS (xm x y k) (xm u v j))=DZ x y u v (2*k+(j+1)):=by
 rw[if_neg (OB h)]
 show _=max (DZ x y u v (2*k+j)) (mS (xm x y ((2*k+j)/2)) (xm u v ((2*k+j)%2)))
 grind
theorem LX (hj:j<2):AU x y u v (2*k+(j+1))=(AU x y u v (2*k+j)&&qZ (xm x y k) (xm u v j)):=by
 show(AU x y u v (2*k+j)&&qZ (xm x y ((2*k+j)/2)) (xm u v ((2*k+j)%2)))=_
 grind
theorem K7 (h0: -2305843009213693952≤x) (h1:x≤2305843009213693952) (h2: -2305843009213693952≤y) (h3:y≤2305843009213693952) (h4: -2305843009213693952≤u) (h5:u≤2305843009213693952) (h6: -2305843009213693952≤v) (h7:v≤2305843009213693952):Ok Tryz.prog 239 [.a (([.i .i64 x]++[.i .i64 y])),.a (([.i .i64 u]++[.i .i64 v]))] [.a (([.i .i64 (if AU x y u v 4 then D9 x y u v 4 else 0)]++[.i .i64 (if AU x y u v 4 then DZ x y u v 4 else 0)])),.c (.b (AU x y u v 4))]:=by
 refine eo Tryz.func239 56 [.cell 4 230,.tmp 5] rfl<|aa<|ag<|aa<|ag<|aa<|aa<|ag ?_
 refine DL.mk<|pE (oM (us:=[.i .i64 x,.i .i64 y]) WW rfl rfl (by decide) (by decide) rfl) rfl<|dZ ?_
 refine ar (iq Mn rfl rfl) ?_
 refine aE<|bn (ι:={k:Nat // k≤2∧AU x y u v (2*k)=true}) (fun i=>⟨56,[(2,.p 2 0),(3,.p 3 0),(4,.p 4 0),(6,.v (.c (.i .i64 (D9 x y u v (2*i.1))))),(7,.v (.c (.i .i64 (DZ x y u v (2*i.1))))),(19,.o 19 2 2),(20,.v (.c (.i .i64 (2:Int)))),(21,.v (.c (.i .i64 (i.1:Int))))],[(2,230,([.i .i64 x]++[.i .i64 y])),(3,230,([.i .i64 u]++[.i .i64 v])),(4,230,([.i .i64 0]++[.i .i64 0])),(19,2,[.i .i64 x,.i .i64 y])]⟩) (fun i=>2-i.1) ⟨0,by omega,rfl⟩ (ap ⟨rfl,rfl,rfl,rfl,rfl,rfl,rfl,rfl,trivial⟩ ⟨rfl,rfl,rfl,rfl,trivial⟩ rfl) ?_
 rintro⟨k,hk0,hok⟩
 replace hk0:k≤2:=hk0
 replace hok:AU x y u v (2*k)=true:=hok
 have gx:=Q3 (k:=k) h0 h1 h2 h3
 dsimp only
 refine aa<|ag<|aa ?_
 refine aJ rfl (fun hc1=>?_) (fun hc1=>?_)
 ·have hk:k<2:=by have:=xn hc1;omega
  refine aA<|aa<|aE<|aa<|bm<|aU (bo Mn rfl rfl (by omega) rfl) ?_
  refine aU (nT Ue rfl rfl (Li (x:=x) (y:=y) (k:=k) (by omega)) rfl) ?_
  refine ed<|aa<|ag ?_
  refine DL.mk<|pE (oM (us:=[.i .i64 u,.i .i64 v]) WW rfl rfl (by decide) (by decide) rfl) rfl<|dZ ?_
  refine ar (iq Mn rfl rfl) ?_
  refine aE<|bn (ι:={j:Nat // j≤2∧AU x y u v (2*k+j)=true}) (fun i=>⟨56,[(2,.p 2 0),(3,.p 3 0),(4,.p 4 0),(6,.v (.c (.i .i64 (D9 x y u v (2*k+i.1))))),(7,.v (.c (.i .i64 (DZ x y u v (2*k+i.1))))),(19,.o 19 2 2),(20,.v (.c (.i .i64 (2:Int)))),(21,.v (.c (.i .i64 (k:Int)))),(9,.v (.c (.i .i64 (xm x y k)))),(29,.o 29 2 2),(30,.v (.c (.i .i64 (2:Int)))),(31,.v (.c (.i .i64 (i.1:Int))))],[(2,230,([.i .i64 x]++[.i .i64 y])),(3,230,([.i .i64 u]++[.i .i64 v])),(4,230,([.i .i64 0]++[.i .i64 0])),(19,2,[.i .i64 x,.i .i64 y]),(29,2,[.i .i64 u,.i .i64 v])]⟩) (fun i=>2-i.1) ⟨0,by omega,hok⟩ (ap ⟨rfl,rfl,rfl,rfl,rfl,rfl,rfl,rfl,rfl,rfl,rfl,rfl,trivial⟩ ⟨rfl,rfl,rfl,rfl,rfl,trivial⟩ rfl) ?_
  rintro⟨j,hj0,hokj⟩
  replace hj0:j≤2:=hj0
  replace hokj:AU x y u v (2*k+j)=true:=hokj
  have gu:=Q3 (k:=j) h4 h5 h6 h7
  dsimp only
  refine aa<|ag<|aa ?_
  refine aJ rfl (fun hc2=>?_) (fun hc2=>?_)
  ·have hj:j<2:=by have:=xn hc2;omega
   refine aA<|aa<|aE<|aa<|bm<|aU (bo Mn rfl rfl (by omega) rfl) ?_
   refine aU (nT Ue rfl rfl (Li (x:=u) (y:=v) (k:=j) (by omega)) rfl) ?_
   refine ed<|aa<|ag<|ac rfl (Kk (by omega) (by omega) (by omega) (by omega))<|aa<|aa<|ag ?_
   refine aJ rfl (fun hc3=>?_) (fun hc3=>?_)
   ·have hbad:AU x y u v 4=false:=by
     have h8:=RI (n:=2*k+(j+1)) (by rw[LX hj,jN hc3,nj]) (4-(2*k+(j+1)))
     rw[show 2*k+(j+1)+(4-(2*k+(j+1)))=4 from by omega] at h8;exact h8
    refine aa<|ag<|ar (aG (us:=([.i .i64 0]++[.i .i64 0])) ry qk rfl rfl rfl) ?_
    refine a7 ?_
    rw[hbad,if_neg (by decide),if_neg (by decide)]
    exact ah (aS jW rfl (az ae))
   ·have hsc:=fF hc3
    refine aA<|ag<|ar (LL rfl rfl rfl) ?_
    refine ar (Gz rfl rfl rfl) ?_
    refine ag<|ar (ci ((j:Int)+1) (bh (by omega) (by omega)) rfl) ?_
    exact⟨⟨j+1,by omega,by rw[LX hj,hokj,hsc];rfl⟩,ap ⟨rfl,rfl,rfl,by rw[←TD hj hsc];rfl,by rw[←S3 hj hsc];rfl,rfl,rfl,rfl,rfl,rfl,rfl,by rw[show((j+1:Nat):Int)=(j:Int)+1 from by omega];rfl,trivial⟩ ⟨rfl,rfl,rfl,rfl,rfl,trivial⟩ rfl,by show 2-(j+1)<2-j;omega⟩
  ·have hj2:2*k+j=2*k+2:=by have:=pt hc2;omega
   refine bi<|ag<|ar (ci ((k:Int)+1) (bh (by omega) (by omega)) rfl) ?_
   exact⟨⟨k+1,by omega,by rw[show 2*(k+1)=2*k+2 from by omega,←hj2];exact hokj⟩,ap ⟨rfl,rfl,rfl,by rw[show 2*(k+1)=2*k+2 from by omega,←hj2];rfl,by rw[show 2*(k+1)=2*k+2 from by omega,←hj2];rfl,rfl,rfl,by rw[show((k+1:Nat):Int)=(k:Int)+1 from by omega];rfl,trivial⟩ ⟨rfl,rfl,rfl,rfl,trivial⟩ rfl,by show 2-(k+1)<2-k;omega⟩
 ·have hk2:2*k=4:=by have:=pt hc1;omega
  refine bi<|aa<|ag<|ar (aG (us:=([.i .i64 (D9 x y u v (2*k))]++[.i .i64 (DZ x y u v (2*k))])) ry qk rfl rfl rfl) ?_
  refine a7 ?_
  rw[hk2] at hok
  have e1:D9 x y u v 4=D9 x y u v (2*k):=by rw[hk2]
  have e2:DZ x y u v 4=DZ x y u v (2*k):=by rw[hk2]
  rw[hok,if_pos rfl,if_pos rfl,e1,e2]
  exact ah (aS jW rfl (az ae))
theorem Bx (h: ¬c<0):0≤ji c:=by
 unfold ji
 have h1:0≤c*((65536:Int):Rat):=by grind
 have h2:0≤(c*((65536:Int):Rat)).num:=Rat.num_nonneg.2 h1
 have h3:=den_pos (-(c*((65536:Int):Rat)))
 rw[pv _ (by omega),Rat.neg_num]
 have h4:(-(c*((65536:Int):Rat)).num)/((-(c*((65536:Int):Rat))).den:Int)≤0:=by
  have h5:=Int.ediv_le_ediv h3 (show-(c*((65536:Int):Rat)).num≤0 by omega)
  rw[Int.zero_ediv] at h5;exact h5
 omega
theorem LV (h:xk lo hi=true): -2305843009213693952≤lo∧hi≤2305843009213693952:=by unfold xk at h;simpa using h
theorem V1 (c:Rat):jy c≤ji c:=by
 unfold jy ji
 have h3:=den_pos (c*((65536:Int):Rat))
 rw[Rat.neg_num,Rat.neg_den,pv _ (by omega),pv _ (by omega)]
 generalize (c*((65536:Int):Rat)).num=n at*
 generalize ((c*((65536:Int):Rat)).den:Int)=d at*
 have e1:=sr n d
 have e2:=sr (-n) d
 have m1:=pG n (show d≠0 by omega)
 have m2:=pG (-n) (show d≠0 by omega)
 have h4:d*(n/d+(-n)/d)≤d*0:=by grind
 have:=Int.le_of_mul_le_mul_left h4 h3
 omega
theorem Ej (h:jj c=true): -2305843009213693952≤jy c∧jy c≤2305843009213693952∧ -2305843009213693952≤ji c∧ji c≤2305843009213693952:=by
 unfold jj at h
 simp only[dL] at h
 have h1:=LV h.2.2
 have h2:=V1 c
 omega
theorem PE (h1:x≤2305843009213693952) (h2:0≤y) (h3:y≤2305843009213693952):0≤qo x∧qo x≤549755813889∧0≤lv y∧lv y≤549755813889:=by
 have b1:=Cx (n:=max x 0) (by omega) (by omega)
 have b2:=Cx (n:=y) h2 h3
 unfold qo lv
 grind
theorem YX (n:Nat) (h:AU x y u v n=true): -2305843009213693952≤D9 x y u v n∧D9 x y u v n≤2305843009213693952∧ -2305843009213693952≤DZ x y u v n∧DZ x y u v n≤2305843009213693952:=by
 induction n with
 |zero=>show _≤(2305843009213693952:Int)∧(2305843009213693952:Int)≤_∧_≤(-2305843009213693952:Int)∧(-2305843009213693952:Int)≤_;omega
 |succ n ih=>
  have h':(AU x y u v n&&qZ (xm x y (n/2)) (xm u v (n%2)))=true:=h
  rw[dL] at h'
  have i:=ih h'.1
  have s1:=h'.2
  unfold qZ at s1
  simp only[dL,decide_eq_true_eq] at s1
  show _≤min _ _∧min _ _≤_∧_≤max _ _∧max _ _≤_
  omega
def Ux (b c:Rat):Bool:=AU (jy b) (ji b) (qo (jy c)) (lv (ji c)) 4
def Fd (b c:Rat):Int:=D9 (jy b) (ji b) (qo (jy c)) (lv (ji c)) 4
def GG (b c:Rat):Int:=DZ (jy b) (ji b) (qo (jy c)) (lv (ji c)) 4
def TQ (a b c:Rat):Bool:=jj b&&(jj c&&(!decide (aM c 0<0)&&(Ux b c&&xk (jy a+Fd b c) (ji a+GG b c))))
def eu (a b c:Rat):Bool:=jj a&&((aM b 0==0)||TQ a b c)
def eL (a b c:Rat):Int:=if eu a b c then(if (aM b 0==0)=true then jy a else jy a+Fd b c) else 0
def eJ (a b c:Rat):Int:=if eu a b c then(if (aM b 0==0)=true then ji a else ji a+GG b c) else 0
theorem rL (h:eu a b c=false):eL a b c=0∧eJ a b c=0:=by
 unfold eL eJ;rw[h];exact⟨rfl,rfl⟩
theorem adx (h:jj a=false):eu a b c=false:=by unfold eu;rw[h];rfl
theorem Vk (h:(aM b 0==0)=false) (hx:TQ a b c=false):eu a b c=false:=by unfold eu;rw[h,hx];cases jj a<;>rfl
theorem abi (h:jj a=true) (h2:(aM b 0==0)=true):eL a b c=jy a∧eJ a b c=ji a∧eu a b c=true:=by
 have e:eu a b c=true:=by unfold eu;rw[h,h2];rfl
 unfold eL eJ;rw[e,if_pos rfl,if_pos rfl,if_pos h2,if_pos h2];exact⟨rfl,rfl,rfl⟩
theorem ad4 (h:jj a=true) (h2:(aM b 0==0)=false) (h3:jj b=true) (h4:jj c=true) (h5:decide (aM c 0<0)=false) (h6:Ux b c=true):
 eL a b c=(if xk (jy a+Fd b c) (ji a+GG b c) then jy a+Fd b c else 0)∧eJ a b c=(if xk (jy a+Fd b c) (ji a+GG b c) then ji a+GG b c else 0)∧eu a b c=xk (jy a+Fd b c) (ji a+GG b c):=by
 have e:eu a b c=xk (jy a+Fd b c) (ji a+GG b c):=by unfold eu TQ;rw[h,h2,h3,h4,h5,h6];rfl
 unfold eL eJ;rw[e,h2];exact⟨rfl,rfl,rfl⟩
theorem yl (ha:Rz 4000000 a) (hb:Rz 4000000 b) (hc:Rz 4000000 c):Ok Tryz.prog 321 [.a ((cR a++cR b++cR c))] [.a (([.i .i64 (eL a b c)]++[.i .i64 (eJ a b c)])),.c (.b (eu a b c))]:=by
 refine eo Tryz.func321 72 [.cell 2 230,.tmp 3] rfl<|aa<|ag<|aa<|ag ?_
 refine ac rfl (pR (aO ha))<|aa<|aa<|ag ?_
 refine jU (bE rfl) (fun c1 hb1=>?_)
 cases c1
 ·have ea:=fF hb1
  refine ac rfl (cK) ?_
  refine aJ rfl (fun hc2=>?_) (fun hc2=>?_)
  ·obtain⟨w1,w2,w3⟩:=abi (c:=c) ea hc2
   refine aa<|ag ?_
   refine a7 ?_
   have x1:eL a b c=(if jj a then jy a else 0):=by rw[w1,ea];rfl
   have x2:eJ a b c=(if jj a then ji a else 0):=by rw[w2,ea];rfl
   have x3:eu a b c=jj a:=by rw[w3,ea]
   rw[x1,x2,x3]
   exact ah (aS jW rfl (az ae))
  ·have hb0:=hc2
   refine aA<|aa<|ag ?_
   refine ac rfl (pR (aO hb))<|aa<|ag ?_
   refine ac rfl (pR (aO hc))<|aa<|aa<|ag ?_
   refine jU (bE rfl) (fun c3 hb3=>?_)
   cases c3
   ·have eb:=fF hb3
    refine jU (bE rfl) (fun c4 hb4=>?_)
    cases c4
    ·have ec:=fF hb4
     refine ac rfl (cK) ?_
     refine aJ rfl (fun hc5=>?_) (fun hc5=>?_)
     ·have hno:eu a b c=false:=Vk hb0 (by unfold TQ;rw[hc5,Bool.not_true,pi,nj,nj])
      refine aa<|ag<|ar (aG (us:=([.i .i64 0]++[.i .i64 0])) ry qk rfl rfl rfl) ?_
      refine a7 ?_
      rw[(rL hno).1,(rL hno).2,hno]
      exact ah (aS jW rfl (az ae))
     ·have hcn:=hc5
      have bA:=Ej ea
      have bB:=Ej eb
      have bC:=Ej ec
      have hH:=Bx (c:=c) (Cu hc5)
      have bS:=PE (x:=jy c) (y:=ji c) (by omega) hH (by omega)
      refine lh (σ':=⟨72,[(1,.p 1 0),(2,.p 2 0),(4,.p 4 0),(6,.p 6 0),(7,.p 7 0)],[(1,129,(cR a++cR b++cR c)),(2,230,([.i .i64 0]++[.i .i64 0])),(4,230,([.i .i64 (jy a)]++[.i .i64 (ji a)])),(6,230,([.i .i64 (jy b)]++[.i .i64 (ji b)])),(7,230,([.i .i64 (jy c)]++[.i .i64 (ji c)]))]⟩) (ap ⟨rfl,rfl,rfl,rfl,rfl,trivial⟩ ⟨rfl,rfl,by rw[if_pos ea,if_pos ea];rfl,by rw[if_pos eb,if_pos eb];rfl,by rw[if_pos ec,if_pos ec];rfl,trivial⟩ rfl) ?_
      refine aA<|aa<|aa<|ag ?_
      refine ac rfl (Ja (by omega) (by omega) (by omega) (by omega) (by omega)) ?_
      refine aa<|ag ?_
      refine bz rfl ?_
      refine aA<|aa<|aa<|ag ?_
      refine ac rfl (K7 (by omega) (by omega) (by omega) (by omega) (by omega) (by omega) (by omega) (by omega)) ?_
      refine aa ?_
      refine ag ?_
      refine aJ rfl (fun hc6=>?_) (fun hc6=>?_)
      ·have hno:eu a b c=false:=Vk hb0 (by unfold TQ Ux;rw[jN hc6,pi,nj,nj,nj])
       refine aa<|ag<|ar (aG (us:=([.i .i64 0]++[.i .i64 0])) ry qk rfl rfl rfl) ?_
       refine a7 ?_
       rw[(rL hno).1,(rL hno).2,hno]
       exact ah (aS jW rfl (az ae))
      ·have hm:Ux b c=true:=fF hc6
       have bM:=YX 4 hm
       obtain⟨w1,w2,w3⟩:=ad4 ea hb0 eb ec hcn hm
       refine lh (σ':=⟨72,[(1,.p 1 0),(2,.p 2 0),(4,.p 4 0),(6,.p 6 0),(7,.p 7 0)],[(1,129,(cR a++cR b++cR c)),(2,230,([.i .i64 0]++[.i .i64 0])),(4,230,([.i .i64 (jy a)]++[.i .i64 (ji a)])),(6,230,([.i .i64 (Fd b c)]++[.i .i64 (GG b c)])),(7,230,([.i .i64 (qo (jy c))]++[.i .i64 (lv (ji c))]))]⟩) (ap ⟨rfl,rfl,rfl,rfl,rfl,trivial⟩ ⟨rfl,rfl,rfl,by rw[if_pos (fF hc6),if_pos (fF hc6)];rfl,rfl,trivial⟩ rfl) ?_
       refine aA<|aa<|ag ?_
       refine ac rfl (Mr (x:=jy a) (y:=ji a) (u:=Fd b c) (v:=GG b c) (by omega) (by omega) (by omega) (by omega) bM.1 bM.2.1 bM.2.2.1 bM.2.2.2) ?_
       refine a7 ?_
       rw[w1,w2,w3]
       exact ah (aS jW rfl (az ae))
    ·have hno:eu a b c=false:=Vk hb0 (by unfold TQ;rw[jN hb4,pi,nj])
     refine dO rfl<|aa<|ag<|ar (aG (us:=([.i .i64 0]++[.i .i64 0])) ry qk rfl rfl rfl) ?_
     refine a7 ?_
     rw[(rL hno).1,(rL hno).2,hno]
     exact ah (aS jW rfl (az ae))
   ·have hno:eu a b c=false:=Vk hb0 (by unfold TQ;rw[jN hb3];rfl)
    refine ar (bE rfl)<|dO rfl<|aa<|ag<|ar (aG (us:=([.i .i64 0]++[.i .i64 0])) ry qk rfl rfl rfl) ?_
    refine a7 ?_
    rw[(rL hno).1,(rL hno).2,hno]
    exact ah (aS jW rfl (az ae))
 ·refine dO rfl<|aa<|ag ?_
  refine a7 ?_
  have hno:eu a b c=false:=adx (jN hb1)
  have x1:eL a b c=(if jj a then jy a else 0):=by rw[(rL hno).1,jN hb1];rfl
  have x2:eJ a b c=(if jj a then ji a else 0):=by rw[(rL hno).2,jN hb1];rfl
  have x3:eu a b c=jj a:=by rw[hno,jN hb1]
  rw[x1,x2,x3]
  exact ah (aS jW rfl (az ae))
def KP (o1 o2:Bool) (l1 h1 l2 h2:Int):Int:=if (o1&&o2)=true then(if decide (h1<l2)=true then-1 else if decide (l1>h2)=true then 1 else 0) else 0
def Hh (o1 o2:Bool) (l1 h1 l2 h2:Int):Bool:=(o1&&o2)&&(decide (h1<l2)||decide (l1>h2))
theorem Cy (ha:Rz 4000000 a) (hb:Rz 4000000 b) (hc:Rz 4000000 c) (hd:Rz 4000000 d) (he:Rz 4000000 e) (hf:Rz 4000000 f):Ok Tryz.prog 253 [.a ((cR a++cR b++cR c)),.a ((cR d++cR e++cR f))] [.c (.i .i64 (KP (eu a b c) (eu d e f) (eL a b c) (eJ a b c) (eL d e f) (eJ d e f))),.c (.b (Hh (eu a b c) (eu d e f) (eL a b c) (eJ a b c) (eL d e f) (eJ d e f)))]:=by
 refine bX Tryz.func253 rfl ?_
 refine ac rfl (yl (by assumption) (by assumption) (by assumption)) ?_
 refine ac rfl (yl (by assumption) (by assumption) (by assumption)) ?_
 refine jU (bE rfl) (fun c1 hb1=>?_)
 cases c1
 ·refine dk rfl (fun hc2=>?_) (fun hc2=>?_)
  ·refine ah ?_
   rw[show KP (eu a b c) (eu d e f) (eL a b c) (eJ a b c) (eL d e f) (eJ d e f)=0 from by unfold KP;rw[fF hb1,jN hc2];rfl,show Hh (eu a b c) (eu d e f) (eL a b c) (eJ a b c) (eL d e f) (eJ d e f)=false from by unfold Hh;rw[fF hb1,jN hc2];rfl]
   exact az (az ae)
  ·refine dk rfl (fun hc3=>?_) (fun hc3=>?_)
   ·refine ah ?_
    rw[show KP (eu a b c) (eu d e f) (eL a b c) (eJ a b c) (eL d e f) (eJ d e f)= -1 from by unfold KP;rw[fF hb1,fF hc2,hc3];rfl,show Hh (eu a b c) (eu d e f) (eL a b c) (eJ a b c) (eL d e f) (eJ d e f)=true from by unfold Hh;rw[fF hb1,fF hc2,hc3];rfl]
    exact az (az ae)
   ·refine dk rfl (fun hc4=>?_) (fun hc4=>?_)
    ·refine ah ?_
     rw[show KP (eu a b c) (eu d e f) (eL a b c) (eJ a b c) (eL d e f) (eJ d e f)=1 from by unfold KP;rw[fF hb1,fF hc2,hc3,hc4];rfl,show Hh (eu a b c) (eu d e f) (eL a b c) (eJ a b c) (eL d e f) (eJ d e f)=true from by unfold Hh;rw[fF hb1,fF hc2,hc3,hc4];rfl]
     exact az (az ae)
    ·refine ah ?_
     rw[show KP (eu a b c) (eu d e f) (eL a b c) (eJ a b c) (eL d e f) (eJ d e f)=0 from by unfold KP;rw[fF hb1,fF hc2,hc3,hc4];rfl,show Hh (eu a b c) (eu d e f) (eL a b c) (eJ a b c) (eL d e f) (eJ d e f)=false from by unfold Hh;rw[fF hb1,fF hc2,hc3,hc4];rfl]
     exact az (az ae)
 ·refine sy rfl<|ah ?_
  rw[show KP (eu a b c) (eu d e f) (eL a b c) (eJ a b c) (eL d e f) (eJ d e f)=0 from by unfold KP;rw[jN hb1];rfl,show Hh (eu a b c) (eu d e f) (eL a b c) (eJ a b c) (eL d e f) (eJ d e f)=false from by unfold Hh;rw[jN hb1];rfl]
  exact az (az ae)
theorem DD (w:World) (b:Nat) (v:Value) (U T:TypeId) (cs ds:Array Value) (u:Value) (hlt:b<w.heap.size) (hb:w.heap[b]? =some (.cells #[u] T (0,0))):
 (((w.setCell ⟨b,0,none⟩ v).alloc (.cells cs U)).alloc (.cells ds U)).heap[w.heap.size+1]? =some (.cells ds U (0,0))∧
 (((w.setCell ⟨b,0,none⟩ v).alloc (.cells cs U)).alloc (.cells ds U)).heap[b]? =some (.cells #[v] T (0,0))∧Mid b w (((w.setCell ⟨b,0,none⟩ v).alloc (.cells cs U)).alloc (.cells ds U)):=by
 have hs:(w.setCell ⟨b,0,none⟩ v).heap.size=w.heap.size:=by simp
 refine⟨?_,?_,?_⟩
 ·have:=heap_alloc_new ((w.setCell ⟨b,0,none⟩ v).alloc (.cells cs U)) (.cells ds U)
  rw[io,hs] at this
  grind
 ·rw[x8 _ _ _ (by rw[io,hs];omega),x8 _ _ _ (by rw[hs];omega)]
  exact heap_setCell_same w b 0 #[u] T v hb
 ·refine⟨rfl,rfl,rfl,by rw[io,io,hs];omega,fun c hc hne=>?_⟩
  rw[x8 _ _ _ (by rw[io,hs];omega),x8 _ _ _ (by rw[hs];omega)]
  exact heap_setCell_other w ⟨b,0,none⟩ c v hne
set_option maxRecDepth 10000 in
theorem Qn (b:Nat) (ok c:Bool) (lo hi:Int) (w:World) (hb:w.heap[b]? =some (.cells #[.bool ok] 313 (0,0))):
 Calls Tryz.prog 369 #[.pointer (some ⟨b,0,none⟩),.agg #[.int .i64 lo,.int .i64 hi],.bool c] w fun e w'=>
  e=.returned (.agg #[.int .i64 lo,.int .i64 hi])∧w'.heap[b]? =some (.cells #[.bool (ok&&c)] 313 (0,0))∧Mid b w w':=by
 have hlt:b<w.heap.size:=(sP.1 hb).1
 have e1:((w.alloc (.cells #[.int .i64 lo,.int .i64 hi] 230)).alloc (.cells #[.int .i64 0,.int .i64 0] 230)).heap[b]? =some (.cells #[.bool ok] 313 (0,0)):=by
  rw[x8 _ _ _ (by simp;omega),x8 _ _ _ hlt];exact hb
 have c1:((w.alloc (.cells #[.int .i64 lo,.int .i64 hi] 230)).alloc (.cells #[.int .i64 0,.int .i64 0] 230)).cell? ⟨b,0,none⟩=some (.bool ok):=(cY e1 0).trans rfl
 have f0:w.frozen? ⟨b,0,none⟩=false:=Bk.frozen (t:=313) (cs:= #[.bool ok]) hb 0
 cases ok
 ·go_enter Tryz.func369,Tryz.ntmps369
  go_wp2_with fail
  obtain⟨h1,h2,h3⟩:=DD w b (.bool false) 230 313 #[.int .i64 lo,.int .i64 hi] #[.int .i64 lo,.int .i64 hi] _ hlt hb
  have k0:=(cY h1 0).trans rfl
  have k1:=(cY h1 1).trans rfl
  refine⟨rfl,.agg #[.int .i64 lo,.int .i64 hi],?_,rfl,h2,h3⟩
  simp[results,Tryz.results369,go_sem,k0,k1]
  try rfl
 ·go_enter Tryz.func369,Tryz.ntmps369
  go_wp2_with fail
  obtain⟨h1,h2,h3⟩:=DD w b (.bool c) 230 313 #[.int .i64 lo,.int .i64 hi] #[.int .i64 lo,.int .i64 hi] _ hlt hb
  have k0:=(cY h1 0).trans rfl
  have k1:=(cY h1 1).trans rfl
  refine⟨rfl,.agg #[.int .i64 lo,.int .i64 hi],?_,rfl,h2,h3⟩
  simp[results,Tryz.results369,go_sem,k0,k1]
  try rfl
structure OkP (P:Program) (f:FuncId) (U:TypeId) (cs0 cs1:List CellD) (ds rs:List D0):Prop where
 cal:fK P f=true
 run: ∀(V:Nat→Prop) (b:Nat) (bs:Array Value) (vs:Array Value) (vl:List Value) (w:World),vs.toList=.pointer (some ⟨b,0,none⟩)::vl→(∀c,V c→c<w.heap.size)→V b→w.heap[b]? =some (.cells bs U (0,0))→RdCs V w bs.toList cs0→RdL V w vl ds→
  Calls P f vs w fun e w'=> ∃v,∃bs':Array Value,e=.returned v∧w'.heap[b]? =some (.cells bs' U (0,0))∧Mid b w w'∧RdCs V w' bs'.toList cs1∧Wx V w' v rs
section
variable {P:Program}{ops:Array Oper}{T:TF}{B:BF}
theorem fR {fo x:Operand}{xs:List Operand}{args:Array Operand}{at_:Array TypeId}{f:FuncId}{cs0 cs1:List CellD}{ds rs:List D0}
 (hf:cG T fo=some (.v (.c (.f f)))) (hargs:args.toList=x::xs) (hx:cG T x=some (.p k 0)) (ha:qi T xs=some ds) (hb:B k=some (U,cs0)) (hok:OkP P f U cs0 cs1 ds rs) (hg:gd ops ⟨dst,.call ⟨.value fo,args,at_⟩,ty,pos,af,g⟩ T=some true):
 Sem P ops ⟨dst,.call ⟨.value fo,args,at_⟩,ty,pos,af,g⟩ T B (.rs k U cs1 (xF rs)):=by
 refine⟨by unfold xF;split<;>rfl,⟨_,hb⟩,fun V β a w hs=>⟨ez hs hg,?_⟩⟩
 have hin: ∀y∈x::xs,y∈(⟨dst,.call ⟨.value fo,args,at_⟩,ty,pos,af,g⟩:Oper).op.operands:=fun y hy=>by
  have hx2:y∈args:=by grind
  simp[Op.operands,Call.operands,hx2]
 have h1:=RdC.func_eq (aD hs (x:=fo) (by simp[Op.operands,Call.operands]) hf)
 have h2:=jq hs xs ds (fun y hy=>hin y (fC _ hy)) ha
 have h3:a.eval x=.pointer (some ⟨β k,0,none⟩):=aD hs (hin x (fO ..)) hx
 obtain⟨hV,bs,e,hr⟩:=hs.box k U cs0 hb
 have hc:=hok.cal
 unfold fK at hc
 cases hfn:P.funcs[f]? with
 |none=>rw[hfn] at hc;cases hc
 |some fn=>
  rw[hfn] at hc
  simp only[dL,bne_iff_ne,ne_eq,qu] at hc
  have hrun:(execOp a.eval ⟨dst,.call ⟨.value fo,args,at_⟩,ty,pos,af,g⟩).run P w=.ok (.enter f (args.map a.eval)) w:=by
   have hb2:fn.body≠none:=by have:=hc.2;cases hbb:fn.body with
    |none=>rw[hbb] at this;cases this
    |some c=>simp
   simp[execOp,resolve,h1,Deferred.ofValue,invoke,callFunc,program,Sem.run,hfn,hc.1,hb2]
  unfold Gives
  rw[hrun]
  refine(hok.run V (β k) bs (args.map a.eval) (xs.map a.eval) w (by rw[xY,hargs,oJ,h3]) hs.av hV e hr h2).mono ?_
  rintro e w' ⟨v,bs',rfl,hbl,hm,hr1,hr2⟩
  refine⟨v,rfl,bs',hbl,hm,hr1,?_⟩
  unfold Wx at hr2
  split at hr2
  ·exact hr2
  ·rename_i hne
   have e2:xF rs=.t rs:=by
    unfold xF
    grind
   rw[e2];exact hr2
theorem tL {x:Operand}{off:Nat}
 (hx:cG T x=some (.p k off)) (hg:gd ops ⟨dst,.nilCheck x,ty,pos,af,g⟩ T=some true):Sem P ops ⟨dst,.nilCheck x,ty,pos,af,g⟩ T B (.r (.p k off)):=
 bL hg (fun l e=>pJ (ops:=ops) (o:=⟨dst,.nilCheck x,ty,pos,af,g⟩) (by simp[Op.operands]) hx e)
  (fun V β a w hs=>by
   have hp:a.eval x=.pointer (some ⟨β k,off,none⟩):=aD hs (x:=x) (by simp[Op.operands]) hx
   exact⟨_,by simp[execOp,hp],rfl⟩)
end
theorem Vj (ok c:Bool) (lo hi:Int):OkP Tryz.prog 369 313 [.b ok] [.b (ok&&c)] [.a [.i .i64 lo,.i .i64 hi],.c (.b c)] [.a [.i .i64 lo,.i .i64 hi]]:=
 ⟨by kernel_rfl,fun V b bs vs vl w hvs hV hb hbl hcs hds=>by
  obtain⟨vs⟩:=vs
  replace hvs:vs=_:=hvs
  subst hvs
  match vl,hds with
  |[],hds=>have:=hds.1;simp at this
  |v1::vl,hds=>
  obtain⟨h1,hds⟩:=hds.uncons
  match vl,hds with
  |[],hds=>have:=hds.1;simp at this
  |v2::vl,hds=>
  obtain⟨h2,hds⟩:=hds.uncons
  have hn:vl=[]:=jQ.1 hds.1
  subst hn
  have h2:=uX h2
  subst h2
  obtain⟨cs,rfl,h1⟩:=h1
  obtain⟨cs⟩:=cs
  obtain⟨bs⟩:=bs
  match cs,h1 with
  |[],h1=>have:=h1.1;simp at this
  |x1::cs,h1=>
  obtain⟨g1,h1⟩:=h1.uncons
  match cs,h1 with
  |[],h1=>have:=h1.1;simp at this
  |x2::cs,h1=>
  obtain⟨g2,h1⟩:=h1.uncons
  have hn:cs=[]:=jQ.1 h1.1
  subst hn
  have g1:=fT g1
  have g2:=fT g2
  subst g1 g2
  match bs,hcs with
  |[],hcs=>have:=hcs.1;simp at this
  |y1::bs,hcs=>
  obtain⟨g3,hcs⟩:=hcs.uncons
  have hn:bs=[]:=jQ.1 hcs.1
  subst hn
  have g3:=uX g3
  subst g3
  refine(Qn b ok c lo hi w hbl).mono ?_
  rintro e w' ⟨rfl,h3,h4⟩
  exact⟨_,_,rfl,h3,h4,uJ (.b _) uN,_,rfl,uJ (.i _ _) (uJ (.i _ _) uN)⟩⟩
def Bd (x:Int):Prop:= -2305843009213693952≤x∧x≤2305843009213693952
theorem Bd.zero:Bd 0:=by unfold Bd;omega
def gL (e:Rat):Int:=if jj e then jy e else 0
def gH (e:Rat):Int:=if jj e then ji e else 0
theorem vj (e:Rat):Bd (gL e):=by
 unfold gL;split
 ·rename_i h;have:=Ej h;exact⟨this.1,this.2.1⟩
 ·exact Bd.zero
theorem v7 (e:Rat):Bd (gH e):=by
 unfold gH;split
 ·rename_i h;have:=Ej h;exact⟨this.2.2.1,this.2.2.2⟩
 ·exact Bd.zero
theorem Eb (e:Rat):gL e≤gH e:=by
 unfold gL gH;split
 ·exact V1 e
 ·exact qw _
theorem LN (h: ¬e<0): ¬gH e<0:=by
 unfold gH;split
 ·have:=Bx h;omega
 ·omega
theorem Mz (e:Rat):Bd (qo (gL e)):=by
 have:=PE (x:=gL e) (y:=0) (vj e).2 (by omega) (by omega)
 unfold Bd;omega
theorem M3 (h: ¬e<0):Bd (lv (gH e)):=by
 have:=PE (x:=0) (y:=gH e) (by omega) (by have:=LN h;omega) (v7 e).2
 unfold Bd;omega
theorem aaG (x y:Int):mM x y≤mS x y:=by
 have h:Ou x y/65536≤D5 (Ou x y):=by unfold D5;split<;>omega
 unfold mM mS;split<;>omega
theorem aaj (x y u v:Int):D9 x y u v 4≤DZ x y u v 4:=by
 exact Int.le_trans (Int.min_le_right _ _) (Int.le_trans (aaG _ _) (Int.le_max_right _ _))
def pL (x y u v:Int):Int:=if AU x y u v 4 then D9 x y u v 4 else 0
def pH (x y u v:Int):Int:=if AU x y u v 4 then DZ x y u v 4 else 0
theorem EW (x y u v:Int):Bd (pL x y u v):=by
 unfold pL;split
 ·rename_i h;have:=YX 4 h;exact⟨this.1,this.2.1⟩
 ·exact Bd.zero
theorem Ew (x y u v:Int):Bd (pH x y u v):=by
 unfold pH;split
 ·rename_i h;have:=YX 4 h;exact⟨this.2.2.1,this.2.2.2⟩
 ·exact Bd.zero
theorem BE (x y u v:Int):pL x y u v≤pH x y u v:=by
 unfold pL pH;split
 ·exact aaj x y u v
 ·exact qw _
def aL (x y u v:Int):Int:=if xk (x+u) (y+v) then x+u else 0
def aH (x y u v:Int):Int:=if xk (x+u) (y+v) then y+v else 0
theorem Ly (h:x≤y) (h2:u≤v):Bd (aL x y u v):=by
 unfold aL;split
 ·rename_i h3;have:=LV h3;unfold Bd;omega
 ·exact Bd.zero
theorem MJ (h:x≤y) (h2:u≤v):Bd (aH x y u v):=by
 unfold aH;split
 ·rename_i h3;have:=LV h3;unfold Bd;omega
 ·exact Bd.zero
theorem jp (h:Rz 4000000 e):Ok Tryz.prog 238 [dR e] [.a ([.i .i64 (gL e)]++[.i .i64 (gH e)]),.c (.b (jj e))]:=pR h
theorem IL (h: ¬e<0):Ok Tryz.prog 365 [.a ([.i .i64 (gL e)]++[.i .i64 (gH e)])] [.a ([.i .i64 (qo (gL e))]++[.i .i64 (lv (gH e))]),.c (.b true)]:=
 Ja (vj e).1 (vj e).2 (v7 e).1 (v7 e).2 (LN h)
theorem wU (h1:Bd x) (h2:Bd y) (h3:Bd u) (h4:Bd v):Ok Tryz.prog 239 [.a ([.i .i64 x]++[.i .i64 y]),.a ([.i .i64 u]++[.i .i64 v])] [.a ([.i .i64 (pL x y u v)]++[.i .i64 (pH x y u v)]),.c (.b (AU x y u v 4))]:=
 K7 h1.1 h1.2 h2.1 h2.2 h3.1 h3.2 h4.1 h4.2
theorem w9 (h1:Bd x) (h2:Bd y) (h3:Bd u) (h4:Bd v):Ok Tryz.prog 240 [.a ([.i .i64 x]++[.i .i64 y]),.a ([.i .i64 u]++[.i .i64 v])] [.a ([.i .i64 (aL x y u v)]++[.i .i64 (aH x y u v)]),.c (.b (xk (x+u) (y+v)))]:=
 Mr h1.1 h1.2 h2.1 h2.2 h3.1 h3.2 h4.1 h4.2
theorem gW {ok c:Bool}:OkP Tryz.prog 369 313 [.b ok] [.b (ok&&c)] [.a ([.i .i64 x]++[.i .i64 y]),.c (.b c)] [.a ([.i .i64 x]++[.i .i64 y])]:=Vj ok c x y
def V7 (B M:Rat):Int:=pL (gL B) (gH B) (qo (gL M)) (lv (gH M))
def Wu (B M:Rat):Int:=pH (gL B) (gH B) (qo (gL M)) (lv (gH M))
def qbK (B M:Rat):Bool:=AU (gL B) (gH B) (qo (gL M)) (lv (gH M)) 4
def TG (M N:Rat):Int:=pL (qo (gL M)) (lv (gH M)) (qo (gL N)) (lv (gH N))
def Uv (M N:Rat):Int:=pH (qo (gL M)) (lv (gH M)) (qo (gL N)) (lv (gH N))
def adP (M N:Rat):Bool:=AU (qo (gL M)) (lv (gH M)) (qo (gL N)) (lv (gH N)) 4
def qdL (D M N:Rat):Int:=pL (gL D) (gH D) (TG M N) (Uv M N)
def qdH (D M N:Rat):Int:=pH (gL D) (gH D) (TG M N) (Uv M N)
def qdK (D M N:Rat):Bool:=AU (gL D) (gH D) (TG M N) (Uv M N) 4
def VB (A B M:Rat):Int:=aL (gL A) (gH A) (V7 B M) (Wu B M)
def UL (A B M:Rat):Int:=aH (gL A) (gH A) (V7 B M) (Wu B M)
def ac6 (A B M:Rat):Bool:=xk (gL A+V7 B M) (gH A+Wu B M)
def UA (C D M N:Rat):Int:=aL (V7 C N) (Wu C N) (qdL D M N) (qdH D M N)
def TU (C D M N:Rat):Int:=aH (V7 C N) (Wu C N) (qdL D M N) (qdH D M N)
def ac8 (C D M N:Rat):Bool:=xk (V7 C N+qdL D M N) (Wu C N+qdH D M N)
def qsL (A B C D M N:Rat):Int:=aL (VB A B M) (UL A B M) (UA C D M N) (TU C D M N)
def qsH (A B C D M N:Rat):Int:=aH (VB A B M) (UL A B M) (UA C D M N) (TU C D M N)
def qsK (A B C D M N:Rat):Bool:=xk (VB A B M+UA C D M N) (UL A B M+TU C D M N)
def Xm (M N:Rat):Bool:=jj M&&jj N
def Xg (B C D M N:Rat):Bool:=Xm M N&&(jj B&&(qbK B M&&(jj C&&(qbK C N&&(jj D&&(adP M N&&qdK D M N))))))
def My (A B C D M N:Rat):Bool:=Xg B C D M N&&(jj A&&(ac6 A B M&&(ac8 C D M N&&qsK A B C D M N)))
def S0 (A B C D M N:Rat):Bool:=My A B C D M N&&Oo (qsL A B C D M N) (qsH A B C D M N)
def VW (A B C D M N:Rat):Int:=if My A B C D M N then Nc (qsL A B C D M N) (qsH A B C D M N) else 0
theorem E1 (h:My A B C D M N=false):VW A B C D M N=0∧S0 A B C D M N=false:=by
 unfold VW S0;rw[h];exact⟨rfl,rfl⟩
theorem JC (h:My A B C D M N=true):VW A B C D M N=Nc (qsL A B C D M N) (qsH A B C D M N)∧S0 A B C D M N=Oo (qsL A B C D M N) (qsH A B C D M N):=by
 unfold VW S0;rw[h];exact⟨rfl,rfl⟩
theorem SJ (h:Xg B C D M N=false):My A B C D M N=false:=by unfold My;rw[h];rfl
theorem ZV (h:Xm M N=false):My A B C D M N=false:=SJ (by unfold Xg;rw[h];rfl)
theorem Kb {b c:Bool}(h:(!b)=true) (e:c=b):c=false:=by rw[e];simpa using h
theorem Zj {b c:Bool}(h:(!b)=false) (e:c=b):c=true:=by rw[e];simpa using h
theorem KL (hA:Rz 4000000 A) (hB:Rz 4000000 B) (hC:Rz 4000000 C) (hD:Rz 4000000 D) (hM:Rz 4000000 M) (hN:Rz 4000000 N) (hm: ¬M<0) (hn: ¬N<0):Ok Tryz.prog 331 [.a ((cR A++cR B++cR C++cR D++cR M++cR N))] [.c (.i .i64 (VW A B C D M N)),.c (.b (S0 A B C D M N))]:=by
 refine bX Tryz.func331 rfl<|ar (aG (us:=([.b true])) acc abo rfl rfl rfl) ?_
 refine ac rfl (jp (aO hM)) ?_
 refine DL.mk<|sO (fR rfl rfl rfl rfl rfl (gW) rfl)<|dZ ?_
 refine ac rfl (IL (by assumption)) ?_
 refine DL.mk<|sO (fR rfl rfl rfl rfl rfl (gW) rfl)<|dZ ?_
 refine ac rfl (jp (aO hN)) ?_
 refine DL.mk<|sO (fR rfl rfl rfl rfl rfl (gW) rfl)<|dZ ?_
 refine ac rfl (IL (by assumption)) ?_
 refine DL.mk<|sO (fR rfl rfl rfl rfl rfl (gW) rfl)<|dZ ?_
 refine ar (tL rfl rfl) ?_
 refine dk rfl (fun hc1=>?_) (fun hc1=>?_)
 ·have hk:My A B C D M N=false:=ZV (Kb hc1 (by unfold Xm;simp only[iF,Bool.and_true];try rfl))
  refine ah ?_
  rw[(E1 hk).1,(E1 hk).2]
  exact az (az ae)
 ·refine cJ 14 [12] ?_
  refine aK rfl (jp (aO hB)) ?_
  refine DQ.mk<|vU (fR rfl rfl rfl rfl rfl (gW) rfl) rfl rfl rfl rfl rfl (by kernel_rfl) rfl<|dF ?_
  refine aK rfl (wU (vj _) (v7 _) (Mz _) (M3 (by assumption))) ?_
  refine DQ.mk<|vU (fR rfl rfl rfl rfl rfl (gW) rfl) rfl rfl rfl rfl rfl (by kernel_rfl) rfl<|dF ?_
  refine cJ 14 [12] ?_
  refine aK rfl (jp (aO hC)) ?_
  refine DQ.mk<|vU (fR rfl rfl rfl rfl rfl (gW) rfl) rfl rfl rfl rfl rfl (by kernel_rfl) rfl<|dF ?_
  refine aK rfl (wU (vj _) (v7 _) (Mz _) (M3 (by assumption))) ?_
  refine DQ.mk<|vU (fR rfl rfl rfl rfl rfl (gW) rfl) rfl rfl rfl rfl rfl (by kernel_rfl) rfl<|dF ?_
  refine cJ 20 [12] ?_
  refine aK rfl (jp (aO hD)) ?_
  refine DQ.mk<|vU (fR rfl rfl rfl rfl rfl (gW) rfl) rfl rfl rfl rfl rfl (by kernel_rfl) rfl<|dF ?_
  refine aK rfl (wU (Mz _) (M3 (by assumption)) (Mz _) (M3 (by assumption))) ?_
  refine DQ.mk<|vU (fR rfl rfl rfl rfl rfl (gW) rfl) rfl rfl rfl rfl rfl (by kernel_rfl) rfl<|dF ?_
  refine aK rfl (wU (vj _) (v7 _) (EW _ _ _ _) (Ew _ _ _ _)) ?_
  refine DQ.mk<|vU (fR rfl rfl rfl rfl rfl (gW) rfl) rfl rfl rfl rfl rfl (by kernel_rfl) rfl<|dF ?_
  refine ar (tL rfl rfl) ?_
  refine dk rfl (fun hc2=>?_) (fun hc2=>?_)
  ·have hk:My A B C D M N=false:=SJ (Kb hc2 (by unfold Xg Xm;simp only[iF,Bool.and_true,Bool.and_assoc];try rfl))
   refine ah ?_
   rw[(E1 hk).1,(E1 hk).2]
   exact az (az ae)
  ·refine cJ 26 [12] ?_
   refine aK rfl (jp (aO hA)) ?_
   refine DQ.mk<|vU (fR rfl rfl rfl rfl rfl (gW) rfl) rfl rfl rfl rfl rfl (by kernel_rfl) rfl<|dF ?_
   refine aK rfl (w9 (vj _) (v7 _) (EW _ _ _ _) (Ew _ _ _ _)) ?_
   refine DQ.mk<|vU (fR rfl rfl rfl rfl rfl (gW) rfl) rfl rfl rfl rfl rfl (by kernel_rfl) rfl<|dF ?_
   refine aK rfl (w9 (EW _ _ _ _) (Ew _ _ _ _) (EW _ _ _ _) (Ew _ _ _ _)) ?_
   refine DQ.mk<|vU (fR rfl rfl rfl rfl rfl (gW) rfl) rfl rfl rfl rfl rfl (by kernel_rfl) rfl<|dF ?_
   refine aK rfl (w9 (Ly (by first|exact Eb _|exact BE _ _ _ _) (by first|exact Eb _|exact BE _ _ _ _)) (MJ (by first|exact Eb _|exact BE _ _ _ _) (by first|exact Eb _|exact BE _ _ _ _)) (Ly (by first|exact Eb _|exact BE _ _ _ _) (by first|exact Eb _|exact BE _ _ _ _)) (MJ (by first|exact Eb _|exact BE _ _ _ _) (by first|exact Eb _|exact BE _ _ _ _))) ?_
   refine DQ.mk<|vU (fR rfl rfl rfl rfl rfl (gW) rfl) rfl rfl rfl rfl rfl (by kernel_rfl) rfl<|dF ?_
   refine ar (tL rfl rfl) ?_
   refine dk rfl (fun hc3=>?_) (fun hc3=>?_)
   ·have hk:My A B C D M N=false:=Kb hc3 (by unfold My Xg Xm;simp only[iF,Bool.and_true,Bool.and_assoc];try rfl)
    refine ah ?_
    rw[(E1 hk).1,(E1 hk).2]
    exact az (az ae)
   ·refine ac rfl (H3) ?_
    have hk:My A B C D M N=true:=Zj hc3 (by unfold My Xg Xm;simp only[iF,Bool.and_true,Bool.and_assoc];try rfl)
    refine ah ?_
    rw[(JC hk).1,(JC hk).2]
    exact az (az ae)
def BH (A B C D M N:Rat):Int:=if M<0∨N<0 then 0 else if S0 A B C D M N=true then VW A B C D M N else fD A B C D M N
theorem Jz (h:M<0∨N<0):BH A B C D M N=0:=by unfold BH;rw[if_pos h]
theorem YL (h: ¬M<0) (h': ¬N<0) (hq:S0 A B C D M N=true):BH A B C D M N=VW A B C D M N:=by unfold BH;rw[if_neg (fun e=>e.elim h h'),if_pos hq]
theorem Fw (h: ¬M<0) (h': ¬N<0) (hq:S0 A B C D M N=false):BH A B C D M N=sx (bF A B M) (bF C D M*aM N 0) (bF (A*A+M*(B*B)-N*(C*C+M*(D*D))) (A*B-N*(C*D)+(A*B-N*(C*D))) M):=by
 unfold BH;rw[if_neg (fun e=>e.elim h h'),hq,if_neg (by decide),wx h h']
 unfold EM xC
 grind
def tK (a b c d e f:Rat):Int:=
 if (aM b 0==0)=true∧(aM e 0==0)=true then aM a d else
 if Hh (eu a b c) (eu d e f) (eL a b c) (eJ a b c) (eL d e f) (eJ d e f)=true then KP (eu a b c) (eu d e f) (eL a b c) (eJ a b c) (eL d e f) (eJ d e f) else
 if (aM c f==0)=true then bF (a-d) (b-e) c else BH (a-d) b (-e) 0 c f
section
variable {a b c d e f:Rat}
theorem ZN (h:(aM b 0==0)=true) (h2:(aM e 0==0)=true):tK a b c d e f=aM a d:=by unfold tK;rw[if_pos ⟨h,h2⟩]
theorem QL (h: ¬((aM b 0==0)=true∧(aM e 0==0)=true)) (h2:Hh (eu a b c) (eu d e f) (eL a b c) (eJ a b c) (eL d e f) (eJ d e f)=true):
 tK a b c d e f=KP (eu a b c) (eu d e f) (eL a b c) (eJ a b c) (eL d e f) (eJ d e f):=by unfold tK;rw[if_neg h,if_pos h2]
theorem OW (h: ¬((aM b 0==0)=true∧(aM e 0==0)=true)) (h2:Hh (eu a b c) (eu d e f) (eL a b c) (eJ a b c) (eL d e f) (eJ d e f)=false) (h3:(aM c f==0)=true):
 tK a b c d e f=bF (a-d) (b-e) c:=by unfold tK;rw[if_neg h,h2,if_neg (by decide),if_pos h3]
theorem OY (h: ¬((aM b 0==0)=true∧(aM e 0==0)=true)) (h2:Hh (eu a b c) (eu d e f) (eL a b c) (eJ a b c) (eL d e f) (eJ d e f)=false) (h3:(aM c f==0)=false):
 tK a b c d e f=BH (a-d) b (-e) 0 c f:=by unfold tK;rw[if_neg h,h2,if_neg (by decide),h3,if_neg (by decide)]
theorem Ye {b c:Bool}(h:b=false): ¬(b=true∧c=true):=fun e=>by rw[h] at e;exact absurd e.1 (by decide)
theorem X2 {b c:Bool}(h:c=false): ¬(b=true∧c=true):=fun e=>by rw[h] at e;exact absurd e.2 (by decide)
end
theorem tW (ha:Rz 6000000 a) (hb:Rz 6000000 b):Ok Tryz.prog 332 [dR a,dR b] [dR (a+b)]:=by
 refine bX Tryz.func332 rfl<|ac rfl (ja (aO ha) (aO hb)) ?_
 exact ah (aS aZ rfl ae)
theorem wE (hA:Rz 160000 A) (hB:Rz 160000 B) (hC:Rz 160000 C) (hD:Rz 160000 D) (hM:Rz 160000 M) (hN:Rz 160000 N):Ok Tryz.prog 255 [.a ((cR A++cR B++cR C++cR D++cR M++cR N))] [.c (.i .i64 (BH A B C D M N))]:=by
 have z1:=jO (ip C D M) (d6 N 0)
 have z2:=jO (ip A B M) (ip (A*A+M*(B*B)-N*(C*C+M*(D*D))) ((A*B-N*(C*D))+(A*B-N*(C*D))) M)
 have kA:Rz 4000000 A:=hA.m_
 have kB:Rz 4000000 B:=hB.m_
 have kC:Rz 4000000 C:=hC.m_
 have kD:Rz 4000000 D:=hD.m_
 have kM:Rz 4000000 M:=hM.m_
 have kN:Rz 4000000 N:=hN.m_
 refine bX Tryz.func255 rfl ?_
 refine ac rfl (cK) ?_
 refine jU (bE rfl) (fun c1 hb1=>?_)
 cases c1
 ·have n1:=Cu hb1
  refine ac rfl (cK) ?_
  refine dk rfl (fun hc2=>?_) (fun hc2=>?_)
  ·refine ah ?_
   rw[Jz (.inr (Gb hc2))]
   exact az ae
  ·have n2:=Cu hc2
   refine ac rfl (KL (by assumption) (by assumption) (by assumption) (by assumption) (by assumption) (by assumption) (by assumption) (by assumption)) ?_
   refine dk rfl (fun hc3=>?_) (fun hc3=>?_)
   ·refine ah ?_
    rw[YL n1 n2 hc3]
    exact az ae
   ·refine cJ 20 [] ?_
    refine aK rfl (qH (aO hA) (aO hB) (aO hM)) ?_
    refine aK rfl (qH (aO hC) (aO hD) (aO hM)) ?_
    refine aK rfl (cK) ?_
    refine aq (ci ((bF C D M)*(aM N 0)) (fX (by omega) (by omega)) rfl) ?_
    refine jU (bE rfl) (fun c4 hb4=>?_)
    cases c4
    ·refine dk rfl (fun hc5=>?_) (fun hc5=>?_)
     ·refine ah ?_
      rw[Fw n1 n2 hc3,zq hc5]
      exact az ae
     ·refine dk rfl (fun hc6=>?_) (fun hc6=>?_)
      ·refine ah ?_
       rw[Fw n1 n2 hc3,yC hc6]
       exact az ae
      ·refine cJ 42 [] ?_
       refine aK rfl (cX (aO hA) (aO hA)) ?_
       refine aK rfl (cX (aO hB) (aO hB)) ?_
       refine aK rfl (cX (aO hM) (aO (aP hB hB))) ?_
       refine aK rfl (tW (aO (aP hA hA)) (aO (aP hM (aP hB hB)))) ?_
       refine aK rfl (cX (aO hC) (aO hC)) ?_
       refine aK rfl (cX (aO hD) (aO hD)) ?_
       refine aK rfl (cX (aO hM) (aO (aP hD hD))) ?_
       refine aK rfl (tW (aO (aP hC hC)) (aO (aP hM (aP hD hD)))) ?_
       refine aK rfl (cX (aO hN) (aO (gj (aP hC hC) (aP hM (aP hD hD))))) ?_
       refine aK rfl (eZ (aO (gj (aP hA hA) (aP hM (aP hB hB)))) (aO (aP hN (gj (aP hC hC) (aP hM (aP hD hD))))))<|cJ 18 [] ?_
       refine aK rfl (cX (aO hA) (aO hB)) ?_
       refine aK rfl (cX (aO hC) (aO hD)) ?_
       refine aK rfl (cX (aO hN) (aO (aP hC hD)))<|aK rfl (eZ (aO (aP hA hB)) (aO (aP hN (aP hC hD))))<|cJ 11 [] ?_
       refine aK rfl (tW (aO (cT (aP hA hB) (aP hN (aP hC hD)))) (aO (cT (aP hA hB) (aP hN (aP hC hD))))) ?_
       refine aK rfl (qH (aO (cT (gj (aP hA hA) (aP hM (aP hB hB))) (aP hN (gj (aP hC hC) (aP hM (aP hD hD)))))) (aO (gj (cT (aP hA hB) (aP hN (aP hC hD))) (cT (aP hA hB) (aP hN (aP hC hD))))) (aO hM)) ?_
       refine aq (ci ((bF A B M)*(bF (((A*A)+(M*(B*B)))-(N*((C*C)+(M*(D*D))))) (((A*B)-(N*(C*D)))+((A*B)-(N*(C*D)))) M)) (fX (by omega) (by omega)) rfl)<|ah ?_
       rw[Fw n1 n2 hc3,zX hc6 hb4 hc5]
       exact az ae
    ·refine sy rfl<|ah ?_
     rw[Fw n1 n2 hc3,yZ hb4]
     exact az ae
 ·refine sy rfl<|ah ?_
  rw[Jz (.inl (Gb hb1))]
  exact az ae
theorem CY (ha:Rz 2000000 a) (hb:Rz 160000 b) (hc:Rz 160000 c) (hd:Rz 2000000 d) (he:Rz 160000 e) (hf:Rz 160000 f) (h1:Rz 160000 (a-d)):Ok Tryz.prog 139 [.a ((cR a++cR b++cR c)),.a ((cR d++cR e++cR f))] [.c (.i .i64 (tK a b c d e f))]:=by
 have ka:Rz 6000000 a:=ha.m_
 have la:Rz 4000000 a:=ha.m_
 have kb:Rz 6000000 b:=hb.m_
 have lb:Rz 4000000 b:=hb.m_
 have kc:Rz 6000000 c:=hc.m_
 have lc:Rz 4000000 c:=hc.m_
 have kd:Rz 6000000 d:=hd.m_
 have ld:Rz 4000000 d:=hd.m_
 have ke:Rz 6000000 e:=he.m_
 have le:Rz 4000000 e:=he.m_
 have kf:Rz 6000000 f:=hf.m_
 have lf:Rz 4000000 f:=hf.m_
 have m2:Rz 160000 (-e):=he.neg
 have m0:Rz 160000 (0:Rat):=eG (n:=0) (dS (by decide) (by decide) (by decide)) (by decide)
 have w1:Rz 2000000 (a-d):=h1.m_
 have w2:Rz 2000000 (b-e):=(hb.sub he).m_
 have w3:Rz 2000000 c:=hc.m_
 refine bX Tryz.func139 rfl ?_
 refine ac rfl (cK) ?_
 refine jU (bE rfl) (fun c1 hb1=>?_)
 cases c1
 ·refine sb rfl<|ac rfl (Cy (by assumption) (by assumption) (by assumption) (by assumption) (by assumption) (by assumption)) ?_
  refine dk rfl (fun hc2=>?_) (fun hc2=>?_)
  ·refine ah ?_
   rw[QL (Ye hb1) hc2]
   exact az ae
  ·refine ac rfl (l6 (aO hc) (aO hf)) ?_
   refine dk rfl (fun hc3=>?_) (fun hc3=>?_)
   ·refine cJ 14 [] ?_
    refine aK rfl (eZ (aO ha) (aO hd)) ?_
    refine aK rfl (eZ (aO hb) (aO he)) ?_
    refine aK rfl (qH w1 w2 w3)<|ah ?_
    rw[OW (Ye hb1) hc2 hc3]
    exact az ae
   ·refine ac rfl (Id (by assumption) (by assumption) (by assumption) (by assumption) (by assumption) (by assumption))<|ac rfl (wE (by assumption) (by assumption) (by assumption) (by assumption) (by assumption) (by assumption))<|ah ?_
    rw[OY (Ye hb1) hc2 hc3]
    exact az ae
 ·refine ac rfl (cK) ?_
  refine dk rfl (fun hc4=>?_) (fun hc4=>?_)
  ·refine ac rfl (l6 (aO ha) (aO hd))<|ah ?_
   rw[ZN hb1 hc4]
   exact az ae
  ·refine ac rfl (Cy (by assumption) (by assumption) (by assumption) (by assumption) (by assumption) (by assumption)) ?_
   refine dk rfl (fun hc5=>?_) (fun hc5=>?_)
   ·refine ah ?_
    rw[QL (X2 hc4) hc5]
    exact az ae
   ·refine ac rfl (l6 (aO hc) (aO hf)) ?_
    refine dk rfl (fun hc6=>?_) (fun hc6=>?_)
    ·refine cJ 14 [] ?_
     refine aK rfl (eZ (aO ha) (aO hd)) ?_
     refine aK rfl (eZ (aO hb) (aO he)) ?_
     refine aK rfl (qH w1 w2 w3)<|ah ?_
     rw[OW (X2 hc4) hc5 hc6]
     exact az ae
    ·refine ac rfl (Id (by assumption) (by assumption) (by assumption) (by assumption) (by assumption) (by assumption))<|ac rfl (wE (by assumption) (by assumption) (by assumption) (by assumption) (by assumption) (by assumption))<|ah ?_
     rw[OY (X2 hc4) hc5 hc6]
     exact az ae
end Go.Proofs.YtegpmhlfjkhjmaaGreat
