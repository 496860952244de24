/-Plain:numbers as sequences of fractions;their signs;square roots. No program in sight. -/
import Derived.Test.YtkmdgigkbhmilaaGreatNbI
import Derived.Test.YtkmdgigkbhmilaaGreatProg
namespace Go.Proofs.YtkmdgigkbhmilaaGreat
open Go Go.RowKit
variable {ty:TypeId}{pos:String}{af:Array Edge}{g:Option (Nat×Bool)}{dst:Option Nat}
def NV (x:Nat→Rat):Prop:= ∀e:Rat,0<e→ ∃K:Nat,∀i j,K≤i→K≤j→x i-x j≤e
def BM (x:Nat→Rat):Prop:= ∃e:Rat,0<e∧ ∃K:Nat,∀k,K≤k→e≤x k
def GD (x:Nat→Rat):Prop:= ∀e:Rat,0<e→ ∃K:Nat,∀k,K≤k→ -e≤x k∧x k≤e
structure Re where
 s:Nat→Rat
 c:NV s
theorem Re.ext {x y:Re}(h: ∀k,x.s k=y.s k):x=y:=by
 cases x;cases y
 have:_=_:=funext h
 subst this;rfl
theorem kY {e:Rat}(h:0<e):0<e/2:=by grind
theorem BL {e B:Rat}(h:0<e) (h2:0<B):0<e/B∧B*(e/B)=e:=by
 refine⟨?_,by grind⟩
 rw[Rat.div_def]
 exact Rat.mul_pos h (Rat.inv_pos.2 h2)
theorem Re.bnd (x:Re): ∃B:Rat,0<B∧ ∃K:Nat,∀k,K≤k→ -B≤x.s k∧x.s k≤B:=by
 obtain⟨K,h⟩:=x.c 1 (by decide)
 by_cases hs:0≤x.s K
 ·exact⟨x.s K+1,by grind,K,fun k hk=>by have h1:=h k K hk (Nat.le_refl _);have h2:=h K k (Nat.le_refl _) hk;constructor<;>grind⟩
 ·exact⟨1-x.s K,by grind,K,fun k hk=>by have h1:=h k K hk (Nat.le_refl _);have h2:=h K k (Nat.le_refl _) hk;constructor<;>grind⟩
theorem yz (q:Rat):NV (fun _=>q):=fun e he=>⟨0,fun i j _ _=>by grind⟩
theorem Nz {x y:Nat→Rat}(hx:NV x) (hy:NV y):NV (fun k=>x k+y k):=fun e he=>by
 obtain⟨K,h⟩:=hx (e/2) (kY he)
 obtain⟨L,g⟩:=hy (e/2) (kY he)
 exact⟨max K L,fun i j hi hj=>by have h1:=h i j (by omega) (by omega);have h2:=g i j (by omega) (by omega);grind⟩
theorem ND {x:Nat→Rat}(hx:NV x):NV (fun k=> -x k):=fun e he=>by
 obtain⟨K,h⟩:=hx e he
 exact⟨K,fun i j hi hj=>by have h1:=h j i hj hi;grind⟩
theorem DO {a b e f:Rat}(h1: -e≤a) (h2:a≤e) (h3: -f≤b) (h4:b≤f):a*b≤e*f∧ -(e*f)≤a*b:=by
 have p1:0≤(e-a)*(f+b):=Rat.mul_nonneg (by grind) (by grind)
 have p2:0≤(e+a)*(f-b):=Rat.mul_nonneg (by grind) (by grind)
 have p3:0≤(e-a)*(f-b):=Rat.mul_nonneg (by grind) (by grind)
 have p4:0≤(e+a)*(f+b):=Rat.mul_nonneg (by grind) (by grind)
 constructor<;>grind
theorem NG (x y:Re):NV (fun k=>x.s k*y.s k):=fun e he=>by
 obtain⟨B,hB,K,hb⟩:=x.bnd
 obtain⟨D,hD,L,hd⟩:=y.bnd
 obtain⟨d1,e1⟩:=BL (kY he) hB
 obtain⟨d2,e2⟩:=BL (kY he) hD
 obtain⟨K',h⟩:=x.c _ d2
 obtain⟨L',g⟩:=y.c _ d1
 refine⟨max (max K L) (max K' L'),fun i j hi hj=>?_⟩
 have b1:=hb i (by omega)
 have b2:=hd j (by omega)
 have h1:=h i j (by omega) (by omega)
 have h2:=h j i (by omega) (by omega)
 have g1:=g i j (by omega) (by omega)
 have g2:=g j i (by omega) (by omega)
 have p1:=(DO b1.1 b1.2 (a:=x.s i) (b:=y.s i-y.s j) (f:=e/2/B) (by grind) (by grind)).1
 have p2:=(DO b2.1 b2.2 (a:=y.s j) (b:=x.s i-x.s j) (f:=e/2/D) (by grind) (by grind)).1
 rw[e1] at p1
 rw[e2] at p2
 grind
def Re.of (q:Rat):Re:=⟨fun _=>q,yz q⟩
instance:Add Re:=⟨fun x y=>⟨fun k=>x.s k+y.s k,Nz x.c y.c⟩⟩
instance:Neg Re:=⟨fun x=>⟨fun k=> -x.s k,ND x.c⟩⟩
instance:_root_.Sub Re:=⟨fun x y=>x+ -y⟩
instance:Mul Re:=⟨fun x y=>⟨fun k=>x.s k*y.s k,NG x y⟩⟩
theorem bt (x y:Re) (k:Nat):(x+y).s k=x.s k+y.s k:=rfl
theorem bT (x:Re) (k:Nat):(-x).s k= -x.s k:=rfl
theorem bp (x y:Re) (k:Nat):(x-y).s k=x.s k+ -y.s k:=rfl
theorem bK (x y:Re) (k:Nat):(x*y).s k=x.s k*y.s k:=rfl
theorem cJ (q:Rat) (k:Nat):(Re.of q).s k=q:=rfl
theorem jE (x:Re):BM x.s∨GD x.s∨BM (-x).s:=by
 by_cases hn:GD x.s
 ·exact .inr (.inl hn)
 ·unfold GD at hn
  obtain⟨e,hn⟩:=Classical.not_forall.1 hn
  obtain⟨he,hn⟩:=Classical.not_imp.1 hn
  obtain⟨K,h⟩:=x.c (e/2) (kY he)
  have hn2:=not_exists.1 hn K
  obtain⟨k,hn3⟩:=Classical.not_forall.1 hn2
  obtain⟨hk,hn4⟩:=Classical.not_imp.1 hn3
  by_cases h1:e<x.s k
  ·exact .inl ⟨e/2,kY he,K,fun j hj=>by have:=h k j hk hj;grind⟩
  ·have h2:x.s k< -e:=by
    apply Classical.byContradiction
    intro h3
    exact hn4 ⟨by grind,by grind⟩
   exact .inr (.inr ⟨e/2,kY he,K,fun j hj=>by rw[bT];have:=h j k hj hk;grind⟩)
section
variable {x y z:Re}
theorem OA (h:BM x.s): ¬BM (-x).s:=fun g=>by
 obtain⟨e,he,K,h⟩:=h
 obtain⟨f,hf,L,g⟩:=g
 have h1:=h (max K L) (by omega)
 have h2:=g (max K L) (by omega)
 rw[bT] at h2
 grind
theorem tK (h:BM x.s): ¬GD x.s:=fun g=>by
 obtain⟨e,he,K,h⟩:=h
 obtain⟨L,g⟩:=g (e/2) (kY he)
 have h1:=h (max K L) (by omega)
 have h2:=g (max K L) (by omega)
 grind
theorem Aq (h:GD x.s):GD (-x).s:=fun e he=>by
 obtain⟨K,h⟩:=h e he
 exact⟨K,fun k hk=>by rw[bT];have:=h k hk;constructor<;>grind⟩
theorem Nq (h:GD x.s) (g:GD y.s):GD (x+y).s:=fun e he=>by
 obtain⟨K,h⟩:=h (e/2) (kY he)
 obtain⟨L,g⟩:=g (e/2) (kY he)
 exact⟨max K L,fun k hk=>by rw[bt];have:=h k (by omega);have:=g k (by omega);constructor<;>grind⟩
theorem tP (h:BM x.s) (g:GD y.s):BM (x+y).s:=by
 obtain⟨e,he,K,h⟩:=h
 obtain⟨L,g⟩:=g (e/2) (kY he)
 exact⟨e/2,kY he,max K L,fun k hk=>by rw[bt];have:=h k (by omega);have:=g k (by omega);grind⟩
theorem Fj (h:BM x.s) (g:BM y.s):BM (x+y).s:=by
 obtain⟨e,he,K,h⟩:=h
 obtain⟨f,hf,L,g⟩:=g
 exact⟨e,he,max K L,fun k hk=>by rw[bt];have:=h k (by omega);have:=g k (by omega);grind⟩
theorem uo (h:BM x.s) (g:BM y.s):BM (x*y).s:=by
 obtain⟨e,he,K,h⟩:=h
 obtain⟨f,hf,L,g⟩:=g
 refine⟨e*f,Rat.mul_pos he hf,max K L,fun k hk=>?_⟩
 rw[bK]
 have h1:=h k (by omega)
 have h2:=g k (by omega)
 have p1:0≤(x.s k-e)*f:=Rat.mul_nonneg (by grind) (by grind)
 have p2:0≤x.s k*(y.s k-f):=Rat.mul_nonneg (by grind) (by grind)
 grind
theorem rM (x:Re) (g:GD y.s):GD (x*y).s:=fun e he=>by
 obtain⟨B,hB,K,hb⟩:=x.bnd
 obtain⟨d1,e1⟩:=BL he hB
 obtain⟨L,g⟩:=g _ d1
 refine⟨max K L,fun k hk=>?_⟩
 rw[bK]
 have h1:=hb k (by omega)
 have h2:=g k (by omega)
 have p:=DO h1.1 h1.2 h2.1 h2.2
 rw[e1] at p
 exact⟨p.2,p.1⟩
theorem HC (x:Re): - -x=x:=Re.ext fun k=>by rw[bT,bT];grind
theorem qf (x y:Re):x*y=y*x:=Re.ext fun k=>by rw[bK,bK];grind
theorem G4 (x y:Re): -(x*y)= -x*y:=Re.ext fun k=>by rw[bT,bK,bK,bT];grind
theorem Hj (x y:Re): -(x*y)=x* -y:=Re.ext fun k=>by rw[bT,bK,bK,bT];grind
theorem yh (x y:Re): -(x+y)= -x+ -y:=Re.ext fun k=>by rw[bT,bt,bt,bT,bT];grind
noncomputable def bR (x:Re):Int:=open Classical in if BM x.s then 1 else if BM (-x).s then-1 else 0
theorem lg:bR x=1↔BM x.s:=by
 unfold bR
 split
 ·rename_i h;simp[h]
 ·rename_i h;split<;>simp[h]
theorem kP:bR x= -1↔BM (-x).s:=by
 unfold bR
 split
 ·rename_i h;simp[OA h]
 ·rename_i h
  split
  ·rename_i h2;simp[h2]
  ·rename_i h2;simp[h2]
theorem jW:bR x=0↔GD x.s:=by
 unfold bR
 split
 ·rename_i h;simp[tK h]
 ·rename_i h
  split
  ·rename_i h2
   have h3:=tK h2
   simp
   exact fun g=>h3 (Aq g)
  ·rename_i h2
   simp
   exact((jE x).resolve_left h).resolve_right h2
theorem cF (x:Re):bR x=1∨bR x=0∨bR x= -1:=by
 rcases jE x with h|h|h
 ·exact .inl (lg.2 h)
 ·exact .inr (.inl (jW.2 h))
 ·exact .inr (.inr (kP.2 h))
theorem dz (x:Re):bR (-x)= -bR x:=by
 rcases jE x with h|h|h
 ·rw[lg.2 h,kP,HC];exact h
 ·rw[jW.2 h,jW.2 (Aq h)];rfl
 ·rw[kP.2 h,lg.2 h];rfl
theorem cj (x y:Re):bR (x*y)=bR x*bR y:=by
 rcases jE x with h|h|h<;>rcases jE y with g|g|g
 ·rw[lg.2 h,lg.2 g,lg.2 (uo h g)];rfl
 ·rw[lg.2 h,jW.2 g,jW.2 (rM x g)];rfl
 ·rw[lg.2 h,kP.2 g,Int.one_mul,kP,Hj];exact uo h g
 ·rw[jW.2 h,Int.zero_mul,jW,qf];exact rM y h
 ·rw[jW.2 h,Int.zero_mul,jW,qf];exact rM y h
 ·rw[jW.2 h,Int.zero_mul,jW,qf];exact rM y h
 ·rw[kP.2 h,lg.2 g,Int.mul_one,kP,G4];exact uo h g
 ·rw[kP.2 h,jW.2 g,jW.2 (rM x g)];rfl
 ·rw[kP.2 h,kP.2 g]
  have e:x*y= -x* -y:=Re.ext fun k=>by rw[bK,bK,bT,bT];grind
  rw[e,lg.2 (uo h g)];rfl
theorem dy (x:Re) (h:bR y=0):bR (x+y)=bR x:=by
 have g:=jW.1 h
 rcases jE x with h|h|h
 ·rw[lg.2 h,lg.2 (tP h g)]
 ·rw[jW.2 h,jW.2 (Nq h g)]
 ·rw[kP.2 h,kP,yh];exact tP h (Aq g)
theorem Fo (x y:Re):x+y=y+x:=Re.ext fun k=>by rw[bt,bt];grind
theorem gN (h:bR x=0) (y:Re):bR (x+y)=bR y:=by rw[Fo];exact dy y h
theorem gJ (h:bR x=bR y):bR (x+y)=bR x:=by
 rcases cF x with g|g|g
 ·rw[g,lg];exact Fj (lg.1 g) (lg.1 (h.symm.trans g))
 ·rw[dy x (h.symm.trans g)]
 ·rw[g,kP,yh];exact Fj (kP.1 g) (kP.1 (h.symm.trans g))
theorem pJ (h:0≤bR x) (g:0≤bR y):0≤bR (x+y):=by
 rcases cF x with a|a|a
 ·rcases cF y with b|b|b
  ·rw[gJ (a.trans b.symm)];exact h
  ·rw[dy x b];exact h
  ·omega
 ·rw[gN a];exact g
 ·omega
theorem wy (h:0<bR x) (g:0≤bR y):0<bR (x+y):=by
 rcases cF y with b|b|b
 ·rcases cF x with a|a|a
  ·rw[gJ (a.trans b.symm)];exact h
  ·omega
  ·omega
 ·rw[dy x b];exact h
 ·omega
theorem my (h:bR (x-y)=0):bR x=bR y:=by
 have e:x=(x-y)+y:=Re.ext fun k=>by rw[bt,bp];grind
 rw[e]
 exact gN h y
theorem dN (q:Rat):bR (Re.of q)=aV q 0:=by
 unfold aV
 split
 ·rename_i h
  exact kP.2 ⟨-q,by grind,0,fun k _=>by rw[bT,cJ];grind⟩
 ·split
  ·rename_i h;exact lg.2 ⟨q,h,0,fun k _=>by rw[cJ];grind⟩
  ·exact jW.2 fun e he=>⟨0,fun k _=>by rw[cJ];constructor<;>grind⟩
end
theorem Bc {X Y r n:Re}(hr:0≤bR r) (hn:bR (r*r-n)=0):bR (X+Y*r)=ll (bR X) (bR Y*bR n) (bR (X*X-Y*Y*n)):=by
 have hrn:bR r=bR n:=by
  have h1:=my hn
  rw[cj] at h1
  rcases cF r with h|h|h
  ·rw[←h1,h];rfl
  ·rw[←h1,h];rfl
  ·omega
 have ht:bR (Y*r)=bR Y*bR n:=by rw[cj,hrn]
 rw[←ht]
 unfold ll
 split
 ·rename_i h
  rcases h with h|h
  ·exact dy X h
  ·exact gJ h
 ·rename_i h
  split
  ·rename_i h2;exact gN h2 _
  ·rename_i h2
   have hopp:bR (Y*r)= -bR X:=by
    have a:=cF X
    have b:=cF (Y*r)
    omega
   have hm:bR (X+ -(Y*r))=bR X:=gJ (by rw[dz,hopp];omega)
   have e1:bR ((X+Y*r)*(X+ -(Y*r)))=bR (X*X-Y*Y*n):=by
    refine my ?_
    have e:(X+Y*r)*(X+ -(Y*r))-(X*X-Y*Y*n)= -(Y*Y)*(r*r-n):=Re.ext fun k=>by
     simp only[bp,bK,bt,bT];grind
    rw[e,cj,hn,Int.mul_zero]
   rw[cj,hm] at e1
   rw[←e1]
   have a:=cF X
   have b:=cF (X+Y*r)
   rcases a with a|a|a<;>rcases b with b|b|b<;>simp[a,b] at* <;>omega
def pe (m:Rat) (k:Nat):Rat:=(((m.den:Int)*((k:Int)+1):Int):Rat)
def OG (m:Rat) (k:Nat):Int:=bP (m.num*(m.den:Int)*(((k:Int)+1)*((k:Int)+1)))
def rh (m:Rat) (k:Nat):Rat:=((OG m k:Int):Rat)/pe m k
theorem sy {x y d:Rat}(hd:0<d) (h:x*d≤y*d):x≤y:=by
 apply Classical.byContradiction
 intro hn
 have h1:0<(x-y)*d:=Rat.mul_pos (by grind) hd
 grind
theorem EE (m:Rat):m*((m.den:Int):Rat)=((m.num:Int):Rat):=by
 have h:=Rat.num_divInt_den m
 rw[Rat.divInt_eq_div] at h
 have hd:(0:Rat)<((m.den:Int):Rat):=Rat.intCast_pos.2 (by have:=m.den_pos;omega)
 generalize ((m.den:Int):Rat)=q at*
 generalize ((m.num:Int):Rat)=p at*
 grind
theorem ri (m:Rat) (k:Nat):0<pe m k:=by
 unfold pe
 have h1:=den_pos m
 have h2:(0:Int)<(m.den:Int)*((k:Int)+1):=Int.mul_pos h1 (by omega)
 exact Rat.intCast_pos.2 h2
theorem yU (m:Rat) (k:Nat):rh m k*pe m k=((OG m k:Int):Rat):=by
 have:=ri m k
 unfold rh;grind
theorem LZ (m:Rat) (k:Nat):m*(pe m k*pe m k)=((m.num*(m.den:Int)*(((k:Int)+1)*((k:Int)+1)):Int):Rat):=by
 have h:=EE m
 unfold pe
 simp only[Rat.intCast_mul,Rat.intCast_add,Rat.intCast_one,Rat.intCast_natCast] at*
 grind
theorem QN (m:Rat) (k:Nat):0≤OG m k:=ep _
theorem JB {m:Rat}(h:0≤m) (k:Nat):0≤m.num*(m.den:Int)*(((k:Int)+1)*((k:Int)+1)):=
 Int.mul_nonneg (Int.mul_nonneg (Rat.num_nonneg.2 h) (by have:=den_pos m;omega)) (Int.mul_nonneg (by omega) (by omega))
theorem y8 (m:Rat) (k:Nat):0≤rh m k:=by
 refine sy (ri m k) ?_
 rw[yU]
 have:(0:Rat)≤((OG m k:Int):Rat):=Rat.intCast_nonneg.2 (QN m k)
 grind
theorem K4 {m:Rat}(h:0≤m) (k:Nat):rh m k*rh m k≤m:=by
 have hd:=ri m k
 refine sy (Rat.mul_pos hd hd) ?_
 rw[LZ]
 have e:rh m k*rh m k*(pe m k*pe m k)=((OG m k*OG m k:Int):Rat):=by
  rw[Rat.intCast_mul,←yU];grind
 rw[e]
 exact Rat.intCast_le_intCast.2 (oe (JB h k))
theorem K0 {m:Rat}(h:0≤m) (k:Nat):m<(rh m k+1/pe m k)*(rh m k+1/pe m k):=by
 have hd:=ri m k
 have e:(rh m k+1/pe m k)*(rh m k+1/pe m k)*(pe m k*pe m k)=(((OG m k+1)*(OG m k+1):Int):Rat):=by
  rw[Rat.intCast_mul,Rat.intCast_add,←yU]
  have:1/pe m k*pe m k=1:=by grind
  grind
 have h1:=Rat.intCast_lt_intCast.2 (ug (JB h k))
 rw[←LZ] at h1
 have h2:m*(pe m k*pe m k)<(rh m k+1/pe m k)*(rh m k+1/pe m k)*(pe m k*pe m k):=by rw[e];exact h1
 apply Classical.byContradiction
 intro hn
 have h3:0≤(m-(rh m k+1/pe m k)*(rh m k+1/pe m k))*(pe m k*pe m k):=Rat.mul_nonneg (by grind) (by have:=Rat.mul_pos hd hd;grind)
 grind
theorem sS (m:Rat) {e:Rat}(he:0<e) {k:Nat}(hk:e.den≤k):0<1/pe m k∧1/pe m k≤e:=by
 have hd:=ri m k
 have hc:1/pe m k*pe m k=1:=by grind
 refine⟨?_,?_⟩
 ·have:=(BL (e:=1) (by decide) hd).1;exact this
 ·refine sy hd ?_
  rw[hc]
  have h1:=EE e
  have h2:0<e.num:=Rat.intCast_pos.1 (by rw[←h1];exact Rat.mul_pos he (Rat.intCast_pos.2 (by have:=e.den_pos;omega)))
  have h3:(1:Rat)≤((e.num:Int):Rat):=by
   have:((1:Int):Rat)≤((e.num:Int):Rat):=Rat.intCast_le_intCast.2 (by omega)
   simpa using this
  have h4:((e.den:Int):Rat)≤pe m k:=by
   unfold pe
   refine Rat.intCast_le_intCast.2 ?_
   have:=den_pos m
   have h5:1*((k:Int)+1)≤(m.den:Int)*((k:Int)+1):=Int.mul_le_mul_of_nonneg_right (by omega) (by omega)
   omega
  have h6:0≤e*(pe m k-((e.den:Int):Rat)):=Rat.mul_nonneg (by grind) (by grind)
  simp only[Rat.intCast_natCast] at*
  grind
theorem Rb {m:Rat}(h:0≤m):NV (rh m):=fun e he=>by
 refine⟨e.den,fun i j _ hj=>?_⟩
 obtain⟨hp,hs⟩:=sS m he hj
 have h1:=K4 h i
 have h2:=K0 h j
 have h3:=y8 m i
 have h4:=y8 m j
 apply Classical.byContradiction
 intro hn
 have h5:0≤(rh m i-(rh m j+1/pe m j))*(rh m i+(rh m j+1/pe m j)):=Rat.mul_nonneg (by grind) (by grind)
 grind
def Re.rt (m:Rat):Re:=⟨fun k=>if 0≤m then rh m k else 0,by
 by_cases h:0≤m
 ·simp only[h,if_true];exact Rb h
 ·simp only[h,if_false];exact yz 0⟩
theorem Q7 {x:Re}(h: ∀k,0≤x.s k):0≤bR x:=by
 rcases cF x with a|a|a
 ·omega
 ·omega
 ·obtain⟨e,he,K,g⟩:=kP.1 a
  have h1:=g K (Nat.le_refl _)
  rw[bT] at h1
  have h2:=h K
  exfalso;grind
theorem ED (m:Rat):0≤bR (Re.rt m):=Q7 fun k=>by
 show 0≤(if 0≤m then rh m k else 0)
 split
 ·exact y8 m k
 ·exact Rat.le_refl
theorem ry {m:Rat}(h:0≤m):bR (Re.rt m*Re.rt m-Re.of m)=0:=jW.2 fun e he=>by
 obtain⟨d1,d2⟩:=BL he (show 0<2*m+3 by grind)
 refine⟨(e/(2*m+3)).den,fun k hk=>?_⟩
 rw[bp,bK,cJ]
 show-e≤(if 0≤m then rh m k else 0)*(if 0≤m then rh m k else 0)+ -m∧(if 0≤m then rh m k else 0)*(if 0≤m then rh m k else 0)+ -m≤e
 rw[if_pos h]
 obtain⟨hp,hs⟩:=sS m d1 hk
 obtain⟨hp1,hs1⟩:=sS m (e:=1) (by decide) (k:=k) (by
  have:(1:Rat).den=1:=rfl
  rw[this]
  have:=(e/(2*m+3)).den_pos
  omega)
 have h1:=K4 h k
 have h2:=K0 h k
 have h3:=y8 m k
 refine⟨?_,by grind⟩
 have h4:rh m k≤m+1:=by
  apply Classical.byContradiction
  intro hn
  have h5:0≤(rh m k-(m+1))*(rh m k+(m+1)):=Rat.mul_nonneg (by grind) (by grind)
  have h6:0≤m*m:=Rat.mul_nonneg h h
  grind
 generalize 1/pe m k=d at*
 have h7:0≤d*((m+1)-rh m k):=Rat.mul_nonneg (by grind) (by grind)
 have h8:0≤d*(1-d):=Rat.mul_nonneg (by grind) (by grind)
 have h9:0≤(2*m+3)*(e/(2*m+3)-d):=Rat.mul_nonneg (by grind) (by grind)
 grind
theorem mw (x y:Rat):aV (x-y) 0=aV x y:=by
 unfold aV
 have e1:(x-y<0)=(x<y):=by apply propext;constructor<;>intro h<;>grind
 have e2:(0<x-y)=(y<x):=by apply propext;constructor<;>intro h<;>grind
 simp only[e1,e2]
theorem j9 (x y:Rat):Re.of x*Re.of y=Re.of (x*y):=rfl
theorem Lg (x:Rat): -Re.of x=Re.of (-x):=rfl
theorem Ji (x y:Rat):Re.of x+Re.of y=Re.of (x+y):=rfl
theorem rb (x y:Rat):Re.of x-Re.of y=Re.of (x-y):=Re.ext fun k=>by rw[bp,cJ,cJ,cJ];grind
def dX (a b m:Rat):Re:=Re.of a+Re.of b*Re.rt m
theorem fK {a b m:Rat}(h:0≤m):cm a b m=bR (dX a b m):=by
 unfold dX
 rw[Bc (n:=Re.of m) (ED m) (ry h),dN,dN,dN,j9,j9,j9,rb,dN,mw]
 rfl
def Eb (A B C D M N:Rat):Re:=dX A B M+dX C D M*Re.rt N
theorem CO {A B C D M N:Rat}(hM:0≤M) (hN:0≤N):iX A B C D M N=bR (Eb A B C D M N):=by
 unfold Eb
 rw[Bc (n:=Re.of N) (ED N) (ry hN),←fK hM,←fK hM,dN,qh (by grind) (by grind)]
 have e:bR (dX A B M*dX A B M-dX C D M*dX C D M*Re.of N)=bR (dX (xM A B C D M N) (qI A B C D N+qI A B C D N) M):=by
  refine my ?_
  have e:(dX A B M*dX A B M-dX C D M*dX C D M*Re.of N)-dX (xM A B C D M N) (qI A B C D N+qI A B C D N) M=(Re.of (B*B-D*D*N))*(Re.rt M*Re.rt M-Re.of M):=Re.ext fun k=>by
   unfold dX xM qI
   simp only[bp,bK,bt,cJ];grind
  rw[e,cj,ry hM,Int.mul_zero]
 rw[e,←fK hM]
theorem jH {a b c d e f:Rat}(hc:0≤c) (hf:0≤f):iX (a-d) b (-e) 0 c f=bR (dX a b c-dX d e f):=by
 rw[CO hc hf]
 refine congrArg bR (Re.ext fun k=>?_)
 unfold Eb dX
 simp only[bp,bK,bt,cJ];grind
section
variable {P:Program}{ops:Array Oper}{T:TF}{B:BF}
theorem oA {xt yt:TypeId}{x y:Operand}{k yk:IntKind}{m n r:Int}
 (hx:di T x=some (.v (.c (.i k m)))) (hy:di T y=some (.v (.c (.i yk n)))) (h0: ¬n<0) (hr:m.fdiv (2^(min n.toNat k.bits))=r) (hg:gd ops ⟨dst,.binOp .shr xt x y yt,ty,pos,af,g⟩ T=some true):
 Sem P ops ⟨dst,.binOp .shr xt x y yt,ty,pos,af,g⟩ T B (.r (.v (.c (.i k r)))):=
 bO hg (mG rfl) (fun V β a w hs=>by
  have e1:a.eval x=.int k m:=RdC.int_eq (aS hs (x:=x) (by simp[Op.operands]) hx)
  have e2:a.eval y=.int yk n:=RdC.int_eq (aS hs (x:=y) (by simp[Op.operands]) hy)
  subst hr
  exact⟨.int k (m.fdiv (2^(min n.toNat k.bits))),by simp[execOp,e1,e2,eqGuard,binOp,Op.shift,h0],.i _ _⟩)
theorem M2 {xt yt:TypeId}{x y:Operand}{k yk:IntKind}{m n r:Int}
 (hx:di T x=some (.v (.c (.i k m)))) (hy:di T y=some (.v (.c (.i yk n)))) (h0: ¬n<0) (hr:k.wrap (m*2^(min n.toNat k.bits))=r) (hg:gd ops ⟨dst,.binOp .shl xt x y yt,ty,pos,af,g⟩ T=some true):
 Sem P ops ⟨dst,.binOp .shl xt x y yt,ty,pos,af,g⟩ T B (.r (.v (.c (.i k r)))):=
 bO hg (mG rfl) (fun V β a w hs=>by
  have e1:a.eval x=.int k m:=RdC.int_eq (aS hs (x:=x) (by simp[Op.operands]) hx)
  have e2:a.eval y=.int yk n:=RdC.int_eq (aS hs (x:=y) (by simp[Op.operands]) hy)
  subst hr
  exact⟨.int k (k.wrap (m*2^(min n.toNat k.bits))),by simp[execOp,e1,e2,eqGuard,binOp,Op.shift,h0],.i _ _⟩)
end
def mo (x:Int):Int:=bP (max x 0*65536)
def je (y:Int):Int:=if xe (y*65536) then bP (y*65536) else bP (y*65536)+1
theorem wk {n:Int}(h0:0≤n) (h1:n≤2305843009213693952):0≤bP (n*65536)∧bP (n*65536)≤549755813888:=by
 refine⟨ep _,?_⟩
 have h2:=oe (x:=n*65536) (by omega)
 by_cases h:bP (n*65536)≤549755813888
 ·exact h
 ·have:=L4 (a:=549755813889) (b:=bP (n*65536)) (by decide) (by omega)
  omega
theorem Hn {x:Int}(h0: -4611686018427387904≤x) (h1:x≤4611686018427387904):q9 x=true:=On.2 ⟨by omega,by omega⟩
theorem Cj {lo hi:Int}(h0: -2305843009213693952≤lo) (h1:hi≤2305843009213693952):pu lo hi=true:=Ph (by omega) (by omega)
theorem lv {a:Rat}(ha:Rz 40000 a):Ok Tryz.prog 228 [dR a] [.a (([.i .i64 (if gh a then io a else 0)]++[.i .i64 (if gh a then gS a else 0)])),.c (.b (gh a))]:=by
 have hz:Rz 60000 (a*((65536:Int):Rat)):=(Rz.mul ha (Rz.int (Sz.small (k:=3) (by decide) (by decide) (by decide)) (by decide))).m_
 have ha3:Rz 60000 a:=ha.m_
 have h65:Rz 60000 ((65536:Int):Rat):=(Rz.int (Sz.small (k:=3) (by decide) (by decide) (by decide)) (by decide)).m_
 have hzn:Rz 60000 (-(a*((65536:Int):Rat))):=hz.neg
 have hs1:Sz 1000000 (io a):=(Sz.fdiv hz.n).m_
 have hs2:Sz 1000000 ((-(a*((65536:Int):Rat))).num.fdiv ((-(a*((65536:Int):Rat))).den:Int)):=(Sz.fdiv hzn.n).m_
 have hs3:Sz 1000000 (gS a):=hs2.neg
 have hf1:Ok Tryz.prog 281 [dR (a*((65536:Int):Rat))] [dI (io a)]:=vG hz
 have hf3:Ok Tryz.prog 202 [dI ((-(a*((65536:Int):Rat))).num.fdiv ((-(a*((65536:Int):Rat))).den:Int))] [dI (gS a)]:=uQ hs2
 refine Ok.fn Tryz.func228 38 [.cell 2 202,.tmp 3] rfl<|aa<|ab<|al 1<|aC (ai dB rfl) rfl<|ag<|aa<|aR 4 rfl rfl<|ap 1<|aj (am rfl (iM (by omega) (by omega))) ?_
 refine aj (am rfl (dd (by first|assumption|exact Rz.mono (by assumption) (by decide)) (by first|assumption|exact Rz.mono (Rz.int (Sz.small (k:=3) (by decide) (by decide) (by decide)) (by decide)) (by decide)))) ?_
 refine ba (ai bJ rfl) rfl<|aY<|bl<|ag<|aa<|ab<|al 1<|ah (am rfl (hf1)) ?_
 refine ah (am rfl (tv (by first|assumption|exact Sz.mono (by assumption) (by decide)))) ?_
 refine ag<|aa<|ab<|al 1 ?_
 refine ah (am rfl (gc (by first|assumption|exact Rz.mono (Rz.mul (by assumption) (Rz.int (Sz.small (k:=3) (by decide) (by decide) (by decide)) (by decide))) (by decide)))) ?_
 refine ah (am rfl (vG hzn))<|ah (am rfl (hf3)) ?_
 refine ah (am rfl (tv (by first|assumption|exact Sz.mono (by assumption) (by decide)))) ?_
 refine ag<|aa<|aa<|ab<|al 2 ?_
 refine cg (bN rfl) (fun c1 hb1=>?_)
 cases c1
 ·refine ag ?_
  refine aw rfl (fun hc2=>?_) (fun hc2=>?_)
  ·refine aa<|ab<|ah (aN (us:=([.i .i64 0]++[.i .i64 0])) lk dB rfl rfl rfl) ?_
   refine ag<|an ?_
   rw[show gh a=false from by unfold gh;rw[fM hc2,Bool.false_and,Bool.and_false],if_neg (by decide),if_neg (by decide)]
   exact aq (a7 gi rfl (aE ae))
  ·have e1:=dF hb1
   have e2:=dF hc2
   refine Dw.weak (σ':=⟨38,[(2,.p 2 0),(5,.v (.c (.i .i64 (io a)))),(7,.v (.c (.i .i64 (gS a))))],[(2,202,([.i .i64 0]++[.i .i64 0]))]⟩) (aM ⟨rfl,by rw[if_pos e1];rfl,by rw[if_pos e2];rfl,trivial⟩ ⟨rfl,trivial⟩ rfl) ?_
   refine ao<|aa<|ab<|al 2<|ah (am rfl (oZ))<|ag<|an ?_
   rw[show gh a=pu (io a) (gS a) from by unfold gh;rw[e1,e2];rfl]
   exact aq (a7 gi rfl (aE ae))
 ·refine ag<|bg rfl<|aa<|ab<|ah (aN (us:=([.i .i64 0]++[.i .i64 0])) lk dB rfl rfl rfl) ?_
  refine ag<|an ?_
  rw[show gh a=false from by unfold gh;rw[fM hb1];rfl,if_neg (by decide),if_neg (by decide)]
  exact aq (a7 gi rfl (aE ae))
theorem Bo {n:Int}(h0:0≤n) (h1:n≤2305843009213693952):Ok Tryz.prog 299 [.c (.i .i64 n)] [.c (.i .i64 (bP (n*65536))),.c (.b (xe (n*65536)))]:=by
 have z1:Sz 1000000 n:=Sz.small (by decide) (by omega) (by omega)
 have z2:Sz 1000000 (65536:Int):=Sz.small (by decide) (by decide) (by decide)
 have z4:Sz 3 (n*65536):=⟨by have:pw 3=1000000000000000000000000000:=by decide
                             omega,by have:pw 3=1000000000000000000000000000:=by decide
                                      omega⟩
 have z5:Sz 999999 (n*65536):=z4.m_
 have z6:Sz 1000000 (bP (n*65536)):=z4.isq.m_
 have hb:=wk h0 h1
 have e0:(if q9 (bP (n*65536)) then bP (n*65536) else 0)=bP (n*65536):=by rw[Hn (by omega) (by omega),if_pos rfl]
 refine Ok.fn Tryz.func299 30 [.tmp 2,.tmp 3] rfl<|aa<|ab<|ag<|aa<|ab<|al 1<|ah (am rfl (kH (by omega) (by omega)))<|ah (am rfl (kH (by omega) (by omega))) ?_
 refine ah (am rfl (iz (by first|assumption|exact Sz.mono (by assumption) (by decide)) (by first|assumption|exact Sz.mono (Sz.small (k:=3) (by decide) (by decide) (by decide)) (by decide)))) ?_
 refine aC (ai dL rfl) rfl<|ag<|aa<|ab<|al 1 ?_
 refine ah (am rfl (Cu (by first|assumption|exact Sz.mono (Sz.mul (by assumption) (Sz.small (k:=3) (by decide) (by decide) (by decide))) (by decide)))) ?_
 refine al 3<|aC (ai dL rfl) rfl<|ag<|aa<|ab<|al 1<|ah (am rfl ((show Ok Tryz.prog 280 [dI (bP (n*65536))] [.c (.i .i64 (bP (n*65536))),.c (.b (q9 (bP (n*65536))))] from by have:=tv z6;rw[e0] at this;exact this)))<|ag<|aa<|aR 9 rfl rfl<|ap 3 ?_
 refine aj (am rfl (iz (by first|assumption|exact Sz.mono (Sz.isq (Sz.mul (by assumption) (Sz.small (k:=3) (by decide) (by decide) (by decide)))) (by decide)) (by first|assumption|exact Sz.mono (Sz.isq (Sz.mul (by assumption) (Sz.small (k:=3) (by decide) (by decide) (by decide)))) (by decide)))) ?_
 refine ap 1<|aj (am rfl (kq))<|bk<|az<|ar<|an ?_
 rw[FC]
 exact aq (aE (aE ae))
theorem CE {x y:Int}(h0: -2305843009213693952≤x) (h1:x≤2305843009213693952) (h2: -2305843009213693952≤y) (h3:y≤2305843009213693952) (hn: ¬y<0):Ok Tryz.prog 278 [.a (([.i .i64 x]++[.i .i64 y]))] [.a (([.i .i64 (mo x)]++[.i .i64 (je y)])),.c (.b true)]:=by
 have b1:=wk (n:=max x 0) (by omega) (by omega)
 have b2:=wk (n:=y) (by omega) h3
 refine Ok.fn Tryz.func278 34 [.cell 2 202,.tmp 3] rfl<|aa<|ab<|al 1<|aC (ai dB rfl) rfl<|ag<|aa<|aa<|ab<|ag ?_
 refine aw rfl (fun hc1=>?_) (fun hc1=>?_)
 ·exact absurd (qN hc1) hn
 ·refine ao<|aa<|ab<|al 2<|ah (zE rfl rfl rfl) ?_
  refine ah (am rfl (Bo (by omega) (by omega)))<|ag<|aa<|ab<|al 2<|ah (am rfl (Bo (by omega) (by omega)))<|ag<|aa<|aa<|ab<|ag ?_
  refine aw rfl (fun hc2=>?_) (fun hc2=>?_)
  ·--region 6
   refine ab<|al 1<|ah (aK (r:=(bP (y*65536))+1) rfl rfl (aQ (by omega) (by omega)) rfl) ?_
   refine ag<|aa<|ab<|al 2<|ah (am rfl ((show Ok Tryz.prog 282 [.c (.i .i64 (bP ((max x 0)*65536))),.c (.i .i64 ((bP (y*65536))+1))] [.a ([.i .i64 (bP ((max x 0)*65536))]++[.i .i64 ((bP (y*65536))+1)]),.c (.b true)] from by have:=oZ (x:=bP ((max x 0)*65536)) (y:=(bP (y*65536))+1);rw[Cj (by omega) (by omega),if_pos rfl,if_pos rfl] at this;exact this)))<|ag<|an ?_
   unfold mo je
   rw[fM hc2,if_neg (by decide)]
   exact aq (a7 gi rfl (aE ae))
  ·refine ao<|aa<|ab<|al 2<|ah (am rfl ((show Ok Tryz.prog 282 [.c (.i .i64 (bP ((max x 0)*65536))),.c (.i .i64 (bP (y*65536)))] [.a ([.i .i64 (bP ((max x 0)*65536))]++[.i .i64 (bP (y*65536))]),.c (.b true)] from by have:=oZ (x:=bP ((max x 0)*65536)) (y:=bP (y*65536));rw[Cj (by omega) (by omega),if_pos rfl,if_pos rfl] at this;exact this)))<|ag<|an ?_
   unfold mo je
   rw[dF hc2,if_pos rfl]
   exact aq (a7 gi rfl (aE ae))
theorem FV {x y u v:Int}(h0: -2305843009213693952≤x) (h1:x≤2305843009213693952) (h2: -2305843009213693952≤y) (h3:y≤2305843009213693952) (h4: -2305843009213693952≤u) (h5:u≤2305843009213693952) (h6: -2305843009213693952≤v) (h7:v≤2305843009213693952):Ok Tryz.prog 229 [.a (([.i .i64 x]++[.i .i64 y])),.a (([.i .i64 u]++[.i .i64 v]))] [.a (([.i .i64 (if pu (x+u) (y+v) then x+u else 0)]++[.i .i64 (if pu (x+u) (y+v) then y+v else 0)])),.c (.b (pu (x+u) (y+v)))]:=by
 refine Ok.fn Tryz.func229 19 [.cell 4 202,.tmp 5] rfl<|aa<|ab<|al 2<|aC (ai dB rfl) rfl<|ag<|aa<|ab<|al 4<|ah (aK (r:=x+u) rfl rfl (aQ (by omega) (by omega)) rfl) ?_
 refine al 4<|ah (aK (r:=y+v) rfl rfl (aQ (by omega) (by omega)) rfl) ?_
 refine ah (am rfl (oZ))<|ag<|an ?_
 exact aq (a7 gi rfl (aE ae))
theorem ES {x:Int}(h0: -9223372036854775808≤x) (h1:x≤9223372036854775807):Ok Tryz.prog 301 [.c (.i .i64 x)] [.c (.i .u64 (x.natAbs:Int))]:=by
 refine Ok.fn Tryz.func301 10 [.tmp 2] rfl<|aa<|ab<|ag<|aa<|aa<|ab<|ag ?_
 refine aw rfl (fun hc1=>?_) (fun hc1=>?_)
 ·have hn:=qN hc1
  have e:(x.natAbs:Int)= -x:=by omega
  refine aa<|ab<|al 1<|ah (bF (r:=x+18446744073709551616) kZ fk rfl (BU hn h0) rfl) ?_
  refine ah (dD (r:= -x) rfl (xR hn h0) rfl) ?_
  refine ag<|an ?_
  rw[e]
  exact aq (aE ae)
 ·have hn:=li hc1
  have e:(x.natAbs:Int)=x:=by omega
  refine ao<|aa<|ab<|al 1<|ah (bF (r:=x) kZ fk rfl (gG (by omega) (by omega)) rfl) ?_
  refine ag<|an ?_
  rw[e]
  exact aq (aE ae)
section
variable {P:Program}{ops:Array Oper}{T:TF}{B:BF}
theorem uz {xt yt:TypeId}{x y:Operand}{k:IntKind}{m n r:Int}
 (hx:di T x=some (.v (.c (.i k m)))) (hy:di T y=some (.v (.c (.i k n)))) (hr:k.wrap ((BitVec.ofInt k.bits m&&&BitVec.ofInt k.bits n).toNat:Int)=r) (hg:gd ops ⟨dst,.binOp .and xt x y yt,ty,pos,af,g⟩ T=some true):
 Sem P ops ⟨dst,.binOp .and xt x y yt,ty,pos,af,g⟩ T B (.r (.v (.c (.i k r)))):=
 bO hg (mG rfl) (fun V β a w hs=>by
  have e1:a.eval x=.int k m:=RdC.int_eq (aS hs (x:=x) (by simp[Op.operands]) hx)
  have e2:a.eval y=.int k n:=RdC.int_eq (aS hs (x:=y) (by simp[Op.operands]) hy)
  subst hr
  exact⟨.int k (k.wrap ((BitVec.ofInt k.bits m&&&BitVec.ofInt k.bits n).toNat:Int)),by simp[execOp,e1,e2,eqGuard,binOp,Op.intBits],.i _ _⟩)
theorem QG {xt yt:TypeId}{x y:Operand}{k:IntKind}{m n r:Int}
 (hx:di T x=some (.v (.c (.i k m)))) (hy:di T y=some (.v (.c (.i k n)))) (hr:k.wrap ((BitVec.ofInt k.bits m|||BitVec.ofInt k.bits n).toNat:Int)=r) (hg:gd ops ⟨dst,.binOp .or xt x y yt,ty,pos,af,g⟩ T=some true):
 Sem P ops ⟨dst,.binOp .or xt x y yt,ty,pos,af,g⟩ T B (.r (.v (.c (.i k r)))):=
 bO hg (mG rfl) (fun V β a w hs=>by
  have e1:a.eval x=.int k m:=RdC.int_eq (aS hs (x:=x) (by simp[Op.operands]) hx)
  have e2:a.eval y=.int k n:=RdC.int_eq (aS hs (x:=y) (by simp[Op.operands]) hy)
  subst hr
  exact⟨.int k (k.wrap ((BitVec.ofInt k.bits m|||BitVec.ofInt k.bits n).toNat:Int)),by simp[execOp,e1,e2,eqGuard,binOp,Op.intBits],.i _ _⟩)
end
theorem tz (n:Nat) (h:n<18446744073709551616):(BitVec.ofInt 64 (n:Int)).toNat=n:=by
 rw[BitVec.toNat_ofInt];omega
theorem Jd {x:Int}(h0:0≤x) (h1:x≤18446744073709551615):IntKind.u64.wrap ((BitVec.ofInt IntKind.u64.bits x&&&BitVec.ofInt IntKind.u64.bits 4294967295).toNat:Int)=x%4294967296:=by
 obtain⟨n,rfl⟩:=Int.eq_ofNat_of_zero_le h0
 have e:(BitVec.ofInt IntKind.u64.bits (n:Int)&&&BitVec.ofInt IntKind.u64.bits 4294967295).toNat=n%4294967296:=by
  show(BitVec.ofInt 64 (n:Int)&&&BitVec.ofInt 64 ((4294967295:Nat):Int)).toNat=_
  rw[BitVec.toNat_and,tz n (by omega),tz _ (by decide)]
  exact Nat.and_two_pow_sub_one_eq_mod n 32
 rw[e,gG (by omega) (by omega)];omega
theorem T1 {x:Int}(h0:0≤x) (h1:x≤18446744073709551615):IntKind.u64.wrap ((BitVec.ofInt IntKind.u64.bits x&&&BitVec.ofInt IntKind.u64.bits 65535).toNat:Int)=x%65536:=by
 obtain⟨n,rfl⟩:=Int.eq_ofNat_of_zero_le h0
 have e:(BitVec.ofInt IntKind.u64.bits (n:Int)&&&BitVec.ofInt IntKind.u64.bits 65535).toNat=n%65536:=by
  show(BitVec.ofInt 64 (n:Int)&&&BitVec.ofInt 64 ((65535:Nat):Int)).toNat=_
  rw[BitVec.toNat_and,tz n (by omega),tz _ (by decide)]
  exact Nat.and_two_pow_sub_one_eq_mod n 16
 rw[e,gG (by omega) (by omega)];omega
theorem Vc {h l:Int}(h0:0≤h) (h1:h<65536) (l0:0≤l) (l1:l<281474976710656):IntKind.u64.wrap ((BitVec.ofInt IntKind.u64.bits (h*281474976710656)|||BitVec.ofInt IntKind.u64.bits l).toNat:Int)=h*281474976710656+l:=by
 obtain⟨n,rfl⟩:=Int.eq_ofNat_of_zero_le h0
 obtain⟨m,rfl⟩:=Int.eq_ofNat_of_zero_le l0
 have e:(BitVec.ofInt IntKind.u64.bits ((n:Int)*281474976710656)|||BitVec.ofInt IntKind.u64.bits (m:Int)).toNat=n*281474976710656+m:=by
  show(BitVec.ofInt 64 ((n:Int)*((281474976710656:Nat):Int))|||BitVec.ofInt 64 (m:Int)).toNat=_
  rw[←Int.natCast_mul,BitVec.toNat_or,tz _ (by omega),tz _ (by omega)]
  have:=Nat.two_pow_add_eq_or_of_lt (i:=48) (b:=m) (by omega) n
  rw[show n*281474976710656=2^48*n from by omega]
  exact this.symm
 rw[e,gG (by omega) (by omega)];omega
theorem Cc {x:Int}:x.fdiv (2^(min (32:Int).toNat IntKind.u64.bits))=x/4294967296:=by
 rw[show(2:Int)^(min (32:Int).toNat IntKind.u64.bits)=4294967296 from rfl];exact Int.fdiv_eq_ediv_of_nonneg _ (by decide)
theorem OS {x:Int}:x.fdiv (2^(min (16:Int).toNat IntKind.u64.bits))=x/65536:=by
 rw[show(2:Int)^(min (16:Int).toNat IntKind.u64.bits)=65536 from rfl];exact Int.fdiv_eq_ediv_of_nonneg _ (by decide)
theorem S5 {x:Int}(h0:0≤x) (h1:x<65536):IntKind.u64.wrap (x*2^(min (48:Int).toNat IntKind.u64.bits))=x*281474976710656:=by
 rw[show(2:Int)^(min (48:Int).toNat IntKind.u64.bits)=281474976710656 from rfl,gG (by omega) (by omega)]
theorem U9 {x:Int}:IntKind.u64.wrap x=x%18446744073709551616:=by unfold IntKind.wrap;simp[IntKind.bits,IntKind.signed]
theorem SS {x y:Int}(_h0:0≤x) (_h1:x≤18446744073709551615) (_h2:0≤y) (_h3:y≤18446744073709551615):
 (x/4294967296)*(y/4294967296)+((x/4294967296)*(y%4294967296)+(x%4294967296)*(y%4294967296)/4294967296)/4294967296+(((x/4294967296)*(y%4294967296)+(x%4294967296)*(y%4294967296)/4294967296)%4294967296+(x%4294967296)*(y/4294967296))/4294967296=x*y/18446744073709551616:=by
 obtain⟨a,ha⟩: ∃a,x/4294967296=a:=⟨_,rfl⟩
 obtain⟨b,hb⟩: ∃b,x%4294967296=b:=⟨_,rfl⟩
 obtain⟨c,hc⟩: ∃c,y/4294967296=c:=⟨_,rfl⟩
 obtain⟨d,hd⟩: ∃d,y%4294967296=d:=⟨_,rfl⟩
 rw[ha,hb,hc,hd]
 have ex:x=4294967296*a+b:=by omega
 have ey:y=4294967296*c+d:=by omega
 have e:x*y=18446744073709551616*(a*c)+4294967296*(a*d)+4294967296*(b*c)+b*d:=by rw[ex,ey];grind
 rw[e]
 omega
theorem G7 {x y:Int}(h0:0≤x) (h1:x≤18446744073709551615) (h2:0≤y) (h3:y≤18446744073709551615):Ok Tryz.prog 300 [.c (.i .u64 x),.c (.i .u64 y)] [.c (.i .u64 (x*y/18446744073709551616)),.c (.i .u64 (x*y%18446744073709551616))]:=by
 obtain⟨a,ha⟩: ∃a,x/4294967296=a:=⟨_,rfl⟩
 obtain⟨b,hb⟩: ∃b,x%4294967296=b:=⟨_,rfl⟩
 obtain⟨c,hc⟩: ∃c,y/4294967296=c:=⟨_,rfl⟩
 obtain⟨d,hd⟩: ∃d,y%4294967296=d:=⟨_,rfl⟩
 have hm:=SS h0 h1 h2 h3
 rw[ha,hb,hc,hd] at hm
 have pb: ∀u v:Int,0≤u→u≤4294967295→0≤v→v≤4294967295→0≤u*v∧u*v≤18446744065119617025:=fun u v u0 u1 v0 v1=>⟨Int.mul_nonneg u0 v0,Int.mul_le_mul (c:=(4294967295:Int)) u1 v1 v0 (by decide)⟩
 have q1:=pb b d (by omega) (by omega) (by omega) (by omega)
 have q2:=pb a d (by omega) (by omega) (by omega) (by omega)
 have q3:=pb b c (by omega) (by omega) (by omega) (by omega)
 have q4:=pb a c (by omega) (by omega) (by omega) (by omega)
 refine Ok.fn Tryz.func300 51 [.tmp 4,.tmp 5] rfl<|aa<|ab<|ag<|aa<|ab<|al 1<|ah (uz (r:=b) rfl rfl (by rw[←hb];exact Jd h0 h1) rfl) ?_
 refine ag<|aa<|ab<|al 1<|ah (oA (r:=a) rfl rfl (by decide) (by rw[←ha];exact Cc) rfl) ?_
 refine ag<|aa<|ab<|al 1<|ah (uz (r:=d) rfl rfl (by rw[←hd];exact Jd h2 h3) rfl) ?_
 refine ag<|aa<|ab<|al 1<|ah (oA (r:=c) rfl rfl (by decide) (by rw[←hc];exact Cc) rfl) ?_
 refine ag<|aa<|ab<|al 2<|ah (aK (r:=b*d) rfl rfl (gn (by omega) (by omega)) rfl) ?_
 refine ag<|aa<|ab<|al 2<|ah (aK (r:=a*d) rfl rfl (gn (by omega) (by omega)) rfl) ?_
 refine al 1<|ah (oA (r:=b*d/4294967296) rfl rfl (by decide) (Cc) rfl) ?_
 refine ah (aK (r:=(a*d)+(b*d/4294967296)) rfl rfl (fh (by omega) (by omega)) rfl) ?_
 refine ag<|aa<|ab<|al 1<|ah (uz (r:=(a*d+b*d/4294967296)%4294967296) rfl rfl (Jd (by omega) (by omega)) rfl) ?_
 refine ag<|aa<|ab<|al 1<|ah (oA (r:=(a*d+b*d/4294967296)/4294967296) rfl rfl (by decide) (Cc) rfl) ?_
 refine ag<|aa<|ab<|al 3<|ah (aK (r:=b*c) rfl rfl (gn (by omega) (by omega)) rfl) ?_
 refine ah (aK (r:=((a*d+b*d/4294967296)%4294967296)+(b*c)) rfl rfl (fh (by omega) (by omega)) rfl) ?_
 refine ag<|aa<|ab<|al 2<|ah (aK (r:=a*c) rfl rfl (gn (by omega) (by omega)) rfl) ?_
 refine al 1<|ah (aK (r:=(a*c)+((a*d+b*d/4294967296)/4294967296)) rfl rfl (fh (by omega) (by omega)) rfl) ?_
 refine al 1<|ah (oA (r:=((a*d+b*d/4294967296)%4294967296+b*c)/4294967296) rfl rfl (by decide) (Cc) rfl) ?_
 refine ah (aK (r:=((a*c)+((a*d+b*d/4294967296)/4294967296))+(((a*d+b*d/4294967296)%4294967296+b*c)/4294967296)) rfl rfl (fh (by omega) (by omega)) rfl) ?_
 refine ag<|aa<|ab<|al 2<|ah (aK (r:=x*y%18446744073709551616) rfl rfl (congrArg some U9) rfl) ?_
 refine ag<|an ?_
 rw[←hm]
 exact aq (aE (aE ae))
def HI (x y:Int):Int:=(x.natAbs:Int)*(y.natAbs:Int)
def wP (p:Int):Int:=if p%65536=0 then p/65536 else p/65536+1
def jK (x y:Int):Int:=if (!(decide (x<0)==decide (y<0)))=true then-(wP (HI x y)) else HI x y/65536
def jJ (x y:Int):Int:=if (!(decide (x<0)==decide (y<0)))=true then-(HI x y/65536) else wP (HI x y)
def qH (x y:Int):Bool:=decide (HI x y/65536>2305843009213693952)
def mH (x y:Int):Bool:= !qH x y&&(decide (jK x y≥ -2305843009213693952)&&decide (jJ x y≤2305843009213693952))
theorem Qv {p:Int}(h:(p%18446744073709551616%65536 !=0)=true):wP p=p/65536+1:=by
 have h:p%18446744073709551616%65536≠0:=by simpa using h
 unfold wP;rw[if_neg (by omega)]
theorem RJ {p:Int}(h:(p%18446744073709551616%65536 !=0)=false):wP p=p/65536:=by
 have h:p%18446744073709551616%65536=0:=by simpa using h
 unfold wP;rw[if_pos (by omega)]
theorem VO {a:Int}(h:(a !=0)=true):a≠0:=by simpa using h
theorem Vj {a:Int}(h:(a !=0)=false):a=0:=by simpa using h
theorem DM {x y:Int}(h0: -9223372036854775808≤x) (h1:x≤9223372036854775807) (h2: -9223372036854775808≤y) (h3:y≤9223372036854775807):Ok Tryz.prog 283 [.c (.i .i64 x),.c (.i .i64 y)] [.c (.i .i64 (if qH x y then 0 else jK x y)),.c (.i .i64 (if qH x y then 0 else jJ x y)),.c (.b (mH x y))]:=by
 obtain⟨p,hp⟩: ∃p,HI x y=p:=⟨_,rfl⟩
 have hp':(x.natAbs:Int)*(y.natAbs:Int)=p:=hp
 have hp0:0≤p:=by rw[←hp'];exact Int.mul_nonneg (by omega) (by omega)
 have hp1:p≤9223372036854775808*9223372036854775808:=by rw[←hp'];exact Int.mul_le_mul (by omega) (by omega) (by omega) (by decide)
 have hmul:Ok Tryz.prog 300 [.c (.i .u64 (x.natAbs:Int)),.c (.i .u64 (y.natAbs:Int))] [.c (.i .u64 (p/18446744073709551616)),.c (.i .u64 (p%18446744073709551616))]:=by rw[←hp'];exact G7 (by omega) (by omega) (by omega) (by omega)
 have big:p/65536>2305843009213693952→qH x y=true:=fun h=>by unfold qH;rw[hp];exact decide_eq_true h
 have small: ¬p/65536>2305843009213693952→qH x y=false:=fun h=>by unfold qH;rw[hp];exact decide_eq_false h
 refine Ok.fn Tryz.func283 56 [.tmp 4,.tmp 5,.tmp 6] rfl<|aa<|ab<|ag<|aa<|ab<|al 1<|ah (am rfl (ES (by omega) (by omega)))<|al 1<|ah (am rfl (ES (by omega) (by omega)))<|ah (am rfl (hmul))<|ag<|aa<|aa ?_
 refine ab<|al 1<|ah (oA (r:=p/18446744073709551616/65536) rfl rfl (by decide) (OS) rfl) ?_
 refine ag ?_
 refine aw rfl (fun hc1=>?_) (fun hc1=>?_)
 ·have g1:=VO hc1
  refine aa<|ab<|ag<|an ?_
  rw[show mH x y=false from by unfold mH;rw[big (by omega)];rfl,big (by omega),if_pos rfl,if_pos rfl]
  exact aq (aE (aE (aE ae)))
 ·have g1:=Vj hc1
  refine ao<|aa<|ab<|al 1<|ah (M2 (r:=(p/18446744073709551616)*281474976710656) rfl rfl (by decide) (S5 (by omega) (by omega)) rfl) ?_
  refine al 1<|ah (oA (r:=p%18446744073709551616/65536) rfl rfl (by decide) (OS) rfl) ?_
  refine ah (QG (r:=p/65536) rfl rfl ((Vc (by omega) (by omega) (by omega) (by omega)).trans (by omega)) rfl) ?_
  refine ag<|aa<|aa<|ab<|ag ?_
  refine aw rfl (fun hc2=>?_) (fun hc2=>?_)
  ·refine aa<|ab<|ag<|an ?_
   rw[show mH x y=false from by unfold mH;rw[big (qN hc2)];rfl,big (qN hc2),if_pos rfl,if_pos rfl]
   exact aq (aE (aE (aE ae)))
  ·have g2:=li hc2
   refine ao<|aa<|ab<|al 1<|ah (bF (r:=p/65536) fk kZ rfl (iU (by omega) (by omega)) rfl) ?_
   refine al 1<|ah (bF (r:=p/65536) fk kZ rfl (iU (by omega) (by omega)) rfl) ?_
   refine ag<|aa<|aa<|ab<|al 1<|ah (uz (r:=p%18446744073709551616%65536) rfl rfl (T1 (by omega) (by omega)) rfl) ?_
   refine ag ?_
   refine aw rfl (fun hc3=>?_) (fun hc3=>?_)
   ·have hu:=Qv hc3
    refine ab<|al 1<|ah (aK (r:=(p/65536)+1) rfl rfl (aQ (by omega) (by omega)) rfl) ?_
    refine ag<|aa<|aa<|ab<|al 4<|ah (ff rfl rfl fp rfl) ?_
    refine ar ?_
    refine aw rfl (fun hc4=>?_) (fun hc4=>?_)
    ·--region 11
     refine ab<|al 1<|ah (dD (r:= -(p/65536+1)) rfl (by rw[iU (by omega) (by omega)];omega) rfl) ?_
     refine al 1<|ah (dD (r:= -(p/65536)) rfl (by rw[iU (by omega) (by omega)];omega) rfl) ?_
     refine ag<|aa<|ab<|al 4 ?_
     refine cg (bN rfl) (fun c5 hb5=>?_)
     cases c5
     ·refine ag<|an ?_
      unfold mH
      rw[small (li hc2),if_neg (by decide),if_neg (by decide),Bool.not_false,Bool.true_and]
      rw[show jK x y= -(p/65536+1) from by unfold jK;rw[hp,hu,if_pos hc4],show jJ x y= -(p/65536) from by unfold jJ;rw[hp,hu,if_pos hc4]]
      rw[hb5,Bool.false_and]
      exact aq (aE (aE (aE ae)))
     ·refine ag<|an ?_
      unfold mH
      rw[small (li hc2),if_neg (by decide),if_neg (by decide),Bool.not_false,Bool.true_and]
      rw[show jK x y= -(p/65536+1) from by unfold jK;rw[hp,hu,if_pos hc4],show jJ x y= -(p/65536) from by unfold jJ;rw[hp,hu,if_pos hc4]]
      rw[hb5,Bool.true_and]
      exact aq (aE (aE (aE ae)))
    ·refine ao<|aa<|ab<|al 4 ?_
     refine cg (bN rfl) (fun c6 hb6=>?_)
     cases c6
     ·refine ag<|an ?_
      unfold mH
      rw[small (li hc2),if_neg (by decide),if_neg (by decide),Bool.not_false,Bool.true_and]
      rw[show jK x y=p/65536 from by unfold jK;rw[hp,hu,if_neg (by rw[hc4];decide)],show jJ x y=p/65536+1 from by unfold jJ;rw[hp,hu,if_neg (by rw[hc4];decide)]]
      rw[hb6,Bool.false_and]
      exact aq (aE (aE (aE ae)))
     ·refine ag<|an ?_
      unfold mH
      rw[small (li hc2),if_neg (by decide),if_neg (by decide),Bool.not_false,Bool.true_and]
      rw[show jK x y=p/65536 from by unfold jK;rw[hp,hu,if_neg (by rw[hc4];decide)],show jJ x y=p/65536+1 from by unfold jJ;rw[hp,hu,if_neg (by rw[hc4];decide)]]
      rw[hb6,Bool.true_and]
      exact aq (aE (aE (aE ae)))
   ·have hu:=RJ hc3
    refine ao<|aa<|aa<|ab<|al 4<|ah (ff rfl rfl fp rfl) ?_
    refine ar ?_
    refine aw rfl (fun hc7=>?_) (fun hc7=>?_)
    ·--region 11
     refine ab<|al 1<|ah (dD (r:= -(p/65536)) rfl (by rw[iU (by omega) (by omega)];omega) rfl) ?_
     refine al 1<|ah (dD (r:= -(p/65536)) rfl (by rw[iU (by omega) (by omega)];omega) rfl) ?_
     refine ag<|aa<|ab<|al 4 ?_
     refine cg (bN rfl) (fun c8 hb8=>?_)
     cases c8
     ·refine ag<|an ?_
      unfold mH
      rw[small (li hc2),if_neg (by decide),if_neg (by decide),Bool.not_false,Bool.true_and]
      rw[show jK x y= -(p/65536) from by unfold jK;rw[hp,hu,if_pos hc7],show jJ x y= -(p/65536) from by unfold jJ;rw[hp,hu,if_pos hc7]]
      rw[hb8,Bool.false_and]
      exact aq (aE (aE (aE ae)))
     ·refine ag<|an ?_
      unfold mH
      rw[small (li hc2),if_neg (by decide),if_neg (by decide),Bool.not_false,Bool.true_and]
      rw[show jK x y= -(p/65536) from by unfold jK;rw[hp,hu,if_pos hc7],show jJ x y= -(p/65536) from by unfold jJ;rw[hp,hu,if_pos hc7]]
      rw[hb8,Bool.true_and]
      exact aq (aE (aE (aE ae)))
    ·refine ao<|aa<|ab<|al 4 ?_
     refine cg (bN rfl) (fun c9 hb9=>?_)
     cases c9
     ·refine ag<|an ?_
      unfold mH
      rw[small (li hc2),if_neg (by decide),if_neg (by decide),Bool.not_false,Bool.true_and]
      rw[show jK x y=p/65536 from by unfold jK;rw[hp,hu,if_neg (by rw[hc7];decide)],show jJ x y=p/65536 from by unfold jJ;rw[hp,hu,if_neg (by rw[hc7];decide)]]
      rw[hb9,Bool.false_and]
      exact aq (aE (aE (aE ae)))
     ·refine ag<|an ?_
      unfold mH
      rw[small (li hc2),if_neg (by decide),if_neg (by decide),Bool.not_false,Bool.true_and]
      rw[show jK x y=p/65536 from by unfold jK;rw[hp,hu,if_neg (by rw[hc7];decide)],show jJ x y=p/65536 from by unfold jJ;rw[hp,hu,if_neg (by rw[hc7];decide)]]
      rw[hb9,Bool.true_and]
      exact aq (aE (aE (aE ae)))
def Dr (x y:Int):Int:=if x>0 then 1 else if y<0 then-1 else 0
def Dz (x y:Int):Bool:=decide (x>0)||(decide (y<0)||(x==0&&y==0))
theorem Uh {x y:Int}(h:decide (x>0)=true):Dr x y=1∧Dz x y=true:=by
 unfold Dr Dz;rw[if_pos (by simpa using h),h];exact⟨rfl,rfl⟩
theorem T6 {x y:Int}(h:decide (x>0)=false) (h2:decide (y<0)=true):Dr x y= -1∧Dz x y=true:=by
 unfold Dr Dz;rw[if_neg (by simpa using h),if_pos (by simpa using h2),h,h2];exact⟨rfl,rfl⟩
theorem MG {x y:Int}(h:decide (x>0)=false) (h2:decide (y<0)=false):Dr x y=0∧Dz x y=(x==0&&y==0):=by
 unfold Dr Dz;rw[if_neg (by simpa using h),if_neg (by simpa using h2),h,h2];exact⟨rfl,rfl⟩
theorem wl {x y:Int}:Ok Tryz.prog 231 [.a (([.i .i64 x]++[.i .i64 y]))] [.c (.i .i64 (Dr x y)),.c (.b (Dz x y))]:=by
 refine Ok.fn Tryz.func231 20 [.tmp 2,.tmp 3] rfl<|aa<|ab<|ag<|aa<|aJ<|aa<|ab<|ag ?_
 refine aw rfl (fun hc1=>?_) (fun hc1=>?_)
 ·refine aa<|ab<|ag<|an ?_
  rw[(Uh hc1).1,(Uh hc1).2]
  exact aq (aE (aE ae))
 ·refine aa<|ab<|ag ?_
  refine aw rfl (fun hc2=>?_) (fun hc2=>?_)
  ·refine aa<|ab<|ag<|an ?_
   rw[(T6 hc1 hc2).1,(T6 hc1 hc2).2]
   exact aq (aE (aE ae))
  ·refine ao<|aa<|aR 10 rfl rfl<|ap 3 ?_
   refine fb (bN rfl) (fun c3 hb3=>?_)
   cases c3
   ·refine bk<|az<|ar<|an ?_
    rw[(MG hc1 hc2).1,(MG hc1 hc2).2,hb3,Bool.false_and]
    exact aq (aE (aE ae))
   ·refine bk<|az<|ar<|an ?_
    rw[(MG hc1 hc2).1,(MG hc1 hc2).2,hb3,Bool.true_and]
    exact aq (aE (aE ae))
def qk (x y:Int) (k:Nat):Int:=if k=0 then x else y
theorem EZ {x y:Int}{k:Nat}(h:k<2):([CellD.i .i64 x,.i .i64 y])[k*1]? =some (.i .i64 (qk x y k)):=by
 have:k=0∨k=1:=by omega
 rcases this with rfl|rfl<;>rfl
theorem IE {x y:Int}{k:Nat}(h0: -2305843009213693952≤x) (h1:x≤2305843009213693952) (h2: -2305843009213693952≤y) (h3:y≤2305843009213693952): -2305843009213693952≤qk x y k∧qk x y k≤2305843009213693952:=by
 unfold qk;split<;>omega
def wm (x y u v:Int):Nat→Int
 |0=>2305843009213693952
 |n+1=>min (wm x y u v n) (jK (qk x y (n/2)) (qk u v (n%2)))
def t9 (x y u v:Int):Nat→Int
 |0=> -2305843009213693952
 |n+1=>max (t9 x y u v n) (jJ (qk x y (n/2)) (qk u v (n%2)))
def rF (x y u v:Int):Nat→Bool
 |0=>true
 |n+1=>rF x y u v n&&mH (qk x y (n/2)) (qk u v (n%2))
theorem JR {x y:Int}(h:mH x y=true): ¬qH x y=true:=by
 unfold mH at h
 rw[Bool.and_eq_true] at h
 intro e
 rw[e] at h
 exact absurd h.1 (by decide)
theorem JA {x y u v:Int}{n:Nat}(h:rF x y u v n=false) (m:Nat):rF x y u v (n+m)=false:=by
 induction m with
 |zero=>exact h
 |succ m ih=>show(rF x y u v (n+m)&&_)=false;rw[ih];rfl
theorem Om {x y u v:Int}{k j:Nat}(hj:j<2) (h:mH (qk x y k) (qk u v j)=true):min (wm x y u v (2*k+j)) (if qH (qk x y k) (qk u v j) then 0 else jK (qk x y k) (qk u v j))=wm x y u v (2*k+(j+1)):=by
 rw[if_neg (JR h)]
 show _=min (wm x y u v (2*k+j)) (jK (qk x y ((2*k+j)/2)) (qk u v ((2*k+j)%2)))
 rw[show(2*k+j)/2=k from by omega,show(2*k+j)%2=j from by omega]
theorem Mv {x y u v:Int}{k j:Nat}(hj:j<2) (h:mH (qk x y k) (qk u v j)=true):max (t9 x y u v (2*k+j)) (if qH (qk x y k) (qk u v j) then 0 else jJ (qk x y k) (qk u v j))=t9 x y u v (2*k+(j+1)):=by
 rw[if_neg (JR h)]
 show _=max (t9 x y u v (2*k+j)) (jJ (qk x y ((2*k+j)/2)) (qk u v ((2*k+j)%2)))
 rw[show(2*k+j)/2=k from by omega,show(2*k+j)%2=j from by omega]
theorem E3 {x y u v:Int}{k j:Nat}(hj:j<2):rF x y u v (2*k+(j+1))=(rF x y u v (2*k+j)&&mH (qk x y k) (qk u v j)):=by
 show(rF x y u v (2*k+j)&&mH (qk x y ((2*k+j)/2)) (qk u v ((2*k+j)%2)))=_
 rw[show(2*k+j)/2=k from by omega,show(2*k+j)%2=j from by omega]
theorem Fv {x y u v:Int}(h0: -2305843009213693952≤x) (h1:x≤2305843009213693952) (h2: -2305843009213693952≤y) (h3:y≤2305843009213693952) (h4: -2305843009213693952≤u) (h5:u≤2305843009213693952) (h6: -2305843009213693952≤v) (h7:v≤2305843009213693952):Ok Tryz.prog 233 [.a (([.i .i64 x]++[.i .i64 y])),.a (([.i .i64 u]++[.i .i64 v]))] [.a (([.i .i64 (if rF x y u v 4 then wm x y u v 4 else 0)]++[.i .i64 (if rF x y u v 4 then t9 x y u v 4 else 0)])),.c (.b (rF x y u v 4))]:=by
 refine Ok.fn Tryz.func233 56 [.cell 4 202,.tmp 5] rfl<|aa<|ab<|al 2<|aC (ai dB rfl) rfl<|ag<|aa<|ab<|ag<|aa<|aa<|ab<|al 4<|jM (gg (us:=[.i .i64 x,.i .i64 y]) Pk rfl rfl (by decide) (by decide) rfl) rfl ?_
 refine ah (eZ E0 rfl rfl) ?_
 refine ag<|aJ<|bD (ι:={k:Nat // k≤2∧rF x y u v (2*k)=true}) (fun i=>⟨56,[(2,.p 2 0),(3,.p 3 0),(4,.p 4 0),(6,.v (.c (.i .i64 (wm x y u v (2*i.1))))),(7,.v (.c (.i .i64 (t9 x y u v (2*i.1))))),(19,.o 19 2 2),(20,.v (.c (.i .i64 (2:Int)))),(21,.v (.c (.i .i64 (i.1:Int))))],[(2,202,([.i .i64 x]++[.i .i64 y])),(3,202,([.i .i64 u]++[.i .i64 v])),(4,202,([.i .i64 0]++[.i .i64 0])),(19,2,[.i .i64 x,.i .i64 y])]⟩) (fun i=>2-i.1) ⟨0,by omega,rfl⟩ (aM ⟨rfl,rfl,rfl,rfl,rfl,rfl,rfl,rfl,trivial⟩ ⟨rfl,rfl,rfl,rfl,trivial⟩ rfl) ?_
 rintro⟨k,hk0,hok⟩
 replace hk0:k≤2:=hk0
 replace hok:rF x y u v (2*k)=true:=hok
 have gx:=IE (k:=k) h0 h1 h2 h3
 show Dw _ _ ⟨56,[(2,.p 2 0),(3,.p 3 0),(4,.p 4 0),(6,.v (.c (.i .i64 (wm x y u v (2*k))))),(7,.v (.c (.i .i64 (t9 x y u v (2*k))))),(19,.o 19 2 2),(20,.v (.c (.i .i64 (2:Int)))),(21,.v (.c (.i .i64 (k:Int))))],[(2,202,([.i .i64 x]++[.i .i64 y])),(3,202,([.i .i64 u]++[.i .i64 v])),(4,202,([.i .i64 0]++[.i .i64 0])),(19,2,[.i .i64 x,.i .i64 y])]⟩ _
 refine aa<|ab<|ag<|aa ?_
 refine aw rfl (fun hc1=>?_) (fun hc1=>?_)
 ·have hk:k<2:=by have:=qN hc1;omega
  refine ao<|aa<|aJ<|aa<|ab<|ah (br E0 rfl rfl (by omega) rfl) ?_
  refine ah (bE Sc rfl rfl (EZ (x:=x) (y:=y) (k:=k) (by omega)) rfl) ?_
  refine ag<|aa<|ab<|al 4<|jM (gg (us:=[.i .i64 u,.i .i64 v]) Pk rfl rfl (by decide) (by decide) rfl) rfl ?_
  refine ah (eZ E0 rfl rfl) ?_
  refine ag<|aJ<|bD (ι:={j:Nat // j≤2∧rF x y u v (2*k+j)=true}) (fun i=>⟨56,[(2,.p 2 0),(3,.p 3 0),(4,.p 4 0),(6,.v (.c (.i .i64 (wm x y u v (2*k+i.1))))),(7,.v (.c (.i .i64 (t9 x y u v (2*k+i.1))))),(19,.o 19 2 2),(20,.v (.c (.i .i64 (2:Int)))),(21,.v (.c (.i .i64 (k:Int)))),(9,.v (.c (.i .i64 (qk x y k)))),(29,.o 29 2 2),(30,.v (.c (.i .i64 (2:Int)))),(31,.v (.c (.i .i64 (i.1:Int))))],[(2,202,([.i .i64 x]++[.i .i64 y])),(3,202,([.i .i64 u]++[.i .i64 v])),(4,202,([.i .i64 0]++[.i .i64 0])),(19,2,[.i .i64 x,.i .i64 y]),(29,2,[.i .i64 u,.i .i64 v])]⟩) (fun i=>2-i.1) ⟨0,by omega,hok⟩ (aM ⟨rfl,rfl,rfl,rfl,rfl,rfl,rfl,rfl,rfl,rfl,rfl,rfl,trivial⟩ ⟨rfl,rfl,rfl,rfl,rfl,trivial⟩ rfl) ?_
  rintro⟨j,hj0,hokj⟩
  replace hj0:j≤2:=hj0
  replace hokj:rF x y u v (2*k+j)=true:=hokj
  have gu:=IE (k:=j) h4 h5 h6 h7
  show Dw _ _ ⟨56,[(2,.p 2 0),(3,.p 3 0),(4,.p 4 0),(6,.v (.c (.i .i64 (wm x y u v (2*k+j))))),(7,.v (.c (.i .i64 (t9 x y u v (2*k+j))))),(19,.o 19 2 2),(20,.v (.c (.i .i64 (2:Int)))),(21,.v (.c (.i .i64 (k:Int)))),(9,.v (.c (.i .i64 (qk x y k)))),(29,.o 29 2 2),(30,.v (.c (.i .i64 (2:Int)))),(31,.v (.c (.i .i64 (j:Int))))],[(2,202,([.i .i64 x]++[.i .i64 y])),(3,202,([.i .i64 u]++[.i .i64 v])),(4,202,([.i .i64 0]++[.i .i64 0])),(19,2,[.i .i64 x,.i .i64 y]),(29,2,[.i .i64 u,.i .i64 v])]⟩ _
  refine aa<|ab<|ag<|aa ?_
  refine aw rfl (fun hc2=>?_) (fun hc2=>?_)
  ·have hj:j<2:=by have:=qN hc2;omega
   refine ao<|aa<|aJ<|aa<|ab<|ah (br E0 rfl rfl (by omega) rfl) ?_
   refine ah (bE Sc rfl rfl (EZ (x:=u) (y:=v) (k:=j) (by omega)) rfl) ?_
   refine ag<|aa<|ab<|al 2<|ah (am rfl (DM (by omega) (by omega) (by omega) (by omega)))<|ag<|aa<|aa<|ab<|ag ?_
   refine aw rfl (fun hc3=>?_) (fun hc3=>?_)
   ·have hbad:rF x y u v 4=false:=by
     have h8:=JA (n:=2*k+(j+1)) (by rw[E3 hj,fM hc3,Bool.and_false]) (4-(2*k+(j+1)))
     rw[show 2*k+(j+1)+(4-(2*k+(j+1)))=4 from by omega] at h8;exact h8
    refine aa<|ab<|ah (aN (us:=([.i .i64 0]++[.i .i64 0])) lk dB rfl rfl rfl) ?_
    refine ag<|an ?_
    rw[hbad,if_neg (by decide),if_neg (by decide)]
    exact aq (a7 gi rfl (aE ae))
   ·have hsc:=dF hc3
    refine ao<|ab<|al 2<|ah (FP rfl rfl rfl) ?_
    refine al 2<|ah (zE rfl rfl rfl) ?_
    refine ag<|ab<|ah (aK (r:=(j:Int)+1) rfl rfl (aQ (by omega) (by omega)) rfl) ?_
    refine ag ?_
    exact⟨⟨j+1,by omega,by rw[E3 hj,hokj,hsc];rfl⟩,aM ⟨rfl,rfl,rfl,by rw[←Om hj hsc];rfl,by rw[←Mv hj hsc];rfl,rfl,rfl,rfl,rfl,rfl,rfl,by rw[show((j+1:Nat):Int)=(j:Int)+1 from by omega];rfl,trivial⟩ ⟨rfl,rfl,rfl,rfl,rfl,trivial⟩ rfl,by show 2-(j+1)<2-j;omega⟩
  ·have hj2:2*k+j=2*k+2:=by have:=li hc2;omega
   refine bj<|ab<|ah (aK (r:=(k:Int)+1) rfl rfl (aQ (by omega) (by omega)) rfl) ?_
   refine ag ?_
   exact⟨⟨k+1,by omega,by rw[show 2*(k+1)=2*k+2 from by omega,←hj2];exact hokj⟩,aM ⟨rfl,rfl,rfl,by rw[show 2*(k+1)=2*k+2 from by omega,←hj2];rfl,by rw[show 2*(k+1)=2*k+2 from by omega,←hj2];rfl,rfl,rfl,by rw[show((k+1:Nat):Int)=(k:Int)+1 from by omega];rfl,trivial⟩ ⟨rfl,rfl,rfl,rfl,trivial⟩ rfl,by show 2-(k+1)<2-k;omega⟩
 ·have hk2:2*k=4:=by have:=li hc1;omega
  refine bj<|aa<|ab<|al 2<|ah (aN (us:=([.i .i64 (wm x y u v (2*k))]++[.i .i64 (t9 x y u v (2*k))])) lk dB rfl rfl rfl) ?_
  refine ag<|an ?_
  rw[hk2] at hok
  have e1:wm x y u v 4=wm x y u v (2*k):=by rw[hk2]
  have e2:t9 x y u v 4=t9 x y u v (2*k):=by rw[hk2]
  rw[hok,if_pos rfl,if_pos rfl,e1,e2]
  exact aq (a7 gi rfl (aE ae))
theorem tH {c:Rat}(h: ¬c<0):0≤gS c:=by
 unfold gS
 have h0:0≤c:=Rat.not_lt.1 h
 have h1:0≤c*((65536:Int):Rat):=Rat.mul_nonneg h0 (by decide)
 have h2:0≤(c*((65536:Int):Rat)).num:=Rat.num_nonneg.2 h1
 have h3:=den_pos (-(c*((65536:Int):Rat)))
 rw[Int.fdiv_eq_ediv_of_nonneg _ (by omega),Rat.neg_num]
 have h4:(-(c*((65536:Int):Rat)).num)/((-(c*((65536:Int):Rat))).den:Int)≤0:=by
  have h5:=Int.ediv_le_ediv h3 (show-(c*((65536:Int):Rat)).num≤0 by omega)
  rw[Int.zero_ediv] at h5;exact h5
 omega
theorem Fm {lo hi:Int}(h:pu lo hi=true): -2305843009213693952≤lo∧hi≤2305843009213693952:=by unfold pu at h;simpa using h
theorem OZ (c:Rat):io c≤gS c:=by
 unfold io gS
 have h3:=den_pos (c*((65536:Int):Rat))
 rw[Rat.neg_num,Rat.neg_den,Int.fdiv_eq_ediv_of_nonneg _ (by omega),Int.fdiv_eq_ediv_of_nonneg _ (by omega)]
 generalize (c*((65536:Int):Rat)).num=n at*
 generalize ((c*((65536:Int):Rat)).den:Int)=d at*
 have e1:=Int.mul_ediv_add_emod n d
 have e2:=Int.mul_ediv_add_emod (-n) d
 have m1:=Int.emod_nonneg n (show d≠0 by omega)
 have m2:=Int.emod_nonneg (-n) (show d≠0 by omega)
 have h4:d*(n/d+(-n)/d)≤d*0:=by rw[Int.mul_add];omega
 have:=Int.le_of_mul_le_mul_left h4 h3
 omega
theorem yD {c:Rat}(h:gh c=true): -2305843009213693952≤io c∧io c≤2305843009213693952∧ -2305843009213693952≤gS c∧gS c≤2305843009213693952:=by
 unfold gh at h
 simp only[Bool.and_eq_true] at h
 have h1:=Fm h.2.2
 have h2:=OZ c
 omega
theorem Jf {x y:Int}(h1:x≤2305843009213693952) (h2:0≤y) (h3:y≤2305843009213693952):0≤mo x∧mo x≤549755813889∧0≤je y∧je y≤549755813889:=by
 have b1:=wk (n:=max x 0) (by omega) (by omega)
 have b2:=wk (n:=y) h2 h3
 unfold mo je
 refine⟨b1.1,by omega,?_,?_⟩<;>split<;>omega
theorem Q0 {x y u v:Int}(n:Nat) (h:rF x y u v n=true): -2305843009213693952≤wm x y u v n∧wm x y u v n≤2305843009213693952∧ -2305843009213693952≤t9 x y u v n∧t9 x y u v n≤2305843009213693952:=by
 induction n with
 |zero=>show _≤(2305843009213693952:Int)∧(2305843009213693952:Int)≤_∧_≤(-2305843009213693952:Int)∧(-2305843009213693952:Int)≤_;omega
 |succ n ih=>
  have h':(rF x y u v n&&mH (qk x y (n/2)) (qk u v (n%2)))=true:=h
  rw[Bool.and_eq_true] at h'
  have i:=ih h'.1
  have s1:=h'.2
  unfold mH at s1
  simp only[Bool.and_eq_true,decide_eq_true_eq] at s1
  show _≤min _ _∧min _ _≤_∧_≤max _ _∧max _ _≤_
  omega
def Me (b c:Rat):Bool:=rF (io b) (gS b) (mo (io c)) (je (gS c)) 4
def zi (b c:Rat):Int:=wm (io b) (gS b) (mo (io c)) (je (gS c)) 4
def y6 (b c:Rat):Int:=t9 (io b) (gS b) (mo (io c)) (je (gS c)) 4
def Na (a b c:Rat):Bool:=gh b&&(gh c&&(!decide (aV c 0<0)&&(Me b c&&pu (io a+zi b c) (gS a+y6 b c))))
def dO (a b c:Rat):Bool:=gh a&&((aV b 0==0)||Na a b c)
def dG (a b c:Rat):Int:=if dO a b c then(if (aV b 0==0)=true then io a else io a+zi b c) else 0
def dH (a b c:Rat):Int:=if dO a b c then(if (aV b 0==0)=true then gS a else gS a+y6 b c) else 0
theorem mT {a b c:Rat}(h:dO a b c=false):dG a b c=0∧dH a b c=0:=by
 unfold dG dH;rw[h];exact⟨rfl,rfl⟩
theorem Vh {a b c:Rat}(h:gh a=false):dO a b c=false:=by unfold dO;rw[h];rfl
theorem M1 {a b c:Rat}(h:(aV b 0==0)=false) (hx:Na a b c=false):dO a b c=false:=by unfold dO;rw[h,hx];cases gh a<;>rfl
theorem T4 {a b c:Rat}(h:gh a=true) (h2:(aV b 0==0)=true):dG a b c=io a∧dH a b c=gS a∧dO a b c=true:=by
 have e:dO a b c=true:=by unfold dO;rw[h,h2];rfl
 unfold dG dH;rw[e,if_pos rfl,if_pos rfl,if_pos h2,if_pos h2];exact⟨rfl,rfl,rfl⟩
theorem TI {a b c:Rat}(h:gh a=true) (h2:(aV b 0==0)=false) (h3:gh b=true) (h4:gh c=true) (h5:decide (aV c 0<0)=false) (h6:Me b c=true):
 dG a b c=(if pu (io a+zi b c) (gS a+y6 b c) then io a+zi b c else 0)∧dH a b c=(if pu (io a+zi b c) (gS a+y6 b c) then gS a+y6 b c else 0)∧dO a b c=pu (io a+zi b c) (gS a+y6 b c):=by
 have e:dO a b c=pu (io a+zi b c) (gS a+y6 b c):=by unfold dO Na;rw[h,h2,h3,h4,h5,h6];rfl
 unfold dG dH;rw[e,h2];exact⟨rfl,rfl,rfl⟩
theorem mg {a b c:Rat}(ha:Rz 40000 a) (hb:Rz 40000 b) (hc:Rz 40000 c):Ok Tryz.prog 223 [.a ((cR a++cR b++cR c))] [.a (([.i .i64 (dG a b c)]++[.i .i64 (dH a b c)])),.c (.b (dO a b c))]:=by
 refine Ok.fn Tryz.func223 72 [.cell 2 202,.tmp 3] rfl<|aa<|ab<|al 1<|aC (ai dB rfl) rfl<|ag<|aa<|ab<|al 1<|ah (aF (cR a) aD rfl)<|ah (am rfl (lv (aX ha)))<|al 3<|aC (ai dB rfl) rfl<|ag ?_
 refine aa<|aa<|ab<|al 2 ?_
 refine cg (bN rfl) (fun c1 hb1=>?_)
 cases c1
 ·have ea:=dF hb1
  refine al 1<|ah (aF (cR b) aD rfl)<|ah (am rfl (dh))<|ag ?_
  refine aw rfl (fun hc2=>?_) (fun hc2=>?_)
  ·obtain⟨w1,w2,w3⟩:=T4 (c:=c) ea hc2
   refine aa<|ab<|ag<|an ?_
   have x1:dG a b c=(if gh a then io a else 0):=by rw[w1,ea];rfl
   have x2:dH a b c=(if gh a then gS a else 0):=by rw[w2,ea];rfl
   have x3:dO a b c=gh a:=by rw[w3,ea]
   rw[x1,x2,x3]
   exact aq (a7 gi rfl (aE ae))
  ·have hb0:=hc2
   refine ao<|aa<|ab<|al 1<|ah (aF (cR b) aD rfl)<|ah (am rfl (lv (aX hb)))<|al 3<|aC (ai dB rfl) rfl<|ag<|aa<|ab<|al 1<|ah (aF (cR c) aD rfl)<|ah (am rfl (lv (aX hc))) ?_
   refine al 3<|aC (ai dB rfl) rfl<|ag<|aa<|aa<|ab<|al 2 ?_
   refine cg (bN rfl) (fun c3 hb3=>?_)
   cases c3
   ·have eb:=dF hb3
    refine al 3 ?_
    refine cg (bN rfl) (fun c4 hb4=>?_)
    cases c4
    ·have ec:=dF hb4
     refine al 1<|ah (aF (cR c) aD rfl)<|ah (am rfl (dh))<|ag ?_
     refine aw rfl (fun hc5=>?_) (fun hc5=>?_)
     ·have hno:dO a b c=false:=M1 hb0 (by unfold Na;rw[hc5,Bool.not_true,Bool.false_and,Bool.and_false,Bool.and_false])
      refine aa<|ab<|ah (aN (us:=([.i .i64 0]++[.i .i64 0])) lk dB rfl rfl rfl) ?_
      refine ag<|an ?_
      rw[(mT hno).1,(mT hno).2,hno]
      exact aq (a7 gi rfl (aE ae))
     ·have hcn:=hc5
      have bA:=yD ea
      have bB:=yD eb
      have bC:=yD ec
      have hH:=tH (c:=c) (xK hc5)
      have bS:=Jf (x:=io c) (y:=gS c) (by omega) hH (by omega)
      refine Dw.weak (σ':=⟨72,[(1,.p 1 0),(2,.p 2 0),(4,.p 4 0),(6,.p 6 0),(7,.p 7 0)],[(1,49,(cR a++cR b++cR c)),(2,202,([.i .i64 0]++[.i .i64 0])),(4,202,([.i .i64 (io a)]++[.i .i64 (gS a)])),(6,202,([.i .i64 (io b)]++[.i .i64 (gS b)])),(7,202,([.i .i64 (io c)]++[.i .i64 (gS c)]))]⟩) (aM ⟨rfl,rfl,rfl,rfl,rfl,trivial⟩ ⟨rfl,rfl,by rw[if_pos ea,if_pos ea];rfl,by rw[if_pos eb,if_pos eb];rfl,by rw[if_pos ec,if_pos ec];rfl,trivial⟩ rfl) ?_
      refine ao<|aa<|aa<|ab<|al 1<|ah (am rfl (CE (by omega) (by omega) (by omega) (by omega) (by omega)))<|ag<|aa<|ab<|ag<|aP rfl<|ao<|aa<|aa ?_
      refine ab<|al 1<|ah (aA gi rfl rfl rfl rfl rfl) ?_
      refine ah (am rfl (Fv (by omega) (by omega) (by omega) (by omega) (by omega) (by omega) (by omega) (by omega)))<|ag<|aa<|ab<|ag ?_
      refine aw rfl (fun hc6=>?_) (fun hc6=>?_)
      ·have hno:dO a b c=false:=M1 hb0 (by unfold Na Me;rw[fM hc6,Bool.false_and,Bool.and_false,Bool.and_false,Bool.and_false])
       refine aa<|ab<|ah (aN (us:=([.i .i64 0]++[.i .i64 0])) lk dB rfl rfl rfl) ?_
       refine ag<|an ?_
       rw[(mT hno).1,(mT hno).2,hno]
       exact aq (a7 gi rfl (aE ae))
      ·have hm:Me b c=true:=dF hc6
       have bM:=Q0 4 hm
       obtain⟨w1,w2,w3⟩:=TI ea hb0 eb ec hcn hm
       refine Dw.weak (σ':=⟨72,[(1,.p 1 0),(2,.p 2 0),(4,.p 4 0),(6,.p 6 0),(7,.p 7 0)],[(1,49,(cR a++cR b++cR c)),(2,202,([.i .i64 0]++[.i .i64 0])),(4,202,([.i .i64 (io a)]++[.i .i64 (gS a)])),(6,202,([.i .i64 (zi b c)]++[.i .i64 (y6 b c)])),(7,202,([.i .i64 (mo (io c))]++[.i .i64 (je (gS c))]))]⟩) (aM ⟨rfl,rfl,rfl,rfl,rfl,trivial⟩ ⟨rfl,rfl,rfl,by rw[if_pos (dF hc6),if_pos (dF hc6)];rfl,rfl,trivial⟩ rfl) ?_
       refine ao<|aa<|ab<|al 2<|ah (am rfl (FV (x:=io a) (y:=gS a) (u:=zi b c) (v:=y6 b c) (by omega) (by omega) (by omega) (by omega) bM.1 bM.2.1 bM.2.2.1 bM.2.2.2))<|ag<|an ?_
       rw[w1,w2,w3]
       exact aq (a7 gi rfl (aE ae))
    ·have hno:dO a b c=false:=M1 hb0 (by unfold Na;rw[fM hb4,Bool.false_and,Bool.and_false])
     refine ag<|bg rfl<|aa<|ab<|ah (aN (us:=([.i .i64 0]++[.i .i64 0])) lk dB rfl rfl rfl) ?_
     refine ag<|an ?_
     rw[(mT hno).1,(mT hno).2,hno]
     exact aq (a7 gi rfl (aE ae))
   ·have hno:dO a b c=false:=M1 hb0 (by unfold Na;rw[fM hb3];rfl)
    refine ag<|bg rfl<|aa<|ab<|ah (aN (us:=([.i .i64 0]++[.i .i64 0])) lk dB rfl rfl rfl) ?_
    refine ag<|an ?_
    rw[(mT hno).1,(mT hno).2,hno]
    exact aq (a7 gi rfl (aE ae))
 ·refine ag<|bg rfl<|aa<|ab<|ag<|an ?_
  have hno:dO a b c=false:=Vh (fM hb1)
  have x1:dG a b c=(if gh a then io a else 0):=by rw[(mT hno).1,fM hb1];rfl
  have x2:dH a b c=(if gh a then gS a else 0):=by rw[(mT hno).2,fM hb1];rfl
  have x3:dO a b c=gh a:=by rw[hno,fM hb1]
  rw[x1,x2,x3]
  exact aq (a7 gi rfl (aE ae))
def DT (o1 o2:Bool) (l1 h1 l2 h2:Int):Int:=if (o1&&o2)=true then(if decide (h1<l2)=true then-1 else if decide (l1>h2)=true then 1 else 0) else 0
def BS (o1 o2:Bool) (l1 h1 l2 h2:Int):Bool:=(o1&&o2)&&(decide (h1<l2)||decide (l1>h2))
theorem wZ {a b c d e f:Rat}(ha:Rz 40000 a) (hb:Rz 40000 b) (hc:Rz 40000 c) (hd:Rz 40000 d) (he:Rz 40000 e) (hf:Rz 40000 f):Ok Tryz.prog 146 [.a ((cR a++cR b++cR c)),.a ((cR d++cR e++cR f))] [.c (.i .i64 (DT (dO a b c) (dO d e f) (dG a b c) (dH a b c) (dG d e f) (dH d e f))),.c (.b (BS (dO a b c) (dO d e f) (dG a b c) (dH a b c) (dG d e f) (dH d e f)))]:=by
 refine Ok.fn Tryz.func146 39 [.tmp 4,.tmp 5] rfl<|aa<|ab<|ag<|aa<|ab<|al 1<|ah (am rfl (mg (by assumption) (by assumption) (by assumption)))<|al 3<|aC (ai dB rfl) rfl<|ag<|aa<|ab<|al 1 ?_
 refine ah (am rfl (mg (by assumption) (by assumption) (by assumption)))<|al 3<|aC (ai dB rfl) rfl<|ag<|aa<|aJ<|aa<|ab<|al 2 ?_
 refine cg (bN rfl) (fun c1 hb1=>?_)
 cases c1
 ·refine ag ?_
  refine aw rfl (fun hc2=>?_) (fun hc2=>?_)
  ·refine aa<|ab<|ag<|an ?_
   rw[show DT (dO a b c) (dO d e f) (dG a b c) (dH a b c) (dG d e f) (dH d e f)=0 from by unfold DT;rw[dF hb1,fM hc2];rfl,show BS (dO a b c) (dO d e f) (dG a b c) (dH a b c) (dG d e f) (dH d e f)=false from by unfold BS;rw[dF hb1,fM hc2];rfl]
   exact aq (aE (aE ae))
  ·refine aa<|ab<|ag ?_
   refine aw rfl (fun hc3=>?_) (fun hc3=>?_)
   ·refine aa<|ab<|ag<|an ?_
    rw[show DT (dO a b c) (dO d e f) (dG a b c) (dH a b c) (dG d e f) (dH d e f)= -1 from by unfold DT;rw[dF hb1,dF hc2,hc3];rfl,show BS (dO a b c) (dO d e f) (dG a b c) (dH a b c) (dG d e f) (dH d e f)=true from by unfold BS;rw[dF hb1,dF hc2,hc3];rfl]
    exact aq (aE (aE ae))
   ·refine aa<|ab<|ag ?_
    refine aw rfl (fun hc4=>?_) (fun hc4=>?_)
    ·refine aa<|ab<|ag<|an ?_
     rw[show DT (dO a b c) (dO d e f) (dG a b c) (dH a b c) (dG d e f) (dH d e f)=1 from by unfold DT;rw[dF hb1,dF hc2,hc3,hc4];rfl,show BS (dO a b c) (dO d e f) (dG a b c) (dH a b c) (dG d e f) (dH d e f)=true from by unfold BS;rw[dF hb1,dF hc2,hc3,hc4];rfl]
     exact aq (aE (aE ae))
    ·refine ao<|aa<|ab<|ag<|an ?_
     rw[show DT (dO a b c) (dO d e f) (dG a b c) (dH a b c) (dG d e f) (dH d e f)=0 from by unfold DT;rw[dF hb1,dF hc2,hc3,hc4];rfl,show BS (dO a b c) (dO d e f) (dG a b c) (dH a b c) (dG d e f) (dH d e f)=false from by unfold BS;rw[dF hb1,dF hc2,hc3,hc4];rfl]
     exact aq (aE (aE ae))
 ·refine ag<|bg rfl<|aa<|ab<|ag<|an ?_
  rw[show DT (dO a b c) (dO d e f) (dG a b c) (dH a b c) (dG d e f) (dH d e f)=0 from by unfold DT;rw[fM hb1];rfl,show BS (dO a b c) (dO d e f) (dG a b c) (dH a b c) (dG d e f) (dH d e f)=false from by unfold BS;rw[fM hb1];rfl]
  exact aq (aE (aE ae))
theorem vi (w:World) (b:Nat) (v:Value) (U T:TypeId) (cs ds:Array Value) (u:Value) (hlt:b<w.heap.size) (hb:w.heap[b]? =some (.cells #[u] T (0,0))):
 (((w.setCell ⟨b,0,none⟩ v).alloc (.cells cs U)).alloc (.cells ds U)).heap[w.heap.size+1]? =some (.cells ds U (0,0))∧
 (((w.setCell ⟨b,0,none⟩ v).alloc (.cells cs U)).alloc (.cells ds U)).heap[b]? =some (.cells #[v] T (0,0))∧Mid b w (((w.setCell ⟨b,0,none⟩ v).alloc (.cells cs U)).alloc (.cells ds U)):=by
 have hs:(w.setCell ⟨b,0,none⟩ v).heap.size=w.heap.size:=by simp
 refine⟨?_,?_,?_⟩
 ·have:=heap_alloc_new ((w.setCell ⟨b,0,none⟩ v).alloc (.cells cs U)) (.cells ds U)
  rw[fY,hs] at this
  exact this
 ·rw[Below.heap_alloc _ _ _ (by rw[fY,hs];omega),Below.heap_alloc _ _ _ (by rw[hs];omega)]
  exact heap_setCell_same w b 0 #[u] T v hb
 ·refine⟨rfl,rfl,rfl,by rw[fY,fY,hs];omega,fun c hc hne=>?_⟩
  rw[Below.heap_alloc _ _ _ (by rw[fY,hs];omega),Below.heap_alloc _ _ _ (by rw[hs];omega)]
  exact heap_setCell_other w ⟨b,0,none⟩ c v hne
set_option maxRecDepth 10000 in
theorem Ld (b:Nat) (ok c:Bool) (lo hi:Int) (w:World) (hb:w.heap[b]? =some (.cells #[.bool ok] 233 (0,0))):
 Calls Tryz.prog 279 #[.pointer (some ⟨b,0,none⟩),.agg #[.int .i64 lo,.int .i64 hi],.bool c] w fun e w'=>
  e=.returned (.agg #[.int .i64 lo,.int .i64 hi])∧w'.heap[b]? =some (.cells #[.bool (ok&&c)] 233 (0,0))∧Mid b w w':=by
 have hlt:b<w.heap.size:=(Array.getElem?_eq_some_iff.1 hb).1
 have e1:((w.alloc (.cells #[.int .i64 lo,.int .i64 hi] 202)).alloc (.cells #[.int .i64 0,.int .i64 0] 202)).heap[b]? =some (.cells #[.bool ok] 233 (0,0)):=by
  rw[Below.heap_alloc _ _ _ (by simp;omega),Below.heap_alloc _ _ _ hlt];exact hb
 have c1:((w.alloc (.cells #[.int .i64 lo,.int .i64 hi] 202)).alloc (.cells #[.int .i64 0,.int .i64 0] 202)).cell? ⟨b,0,none⟩=some (.bool ok):=(cE e1 0).trans rfl
 have f0:w.frozen? ⟨b,0,none⟩=false:=Bk.frozen (t:=233) (cs:= #[.bool ok]) hb 0
 cases ok
 ·go_enter Tryz.func279,Tryz.ntmps279
  go_wp2_with fail
  obtain⟨h1,h2,h3⟩:=vi w b (.bool false) 202 233 #[.int .i64 lo,.int .i64 hi] #[.int .i64 lo,.int .i64 hi] _ hlt hb
  have k0:=(cE h1 0).trans rfl
  have k1:=(cE h1 1).trans rfl
  refine⟨rfl,.agg #[.int .i64 lo,.int .i64 hi],?_,rfl,h2,h3⟩
  simp[results,Tryz.results279,go_sem,k0,k1]
  try rfl
 ·go_enter Tryz.func279,Tryz.ntmps279
  go_wp2_with fail
  obtain⟨h1,h2,h3⟩:=vi w b (.bool c) 202 233 #[.int .i64 lo,.int .i64 hi] #[.int .i64 lo,.int .i64 hi] _ hlt hb
  have k0:=(cE h1 0).trans rfl
  have k1:=(cE h1 1).trans rfl
  refine⟨rfl,.agg #[.int .i64 lo,.int .i64 hi],?_,rfl,h2,h3⟩
  simp[results,Tryz.results279,go_sem,k0,k1]
  try rfl
structure OkP (P:Program) (f:FuncId) (U:TypeId) (cs0 cs1:List CellD) (ds rs:List D0):Prop where
 cal:fg P f=true
 run: ∀(V:Nat→Prop) (b:Nat) (bs:Array Value) (vs:Array Value) (vl:List Value) (w:World),vs.toList=.pointer (some ⟨b,0,none⟩)::vl→(∀c,V c→c<w.heap.size)→V b→w.heap[b]? =some (.cells bs U (0,0))→RdCs V w bs.toList cs0→RdL V w vl ds→
  Calls P f vs w fun e w'=> ∃v,∃bs':Array Value,e=.returned v∧w'.heap[b]? =some (.cells bs' U (0,0))∧Mid b w w'∧RdCs V w' bs'.toList cs1∧OY V w' v rs
section
variable {P:Program}{ops:Array Oper}{T:TF}{B:BF}
theorem e8 {fo x:Operand}{xs:List Operand}{args:Array Operand}{at_:Array TypeId}{f:FuncId}{k:Nat}{U:TypeId}{cs0 cs1:List CellD}{ds rs:List D0}
 (hf:di T fo=some (.v (.c (.f f)))) (hargs:args.toList=x::xs) (hx:di T x=some (.p k 0)) (ha:nI T xs=some ds) (hb:B k=some (U,cs0)) (hok:OkP P f U cs0 cs1 ds rs) (hg:gd ops ⟨dst,.call ⟨.value fo,args,at_⟩,ty,pos,af,g⟩ T=some true):
 Sem P ops ⟨dst,.call ⟨.value fo,args,at_⟩,ty,pos,af,g⟩ T B (.rs k U cs1 (s8 rs)):=by
 refine⟨by unfold s8;split<;>rfl,⟨_,hb⟩,fun V β a w hs=>⟨d8 hs hg,?_⟩⟩
 have hin: ∀y∈x::xs,y∈(⟨dst,.call ⟨.value fo,args,at_⟩,ty,pos,af,g⟩:Oper).op.operands:=fun y hy=>by
  have hx2:y∈args:=Array.mem_toList_iff.1 (by rw[hargs];exact hy)
  simp[Op.operands,Call.operands,hx2]
 have h1:=RdC.func_eq (aS hs (x:=fo) (by simp[Op.operands,Call.operands]) hf)
 have h2:=gU hs xs ds (fun y hy=>hin y (List.mem_cons_of_mem _ hy)) ha
 have h3:a.eval x=.pointer (some ⟨β k,0,none⟩):=aS hs (hin x (List.mem_cons_self ..)) hx
 obtain⟨hV,bs,e,hr⟩:=hs.box k U cs0 hb
 have hc:=hok.cal
 unfold fg at hc
 cases hfn:P.funcs[f]? with
 |none=>rw[hfn] at hc;cases hc
 |some fn=>
  rw[hfn] at hc
  simp only[Bool.and_eq_true,bne_iff_ne,ne_eq,Bool.not_eq_true'] at hc
  have hrun:(execOp a.eval ⟨dst,.call ⟨.value fo,args,at_⟩,ty,pos,af,g⟩).run P w=.ok (.enter f (args.map a.eval)) w:=by
   have hb2:fn.body≠none:=by have:=hc.2;cases hbb:fn.body with
    |none=>rw[hbb] at this;cases this
    |some c=>simp
   simp[execOp,resolve,h1,Deferred.ofValue,invoke,callFunc,program,Sem.run,hfn,hc.1,hb2]
  unfold Gives
  rw[hrun]
  refine(hok.run V (β k) bs (args.map a.eval) (xs.map a.eval) w (by rw[Array.toList_map,hargs,List.map_cons,h3]) hs.av hV e hr h2).mono ?_
  rintro e w' ⟨v,bs',rfl,hbl,hm,hr1,hr2⟩
  refine⟨v,rfl,bs',hbl,hm,hr1,?_⟩
  unfold OY at hr2
  split at hr2
  ·exact hr2
  ·rename_i hne
   have e2:s8 rs=.t rs:=by
    unfold s8
    split
    ·rename_i d;exact absurd rfl (hne d)
    ·rfl
   rw[e2];exact hr2
theorem oW {x:Operand}{k off:Nat}
 (hx:di T x=some (.p k off)) (hg:gd ops ⟨dst,.nilCheck x,ty,pos,af,g⟩ T=some true):Sem P ops ⟨dst,.nilCheck x,ty,pos,af,g⟩ T B (.r (.p k off)):=
 bO hg (fun l e=>mX (ops:=ops) (o:=⟨dst,.nilCheck x,ty,pos,af,g⟩) (by simp[Op.operands]) hx e)
  (fun V β a w hs=>by
   have hp:a.eval x=.pointer (some ⟨β k,off,none⟩):=aS hs (x:=x) (by simp[Op.operands]) hx
   exact⟨_,by simp[execOp,hp],rfl⟩)
end
theorem Mw (ok c:Bool) (lo hi:Int):OkP Tryz.prog 279 233 [.b ok] [.b (ok&&c)] [.a [.i .i64 lo,.i .i64 hi],.c (.b c)] [.a [.i .i64 lo,.i .i64 hi]]:=
 ⟨by kernel_rfl,fun V b bs vs vl w hvs hV hb hbl hcs hds=>by
  obtain⟨vs⟩:=vs
  replace hvs:vs=_:=hvs
  subst hvs
  match vl,hds with
  |[],hds=>have:=hds.1;simp at this
  |v1::vl,hds=>
  obtain⟨h1,hds⟩:=hds.uncons
  match vl,hds with
  |[],hds=>have:=hds.1;simp at this
  |v2::vl,hds=>
  obtain⟨h2,hds⟩:=hds.uncons
  have hn:vl=[]:=List.length_eq_zero_iff.1 hds.1
  subst hn
  have h2:=RdC.bool_eq h2
  subst h2
  obtain⟨cs,rfl,h1⟩:=h1
  obtain⟨cs⟩:=cs
  obtain⟨bs⟩:=bs
  match cs,h1 with
  |[],h1=>have:=h1.1;simp at this
  |x1::cs,h1=>
  obtain⟨g1,h1⟩:=h1.uncons
  match cs,h1 with
  |[],h1=>have:=h1.1;simp at this
  |x2::cs,h1=>
  obtain⟨g2,h1⟩:=h1.uncons
  have hn:cs=[]:=List.length_eq_zero_iff.1 h1.1
  subst hn
  have g1:=RdC.int_eq g1
  have g2:=RdC.int_eq g2
  subst g1 g2
  match bs,hcs with
  |[],hcs=>have:=hcs.1;simp at this
  |y1::bs,hcs=>
  obtain⟨g3,hcs⟩:=hcs.uncons
  have hn:bs=[]:=List.length_eq_zero_iff.1 hcs.1
  subst hn
  have g3:=RdC.bool_eq g3
  subst g3
  refine(Ld b ok c lo hi w hbl).mono ?_
  rintro e w' ⟨rfl,h3,h4⟩
  exact⟨_,_,rfl,h3,h4,RdCs.cons (.b _) RdCs.nil,_,rfl,RdCs.cons (.i _ _) (RdCs.cons (.i _ _) RdCs.nil)⟩⟩
def Bd (x:Int):Prop:= -2305843009213693952≤x∧x≤2305843009213693952
theorem Bd.zero:Bd 0:=by unfold Bd;omega
def gL (e:Rat):Int:=if gh e then io e else 0
def gH (e:Rat):Int:=if gh e then gS e else 0
theorem m8 (e:Rat):Bd (gL e):=by
 unfold gL;split
 ·rename_i h;have:=yD h;exact⟨this.1,this.2.1⟩
 ·exact Bd.zero
theorem mS (e:Rat):Bd (gH e):=by
 unfold gH;split
 ·rename_i h;have:=yD h;exact⟨this.2.2.1,this.2.2.2⟩
 ·exact Bd.zero
theorem xy (e:Rat):gL e≤gH e:=by
 unfold gL gH;split
 ·exact OZ e
 ·exact Int.le_refl _
theorem Fu {e:Rat}(h: ¬e<0): ¬gH e<0:=by
 unfold gH;split
 ·have:=tH h;omega
 ·omega
theorem FZ (e:Rat):Bd (mo (gL e)):=by
 have:=Jf (x:=gL e) (y:=0) (m8 e).2 (by omega) (by omega)
 unfold Bd;omega
theorem FK {e:Rat}(h: ¬e<0):Bd (je (gH e)):=by
 have:=Jf (x:=0) (y:=gH e) (by omega) (by have:=Fu h;omega) (mS e).2
 unfold Bd;omega
theorem T8 (x y:Int):jK x y≤jJ x y:=by
 have h:HI x y/65536≤wP (HI x y):=by unfold wP;split<;>omega
 unfold jK jJ;split<;>omega
theorem Ul (x y u v:Int):wm x y u v 4≤t9 x y u v 4:=by
 exact Int.le_trans (Int.min_le_right _ _) (Int.le_trans (T8 _ _) (Int.le_max_right _ _))
def pL (x y u v:Int):Int:=if rF x y u v 4 then wm x y u v 4 else 0
def pH (x y u v:Int):Int:=if rF x y u v 4 then t9 x y u v 4 else 0
theorem vV (x y u v:Int):Bd (pL x y u v):=by
 unfold pL;split
 ·rename_i h;have:=Q0 4 h;exact⟨this.1,this.2.1⟩
 ·exact Bd.zero
theorem wV (x y u v:Int):Bd (pH x y u v):=by
 unfold pH;split
 ·rename_i h;have:=Q0 4 h;exact⟨this.2.2.1,this.2.2.2⟩
 ·exact Bd.zero
theorem tj (x y u v:Int):pL x y u v≤pH x y u v:=by
 unfold pL pH;split
 ·exact Ul x y u v
 ·exact Int.le_refl _
def aL (x y u v:Int):Int:=if pu (x+u) (y+v) then x+u else 0
def aH (x y u v:Int):Int:=if pu (x+u) (y+v) then y+v else 0
theorem Bb {x y u v:Int}(h:x≤y) (h2:u≤v):Bd (aL x y u v):=by
 unfold aL;split
 ·rename_i h3;have:=Fm h3;unfold Bd;omega
 ·exact Bd.zero
theorem AS {x y u v:Int}(h:x≤y) (h2:u≤v):Bd (aH x y u v):=by
 unfold aH;split
 ·rename_i h3;have:=Fm h3;unfold Bd;omega
 ·exact Bd.zero
theorem fI {e:Rat}(h:Rz 40000 e):Ok Tryz.prog 228 [dR e] [.a ([.i .i64 (gL e)]++[.i .i64 (gH e)]),.c (.b (gh e))]:=lv h
theorem A8 {e:Rat}(h: ¬e<0):Ok Tryz.prog 278 [.a ([.i .i64 (gL e)]++[.i .i64 (gH e)])] [.a ([.i .i64 (mo (gL e))]++[.i .i64 (je (gH e))]),.c (.b true)]:=
 CE (m8 e).1 (m8 e).2 (mS e).1 (mS e).2 (Fu h)
theorem oV {x y u v:Int}(h1:Bd x) (h2:Bd y) (h3:Bd u) (h4:Bd v):Ok Tryz.prog 233 [.a ([.i .i64 x]++[.i .i64 y]),.a ([.i .i64 u]++[.i .i64 v])] [.a ([.i .i64 (pL x y u v)]++[.i .i64 (pH x y u v)]),.c (.b (rF x y u v 4))]:=
 Fv h1.1 h1.2 h2.1 h2.2 h3.1 h3.2 h4.1 h4.2
theorem mR {x y u v:Int}(h1:Bd x) (h2:Bd y) (h3:Bd u) (h4:Bd v):Ok Tryz.prog 229 [.a ([.i .i64 x]++[.i .i64 y]),.a ([.i .i64 u]++[.i .i64 v])] [.a ([.i .i64 (aL x y u v)]++[.i .i64 (aH x y u v)]),.c (.b (pu (x+u) (y+v)))]:=
 FV h1.1 h1.2 h2.1 h2.2 h3.1 h3.2 h4.1 h4.2
theorem fN {ok c:Bool}{x y:Int}:OkP Tryz.prog 279 233 [.b ok] [.b (ok&&c)] [.a ([.i .i64 x]++[.i .i64 y]),.c (.b c)] [.a ([.i .i64 x]++[.i .i64 y])]:=Mw ok c x y
def Pe (B M:Rat):Int:=pL (gL B) (gH B) (mo (gL M)) (je (gH M))
def Pn (B M:Rat):Int:=pH (gL B) (gH B) (mo (gL M)) (je (gH M))
def V0 (B M:Rat):Bool:=rF (gL B) (gH B) (mo (gL M)) (je (gH M)) 4
def NB (M N:Rat):Int:=pL (mo (gL M)) (je (gH M)) (mo (gL N)) (je (gH N))
def Or (M N:Rat):Int:=pH (mo (gL M)) (je (gH M)) (mo (gL N)) (je (gH N))
def UQ (M N:Rat):Bool:=rF (mo (gL M)) (je (gH M)) (mo (gL N)) (je (gH N)) 4
def UK (D M N:Rat):Int:=pL (gL D) (gH D) (NB M N) (Or M N)
def UM (D M N:Rat):Int:=pH (gL D) (gH D) (NB M N) (Or M N)
def Wb (D M N:Rat):Bool:=rF (gL D) (gH D) (NB M N) (Or M N) 4
def M9 (A B M:Rat):Int:=aL (gL A) (gH A) (Pe B M) (Pn B M)
def Mi (A B M:Rat):Int:=aH (gL A) (gH A) (Pe B M) (Pn B M)
def Vm (A B M:Rat):Bool:=pu (gL A+Pe B M) (gH A+Pn B M)
def MR (C D M N:Rat):Int:=aL (Pe C N) (Pn C N) (UK D M N) (UM D M N)
def N9 (C D M N:Rat):Int:=aH (Pe C N) (Pn C N) (UK D M N) (UM D M N)
def Vz (C D M N:Rat):Bool:=pu (Pe C N+UK D M N) (Pn C N+UM D M N)
def Uy (A B C D M N:Rat):Int:=aL (M9 A B M) (Mi A B M) (MR C D M N) (N9 C D M N)
def UF (A B C D M N:Rat):Int:=aH (M9 A B M) (Mi A B M) (MR C D M N) (N9 C D M N)
def V3 (A B C D M N:Rat):Bool:=pu (M9 A B M+MR C D M N) (Mi A B M+N9 C D M N)
def P3 (M N:Rat):Bool:=gh M&&gh N
def P4 (B C D M N:Rat):Bool:=P3 M N&&(gh B&&(V0 B M&&(gh C&&(V0 C N&&(gh D&&(UQ M N&&Wb D M N))))))
def F3 (A B C D M N:Rat):Bool:=P4 B C D M N&&(gh A&&(Vm A B M&&(Vz C D M N&&V3 A B C D M N)))
def L8 (A B C D M N:Rat):Bool:=F3 A B C D M N&&Dz (Uy A B C D M N) (UF A B C D M N)
def PK (A B C D M N:Rat):Int:=if F3 A B C D M N then Dr (Uy A B C D M N) (UF A B C D M N) else 0
theorem yg {A B C D M N:Rat}(h:F3 A B C D M N=false):PK A B C D M N=0∧L8 A B C D M N=false:=by
 unfold PK L8;rw[h];exact⟨rfl,rfl⟩
theorem DS {A B C D M N:Rat}(h:F3 A B C D M N=true):PK A B C D M N=Dr (Uy A B C D M N) (UF A B C D M N)∧L8 A B C D M N=Dz (Uy A B C D M N) (UF A B C D M N):=by
 unfold PK L8;rw[h];exact⟨rfl,rfl⟩
theorem J0 {A B C D M N:Rat}(h:P4 B C D M N=false):F3 A B C D M N=false:=by unfold F3;rw[h];rfl
theorem PS {A B C D M N:Rat}(h:P3 M N=false):F3 A B C D M N=false:=J0 (by unfold P4;rw[h];rfl)
theorem Dl {b c:Bool}(h:(!b)=true) (e:c=b):c=false:=by rw[e];simpa using h
theorem PL {b c:Bool}(h:(!b)=false) (e:c=b):c=true:=by rw[e];simpa using h
end Go.Proofs.YtkmdgigkbhmilaaGreat
