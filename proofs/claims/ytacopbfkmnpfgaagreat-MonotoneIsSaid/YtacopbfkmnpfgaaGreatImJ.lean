/-Roots and points in reduced form:the reference. -/
import Derived.Test.YtacopbfkmnpfgaaGreatImI
import Derived.Test.YtacopbfkmnpfgaaGreatProg
namespace Go.Proofs.YtacopbfkmnpfgaaGreat
open Go Go.RowKit
def pA (a b c p q r:Rat):Int:=iH (a-p) b (-q) 0 (zc b c) (zc q r)
def jj (a1 b1 a2 b2 c p1 q1 p2 q2 r:Rat):Int:=if pA a1 b1 c p1 q1 r≠0 then pA a1 b1 c p1 q1 r else pA a2 b2 c p2 q2 r
theorem Kk {a1 b1 a2 b2 c p1 q1 p2 q2 r:Rat}(h:(pA a1 b1 c p1 q1 r !=0)=true):jj a1 b1 a2 b2 c p1 q1 p2 q2 r=pA a1 b1 c p1 q1 r:=by unfold jj;rw[if_pos (by simpa using h)]
theorem JE {a1 b1 a2 b2 c p1 q1 p2 q2 r:Rat}(h:(pA a1 b1 c p1 q1 r !=0)=false):jj a1 b1 a2 b2 c p1 q1 p2 q2 r=pA a2 b2 c p2 q2 r:=by unfold jj;rw[if_neg (by simpa using h)]
theorem Rz.zero {k:Nat}(hk:1≤k):Rz k (0:Rat):=⟨⟨by have:=dd k;rw[Rat.zero_num];omega,by have:=dd k;rw[Rat.zero_num];omega⟩,by rw[Rat.zero_den];exact Sz.one hk⟩
theorem Rz.zc {k:Nat}{b c:Rat}(h:Rz k c) (hk:1≤k):Rz k (zc b c):=by
 unfold Go.Proofs.YtacopbfkmnpfgaaGreat.zc
 split
 ·exact Rz.zero hk
 ·exact h
def rt (c:Rat):Rat:=Rat.divInt (bD c.num) (bD (c.den:Int))
theorem JX {c:Rat}(h:iD c=true):dQ (if iD c then bD c.num else 0) (if iD c then bD (c.den:Int) else 0)=dR (rt c):=by
 rw[if_pos h,if_pos h]
 unfold iD rH at h
 simp only[Bool.and_eq_true,beq_iff_eq] at h
 obtain⟨h1,h2⟩:=h
 have n0:=eE c.num
 have d0:=eE (c.den:Int)
 have dp:=den_pos c
 have hd:0<bD (c.den:Int):=by
  rcases Int.lt_trichotomy 0 (bD (c.den:Int)) with e|e|e
  ·exact e
  ·rw[←e] at h2;simp at h2;omega
  ·omega
 have hg:Int.gcd (bD c.num) (bD (c.den:Int))=1:=by
  have hr:Int.gcd c.num (c.den:Int)=1:=c.reduced
  have d1:Int.gcd (bD c.num) (bD (c.den:Int))∣Int.gcd c.num (c.den:Int):=by
   refine Int.dvd_gcd ?_ ?_
   ·have t:((Int.gcd (bD c.num) (bD (c.den:Int)):Nat):Int)∣bD c.num*bD c.num:=Int.dvd_mul_of_dvd_left (Int.gcd_dvd_left ..)
    rw[h1] at t;exact t
   ·have t:((Int.gcd (bD c.num) (bD (c.den:Int)):Nat):Int)∣bD (c.den:Int)*bD (c.den:Int):=Int.dvd_mul_of_dvd_left (Int.gcd_dvd_right ..)
    rw[h2] at t;exact t
  rw[hr] at d1
  exact Nat.dvd_one.1 d1
 unfold rt
 exact(r7 hd (by rw[hg];rfl)).symm
def Lz (x:Nat→Rat):Prop:= ∀e:Rat,0<e→ ∃K:Nat,∀i j,K≤i→K≤j→x i-x j≤e
def yr (x:Nat→Rat):Prop:= ∃e:Rat,0<e∧ ∃K:Nat,∀k,K≤k→e≤x k
def DF (x:Nat→Rat):Prop:= ∀e:Rat,0<e→ ∃K:Nat,∀k,K≤k→ -e≤x k∧x k≤e
structure Re where
 s:Nat→Rat
 c:Lz s
theorem Re.ext {x y:Re}(h: ∀k,x.s k=y.s k):x=y:=by
 cases x;cases y
 have:_=_:=funext h
 subst this;rfl
theorem jg {e:Rat}(h:0<e):0<e/2:=by grind
theorem yC {e B:Rat}(h:0<e) (h2:0<B):0<e/B∧B*(e/B)=e:=by
 refine⟨?_,by grind⟩
 rw[Rat.div_def]
 exact Rat.mul_pos h (Rat.inv_pos.2 h2)
theorem Re.bnd (x:Re): ∃B:Rat,0<B∧ ∃K:Nat,∀k,K≤k→ -B≤x.s k∧x.s k≤B:=by
 obtain⟨K,h⟩:=x.c 1 (by decide)
 by_cases hs:0≤x.s K
 ·exact⟨x.s K+1,by grind,K,fun k hk=>by have h1:=h k K hk (Nat.le_refl _);have h2:=h K k (Nat.le_refl _) hk;constructor<;>grind⟩
 ·exact⟨1-x.s K,by grind,K,fun k hk=>by have h1:=h k K hk (Nat.le_refl _);have h2:=h K k (Nat.le_refl _) hk;constructor<;>grind⟩
theorem vg (q:Rat):Lz (fun _=>q):=fun e he=>⟨0,fun i j _ _=>by grind⟩
theorem Lf {x y:Nat→Rat}(hx:Lz x) (hy:Lz y):Lz (fun k=>x k+y k):=fun e he=>by
 obtain⟨K,h⟩:=hx (e/2) (jg he)
 obtain⟨L,g⟩:=hy (e/2) (jg he)
 exact⟨max K L,fun i j hi hj=>by have h1:=h i j (by omega) (by omega);have h2:=g i j (by omega) (by omega);grind⟩
theorem LU {x:Nat→Rat}(hx:Lz x):Lz (fun k=> -x k):=fun e he=>by
 obtain⟨K,h⟩:=hx e he
 exact⟨K,fun i j hi hj=>by have h1:=h j i hj hi;grind⟩
theorem A8 {a b e f:Rat}(h1: -e≤a) (h2:a≤e) (h3: -f≤b) (h4:b≤f):a*b≤e*f∧ -(e*f)≤a*b:=by
 have p1:0≤(e-a)*(f+b):=Rat.mul_nonneg (by grind) (by grind)
 have p2:0≤(e+a)*(f-b):=Rat.mul_nonneg (by grind) (by grind)
 have p3:0≤(e-a)*(f-b):=Rat.mul_nonneg (by grind) (by grind)
 have p4:0≤(e+a)*(f+b):=Rat.mul_nonneg (by grind) (by grind)
 constructor<;>grind
theorem KG (x y:Re):Lz (fun k=>x.s k*y.s k):=fun e he=>by
 obtain⟨B,hB,K,hb⟩:=x.bnd
 obtain⟨D,hD,L,hd⟩:=y.bnd
 obtain⟨d1,e1⟩:=yC (jg he) hB
 obtain⟨d2,e2⟩:=yC (jg he) hD
 obtain⟨K',h⟩:=x.c _ d2
 obtain⟨L',g⟩:=y.c _ d1
 refine⟨max (max K L) (max K' L'),fun i j hi hj=>?_⟩
 have b1:=hb i (by omega)
 have b2:=hd j (by omega)
 have h1:=h i j (by omega) (by omega)
 have h2:=h j i (by omega) (by omega)
 have g1:=g i j (by omega) (by omega)
 have g2:=g j i (by omega) (by omega)
 have p1:=(A8 b1.1 b1.2 (a:=x.s i) (b:=y.s i-y.s j) (f:=e/2/B) (by grind) (by grind)).1
 have p2:=(A8 b2.1 b2.2 (a:=y.s j) (b:=x.s i-x.s j) (f:=e/2/D) (by grind) (by grind)).1
 rw[e1] at p1
 rw[e2] at p2
 grind
def Re.of (q:Rat):Re:=⟨fun _=>q,vg q⟩
instance:Add Re:=⟨fun x y=>⟨fun k=>x.s k+y.s k,Lf x.c y.c⟩⟩
instance:Neg Re:=⟨fun x=>⟨fun k=> -x.s k,LU x.c⟩⟩
instance:_root_.Sub Re:=⟨fun x y=>x+ -y⟩
instance:Mul Re:=⟨fun x y=>⟨fun k=>x.s k*y.s k,KG x y⟩⟩
theorem bK (x y:Re) (k:Nat):(x+y).s k=x.s k+y.s k:=rfl
theorem cr (x:Re) (k:Nat):(-x).s k= -x.s k:=rfl
theorem bE (x y:Re) (k:Nat):(x-y).s k=x.s k+ -y.s k:=rfl
theorem bU (x y:Re) (k:Nat):(x*y).s k=x.s k*y.s k:=rfl
theorem dc (q:Rat) (k:Nat):(Re.of q).s k=q:=rfl
theorem gT (x:Re):yr x.s∨DF x.s∨yr (-x).s:=by
 by_cases hn:DF x.s
 ·exact .inr (.inl hn)
 ·unfold DF at hn
  obtain⟨e,hn⟩:=Classical.not_forall.1 hn
  obtain⟨he,hn⟩:=Classical.not_imp.1 hn
  obtain⟨K,h⟩:=x.c (e/2) (jg he)
  have hn2:=not_exists.1 hn K
  obtain⟨k,hn3⟩:=Classical.not_forall.1 hn2
  obtain⟨hk,hn4⟩:=Classical.not_imp.1 hn3
  by_cases h1:e<x.s k
  ·exact .inl ⟨e/2,jg he,K,fun j hj=>by have:=h k j hk hj;grind⟩
  ·have h2:x.s k< -e:=by
    apply Classical.byContradiction
    intro h3
    exact hn4 ⟨by grind,by grind⟩
   exact .inr (.inr ⟨e/2,jg he,K,fun j hj=>by rw[cr];have:=h j k hj hk;grind⟩)
section
variable {x y z:Re}
theorem KJ (h:yr x.s): ¬yr (-x).s:=fun g=>by
 obtain⟨e,he,K,h⟩:=h
 obtain⟨f,hf,L,g⟩:=g
 have h1:=h (max K L) (by omega)
 have h2:=g (max K L) (by omega)
 rw[cr] at h2
 grind
theorem rj (h:yr x.s): ¬DF x.s:=fun g=>by
 obtain⟨e,he,K,h⟩:=h
 obtain⟨L,g⟩:=g (e/2) (jg he)
 have h1:=h (max K L) (by omega)
 have h2:=g (max K L) (by omega)
 grind
theorem wO (h:DF x.s):DF (-x).s:=fun e he=>by
 obtain⟨K,h⟩:=h e he
 exact⟨K,fun k hk=>by rw[cr];have:=h k hk;constructor<;>grind⟩
theorem LD (h:DF x.s) (g:DF y.s):DF (x+y).s:=fun e he=>by
 obtain⟨K,h⟩:=h (e/2) (jg he)
 obtain⟨L,g⟩:=g (e/2) (jg he)
 exact⟨max K L,fun k hk=>by rw[bK];have:=h k (by omega);have:=g k (by omega);constructor<;>grind⟩
theorem rl (h:yr x.s) (g:DF y.s):yr (x+y).s:=by
 obtain⟨e,he,K,h⟩:=h
 obtain⟨L,g⟩:=g (e/2) (jg he)
 exact⟨e/2,jg he,max K L,fun k hk=>by rw[bK];have:=h k (by omega);have:=g k (by omega);grind⟩
theorem CY (h:yr x.s) (g:yr y.s):yr (x+y).s:=by
 obtain⟨e,he,K,h⟩:=h
 obtain⟨f,hf,L,g⟩:=g
 exact⟨e,he,max K L,fun k hk=>by rw[bK];have:=h k (by omega);have:=g k (by omega);grind⟩
theorem r8 (h:yr x.s) (g:yr y.s):yr (x*y).s:=by
 obtain⟨e,he,K,h⟩:=h
 obtain⟨f,hf,L,g⟩:=g
 refine⟨e*f,Rat.mul_pos he hf,max K L,fun k hk=>?_⟩
 rw[bU]
 have h1:=h k (by omega)
 have h2:=g k (by omega)
 have p1:0≤(x.s k-e)*f:=Rat.mul_nonneg (by grind) (by grind)
 have p2:0≤x.s k*(y.s k-f):=Rat.mul_nonneg (by grind) (by grind)
 grind
theorem qh (x:Re) (g:DF y.s):DF (x*y).s:=fun e he=>by
 obtain⟨B,hB,K,hb⟩:=x.bnd
 obtain⟨d1,e1⟩:=yC he hB
 obtain⟨L,g⟩:=g _ d1
 refine⟨max K L,fun k hk=>?_⟩
 rw[bU]
 have h1:=hb k (by omega)
 have h2:=g k (by omega)
 have p:=A8 h1.1 h1.2 h2.1 h2.2
 rw[e1] at p
 exact⟨p.2,p.1⟩
theorem Ev (x:Re): - -x=x:=Re.ext fun k=>by rw[cr,cr];grind
theorem ol (x y:Re):x*y=y*x:=Re.ext fun k=>by rw[bU,bU];grind
theorem DW (x y:Re): -(x*y)= -x*y:=Re.ext fun k=>by rw[cr,bU,bU,cr];grind
theorem DX (x y:Re): -(x*y)=x* -y:=Re.ext fun k=>by rw[cr,bU,bU,cr];grind
theorem vu (x y:Re): -(x+y)= -x+ -y:=Re.ext fun k=>by rw[cr,bK,bK,cr,cr];grind
noncomputable def ce (x:Re):Int:=open Classical in if yr x.s then 1 else if yr (-x).s then-1 else 0
theorem jk:ce x=1↔yr x.s:=by
 unfold ce
 split
 ·rename_i h;simp[h]
 ·rename_i h;split<;>simp[h]
theorem jb:ce x= -1↔yr (-x).s:=by
 unfold ce
 split
 ·rename_i h;simp[KJ h]
 ·rename_i h
  split
  ·rename_i h2;simp[h2]
  ·rename_i h2;simp[h2]
theorem iK:ce x=0↔DF x.s:=by
 unfold ce
 split
 ·rename_i h;simp[rj h]
 ·rename_i h
  split
  ·rename_i h2
   have h3:=rj h2
   simp
   exact fun g=>h3 (wO g)
  ·rename_i h2
   simp
   exact((gT x).resolve_left h).resolve_right h2
theorem cE (x:Re):ce x=1∨ce x=0∨ce x= -1:=by
 rcases gT x with h|h|h
 ·exact .inl (jk.2 h)
 ·exact .inr (.inl (iK.2 h))
 ·exact .inr (.inr (jb.2 h))
theorem fk (x:Re):ce (-x)= -ce x:=by
 rcases gT x with h|h|h
 ·rw[jk.2 h,jb,Ev];exact h
 ·rw[iK.2 h,iK.2 (wO h)];rfl
 ·rw[jb.2 h,jk.2 h];rfl
theorem dJ (x y:Re):ce (x*y)=ce x*ce y:=by
 rcases gT x with h|h|h<;>rcases gT y with g|g|g
 ·rw[jk.2 h,jk.2 g,jk.2 (r8 h g)];rfl
 ·rw[jk.2 h,iK.2 g,iK.2 (qh x g)];rfl
 ·rw[jk.2 h,jb.2 g,Int.one_mul,jb,DX];exact r8 h g
 ·rw[iK.2 h,Int.zero_mul,iK,ol];exact qh y h
 ·rw[iK.2 h,Int.zero_mul,iK,ol];exact qh y h
 ·rw[iK.2 h,Int.zero_mul,iK,ol];exact qh y h
 ·rw[jb.2 h,jk.2 g,Int.mul_one,jb,DW];exact r8 h g
 ·rw[jb.2 h,iK.2 g,iK.2 (qh x g)];rfl
 ·rw[jb.2 h,jb.2 g]
  have e:x*y= -x* -y:=Re.ext fun k=>by rw[bU,bU,cr,cr];grind
  rw[e,jk.2 (r8 h g)];rfl
theorem eN (x:Re) (h:ce y=0):ce (x+y)=ce x:=by
 have g:=iK.1 h
 rcases gT x with h|h|h
 ·rw[jk.2 h,jk.2 (rl h g)]
 ·rw[iK.2 h,iK.2 (LD h g)]
 ·rw[jb.2 h,jb,vu];exact rl h (wO g)
theorem C9 (x y:Re):x+y=y+x:=Re.ext fun k=>by rw[bK,bK];grind
theorem pU (h:ce x=0) (y:Re):ce (x+y)=ce y:=by rw[C9];exact eN y h
theorem iX (h:ce x=ce y):ce (x+y)=ce x:=by
 rcases cE x with g|g|g
 ·rw[g,jk];exact CY (jk.1 g) (jk.1 (h.symm.trans g))
 ·rw[eN x (h.symm.trans g)]
 ·rw[g,jb,vu];exact CY (jb.1 g) (jb.1 (h.symm.trans g))
theorem sH (h:0≤ce x) (g:0≤ce y):0≤ce (x+y):=by
 rcases cE x with a|a|a
 ·rcases cE y with b|b|b
  ·rw[iX (a.trans b.symm)];exact h
  ·rw[eN x b];exact h
  ·omega
 ·rw[pU a];exact g
 ·omega
theorem wP (h:0<ce x) (g:0≤ce y):0<ce (x+y):=by
 rcases cE y with b|b|b
 ·rcases cE x with a|a|a
  ·rw[iX (a.trans b.symm)];exact h
  ·omega
  ·omega
 ·rw[eN x b];exact h
 ·omega
theorem jF (h:ce (x-y)=0):ce x=ce y:=by
 have e:x=(x-y)+y:=Re.ext fun k=>by rw[bK,bE];grind
 rw[e]
 exact pU h y
theorem fQ (q:Rat):ce (Re.of q)=a7 q 0:=by
 unfold a7
 split
 ·rename_i h
  exact jb.2 ⟨-q,by grind,0,fun k _=>by rw[cr,dc];grind⟩
 ·split
  ·rename_i h;exact jk.2 ⟨q,h,0,fun k _=>by rw[dc];grind⟩
  ·exact iK.2 fun e he=>⟨0,fun k _=>by rw[dc];constructor<;>grind⟩
end
theorem yK {X Y r n:Re}(hr:0≤ce r) (hn:ce (r*r-n)=0):ce (X+Y*r)=kT (ce X) (ce Y*ce n) (ce (X*X-Y*Y*n)):=by
 have hrn:ce r=ce n:=by
  have h1:=jF hn
  rw[dJ] at h1
  rcases cE r with h|h|h
  ·rw[←h1,h];rfl
  ·rw[←h1,h];rfl
  ·omega
 have ht:ce (Y*r)=ce Y*ce n:=by rw[dJ,hrn]
 rw[←ht]
 unfold kT
 split
 ·rename_i h
  rcases h with h|h
  ·exact eN X h
  ·exact iX h
 ·rename_i h
  split
  ·rename_i h2;exact pU h2 _
  ·rename_i h2
   have hopp:ce (Y*r)= -ce X:=by
    have a:=cE X
    have b:=cE (Y*r)
    omega
   have hm:ce (X+ -(Y*r))=ce X:=iX (by rw[fk,hopp];omega)
   have e1:ce ((X+Y*r)*(X+ -(Y*r)))=ce (X*X-Y*Y*n):=by
    refine jF ?_
    have e:(X+Y*r)*(X+ -(Y*r))-(X*X-Y*Y*n)= -(Y*Y)*(r*r-n):=Re.ext fun k=>by
     simp only[bE,bU,bK,cr];grind
    rw[e,dJ,hn,Int.mul_zero]
   rw[dJ,hm] at e1
   rw[←e1]
   have a:=cE X
   have b:=cE (X+Y*r)
   rcases a with a|a|a<;>rcases b with b|b|b<;>simp[a,b] at* <;>omega
def mJ (m:Rat) (k:Nat):Rat:=(((m.den:Int)*((k:Int)+1):Int):Rat)
def Md (m:Rat) (k:Nat):Int:=bD (m.num*(m.den:Int)*(((k:Int)+1)*((k:Int)+1)))
def pd (m:Rat) (k:Nat):Rat:=((Md m k:Int):Rat)/mJ m k
theorem pC {x y d:Rat}(hd:0<d) (h:x*d≤y*d):x≤y:=by
 apply Classical.byContradiction
 intro hn
 have h1:0<(x-y)*d:=Rat.mul_pos (by grind) hd
 grind
theorem DA (m:Rat):m*((m.den:Int):Rat)=((m.num:Int):Rat):=by
 have h:=Rat.num_divInt_den m
 rw[Rat.divInt_eq_div] at h
 have hd:(0:Rat)<((m.den:Int):Rat):=Rat.intCast_pos.2 (by have:=m.den_pos;omega)
 generalize ((m.den:Int):Rat)=q at*
 generalize ((m.num:Int):Rat)=p at*
 grind
theorem pz (m:Rat) (k:Nat):0<mJ m k:=by
 unfold mJ
 have h1:=den_pos m
 have h2:(0:Int)<(m.den:Int)*((k:Int)+1):=Int.mul_pos h1 (by omega)
 exact Rat.intCast_pos.2 h2
theorem xh (m:Rat) (k:Nat):pd m k*mJ m k=((Md m k:Int):Rat):=by
 have:=pz m k
 unfold pd;grind
theorem H3 (m:Rat) (k:Nat):m*(mJ m k*mJ m k)=((m.num*(m.den:Int)*(((k:Int)+1)*((k:Int)+1)):Int):Rat):=by
 have h:=DA m
 unfold mJ
 simp only[Rat.intCast_mul,Rat.intCast_add,Rat.intCast_one,Rat.intCast_natCast] at*
 grind
theorem Oo (m:Rat) (k:Nat):0≤Md m k:=eE _
theorem GZ {m:Rat}(h:0≤m) (k:Nat):0≤m.num*(m.den:Int)*(((k:Int)+1)*((k:Int)+1)):=
 Int.mul_nonneg (Int.mul_nonneg (Rat.num_nonneg.2 h) (by have:=den_pos m;omega)) (Int.mul_nonneg (by omega) (by omega))
theorem wN (m:Rat) (k:Nat):0≤pd m k:=by
 refine pC (pz m k) ?_
 rw[xh]
 have:(0:Rat)≤((Md m k:Int):Rat):=Rat.intCast_nonneg.2 (Oo m k)
 grind
theorem Gi {m:Rat}(h:0≤m) (k:Nat):pd m k*pd m k≤m:=by
 have hd:=pz m k
 refine pC (Rat.mul_pos hd hd) ?_
 rw[H3]
 have e:pd m k*pd m k*(mJ m k*mJ m k)=((Md m k*Md m k:Int):Rat):=by
  rw[Rat.intCast_mul,←xh];grind
 rw[e]
 exact Rat.intCast_le_intCast.2 (nQ (GZ h k))
theorem GH {m:Rat}(h:0≤m) (k:Nat):m<(pd m k+1/mJ m k)*(pd m k+1/mJ m k):=by
 have hd:=pz m k
 have e:(pd m k+1/mJ m k)*(pd m k+1/mJ m k)*(mJ m k*mJ m k)=(((Md m k+1)*(Md m k+1):Int):Rat):=by
  rw[Rat.intCast_mul,Rat.intCast_add,←xh]
  have:1/mJ m k*mJ m k=1:=by grind
  grind
 have h1:=Rat.intCast_lt_intCast.2 (rU (GZ h k))
 rw[←H3] at h1
 have h2:m*(mJ m k*mJ m k)<(pd m k+1/mJ m k)*(pd m k+1/mJ m k)*(mJ m k*mJ m k):=by rw[e];exact h1
 apply Classical.byContradiction
 intro hn
 have h3:0≤(m-(pd m k+1/mJ m k)*(pd m k+1/mJ m k))*(mJ m k*mJ m k):=Rat.mul_nonneg (by grind) (by have:=Rat.mul_pos hd hd;grind)
 grind
theorem qC (m:Rat) {e:Rat}(he:0<e) {k:Nat}(hk:e.den≤k):0<1/mJ m k∧1/mJ m k≤e:=by
 have hd:=pz m k
 have hc:1/mJ m k*mJ m k=1:=by grind
 refine⟨?_,?_⟩
 ·have:=(yC (e:=1) (by decide) hd).1;exact this
 ·refine pC hd ?_
  rw[hc]
  have h1:=DA e
  have h2:0<e.num:=Rat.intCast_pos.1 (by rw[←h1];exact Rat.mul_pos he (Rat.intCast_pos.2 (by have:=e.den_pos;omega)))
  have h3:(1:Rat)≤((e.num:Int):Rat):=by
   have:((1:Int):Rat)≤((e.num:Int):Rat):=Rat.intCast_le_intCast.2 (by omega)
   simpa using this
  have h4:((e.den:Int):Rat)≤mJ m k:=by
   unfold mJ
   refine Rat.intCast_le_intCast.2 ?_
   have:=den_pos m
   have h5:1*((k:Int)+1)≤(m.den:Int)*((k:Int)+1):=Int.mul_le_mul_of_nonneg_right (by omega) (by omega)
   omega
  have h6:0≤e*(mJ m k-((e.den:Int):Rat)):=Rat.mul_nonneg (by grind) (by grind)
  simp only[Rat.intCast_natCast] at*
  grind
theorem NL {m:Rat}(h:0≤m):Lz (pd m):=fun e he=>by
 refine⟨e.den,fun i j _ hj=>?_⟩
 obtain⟨hp,hs⟩:=qC m he hj
 have h1:=Gi h i
 have h2:=GH h j
 have h3:=wN m i
 have h4:=wN m j
 apply Classical.byContradiction
 intro hn
 have h5:0≤(pd m i-(pd m j+1/mJ m j))*(pd m i+(pd m j+1/mJ m j)):=Rat.mul_nonneg (by grind) (by grind)
 grind
def Re.rt (m:Rat):Re:=⟨fun k=>if 0≤m then pd m k else 0,by
 by_cases h:0≤m
 ·simp only[h,if_true];exact NL h
 ·simp only[h,if_false];exact vg 0⟩
theorem Ob {x:Re}(h: ∀k,0≤x.s k):0≤ce x:=by
 rcases cE x with a|a|a
 ·omega
 ·omega
 ·obtain⟨e,he,K,g⟩:=jb.1 a
  have h1:=g K (Nat.le_refl _)
  rw[cr] at h1
  have h2:=h K
  exfalso;grind
theorem G5 (m:Rat):0≤ce (Re.rt m):=Ob fun k=>by
 show 0≤(if 0≤m then pd m k else 0)
 split
 ·exact wN m k
 ·exact Rat.le_refl
theorem sw {m:Rat}(h:0≤m):ce (Re.rt m*Re.rt m-Re.of m)=0:=iK.2 fun e he=>by
 obtain⟨d1,d2⟩:=yC he (show 0<2*m+3 by grind)
 refine⟨(e/(2*m+3)).den,fun k hk=>?_⟩
 rw[bE,bU,dc]
 show-e≤(if 0≤m then pd m k else 0)*(if 0≤m then pd m k else 0)+ -m∧(if 0≤m then pd m k else 0)*(if 0≤m then pd m k else 0)+ -m≤e
 rw[if_pos h]
 obtain⟨hp,hs⟩:=qC m d1 hk
 obtain⟨hp1,hs1⟩:=qC m (e:=1) (by decide) (k:=k) (by
  have:(1:Rat).den=1:=rfl
  rw[this]
  have:=(e/(2*m+3)).den_pos
  omega)
 have h1:=Gi h k
 have h2:=GH h k
 have h3:=wN m k
 refine⟨?_,by grind⟩
 have h4:pd m k≤m+1:=by
  apply Classical.byContradiction
  intro hn
  have h5:0≤(pd m k-(m+1))*(pd m k+(m+1)):=Rat.mul_nonneg (by grind) (by grind)
  have h6:0≤m*m:=Rat.mul_nonneg h h
  grind
 generalize 1/mJ m k=d at*
 have h7:0≤d*((m+1)-pd m k):=Rat.mul_nonneg (by grind) (by grind)
 have h8:0≤d*(1-d):=Rat.mul_nonneg (by grind) (by grind)
 have h9:0≤(2*m+3)*(e/(2*m+3)-d):=Rat.mul_nonneg (by grind) (by grind)
 grind
theorem pZ (x y:Rat):a7 (x-y) 0=a7 x y:=by
 unfold a7
 have e1:(x-y<0)=(x<y):=by apply propext;constructor<;>intro h<;>grind
 have e2:(0<x-y)=(y<x):=by apply propext;constructor<;>intro h<;>grind
 simp only[e1,e2]
theorem iP (x y:Rat):Re.of x*Re.of y=Re.of (x*y):=rfl
theorem Hr (x:Rat): -Re.of x=Re.of (-x):=rfl
theorem E4 (x y:Rat):Re.of x+Re.of y=Re.of (x+y):=rfl
theorem oU (x y:Rat):Re.of x-Re.of y=Re.of (x-y):=Re.ext fun k=>by rw[bE,dc,dc,dc];grind
def dX (a b m:Rat):Re:=Re.of a+Re.of b*Re.rt m
theorem gm {a b m:Rat}(h:0≤m):cg a b m=ce (dX a b m):=by
 unfold dX
 rw[yK (n:=Re.of m) (G5 m) (sw h),fQ,fQ,fQ,iP,iP,iP,oU,fQ,pZ]
 rfl
def AM (A B C D M N:Rat):Re:=dX A B M+dX C D M*Re.rt N
theorem yj {A B C D M N:Rat}(hM:0≤M) (hN:0≤N):iH A B C D M N=ce (AM A B C D M N):=by
 unfold AM
 rw[yK (n:=Re.of N) (G5 N) (sw hN),←gm hM,←gm hM,fQ,oh (by grind) (by grind)]
 have e:ce (dX A B M*dX A B M-dX C D M*dX C D M*Re.of N)=ce (dX (vj A B C D M N) (oG A B C D N+oG A B C D N) M):=by
  refine jF ?_
  have e:(dX A B M*dX A B M-dX C D M*dX C D M*Re.of N)-dX (vj A B C D M N) (oG A B C D N+oG A B C D N) M=(Re.of (B*B-D*D*N))*(Re.rt M*Re.rt M-Re.of M):=Re.ext fun k=>by
   unfold dX vj oG
   simp only[bE,bU,bK,dc];grind
  rw[e,dJ,sw hM,Int.mul_zero]
 rw[e,←gm hM]
theorem qE {a b c d e f:Rat}(hc:0≤c) (hf:0≤f):iH (a-d) b (-e) 0 c f=ce (dX a b c-dX d e f):=by
 rw[yj hc hf]
 refine congrArg ce (Re.ext fun k=>?_)
 unfold AM dX
 simp only[bE,bU,bK,dc];grind
section
variable {P:Program}{ops:Array Oper}{T:TF}{B:BF}
theorem lX {dst:Option Nat}{xt yt:TypeId}{x y:Operand}{ty:TypeId}{pos:String}{af:Array Edge}{g:Option (Nat×Bool)}{k yk:IntKind}{m n r:Int}
 (hx:cU T x=some (.v (.c (.i k m)))) (hy:cU T y=some (.v (.c (.i yk n)))) (h0: ¬n<0) (hr:m.fdiv (2^(min n.toNat k.bits))=r) (hg:gd ops ⟨dst,.binOp .shr xt x y yt,ty,pos,af,g⟩ T=some true):
 Sem P ops ⟨dst,.binOp .shr xt x y yt,ty,pos,af,g⟩ T B (.r (.v (.c (.i k r)))):=
 bP hg (mK rfl) (fun V β a w hs=>by
  have e1:a.eval x=.int k m:=RdC.int_eq (aJ hs (x:=x) (by simp[Op.operands]) hx)
  have e2:a.eval y=.int yk n:=RdC.int_eq (aJ hs (x:=y) (by simp[Op.operands]) hy)
  subst hr
  exact⟨.int k (m.fdiv (2^(min n.toNat k.bits))),by simp[execOp,e1,e2,eqGuard,binOp,Op.shift,h0],.i _ _⟩)
theorem JW {dst:Option Nat}{xt yt:TypeId}{x y:Operand}{ty:TypeId}{pos:String}{af:Array Edge}{g:Option (Nat×Bool)}{k yk:IntKind}{m n r:Int}
 (hx:cU T x=some (.v (.c (.i k m)))) (hy:cU T y=some (.v (.c (.i yk n)))) (h0: ¬n<0) (hr:k.wrap (m*2^(min n.toNat k.bits))=r) (hg:gd ops ⟨dst,.binOp .shl xt x y yt,ty,pos,af,g⟩ T=some true):
 Sem P ops ⟨dst,.binOp .shl xt x y yt,ty,pos,af,g⟩ T B (.r (.v (.c (.i k r)))):=
 bP hg (mK rfl) (fun V β a w hs=>by
  have e1:a.eval x=.int k m:=RdC.int_eq (aJ hs (x:=x) (by simp[Op.operands]) hx)
  have e2:a.eval y=.int yk n:=RdC.int_eq (aJ hs (x:=y) (by simp[Op.operands]) hy)
  subst hr
  exact⟨.int k (k.wrap (m*2^(min n.toNat k.bits))),by simp[execOp,e1,e2,eqGuard,binOp,Op.shift,h0],.i _ _⟩)
end
def jC (x:Int):Int:=bD (max x 0*65536)
def gE (y:Int):Int:=if rH (y*65536) then bD (y*65536) else bD (y*65536)+1
theorem tK {n:Int}(h0:0≤n) (h1:n≤2305843009213693952):0≤bD (n*65536)∧bD (n*65536)≤549755813888:=by
 refine⟨eE _,?_⟩
 have h2:=nQ (x:=n*65536) (by omega)
 by_cases h:bD (n*65536)≤549755813888
 ·exact h
 ·have:=G8 (a:=549755813889) (b:=bD (n*65536)) (by decide) (by omega)
  omega
theorem DP {x:Int}(h0: -4611686018427387904≤x) (h1:x≤4611686018427387904):ny x=true:=KW.2 ⟨by omega,by omega⟩
theorem zw {lo hi:Int}(h0: -2305843009213693952≤lo) (h1:hi≤2305843009213693952):oo lo hi=true:=Nc (by omega) (by omega)
theorem jt {a:Rat}(ha:Rz 40000 a):Ok Tryz.prog 253 [dR a] [.a (([.i .i64 (if fw a then fG a else 0)]++[.i .i64 (if fw a then fu a else 0)])),.c (.b (fw a))]:=by
 have hz:Rz 60000 (a*((65536:Int):Rat)):=(Rz.mul ha (Rz.int (Sz.small (k:=3) (by decide) (by decide) (by decide)) (by decide))).m_
 have ha3:Rz 60000 a:=ha.m_
 have h65:Rz 60000 ((65536:Int):Rat):=(Rz.int (Sz.small (k:=3) (by decide) (by decide) (by decide)) (by decide)).m_
 have hzn:Rz 60000 (-(a*((65536:Int):Rat))):=hz.neg
 have hs1:Sz 1000000 (fG a):=(Sz.fdiv hz.n).m_
 have hs2:Sz 1000000 ((-(a*((65536:Int):Rat))).num.fdiv ((-(a*((65536:Int):Rat))).den:Int)):=(Sz.fdiv hzn.n).m_
 have hs3:Sz 1000000 (fu a):=hs2.neg
 have hf1:Ok Tryz.prog 315 [dR (a*((65536:Int):Rat))] [dI (fG a)]:=o9 hz
 have hf3:Ok Tryz.prog 189 [dI ((-(a*((65536:Int):Rat))).num.fdiv ((-(a*((65536:Int):Rat))).den:Int))] [dI (fu a)]:=qg hs2
 refine Ok.fn Tryz.func253 38 [.cell 2 221,.tmp 3] rfl<|aa<|ab<|al 1<|aw (ah dC rfl) rfl<|ag<|aa<|aM 4 rfl rfl<|an 1<|ai (ak rfl (nL (by omega) (by omega))) ?_
 refine ai (ak rfl (ek (by first|assumption|exact Rz.mono (by assumption) (by decide)) (by first|assumption|exact Rz.mono (Rz.int (Sz.small (k:=3) (by decide) (by decide) (by decide)) (by decide)) (by decide)))) ?_
 refine bh (ah br rfl) rfl<|aV<|bi<|ag<|aa<|ab<|al 1<|aj (ak rfl (hf1)) ?_
 refine aj (ak rfl (n6 (by first|assumption|exact Sz.mono (by assumption) (by decide)))) ?_
 refine ag<|aa<|ab<|al 1 ?_
 refine aj (ak rfl (jS (by first|assumption|exact Rz.mono (Rz.mul (by assumption) (Rz.int (Sz.small (k:=3) (by decide) (by decide) (by decide)) (by decide))) (by decide)))) ?_
 refine aj (ak rfl (o9 hzn))<|aj (ak rfl (hf3)) ?_
 refine aj (ak rfl (n6 (by first|assumption|exact Sz.mono (by assumption) (by decide)))) ?_
 refine ag<|aa<|aa<|ab<|al 2 ?_
 refine cm (bO rfl) (fun c1 hb1=>?_)
 cases c1
 ·refine ag ?_
  refine au rfl (fun hc2=>?_) (fun hc2=>?_)
  ·refine aa<|ab<|aj (aD (us:=([.i .i64 0]++[.i .i64 0])) km dC rfl rfl rfl) ?_
   refine ag<|am ?_
   rw[show fw a=false from by unfold fw;rw[fX hc2,Bool.false_and,Bool.and_false],if_neg (by decide),if_neg (by decide)]
   exact ao (bb fV rfl (aC ae))
  ·have e1:=dS hb1
   have e2:=dS hc2
   refine Dw.weak (σ':=⟨38,[(2,.p 2 0),(5,.v (.c (.i .i64 (fG a)))),(7,.v (.c (.i .i64 (fu a))))],[(2,221,([.i .i64 0]++[.i .i64 0]))]⟩) (aR ⟨rfl,by rw[if_pos e1];rfl,by rw[if_pos e2];rfl,trivial⟩ ⟨rfl,trivial⟩ rfl) ?_
   refine ap<|aa<|ab<|al 2<|aj (ak rfl (lI))<|ag<|am ?_
   rw[show fw a=oo (fG a) (fu a) from by unfold fw;rw[e1,e2];rfl]
   exact ao (bb fV rfl (aC ae))
 ·refine ag<|bo rfl<|aa<|ab<|aj (aD (us:=([.i .i64 0]++[.i .i64 0])) km dC rfl rfl rfl) ?_
  refine ag<|am ?_
  rw[show fw a=false from by unfold fw;rw[fX hb1];rfl,if_neg (by decide),if_neg (by decide)]
  exact ao (bb fV rfl (aC ae))
theorem zK {n:Int}(h0:0≤n) (h1:n≤2305843009213693952):Ok Tryz.prog 347 [.c (.i .i64 n)] [.c (.i .i64 (bD (n*65536))),.c (.b (rH (n*65536)))]:=by
 have z1:Sz 1000000 n:=Sz.small (by decide) (by omega) (by omega)
 have z2:Sz 1000000 (65536:Int):=Sz.small (by decide) (by decide) (by decide)
 have z4:Sz 3 (n*65536):=⟨by have:pw 3=1000000000000000000000000000:=by decide
                             omega,by have:pw 3=1000000000000000000000000000:=by decide
                                      omega⟩
 have z5:Sz 999999 (n*65536):=z4.m_
 have z6:Sz 1000000 (bD (n*65536)):=z4.isq.m_
 have hb:=tK h0 h1
 have e0:(if ny (bD (n*65536)) then bD (n*65536) else 0)=bD (n*65536):=by rw[DP (by omega) (by omega),if_pos rfl]
 refine Ok.fn Tryz.func347 30 [.tmp 2,.tmp 3] rfl<|aa<|ab<|ag<|aa<|ab<|al 1<|aj (ak rfl (ig (by omega) (by omega)))<|aj (ak rfl (ig (by omega) (by omega))) ?_
 refine aj (ak rfl (go (by first|assumption|exact Sz.mono (by assumption) (by decide)) (by first|assumption|exact Sz.mono (Sz.small (k:=3) (by decide) (by decide) (by decide)) (by decide)))) ?_
 refine aw (ah de rfl) rfl<|ag<|aa<|ab<|al 1 ?_
 refine aj (ak rfl (s7 (by first|assumption|exact Sz.mono (Sz.mul (by assumption) (Sz.small (k:=3) (by decide) (by decide) (by decide))) (by decide)))) ?_
 refine al 3<|aw (ah de rfl) rfl<|ag<|aa<|ab<|al 1<|aj (ak rfl ((show Ok Tryz.prog 314 [dI (bD (n*65536))] [.c (.i .i64 (bD (n*65536))),.c (.b (ny (bD (n*65536))))] from by have:=n6 z6;rw[e0] at this;exact this)))<|ag<|aa<|aM 9 rfl rfl<|an 3 ?_
 refine ai (ak rfl (go (by first|assumption|exact Sz.mono (Sz.isq (Sz.mul (by assumption) (Sz.small (k:=3) (by decide) (by decide) (by decide)))) (by decide)) (by first|assumption|exact Sz.mono (Sz.isq (Sz.mul (by assumption) (Sz.small (k:=3) (by decide) (by decide) (by decide)))) (by decide)))) ?_
 refine an 1<|ai (ak rfl (iT))<|bJ<|ar<|aq<|am ?_
 rw[CM]
 exact ao (aC (aC ae))
theorem zQ {x y:Int}(h0: -2305843009213693952≤x) (h1:x≤2305843009213693952) (h2: -2305843009213693952≤y) (h3:y≤2305843009213693952) (hn: ¬y<0):Ok Tryz.prog 297 [.a (([.i .i64 x]++[.i .i64 y]))] [.a (([.i .i64 (jC x)]++[.i .i64 (gE y)])),.c (.b true)]:=by
 have b1:=tK (n:=max x 0) (by omega) (by omega)
 have b2:=tK (n:=y) (by omega) h3
 refine Ok.fn Tryz.func297 34 [.cell 2 221,.tmp 3] rfl<|aa<|ab<|al 1<|aw (ah dC rfl) rfl<|ag<|aa<|aa<|ab<|ag ?_
 refine au rfl (fun hc1=>?_) (fun hc1=>?_)
 ·exact absurd (oC hc1) hn
 ·refine ap<|aa<|ab<|al 2<|aj (ww rfl rfl rfl) ?_
  refine aj (ak rfl (zK (by omega) (by omega)))<|ag<|aa<|ab<|al 2<|aj (ak rfl (zK (by omega) (by omega)))<|ag<|aa<|aa<|ab<|ag ?_
  refine au rfl (fun hc2=>?_) (fun hc2=>?_)
  ·--region 6
   refine ab<|al 1<|aj (aG (r:=(bD (y*65536))+1) rfl rfl (aW (by omega) (by omega)) rfl) ?_
   refine ag<|aa<|ab<|al 2<|aj (ak rfl ((show Ok Tryz.prog 316 [.c (.i .i64 (bD ((max x 0)*65536))),.c (.i .i64 ((bD (y*65536))+1))] [.a ([.i .i64 (bD ((max x 0)*65536))]++[.i .i64 ((bD (y*65536))+1)]),.c (.b true)] from by have:=lI (x:=bD ((max x 0)*65536)) (y:=(bD (y*65536))+1);rw[zw (by omega) (by omega),if_pos rfl,if_pos rfl] at this;exact this)))<|ag<|am ?_
   unfold jC gE
   rw[fX hc2,if_neg (by decide)]
   exact ao (bb fV rfl (aC ae))
  ·refine ap<|aa<|ab<|al 2<|aj (ak rfl ((show Ok Tryz.prog 316 [.c (.i .i64 (bD ((max x 0)*65536))),.c (.i .i64 (bD (y*65536)))] [.a ([.i .i64 (bD ((max x 0)*65536))]++[.i .i64 (bD (y*65536))]),.c (.b true)] from by have:=lI (x:=bD ((max x 0)*65536)) (y:=bD (y*65536));rw[zw (by omega) (by omega),if_pos rfl,if_pos rfl] at this;exact this)))<|ag<|am ?_
   unfold jC gE
   rw[dS hc2,if_pos rfl]
   exact ao (bb fV rfl (aC ae))
theorem BK {x y u v:Int}(h0: -2305843009213693952≤x) (h1:x≤2305843009213693952) (h2: -2305843009213693952≤y) (h3:y≤2305843009213693952) (h4: -2305843009213693952≤u) (h5:u≤2305843009213693952) (h6: -2305843009213693952≤v) (h7:v≤2305843009213693952):Ok Tryz.prog 254 [.a (([.i .i64 x]++[.i .i64 y])),.a (([.i .i64 u]++[.i .i64 v]))] [.a (([.i .i64 (if oo (x+u) (y+v) then x+u else 0)]++[.i .i64 (if oo (x+u) (y+v) then y+v else 0)])),.c (.b (oo (x+u) (y+v)))]:=by
 refine Ok.fn Tryz.func254 19 [.cell 4 221,.tmp 5] rfl<|aa<|ab<|al 2<|aw (ah dC rfl) rfl<|ag<|aa<|ab<|al 4<|aj (aG (r:=x+u) rfl rfl (aW (by omega) (by omega)) rfl) ?_
 refine al 4<|aj (aG (r:=y+v) rfl rfl (aW (by omega) (by omega)) rfl) ?_
 refine aj (ak rfl (lI))<|ag<|am ?_
 exact ao (bb fV rfl (aC ae))
theorem BG {x:Int}(h0: -9223372036854775808≤x) (h1:x≤9223372036854775807):Ok Tryz.prog 355 [.c (.i .i64 x)] [.c (.i .u64 (x.natAbs:Int))]:=by
 refine Ok.fn Tryz.func355 10 [.tmp 2] rfl<|aa<|ab<|ag<|aa<|aa<|ab<|ag ?_
 refine au rfl (fun hc1=>?_) (fun hc1=>?_)
 ·have hn:=oC hc1
  have e:(x.natAbs:Int)= -x:=by omega
  refine aa<|ab<|al 1<|aj (bN (r:=x+18446744073709551616) uq eo rfl (zy hn h0) rfl) ?_
  refine aj (eI (r:= -x) rfl (u3 hn h0) rfl) ?_
  refine ag<|am ?_
  rw[e]
  exact ao (aC ae)
 ·have hn:=jm hc1
  have e:(x.natAbs:Int)=x:=by omega
  refine ap<|aa<|ab<|al 1<|aj (bN (r:=x) uq eo rfl (fq (by omega) (by omega)) rfl) ?_
  refine ag<|am ?_
  rw[e]
  exact ao (aC ae)
section
variable {P:Program}{ops:Array Oper}{T:TF}{B:BF}
theorem se {dst:Option Nat}{xt yt:TypeId}{x y:Operand}{ty:TypeId}{pos:String}{af:Array Edge}{g:Option (Nat×Bool)}{k:IntKind}{m n r:Int}
 (hx:cU T x=some (.v (.c (.i k m)))) (hy:cU T y=some (.v (.c (.i k n)))) (hr:k.wrap ((BitVec.ofInt k.bits m&&&BitVec.ofInt k.bits n).toNat:Int)=r) (hg:gd ops ⟨dst,.binOp .and xt x y yt,ty,pos,af,g⟩ T=some true):
 Sem P ops ⟨dst,.binOp .and xt x y yt,ty,pos,af,g⟩ T B (.r (.v (.c (.i k r)))):=
 bP hg (mK rfl) (fun V β a w hs=>by
  have e1:a.eval x=.int k m:=RdC.int_eq (aJ hs (x:=x) (by simp[Op.operands]) hx)
  have e2:a.eval y=.int k n:=RdC.int_eq (aJ hs (x:=y) (by simp[Op.operands]) hy)
  subst hr
  exact⟨.int k (k.wrap ((BitVec.ofInt k.bits m&&&BitVec.ofInt k.bits n).toNat:Int)),by simp[execOp,e1,e2,eqGuard,binOp,Op.intBits],.i _ _⟩)
theorem Or {dst:Option Nat}{xt yt:TypeId}{x y:Operand}{ty:TypeId}{pos:String}{af:Array Edge}{g:Option (Nat×Bool)}{k:IntKind}{m n r:Int}
 (hx:cU T x=some (.v (.c (.i k m)))) (hy:cU T y=some (.v (.c (.i k n)))) (hr:k.wrap ((BitVec.ofInt k.bits m|||BitVec.ofInt k.bits n).toNat:Int)=r) (hg:gd ops ⟨dst,.binOp .or xt x y yt,ty,pos,af,g⟩ T=some true):
 Sem P ops ⟨dst,.binOp .or xt x y yt,ty,pos,af,g⟩ T B (.r (.v (.c (.i k r)))):=
 bP hg (mK rfl) (fun V β a w hs=>by
  have e1:a.eval x=.int k m:=RdC.int_eq (aJ hs (x:=x) (by simp[Op.operands]) hx)
  have e2:a.eval y=.int k n:=RdC.int_eq (aJ hs (x:=y) (by simp[Op.operands]) hy)
  subst hr
  exact⟨.int k (k.wrap ((BitVec.ofInt k.bits m|||BitVec.ofInt k.bits n).toNat:Int)),by simp[execOp,e1,e2,eqGuard,binOp,Op.intBits],.i _ _⟩)
end
theorem qG (n:Nat) (h:n<18446744073709551616):(BitVec.ofInt 64 (n:Int)).toNat=n:=by
 rw[BitVec.toNat_ofInt];omega
theorem FL {x:Int}(h0:0≤x) (h1:x≤18446744073709551615):IntKind.u64.wrap ((BitVec.ofInt IntKind.u64.bits x&&&BitVec.ofInt IntKind.u64.bits 4294967295).toNat:Int)=x%4294967296:=by
 obtain⟨n,rfl⟩:=Int.eq_ofNat_of_zero_le h0
 have e:(BitVec.ofInt IntKind.u64.bits (n:Int)&&&BitVec.ofInt IntKind.u64.bits 4294967295).toNat=n%4294967296:=by
  show(BitVec.ofInt 64 (n:Int)&&&BitVec.ofInt 64 ((4294967295:Nat):Int)).toNat=_
  rw[BitVec.toNat_and,qG n (by omega),qG _ (by decide)]
  exact Nat.and_two_pow_sub_one_eq_mod n 32
 rw[e,fq (by omega) (by omega)];omega
theorem QF {x:Int}(h0:0≤x) (h1:x≤18446744073709551615):IntKind.u64.wrap ((BitVec.ofInt IntKind.u64.bits x&&&BitVec.ofInt IntKind.u64.bits 65535).toNat:Int)=x%65536:=by
 obtain⟨n,rfl⟩:=Int.eq_ofNat_of_zero_le h0
 have e:(BitVec.ofInt IntKind.u64.bits (n:Int)&&&BitVec.ofInt IntKind.u64.bits 65535).toNat=n%65536:=by
  show(BitVec.ofInt 64 (n:Int)&&&BitVec.ofInt 64 ((65535:Nat):Int)).toNat=_
  rw[BitVec.toNat_and,qG n (by omega),qG _ (by decide)]
  exact Nat.and_two_pow_sub_one_eq_mod n 16
 rw[e,fq (by omega) (by omega)];omega
theorem Tg {h l:Int}(h0:0≤h) (h1:h<65536) (l0:0≤l) (l1:l<281474976710656):IntKind.u64.wrap ((BitVec.ofInt IntKind.u64.bits (h*281474976710656)|||BitVec.ofInt IntKind.u64.bits l).toNat:Int)=h*281474976710656+l:=by
 obtain⟨n,rfl⟩:=Int.eq_ofNat_of_zero_le h0
 obtain⟨m,rfl⟩:=Int.eq_ofNat_of_zero_le l0
 have e:(BitVec.ofInt IntKind.u64.bits ((n:Int)*281474976710656)|||BitVec.ofInt IntKind.u64.bits (m:Int)).toNat=n*281474976710656+m:=by
  show(BitVec.ofInt 64 ((n:Int)*((281474976710656:Nat):Int))|||BitVec.ofInt 64 (m:Int)).toNat=_
  rw[←Int.natCast_mul,BitVec.toNat_or,qG _ (by omega),qG _ (by omega)]
  have:=Nat.two_pow_add_eq_or_of_lt (i:=48) (b:=m) (by omega) n
  rw[show n*281474976710656=2^48*n from by omega]
  exact this.symm
 rw[e,fq (by omega) (by omega)];omega
theorem yd {x:Int}:x.fdiv (2^(min (32:Int).toNat IntKind.u64.bits))=x/4294967296:=by
 rw[show(2:Int)^(min (32:Int).toNat IntKind.u64.bits)=4294967296 from rfl];exact Int.fdiv_eq_ediv_of_nonneg _ (by decide)
theorem Nt {x:Int}:x.fdiv (2^(min (16:Int).toNat IntKind.u64.bits))=x/65536:=by
 rw[show(2:Int)^(min (16:Int).toNat IntKind.u64.bits)=65536 from rfl];exact Int.fdiv_eq_ediv_of_nonneg _ (by decide)
theorem P4 {x:Int}(h0:0≤x) (h1:x<65536):IntKind.u64.wrap (x*2^(min (48:Int).toNat IntKind.u64.bits))=x*281474976710656:=by
 rw[show(2:Int)^(min (48:Int).toNat IntKind.u64.bits)=281474976710656 from rfl,fq (by omega) (by omega)]
theorem Tk {x:Int}:IntKind.u64.wrap x=x%18446744073709551616:=by unfold IntKind.wrap;simp[IntKind.bits,IntKind.signed]
theorem P7 {x y:Int}(_h0:0≤x) (_h1:x≤18446744073709551615) (_h2:0≤y) (_h3:y≤18446744073709551615):
 (x/4294967296)*(y/4294967296)+((x/4294967296)*(y%4294967296)+(x%4294967296)*(y%4294967296)/4294967296)/4294967296+(((x/4294967296)*(y%4294967296)+(x%4294967296)*(y%4294967296)/4294967296)%4294967296+(x%4294967296)*(y/4294967296))/4294967296=x*y/18446744073709551616:=by
 obtain⟨a,ha⟩: ∃a,x/4294967296=a:=⟨_,rfl⟩
 obtain⟨b,hb⟩: ∃b,x%4294967296=b:=⟨_,rfl⟩
 obtain⟨c,hc⟩: ∃c,y/4294967296=c:=⟨_,rfl⟩
 obtain⟨d,hd⟩: ∃d,y%4294967296=d:=⟨_,rfl⟩
 rw[ha,hb,hc,hd]
 have ex:x=4294967296*a+b:=by omega
 have ey:y=4294967296*c+d:=by omega
 have e:x*y=18446744073709551616*(a*c)+4294967296*(a*d)+4294967296*(b*c)+b*d:=by rw[ex,ey];grind
 rw[e]
 omega
theorem DK {x y:Int}(h0:0≤x) (h1:x≤18446744073709551615) (h2:0≤y) (h3:y≤18446744073709551615):Ok Tryz.prog 354 [.c (.i .u64 x),.c (.i .u64 y)] [.c (.i .u64 (x*y/18446744073709551616)),.c (.i .u64 (x*y%18446744073709551616))]:=by
 obtain⟨a,ha⟩: ∃a,x/4294967296=a:=⟨_,rfl⟩
 obtain⟨b,hb⟩: ∃b,x%4294967296=b:=⟨_,rfl⟩
 obtain⟨c,hc⟩: ∃c,y/4294967296=c:=⟨_,rfl⟩
 obtain⟨d,hd⟩: ∃d,y%4294967296=d:=⟨_,rfl⟩
 have hm:=P7 h0 h1 h2 h3
 rw[ha,hb,hc,hd] at hm
 have pb: ∀u v:Int,0≤u→u≤4294967295→0≤v→v≤4294967295→0≤u*v∧u*v≤18446744065119617025:=fun u v u0 u1 v0 v1=>⟨Int.mul_nonneg u0 v0,Int.mul_le_mul (c:=(4294967295:Int)) u1 v1 v0 (by decide)⟩
 have q1:=pb b d (by omega) (by omega) (by omega) (by omega)
 have q2:=pb a d (by omega) (by omega) (by omega) (by omega)
 have q3:=pb b c (by omega) (by omega) (by omega) (by omega)
 have q4:=pb a c (by omega) (by omega) (by omega) (by omega)
 refine Ok.fn Tryz.func354 51 [.tmp 4,.tmp 5] rfl<|aa<|ab<|ag<|aa<|ab<|al 1<|aj (se (r:=b) rfl rfl (by rw[←hb];exact FL h0 h1) rfl) ?_
 refine ag<|aa<|ab<|al 1<|aj (lX (r:=a) rfl rfl (by decide) (by rw[←ha];exact yd) rfl) ?_
 refine ag<|aa<|ab<|al 1<|aj (se (r:=d) rfl rfl (by rw[←hd];exact FL h2 h3) rfl) ?_
 refine ag<|aa<|ab<|al 1<|aj (lX (r:=c) rfl rfl (by decide) (by rw[←hc];exact yd) rfl) ?_
 refine ag<|aa<|ab<|al 2<|aj (aG (r:=b*d) rfl rfl (ff (by omega) (by omega)) rfl) ?_
 refine ag<|aa<|ab<|al 2<|aj (aG (r:=a*d) rfl rfl (ff (by omega) (by omega)) rfl) ?_
 refine al 1<|aj (lX (r:=b*d/4294967296) rfl rfl (by decide) (yd) rfl) ?_
 refine aj (aG (r:=(a*d)+(b*d/4294967296)) rfl rfl (en (by omega) (by omega)) rfl) ?_
 refine ag<|aa<|ab<|al 1<|aj (se (r:=(a*d+b*d/4294967296)%4294967296) rfl rfl (FL (by omega) (by omega)) rfl) ?_
 refine ag<|aa<|ab<|al 1<|aj (lX (r:=(a*d+b*d/4294967296)/4294967296) rfl rfl (by decide) (yd) rfl) ?_
 refine ag<|aa<|ab<|al 3<|aj (aG (r:=b*c) rfl rfl (ff (by omega) (by omega)) rfl) ?_
 refine aj (aG (r:=((a*d+b*d/4294967296)%4294967296)+(b*c)) rfl rfl (en (by omega) (by omega)) rfl) ?_
 refine ag<|aa<|ab<|al 2<|aj (aG (r:=a*c) rfl rfl (ff (by omega) (by omega)) rfl) ?_
 refine al 1<|aj (aG (r:=(a*c)+((a*d+b*d/4294967296)/4294967296)) rfl rfl (en (by omega) (by omega)) rfl) ?_
 refine al 1<|aj (lX (r:=((a*d+b*d/4294967296)%4294967296+b*c)/4294967296) rfl rfl (by decide) (yd) rfl) ?_
 refine aj (aG (r:=((a*c)+((a*d+b*d/4294967296)/4294967296))+(((a*d+b*d/4294967296)%4294967296+b*c)/4294967296)) rfl rfl (en (by omega) (by omega)) rfl) ?_
 refine ag<|aa<|ab<|al 2<|aj (aG (r:=x*y%18446744073709551616) rfl rfl (congrArg some Tk) rfl) ?_
 refine ag<|am ?_
 rw[←hm]
 exact ao (aC (aC ae))
def ES (x y:Int):Int:=(x.natAbs:Int)*(y.natAbs:Int)
def sI (p:Int):Int:=if p%65536=0 then p/65536 else p/65536+1
def gZ (x y:Int):Int:=if (!(decide (x<0)==decide (y<0)))=true then-(sI (ES x y)) else ES x y/65536
def ia (x y:Int):Int:=if (!(decide (x<0)==decide (y<0)))=true then-(ES x y/65536) else sI (ES x y)
def ow (x y:Int):Bool:=decide (ES x y/65536>2305843009213693952)
def j7 (x y:Int):Bool:= !ow x y&&(decide (gZ x y≥ -2305843009213693952)&&decide (ia x y≤2305843009213693952))
theorem NQ {p:Int}(h:(p%18446744073709551616%65536 !=0)=true):sI p=p/65536+1:=by
 have h:p%18446744073709551616%65536≠0:=by simpa using h
 unfold sI;rw[if_neg (by omega)]
theorem NZ {p:Int}(h:(p%18446744073709551616%65536 !=0)=false):sI p=p/65536:=by
 have h:p%18446744073709551616%65536=0:=by simpa using h
 unfold sI;rw[if_pos (by omega)]
theorem TR {a:Int}(h:(a !=0)=true):a≠0:=by simpa using h
theorem SJ {a:Int}(h:(a !=0)=false):a=0:=by simpa using h
theorem Bi {x y:Int}(h0: -9223372036854775808≤x) (h1:x≤9223372036854775807) (h2: -9223372036854775808≤y) (h3:y≤9223372036854775807):Ok Tryz.prog 317 [.c (.i .i64 x),.c (.i .i64 y)] [.c (.i .i64 (if ow x y then 0 else gZ x y)),.c (.i .i64 (if ow x y then 0 else ia x y)),.c (.b (j7 x y))]:=by
 obtain⟨p,hp⟩: ∃p,ES x y=p:=⟨_,rfl⟩
 have hp':(x.natAbs:Int)*(y.natAbs:Int)=p:=hp
 have hp0:0≤p:=by rw[←hp'];exact Int.mul_nonneg (by omega) (by omega)
 have hp1:p≤9223372036854775808*9223372036854775808:=by rw[←hp'];exact Int.mul_le_mul (by omega) (by omega) (by omega) (by decide)
 have hmul:Ok Tryz.prog 354 [.c (.i .u64 (x.natAbs:Int)),.c (.i .u64 (y.natAbs:Int))] [.c (.i .u64 (p/18446744073709551616)),.c (.i .u64 (p%18446744073709551616))]:=by rw[←hp'];exact DK (by omega) (by omega) (by omega) (by omega)
 have big:p/65536>2305843009213693952→ow x y=true:=fun h=>by unfold ow;rw[hp];exact decide_eq_true h
 have small: ¬p/65536>2305843009213693952→ow x y=false:=fun h=>by unfold ow;rw[hp];exact decide_eq_false h
 refine Ok.fn Tryz.func317 56 [.tmp 4,.tmp 5,.tmp 6] rfl<|aa<|ab<|ag<|aa<|ab<|al 1<|aj (ak rfl (BG (by omega) (by omega)))<|al 1<|aj (ak rfl (BG (by omega) (by omega)))<|aj (ak rfl (hmul))<|ag<|aa<|aa ?_
 refine ab<|al 1<|aj (lX (r:=p/18446744073709551616/65536) rfl rfl (by decide) (Nt) rfl) ?_
 refine ag ?_
 refine au rfl (fun hc1=>?_) (fun hc1=>?_)
 ·have g1:=TR hc1
  refine aa<|ab<|ag<|am ?_
  rw[show j7 x y=false from by unfold j7;rw[big (by omega)];rfl,big (by omega),if_pos rfl,if_pos rfl]
  exact ao (aC (aC (aC ae)))
 ·have g1:=SJ hc1
  refine ap<|aa<|ab<|al 1<|aj (JW (r:=(p/18446744073709551616)*281474976710656) rfl rfl (by decide) (P4 (by omega) (by omega)) rfl) ?_
  refine al 1<|aj (lX (r:=p%18446744073709551616/65536) rfl rfl (by decide) (Nt) rfl) ?_
  refine aj (Or (r:=p/65536) rfl rfl ((Tg (by omega) (by omega) (by omega) (by omega)).trans (by omega)) rfl) ?_
  refine ag<|aa<|aa<|ab<|ag ?_
  refine au rfl (fun hc2=>?_) (fun hc2=>?_)
  ·refine aa<|ab<|ag<|am ?_
   rw[show j7 x y=false from by unfold j7;rw[big (oC hc2)];rfl,big (oC hc2),if_pos rfl,if_pos rfl]
   exact ao (aC (aC (aC ae)))
  ·have g2:=jm hc2
   refine ap<|aa<|ab<|al 1<|aj (bN (r:=p/65536) eo uq rfl (lU (by omega) (by omega)) rfl) ?_
   refine al 1<|aj (bN (r:=p/65536) eo uq rfl (lU (by omega) (by omega)) rfl) ?_
   refine ag<|aa<|aa<|ab<|al 1<|aj (se (r:=p%18446744073709551616%65536) rfl rfl (QF (by omega) (by omega)) rfl) ?_
   refine ag ?_
   refine au rfl (fun hc3=>?_) (fun hc3=>?_)
   ·have hu:=NQ hc3
    refine ab<|al 1<|aj (aG (r:=(p/65536)+1) rfl rfl (aW (by omega) (by omega)) rfl) ?_
    refine ag<|aa<|aa<|ab<|al 4<|aj (dH rfl rfl d9 rfl) ?_
    refine aq ?_
    refine au rfl (fun hc4=>?_) (fun hc4=>?_)
    ·--region 11
     refine ab<|al 1<|aj (eI (r:= -(p/65536+1)) rfl (by rw[lU (by omega) (by omega)];omega) rfl) ?_
     refine al 1<|aj (eI (r:= -(p/65536)) rfl (by rw[lU (by omega) (by omega)];omega) rfl) ?_
     refine ag<|aa<|ab<|al 4 ?_
     refine cm (bO rfl) (fun c5 hb5=>?_)
     cases c5
     ·refine ag<|am ?_
      unfold j7
      rw[small (jm hc2),if_neg (by decide),if_neg (by decide),Bool.not_false,Bool.true_and]
      rw[show gZ x y= -(p/65536+1) from by unfold gZ;rw[hp,hu,if_pos hc4],show ia x y= -(p/65536) from by unfold ia;rw[hp,hu,if_pos hc4]]
      rw[hb5,Bool.false_and]
      exact ao (aC (aC (aC ae)))
     ·refine ag<|am ?_
      unfold j7
      rw[small (jm hc2),if_neg (by decide),if_neg (by decide),Bool.not_false,Bool.true_and]
      rw[show gZ x y= -(p/65536+1) from by unfold gZ;rw[hp,hu,if_pos hc4],show ia x y= -(p/65536) from by unfold ia;rw[hp,hu,if_pos hc4]]
      rw[hb5,Bool.true_and]
      exact ao (aC (aC (aC ae)))
    ·refine ap<|aa<|ab<|al 4 ?_
     refine cm (bO rfl) (fun c6 hb6=>?_)
     cases c6
     ·refine ag<|am ?_
      unfold j7
      rw[small (jm hc2),if_neg (by decide),if_neg (by decide),Bool.not_false,Bool.true_and]
      rw[show gZ x y=p/65536 from by unfold gZ;rw[hp,hu,if_neg (by rw[hc4];decide)],show ia x y=p/65536+1 from by unfold ia;rw[hp,hu,if_neg (by rw[hc4];decide)]]
      rw[hb6,Bool.false_and]
      exact ao (aC (aC (aC ae)))
     ·refine ag<|am ?_
      unfold j7
      rw[small (jm hc2),if_neg (by decide),if_neg (by decide),Bool.not_false,Bool.true_and]
      rw[show gZ x y=p/65536 from by unfold gZ;rw[hp,hu,if_neg (by rw[hc4];decide)],show ia x y=p/65536+1 from by unfold ia;rw[hp,hu,if_neg (by rw[hc4];decide)]]
      rw[hb6,Bool.true_and]
      exact ao (aC (aC (aC ae)))
   ·have hu:=NZ hc3
    refine ap<|aa<|aa<|ab<|al 4<|aj (dH rfl rfl d9 rfl) ?_
    refine aq ?_
    refine au rfl (fun hc7=>?_) (fun hc7=>?_)
    ·--region 11
     refine ab<|al 1<|aj (eI (r:= -(p/65536)) rfl (by rw[lU (by omega) (by omega)];omega) rfl) ?_
     refine al 1<|aj (eI (r:= -(p/65536)) rfl (by rw[lU (by omega) (by omega)];omega) rfl) ?_
     refine ag<|aa<|ab<|al 4 ?_
     refine cm (bO rfl) (fun c8 hb8=>?_)
     cases c8
     ·refine ag<|am ?_
      unfold j7
      rw[small (jm hc2),if_neg (by decide),if_neg (by decide),Bool.not_false,Bool.true_and]
      rw[show gZ x y= -(p/65536) from by unfold gZ;rw[hp,hu,if_pos hc7],show ia x y= -(p/65536) from by unfold ia;rw[hp,hu,if_pos hc7]]
      rw[hb8,Bool.false_and]
      exact ao (aC (aC (aC ae)))
     ·refine ag<|am ?_
      unfold j7
      rw[small (jm hc2),if_neg (by decide),if_neg (by decide),Bool.not_false,Bool.true_and]
      rw[show gZ x y= -(p/65536) from by unfold gZ;rw[hp,hu,if_pos hc7],show ia x y= -(p/65536) from by unfold ia;rw[hp,hu,if_pos hc7]]
      rw[hb8,Bool.true_and]
      exact ao (aC (aC (aC ae)))
    ·refine ap<|aa<|ab<|al 4 ?_
     refine cm (bO rfl) (fun c9 hb9=>?_)
     cases c9
     ·refine ag<|am ?_
      unfold j7
      rw[small (jm hc2),if_neg (by decide),if_neg (by decide),Bool.not_false,Bool.true_and]
      rw[show gZ x y=p/65536 from by unfold gZ;rw[hp,hu,if_neg (by rw[hc7];decide)],show ia x y=p/65536 from by unfold ia;rw[hp,hu,if_neg (by rw[hc7];decide)]]
      rw[hb9,Bool.false_and]
      exact ao (aC (aC (aC ae)))
     ·refine ag<|am ?_
      unfold j7
      rw[small (jm hc2),if_neg (by decide),if_neg (by decide),Bool.not_false,Bool.true_and]
      rw[show gZ x y=p/65536 from by unfold gZ;rw[hp,hu,if_neg (by rw[hc7];decide)],show ia x y=p/65536 from by unfold ia;rw[hp,hu,if_neg (by rw[hc7];decide)]]
      rw[hb9,Bool.true_and]
      exact ao (aC (aC (aC ae)))
def D3 (x y:Int):Int:=if x>0 then 1 else if y<0 then-1 else 0
def EQ (x y:Int):Bool:=decide (x>0)||(decide (y<0)||(x==0&&y==0))
theorem RX {x y:Int}(h:decide (x>0)=true):D3 x y=1∧EQ x y=true:=by
 unfold D3 EQ;rw[if_pos (by simpa using h),h];exact⟨rfl,rfl⟩
theorem P2 {x y:Int}(h:decide (x>0)=false) (h2:decide (y<0)=true):D3 x y= -1∧EQ x y=true:=by
 unfold D3 EQ;rw[if_neg (by simpa using h),if_pos (by simpa using h2),h,h2];exact⟨rfl,rfl⟩
theorem JO {x y:Int}(h:decide (x>0)=false) (h2:decide (y<0)=false):D3 x y=0∧EQ x y=(x==0&&y==0):=by
 unfold D3 EQ;rw[if_neg (by simpa using h),if_neg (by simpa using h2),h,h2];exact⟨rfl,rfl⟩
theorem yy {x y:Int}:Ok Tryz.prog 256 [.a (([.i .i64 x]++[.i .i64 y]))] [.c (.i .i64 (D3 x y)),.c (.b (EQ x y))]:=by
 refine Ok.fn Tryz.func256 20 [.tmp 2,.tmp 3] rfl<|aa<|ab<|ag<|aa<|aX<|aa<|ab<|ag ?_
 refine au rfl (fun hc1=>?_) (fun hc1=>?_)
 ·refine aa<|ab<|ag<|am ?_
  rw[(RX hc1).1,(RX hc1).2]
  exact ao (aC (aC ae))
 ·refine aa<|ab<|ag ?_
  refine au rfl (fun hc2=>?_) (fun hc2=>?_)
  ·refine aa<|ab<|ag<|am ?_
   rw[(P2 hc1 hc2).1,(P2 hc1 hc2).2]
   exact ao (aC (aC ae))
  ·refine ap<|aa<|aM 10 rfl rfl<|an 3 ?_
   refine gJ (bO rfl) (fun c3 hb3=>?_)
   cases c3
   ·refine bJ<|ar<|aq<|am ?_
    rw[(JO hc1 hc2).1,(JO hc1 hc2).2,hb3,Bool.false_and]
    exact ao (aC (aC ae))
   ·refine bJ<|ar<|aq<|am ?_
    rw[(JO hc1 hc2).1,(JO hc1 hc2).2,hb3,Bool.true_and]
    exact ao (aC (aC ae))
def nN (x y:Int) (k:Nat):Int:=if k=0 then x else y
theorem B7 {x y:Int}{k:Nat}(h:k<2):([CellD.i .i64 x,.i .i64 y])[k*1]? =some (.i .i64 (nN x y k)):=by
 have:k=0∨k=1:=by omega
 rcases this with rfl|rfl<;>rfl
theorem GB {x y:Int}{k:Nat}(h0: -2305843009213693952≤x) (h1:x≤2305843009213693952) (h2: -2305843009213693952≤y) (h3:y≤2305843009213693952): -2305843009213693952≤nN x y k∧nN x y k≤2305843009213693952:=by
 unfold nN;split<;>omega
def tc (x y u v:Int):Nat→Int
 |0=>2305843009213693952
 |n+1=>min (tc x y u v n) (gZ (nN x y (n/2)) (nN u v (n%2)))
def sj (x y u v:Int):Nat→Int
 |0=> -2305843009213693952
 |n+1=>max (sj x y u v n) (ia (nN x y (n/2)) (nN u v (n%2)))
def qF (x y u v:Int):Nat→Bool
 |0=>true
 |n+1=>qF x y u v n&&j7 (nN x y (n/2)) (nN u v (n%2))
theorem H5 {x y:Int}(h:j7 x y=true): ¬ow x y=true:=by
 unfold j7 at h
 rw[Bool.and_eq_true] at h
 intro e
 rw[e] at h
 exact absurd h.1 (by decide)
theorem GY {x y u v:Int}{n:Nat}(h:qF x y u v n=false) (m:Nat):qF x y u v (n+m)=false:=by
 induction m with
 |zero=>exact h
 |succ m ih=>show(qF x y u v (n+m)&&_)=false;rw[ih];rfl
theorem Kq {x y u v:Int}{k j:Nat}(hj:j<2) (h:j7 (nN x y k) (nN u v j)=true):min (tc x y u v (2*k+j)) (if ow (nN x y k) (nN u v j) then 0 else gZ (nN x y k) (nN u v j))=tc x y u v (2*k+(j+1)):=by
 rw[if_neg (H5 h)]
 show _=min (tc x y u v (2*k+j)) (gZ (nN x y ((2*k+j)/2)) (nN u v ((2*k+j)%2)))
 rw[show(2*k+j)/2=k from by omega,show(2*k+j)%2=j from by omega]
theorem LY {x y u v:Int}{k j:Nat}(hj:j<2) (h:j7 (nN x y k) (nN u v j)=true):max (sj x y u v (2*k+j)) (if ow (nN x y k) (nN u v j) then 0 else ia (nN x y k) (nN u v j))=sj x y u v (2*k+(j+1)):=by
 rw[if_neg (H5 h)]
 show _=max (sj x y u v (2*k+j)) (ia (nN x y ((2*k+j)/2)) (nN u v ((2*k+j)%2)))
 rw[show(2*k+j)/2=k from by omega,show(2*k+j)%2=j from by omega]
theorem BL {x y u v:Int}{k j:Nat}(hj:j<2):qF x y u v (2*k+(j+1))=(qF x y u v (2*k+j)&&j7 (nN x y k) (nN u v j)):=by
 show(qF x y u v (2*k+j)&&j7 (nN x y ((2*k+j)/2)) (nN u v ((2*k+j)%2)))=_
 rw[show(2*k+j)/2=k from by omega,show(2*k+j)%2=j from by omega]
theorem Dl {x y u v:Int}(h0: -2305843009213693952≤x) (h1:x≤2305843009213693952) (h2: -2305843009213693952≤y) (h3:y≤2305843009213693952) (h4: -2305843009213693952≤u) (h5:u≤2305843009213693952) (h6: -2305843009213693952≤v) (h7:v≤2305843009213693952):Ok Tryz.prog 258 [.a (([.i .i64 x]++[.i .i64 y])),.a (([.i .i64 u]++[.i .i64 v]))] [.a (([.i .i64 (if qF x y u v 4 then tc x y u v 4 else 0)]++[.i .i64 (if qF x y u v 4 then sj x y u v 4 else 0)])),.c (.b (qF x y u v 4))]:=by
 refine Ok.fn Tryz.func258 56 [.cell 4 221,.tmp 5] rfl<|aa<|ab<|al 2<|aw (ah dC rfl) rfl<|ag<|aa<|ab<|ag<|aa<|aa<|ab<|al 4<|nH (kV (us:=[.i .i64 x,.i .i64 y]) MC rfl rfl (by decide) (by decide) rfl) rfl ?_
 refine aj (vD DB rfl rfl) ?_
 refine ag<|aX<|cZ (ι:={k:Nat // k≤2∧qF x y u v (2*k)=true}) (fun i=>⟨56,[(2,.p 2 0),(3,.p 3 0),(4,.p 4 0),(6,.v (.c (.i .i64 (tc x y u v (2*i.1))))),(7,.v (.c (.i .i64 (sj x y u v (2*i.1))))),(19,.o 19 2 2),(20,.v (.c (.i .i64 (2:Int)))),(21,.v (.c (.i .i64 (i.1:Int))))],[(2,221,([.i .i64 x]++[.i .i64 y])),(3,221,([.i .i64 u]++[.i .i64 v])),(4,221,([.i .i64 0]++[.i .i64 0])),(19,2,[.i .i64 x,.i .i64 y])]⟩) (fun i=>2-i.1) ⟨0,by omega,rfl⟩ (aR ⟨rfl,rfl,rfl,rfl,rfl,rfl,rfl,rfl,trivial⟩ ⟨rfl,rfl,rfl,rfl,trivial⟩ rfl) ?_
 rintro⟨k,hk0,hok⟩
 replace hk0:k≤2:=hk0
 replace hok:qF x y u v (2*k)=true:=hok
 have gx:=GB (k:=k) h0 h1 h2 h3
 show Dw _ _ ⟨56,[(2,.p 2 0),(3,.p 3 0),(4,.p 4 0),(6,.v (.c (.i .i64 (tc x y u v (2*k))))),(7,.v (.c (.i .i64 (sj x y u v (2*k))))),(19,.o 19 2 2),(20,.v (.c (.i .i64 (2:Int)))),(21,.v (.c (.i .i64 (k:Int))))],[(2,221,([.i .i64 x]++[.i .i64 y])),(3,221,([.i .i64 u]++[.i .i64 v])),(4,221,([.i .i64 0]++[.i .i64 0])),(19,2,[.i .i64 x,.i .i64 y])]⟩ _
 refine aa<|ab<|ag<|aa ?_
 refine au rfl (fun hc1=>?_) (fun hc1=>?_)
 ·have hk:k<2:=by have:=oC hc1;omega
  refine ap<|aa<|aX<|aa<|ab<|aj (cJ DB rfl rfl (by omega) rfl) ?_
  refine aj (eY PP rfl rfl (B7 (x:=x) (y:=y) (k:=k) (by omega)) rfl) ?_
  refine ag<|aa<|ab<|al 4<|nH (kV (us:=[.i .i64 u,.i .i64 v]) MC rfl rfl (by decide) (by decide) rfl) rfl ?_
  refine aj (vD DB rfl rfl) ?_
  refine ag<|aX<|cZ (ι:={j:Nat // j≤2∧qF x y u v (2*k+j)=true}) (fun i=>⟨56,[(2,.p 2 0),(3,.p 3 0),(4,.p 4 0),(6,.v (.c (.i .i64 (tc x y u v (2*k+i.1))))),(7,.v (.c (.i .i64 (sj x y u v (2*k+i.1))))),(19,.o 19 2 2),(20,.v (.c (.i .i64 (2:Int)))),(21,.v (.c (.i .i64 (k:Int)))),(9,.v (.c (.i .i64 (nN x y k)))),(29,.o 29 2 2),(30,.v (.c (.i .i64 (2:Int)))),(31,.v (.c (.i .i64 (i.1:Int))))],[(2,221,([.i .i64 x]++[.i .i64 y])),(3,221,([.i .i64 u]++[.i .i64 v])),(4,221,([.i .i64 0]++[.i .i64 0])),(19,2,[.i .i64 x,.i .i64 y]),(29,2,[.i .i64 u,.i .i64 v])]⟩) (fun i=>2-i.1) ⟨0,by omega,hok⟩ (aR ⟨rfl,rfl,rfl,rfl,rfl,rfl,rfl,rfl,rfl,rfl,rfl,rfl,trivial⟩ ⟨rfl,rfl,rfl,rfl,rfl,trivial⟩ rfl) ?_
  rintro⟨j,hj0,hokj⟩
  replace hj0:j≤2:=hj0
  replace hokj:qF x y u v (2*k+j)=true:=hokj
  have gu:=GB (k:=j) h4 h5 h6 h7
  show Dw _ _ ⟨56,[(2,.p 2 0),(3,.p 3 0),(4,.p 4 0),(6,.v (.c (.i .i64 (tc x y u v (2*k+j))))),(7,.v (.c (.i .i64 (sj x y u v (2*k+j))))),(19,.o 19 2 2),(20,.v (.c (.i .i64 (2:Int)))),(21,.v (.c (.i .i64 (k:Int)))),(9,.v (.c (.i .i64 (nN x y k)))),(29,.o 29 2 2),(30,.v (.c (.i .i64 (2:Int)))),(31,.v (.c (.i .i64 (j:Int))))],[(2,221,([.i .i64 x]++[.i .i64 y])),(3,221,([.i .i64 u]++[.i .i64 v])),(4,221,([.i .i64 0]++[.i .i64 0])),(19,2,[.i .i64 x,.i .i64 y]),(29,2,[.i .i64 u,.i .i64 v])]⟩ _
  refine aa<|ab<|ag<|aa ?_
  refine au rfl (fun hc2=>?_) (fun hc2=>?_)
  ·have hj:j<2:=by have:=oC hc2;omega
   refine ap<|aa<|aX<|aa<|ab<|aj (cJ DB rfl rfl (by omega) rfl) ?_
   refine aj (eY PP rfl rfl (B7 (x:=u) (y:=v) (k:=j) (by omega)) rfl) ?_
   refine ag<|aa<|ab<|al 2<|aj (ak rfl (Bi (by omega) (by omega) (by omega) (by omega)))<|ag<|aa<|aa<|ab<|ag ?_
   refine au rfl (fun hc3=>?_) (fun hc3=>?_)
   ·have hbad:qF x y u v 4=false:=by
     have h8:=GY (n:=2*k+(j+1)) (by rw[BL hj,fX hc3,Bool.and_false]) (4-(2*k+(j+1)))
     rw[show 2*k+(j+1)+(4-(2*k+(j+1)))=4 from by omega] at h8;exact h8
    refine aa<|ab<|aj (aD (us:=([.i .i64 0]++[.i .i64 0])) km dC rfl rfl rfl) ?_
    refine ag<|am ?_
    rw[hbad,if_neg (by decide),if_neg (by decide)]
    exact ao (bb fV rfl (aC ae))
   ·have hsc:=dS hc3
    refine ap<|ab<|al 2<|aj (Cd rfl rfl rfl) ?_
    refine al 2<|aj (ww rfl rfl rfl) ?_
    refine ag<|ab<|aj (aG (r:=(j:Int)+1) rfl rfl (aW (by omega) (by omega)) rfl) ?_
    refine ag ?_
    exact⟨⟨j+1,by omega,by rw[BL hj,hokj,hsc];rfl⟩,aR ⟨rfl,rfl,rfl,by rw[←Kq hj hsc];rfl,by rw[←LY hj hsc];rfl,rfl,rfl,rfl,rfl,rfl,rfl,by rw[show((j+1:Nat):Int)=(j:Int)+1 from by omega];rfl,trivial⟩ ⟨rfl,rfl,rfl,rfl,rfl,trivial⟩ rfl,by show 2-(j+1)<2-j;omega⟩
  ·have hj2:2*k+j=2*k+2:=by have:=jm hc2;omega
   refine cq<|ab<|aj (aG (r:=(k:Int)+1) rfl rfl (aW (by omega) (by omega)) rfl) ?_
   refine ag ?_
   exact⟨⟨k+1,by omega,by rw[show 2*(k+1)=2*k+2 from by omega,←hj2];exact hokj⟩,aR ⟨rfl,rfl,rfl,by rw[show 2*(k+1)=2*k+2 from by omega,←hj2];rfl,by rw[show 2*(k+1)=2*k+2 from by omega,←hj2];rfl,rfl,rfl,by rw[show((k+1:Nat):Int)=(k:Int)+1 from by omega];rfl,trivial⟩ ⟨rfl,rfl,rfl,rfl,trivial⟩ rfl,by show 2-(k+1)<2-k;omega⟩
 ·have hk2:2*k=4:=by have:=jm hc1;omega
  refine cq<|aa<|ab<|al 2<|aj (aD (us:=([.i .i64 (tc x y u v (2*k))]++[.i .i64 (sj x y u v (2*k))])) km dC rfl rfl rfl) ?_
  refine ag<|am ?_
  rw[hk2] at hok
  have e1:tc x y u v 4=tc x y u v (2*k):=by rw[hk2]
  have e2:sj x y u v 4=sj x y u v (2*k):=by rw[hk2]
  rw[hok,if_pos rfl,if_pos rfl,e1,e2]
  exact ao (bb fV rfl (aC ae))
theorem q9 {c:Rat}(h: ¬c<0):0≤fu c:=by
 unfold fu
 have h0:0≤c:=Rat.not_lt.1 h
 have h1:0≤c*((65536:Int):Rat):=Rat.mul_nonneg h0 (by decide)
 have h2:0≤(c*((65536:Int):Rat)).num:=Rat.num_nonneg.2 h1
 have h3:=den_pos (-(c*((65536:Int):Rat)))
 rw[Int.fdiv_eq_ediv_of_nonneg _ (by omega),Rat.neg_num]
 have h4:(-(c*((65536:Int):Rat)).num)/((-(c*((65536:Int):Rat))).den:Int)≤0:=by
  have h5:=Int.ediv_le_ediv h3 (show-(c*((65536:Int):Rat)).num≤0 by omega)
  rw[Int.zero_ediv] at h5;exact h5
 omega
theorem Cx {lo hi:Int}(h:oo lo hi=true): -2305843009213693952≤lo∧hi≤2305843009213693952:=by unfold oo at h;simpa using h
theorem MW (c:Rat):fG c≤fu c:=by
 unfold fG fu
 have h3:=den_pos (c*((65536:Int):Rat))
 rw[Rat.neg_num,Rat.neg_den,Int.fdiv_eq_ediv_of_nonneg _ (by omega),Int.fdiv_eq_ediv_of_nonneg _ (by omega)]
 generalize (c*((65536:Int):Rat)).num=n at*
 generalize ((c*((65536:Int):Rat)).den:Int)=d at*
 have e1:=Int.mul_ediv_add_emod n d
 have e2:=Int.mul_ediv_add_emod (-n) d
 have m1:=Int.emod_nonneg n (show d≠0 by omega)
 have m2:=Int.emod_nonneg (-n) (show d≠0 by omega)
 have h4:d*(n/d+(-n)/d)≤d*0:=by rw[Int.mul_add];omega
 have:=Int.le_of_mul_le_mul_left h4 h3
 omega
theorem vK {c:Rat}(h:fw c=true): -2305843009213693952≤fG c∧fG c≤2305843009213693952∧ -2305843009213693952≤fu c∧fu c≤2305843009213693952:=by
 unfold fw at h
 simp only[Bool.and_eq_true] at h
 have h1:=Cx h.2.2
 have h2:=MW c
 omega
theorem FN {x y:Int}(h1:x≤2305843009213693952) (h2:0≤y) (h3:y≤2305843009213693952):0≤jC x∧jC x≤549755813889∧0≤gE y∧gE y≤549755813889:=by
 have b1:=tK (n:=max x 0) (by omega) (by omega)
 have b2:=tK (n:=y) h2 h3
 unfold jC gE
 refine⟨b1.1,by omega,?_,?_⟩<;>split<;>omega
theorem PC {x y u v:Int}(n:Nat) (h:qF x y u v n=true): -2305843009213693952≤tc x y u v n∧tc x y u v n≤2305843009213693952∧ -2305843009213693952≤sj x y u v n∧sj x y u v n≤2305843009213693952:=by
 induction n with
 |zero=>show _≤(2305843009213693952:Int)∧(2305843009213693952:Int)≤_∧_≤(-2305843009213693952:Int)∧(-2305843009213693952:Int)≤_;omega
 |succ n ih=>
  have h':(qF x y u v n&&j7 (nN x y (n/2)) (nN u v (n%2)))=true:=h
  rw[Bool.and_eq_true] at h'
  have i:=ih h'.1
  have s1:=h'.2
  unfold j7 at s1
  simp only[Bool.and_eq_true,decide_eq_true_eq] at s1
  show _≤min _ _∧min _ _≤_∧_≤max _ _∧max _ _≤_
  omega
def Lw (b c:Rat):Bool:=qF (fG b) (fu b) (jC (fG c)) (gE (fu c)) 4
def wZ (b c:Rat):Int:=tc (fG b) (fu b) (jC (fG c)) (gE (fu c)) 4
def xe (b c:Rat):Int:=sj (fG b) (fu b) (jC (fG c)) (gE (fu c)) 4
def LQ (a b c:Rat):Bool:=fw b&&(fw c&&(!decide (a7 c 0<0)&&(Lw b c&&oo (fG a+wZ b c) (fu a+xe b c))))
def dk (a b c:Rat):Bool:=fw a&&((a7 b 0==0)||LQ a b c)
def dz (a b c:Rat):Int:=if dk a b c then(if (a7 b 0==0)=true then fG a else fG a+wZ b c) else 0
def dA (a b c:Rat):Int:=if dk a b c then(if (a7 b 0==0)=true then fu a else fu a+xe b c) else 0
theorem kG {a b c:Rat}(h:dk a b c=false):dz a b c=0∧dA a b c=0:=by
 unfold dz dA;rw[h];exact⟨rfl,rfl⟩
theorem SR {a b c:Rat}(h:fw a=false):dk a b c=false:=by unfold dk;rw[h];rfl
theorem Kc {a b c:Rat}(h:(a7 b 0==0)=false) (hx:LQ a b c=false):dk a b c=false:=by unfold dk;rw[h,hx];cases fw a<;>rfl
theorem R9 {a b c:Rat}(h:fw a=true) (h2:(a7 b 0==0)=true):dz a b c=fG a∧dA a b c=fu a∧dk a b c=true:=by
 have e:dk a b c=true:=by unfold dk;rw[h,h2];rfl
 unfold dz dA;rw[e,if_pos rfl,if_pos rfl,if_pos h2,if_pos h2];exact⟨rfl,rfl,rfl⟩
theorem Su {a b c:Rat}(h:fw a=true) (h2:(a7 b 0==0)=false) (h3:fw b=true) (h4:fw c=true) (h5:decide (a7 c 0<0)=false) (h6:Lw b c=true):
 dz a b c=(if oo (fG a+wZ b c) (fu a+xe b c) then fG a+wZ b c else 0)∧dA a b c=(if oo (fG a+wZ b c) (fu a+xe b c) then fu a+xe b c else 0)∧dk a b c=oo (fG a+wZ b c) (fu a+xe b c):=by
 have e:dk a b c=oo (fG a+wZ b c) (fu a+xe b c):=by unfold dk LQ;rw[h,h2,h3,h4,h5,h6];rfl
 unfold dz dA;rw[e,h2];exact⟨rfl,rfl,rfl⟩
theorem o5 {a b c:Rat}(ha:Rz 40000 a) (hb:Rz 40000 b) (hc:Rz 40000 c):Ok Tryz.prog 250 [.a ((cR a++cR b++cR c))] [.a (([.i .i64 (dz a b c)]++[.i .i64 (dA a b c)])),.c (.b (dk a b c))]:=by
 refine Ok.fn Tryz.func250 72 [.cell 2 221,.tmp 3] rfl<|aa<|ab<|al 1<|aw (ah dC rfl) rfl<|ag<|aa<|ab<|al 1<|aj (aA (cR a) az rfl)<|aj (ak rfl (jt (aO ha)))<|al 3<|aw (ah dC rfl) rfl<|ag ?_
 refine aa<|aa<|ab<|al 2 ?_
 refine cm (bO rfl) (fun c1 hb1=>?_)
 cases c1
 ·have ea:=dS hb1
  refine al 1<|aj (aA (cR b) az rfl)<|aj (ak rfl (dw))<|ag ?_
  refine au rfl (fun hc2=>?_) (fun hc2=>?_)
  ·obtain⟨w1,w2,w3⟩:=R9 (c:=c) ea hc2
   refine aa<|ab<|ag<|am ?_
   have x1:dz a b c=(if fw a then fG a else 0):=by rw[w1,ea];rfl
   have x2:dA a b c=(if fw a then fu a else 0):=by rw[w2,ea];rfl
   have x3:dk a b c=fw a:=by rw[w3,ea]
   rw[x1,x2,x3]
   exact ao (bb fV rfl (aC ae))
  ·have hb0:=hc2
   refine ap<|aa<|ab<|al 1<|aj (aA (cR b) az rfl)<|aj (ak rfl (jt (aO hb)))<|al 3<|aw (ah dC rfl) rfl<|ag<|aa<|ab<|al 1<|aj (aA (cR c) az rfl)<|aj (ak rfl (jt (aO hc))) ?_
   refine al 3<|aw (ah dC rfl) rfl<|ag<|aa<|aa<|ab<|al 2 ?_
   refine cm (bO rfl) (fun c3 hb3=>?_)
   cases c3
   ·have eb:=dS hb3
    refine al 3 ?_
    refine cm (bO rfl) (fun c4 hb4=>?_)
    cases c4
    ·have ec:=dS hb4
     refine al 1<|aj (aA (cR c) az rfl)<|aj (ak rfl (dw))<|ag ?_
     refine au rfl (fun hc5=>?_) (fun hc5=>?_)
     ·have hno:dk a b c=false:=Kc hb0 (by unfold LQ;rw[hc5,Bool.not_true,Bool.false_and,Bool.and_false,Bool.and_false])
      refine aa<|ab<|aj (aD (us:=([.i .i64 0]++[.i .i64 0])) km dC rfl rfl rfl) ?_
      refine ag<|am ?_
      rw[(kG hno).1,(kG hno).2,hno]
      exact ao (bb fV rfl (aC ae))
     ·have hcn:=hc5
      have bA:=vK ea
      have bB:=vK eb
      have bC:=vK ec
      have hH:=q9 (c:=c) (u4 hc5)
      have bS:=FN (x:=fG c) (y:=fu c) (by omega) hH (by omega)
      refine Dw.weak (σ':=⟨72,[(1,.p 1 0),(2,.p 2 0),(4,.p 4 0),(6,.p 6 0),(7,.p 7 0)],[(1,67,(cR a++cR b++cR c)),(2,221,([.i .i64 0]++[.i .i64 0])),(4,221,([.i .i64 (fG a)]++[.i .i64 (fu a)])),(6,221,([.i .i64 (fG b)]++[.i .i64 (fu b)])),(7,221,([.i .i64 (fG c)]++[.i .i64 (fu c)]))]⟩) (aR ⟨rfl,rfl,rfl,rfl,rfl,trivial⟩ ⟨rfl,rfl,by rw[if_pos ea,if_pos ea];rfl,by rw[if_pos eb,if_pos eb];rfl,by rw[if_pos ec,if_pos ec];rfl,trivial⟩ rfl) ?_
      refine ap<|aa<|aa<|ab<|al 1<|aj (ak rfl (zQ (by omega) (by omega) (by omega) (by omega) (by omega)))<|ag<|aa<|ab<|ag<|ba rfl<|ap<|aa<|aa ?_
      refine ab<|al 1<|aj (bn fV rfl rfl rfl rfl rfl) ?_
      refine aj (ak rfl (Dl (by omega) (by omega) (by omega) (by omega) (by omega) (by omega) (by omega) (by omega)))<|ag<|aa<|ab<|ag ?_
      refine au rfl (fun hc6=>?_) (fun hc6=>?_)
      ·have hno:dk a b c=false:=Kc hb0 (by unfold LQ Lw;rw[fX hc6,Bool.false_and,Bool.and_false,Bool.and_false,Bool.and_false])
       refine aa<|ab<|aj (aD (us:=([.i .i64 0]++[.i .i64 0])) km dC rfl rfl rfl) ?_
       refine ag<|am ?_
       rw[(kG hno).1,(kG hno).2,hno]
       exact ao (bb fV rfl (aC ae))
      ·have hm:Lw b c=true:=dS hc6
       have bM:=PC 4 hm
       obtain⟨w1,w2,w3⟩:=Su ea hb0 eb ec hcn hm
       refine Dw.weak (σ':=⟨72,[(1,.p 1 0),(2,.p 2 0),(4,.p 4 0),(6,.p 6 0),(7,.p 7 0)],[(1,67,(cR a++cR b++cR c)),(2,221,([.i .i64 0]++[.i .i64 0])),(4,221,([.i .i64 (fG a)]++[.i .i64 (fu a)])),(6,221,([.i .i64 (wZ b c)]++[.i .i64 (xe b c)])),(7,221,([.i .i64 (jC (fG c))]++[.i .i64 (gE (fu c))]))]⟩) (aR ⟨rfl,rfl,rfl,rfl,rfl,trivial⟩ ⟨rfl,rfl,rfl,by rw[if_pos (dS hc6),if_pos (dS hc6)];rfl,rfl,trivial⟩ rfl) ?_
       refine ap<|aa<|ab<|al 2<|aj (ak rfl (BK (x:=fG a) (y:=fu a) (u:=wZ b c) (v:=xe b c) (by omega) (by omega) (by omega) (by omega) bM.1 bM.2.1 bM.2.2.1 bM.2.2.2))<|ag<|am ?_
       rw[w1,w2,w3]
       exact ao (bb fV rfl (aC ae))
    ·have hno:dk a b c=false:=Kc hb0 (by unfold LQ;rw[fX hb4,Bool.false_and,Bool.and_false])
     refine ag<|bo rfl<|aa<|ab<|aj (aD (us:=([.i .i64 0]++[.i .i64 0])) km dC rfl rfl rfl) ?_
     refine ag<|am ?_
     rw[(kG hno).1,(kG hno).2,hno]
     exact ao (bb fV rfl (aC ae))
   ·have hno:dk a b c=false:=Kc hb0 (by unfold LQ;rw[fX hb3];rfl)
    refine ag<|bo rfl<|aa<|ab<|aj (aD (us:=([.i .i64 0]++[.i .i64 0])) km dC rfl rfl rfl) ?_
    refine ag<|am ?_
    rw[(kG hno).1,(kG hno).2,hno]
    exact ao (bb fV rfl (aC ae))
 ·refine ag<|bo rfl<|aa<|ab<|ag<|am ?_
  have hno:dk a b c=false:=SR (fX hb1)
  have x1:dz a b c=(if fw a then fG a else 0):=by rw[(kG hno).1,fX hb1];rfl
  have x2:dA a b c=(if fw a then fu a else 0):=by rw[(kG hno).2,fX hb1];rfl
  have x3:dk a b c=fw a:=by rw[hno,fX hb1]
  rw[x1,x2,x3]
  exact ao (bb fV rfl (aC ae))
def BD (o1 o2:Bool) (l1 h1 l2 h2:Int):Int:=if (o1&&o2)=true then(if decide (h1<l2)=true then-1 else if decide (l1>h2)=true then 1 else 0) else 0
def Ag (o1 o2:Bool) (l1 h1 l2 h2:Int):Bool:=(o1&&o2)&&(decide (h1<l2)||decide (l1>h2))
theorem sC {a b c d e f:Rat}(ha:Rz 40000 a) (hb:Rz 40000 b) (hc:Rz 40000 c) (hd:Rz 40000 d) (he:Rz 40000 e) (hf:Rz 40000 f):Ok Tryz.prog 171 [.a ((cR a++cR b++cR c)),.a ((cR d++cR e++cR f))] [.c (.i .i64 (BD (dk a b c) (dk d e f) (dz a b c) (dA a b c) (dz d e f) (dA d e f))),.c (.b (Ag (dk a b c) (dk d e f) (dz a b c) (dA a b c) (dz d e f) (dA d e f)))]:=by
 refine Ok.fn Tryz.func171 39 [.tmp 4,.tmp 5] rfl<|aa<|ab<|ag<|aa<|ab<|al 1<|aj (ak rfl (o5 (by assumption) (by assumption) (by assumption)))<|al 3<|aw (ah dC rfl) rfl<|ag<|aa<|ab<|al 1 ?_
 refine aj (ak rfl (o5 (by assumption) (by assumption) (by assumption)))<|al 3<|aw (ah dC rfl) rfl<|ag<|aa<|aX<|aa<|ab<|al 2 ?_
 refine cm (bO rfl) (fun c1 hb1=>?_)
 cases c1
 ·refine ag ?_
  refine au rfl (fun hc2=>?_) (fun hc2=>?_)
  ·refine aa<|ab<|ag<|am ?_
   rw[show BD (dk a b c) (dk d e f) (dz a b c) (dA a b c) (dz d e f) (dA d e f)=0 from by unfold BD;rw[dS hb1,fX hc2];rfl,show Ag (dk a b c) (dk d e f) (dz a b c) (dA a b c) (dz d e f) (dA d e f)=false from by unfold Ag;rw[dS hb1,fX hc2];rfl]
   exact ao (aC (aC ae))
  ·refine aa<|ab<|ag ?_
   refine au rfl (fun hc3=>?_) (fun hc3=>?_)
   ·refine aa<|ab<|ag<|am ?_
    rw[show BD (dk a b c) (dk d e f) (dz a b c) (dA a b c) (dz d e f) (dA d e f)= -1 from by unfold BD;rw[dS hb1,dS hc2,hc3];rfl,show Ag (dk a b c) (dk d e f) (dz a b c) (dA a b c) (dz d e f) (dA d e f)=true from by unfold Ag;rw[dS hb1,dS hc2,hc3];rfl]
    exact ao (aC (aC ae))
   ·refine aa<|ab<|ag ?_
    refine au rfl (fun hc4=>?_) (fun hc4=>?_)
    ·refine aa<|ab<|ag<|am ?_
     rw[show BD (dk a b c) (dk d e f) (dz a b c) (dA a b c) (dz d e f) (dA d e f)=1 from by unfold BD;rw[dS hb1,dS hc2,hc3,hc4];rfl,show Ag (dk a b c) (dk d e f) (dz a b c) (dA a b c) (dz d e f) (dA d e f)=true from by unfold Ag;rw[dS hb1,dS hc2,hc3,hc4];rfl]
     exact ao (aC (aC ae))
    ·refine ap<|aa<|ab<|ag<|am ?_
     rw[show BD (dk a b c) (dk d e f) (dz a b c) (dA a b c) (dz d e f) (dA d e f)=0 from by unfold BD;rw[dS hb1,dS hc2,hc3,hc4];rfl,show Ag (dk a b c) (dk d e f) (dz a b c) (dA a b c) (dz d e f) (dA d e f)=false from by unfold Ag;rw[dS hb1,dS hc2,hc3,hc4];rfl]
     exact ao (aC (aC ae))
 ·refine ag<|bo rfl<|aa<|ab<|ag<|am ?_
  rw[show BD (dk a b c) (dk d e f) (dz a b c) (dA a b c) (dz d e f) (dA d e f)=0 from by unfold BD;rw[fX hb1];rfl,show Ag (dk a b c) (dk d e f) (dz a b c) (dA a b c) (dz d e f) (dA d e f)=false from by unfold Ag;rw[fX hb1];rfl]
  exact ao (aC (aC ae))
theorem sW (w:World) (b:Nat) (v:Value) (U T:TypeId) (cs ds:Array Value) (u:Value) (hlt:b<w.heap.size) (hb:w.heap[b]? =some (.cells #[u] T (0,0))):
 (((w.setCell ⟨b,0,none⟩ v).alloc (.cells cs U)).alloc (.cells ds U)).heap[w.heap.size+1]? =some (.cells ds U (0,0))∧
 (((w.setCell ⟨b,0,none⟩ v).alloc (.cells cs U)).alloc (.cells ds U)).heap[b]? =some (.cells #[v] T (0,0))∧Mid b w (((w.setCell ⟨b,0,none⟩ v).alloc (.cells cs U)).alloc (.cells ds U)):=by
 have hs:(w.setCell ⟨b,0,none⟩ v).heap.size=w.heap.size:=by simp
 refine⟨?_,?_,?_⟩
 ·have:=heap_alloc_new ((w.setCell ⟨b,0,none⟩ v).alloc (.cells cs U)) (.cells ds U)
  rw[dg,hs] at this
  exact this
 ·rw[Below.heap_alloc _ _ _ (by rw[dg,hs];omega),Below.heap_alloc _ _ _ (by rw[hs];omega)]
  exact heap_setCell_same w b 0 #[u] T v hb
 ·refine⟨rfl,rfl,rfl,by rw[dg,dg,hs];omega,fun c hc hne=>?_⟩
  rw[Below.heap_alloc _ _ _ (by rw[dg,hs];omega),Below.heap_alloc _ _ _ (by rw[hs];omega)]
  exact heap_setCell_other w ⟨b,0,none⟩ c v hne
set_option maxRecDepth 10000 in
theorem GA (b:Nat) (ok c:Bool) (lo hi:Int) (w:World) (hb:w.heap[b]? =some (.cells #[.bool ok] 251 (0,0))):
 Calls Tryz.prog 296 #[.pointer (some ⟨b,0,none⟩),.agg #[.int .i64 lo,.int .i64 hi],.bool c] w fun e w'=>
  e=.returned (.agg #[.int .i64 lo,.int .i64 hi])∧w'.heap[b]? =some (.cells #[.bool (ok&&c)] 251 (0,0))∧Mid b w w':=by
 have hlt:b<w.heap.size:=(Array.getElem?_eq_some_iff.1 hb).1
 have e1:((w.alloc (.cells #[.int .i64 lo,.int .i64 hi] 221)).alloc (.cells #[.int .i64 0,.int .i64 0] 221)).heap[b]? =some (.cells #[.bool ok] 251 (0,0)):=by
  rw[Below.heap_alloc _ _ _ (by simp;omega),Below.heap_alloc _ _ _ hlt];exact hb
 have c1:((w.alloc (.cells #[.int .i64 lo,.int .i64 hi] 221)).alloc (.cells #[.int .i64 0,.int .i64 0] 221)).cell? ⟨b,0,none⟩=some (.bool ok):=(bq e1 0).trans rfl
 have f0:w.frozen? ⟨b,0,none⟩=false:=Bk.frozen (t:=251) (cs:= #[.bool ok]) hb 0
 cases ok
 ·go_enter Tryz.func296,Tryz.ntmps296
  go_wp2_with fail
  obtain⟨h1,h2,h3⟩:=sW w b (.bool false) 221 251 #[.int .i64 lo,.int .i64 hi] #[.int .i64 lo,.int .i64 hi] _ hlt hb
  have k0:=(bq h1 0).trans rfl
  have k1:=(bq h1 1).trans rfl
  refine⟨rfl,.agg #[.int .i64 lo,.int .i64 hi],?_,rfl,h2,h3⟩
  simp[results,Tryz.results296,go_sem,k0,k1]
  try rfl
 ·go_enter Tryz.func296,Tryz.ntmps296
  go_wp2_with fail
  obtain⟨h1,h2,h3⟩:=sW w b (.bool c) 221 251 #[.int .i64 lo,.int .i64 hi] #[.int .i64 lo,.int .i64 hi] _ hlt hb
  have k0:=(bq h1 0).trans rfl
  have k1:=(bq h1 1).trans rfl
  refine⟨rfl,.agg #[.int .i64 lo,.int .i64 hi],?_,rfl,h2,h3⟩
  simp[results,Tryz.results296,go_sem,k0,k1]
  try rfl
structure OkP (P:Program) (f:FuncId) (U:TypeId) (cs0 cs1:List CellD) (ds rs:List D0):Prop where
 cal:eL P f=true
 run: ∀(V:Nat→Prop) (b:Nat) (bs:Array Value) (vs:Array Value) (vl:List Value) (w:World),vs.toList=.pointer (some ⟨b,0,none⟩)::vl→(∀c,V c→c<w.heap.size)→V b→w.heap[b]? =some (.cells bs U (0,0))→RdCs V w bs.toList cs0→RdL V w vl ds→
  Calls P f vs w fun e w'=> ∃v,∃bs':Array Value,e=.returned v∧w'.heap[b]? =some (.cells bs' U (0,0))∧Mid b w w'∧RdCs V w' bs'.toList cs1∧Np V w' v rs
section
variable {P:Program}{ops:Array Oper}{T:TF}{B:BF}
theorem dY {dst:Option Nat}{fo x:Operand}{xs:List Operand}{args:Array Operand}{at_:Array TypeId}{ty:TypeId}{pos:String}{af:Array Edge}{g:Option (Nat×Bool)}{f:FuncId}{k:Nat}{U:TypeId}{cs0 cs1:List CellD}{ds rs:List D0}
 (hf:cU T fo=some (.v (.c (.f f)))) (hargs:args.toList=x::xs) (hx:cU T x=some (.p k 0)) (ha:vo T xs=some ds) (hb:B k=some (U,cs0)) (hok:OkP P f U cs0 cs1 ds rs) (hg:gd ops ⟨dst,.call ⟨.value fo,args,at_⟩,ty,pos,af,g⟩ T=some true):
 Sem P ops ⟨dst,.call ⟨.value fo,args,at_⟩,ty,pos,af,g⟩ T B (.rs k U cs1 (wK rs)):=by
 refine⟨by unfold wK;split<;>rfl,⟨_,hb⟩,fun V β a w hs=>⟨eA hs hg,?_⟩⟩
 have hin: ∀y∈x::xs,y∈(⟨dst,.call ⟨.value fo,args,at_⟩,ty,pos,af,g⟩:Oper).op.operands:=fun y hy=>by
  have hx2:y∈args:=Array.mem_toList_iff.1 (by rw[hargs];exact hy)
  simp[Op.operands,Call.operands,hx2]
 have h1:=RdC.func_eq (aJ hs (x:=fo) (by simp[Op.operands,Call.operands]) hf)
 have h2:=m9 hs xs ds (fun y hy=>hin y (List.mem_cons_of_mem _ hy)) ha
 have h3:a.eval x=.pointer (some ⟨β k,0,none⟩):=aJ hs (hin x (List.mem_cons_self ..)) hx
 obtain⟨hV,bs,e,hr⟩:=hs.box k U cs0 hb
 have hc:=hok.cal
 unfold eL at hc
 cases hfn:P.funcs[f]? with
 |none=>rw[hfn] at hc;cases hc
 |some fn=>
  rw[hfn] at hc
  simp only[Bool.and_eq_true,bne_iff_ne,ne_eq,Bool.not_eq_true'] at hc
  have hrun:(execOp a.eval ⟨dst,.call ⟨.value fo,args,at_⟩,ty,pos,af,g⟩).run P w=.ok (.enter f (args.map a.eval)) w:=by
   have hb2:fn.body≠none:=by have:=hc.2;cases hbb:fn.body with
    |none=>rw[hbb] at this;cases this
    |some c=>simp
   simp[execOp,resolve,h1,Deferred.ofValue,invoke,callFunc,program,Sem.run,hfn,hc.1,hb2]
  unfold Gives
  rw[hrun]
  refine(hok.run V (β k) bs (args.map a.eval) (xs.map a.eval) w (by rw[Array.toList_map,hargs,List.map_cons,h3]) hs.av hV e hr h2).mono ?_
  rintro e w' ⟨v,bs',rfl,hbl,hm,hr1,hr2⟩
  refine⟨v,rfl,bs',hbl,hm,hr1,?_⟩
  unfold Np at hr2
  split at hr2
  ·exact hr2
  ·rename_i hne
   have e2:wK rs=.t rs:=by
    unfold wK
    split
    ·rename_i d;exact absurd rfl (hne d)
    ·rfl
   rw[e2];exact hr2
theorem lN {dst:Option Nat}{x:Operand}{ty:TypeId}{pos:String}{af:Array Edge}{g:Option (Nat×Bool)}{k off:Nat}
 (hx:cU T x=some (.p k off)) (hg:gd ops ⟨dst,.nilCheck x,ty,pos,af,g⟩ T=some true):Sem P ops ⟨dst,.nilCheck x,ty,pos,af,g⟩ T B (.r (.p k off)):=
 bP hg (fun l e=>nM (ops:=ops) (o:=⟨dst,.nilCheck x,ty,pos,af,g⟩) (by simp[Op.operands]) hx e)
  (fun V β a w hs=>by
   have hp:a.eval x=.pointer (some ⟨β k,off,none⟩):=aJ hs (x:=x) (by simp[Op.operands]) hx
   exact⟨_,by simp[execOp,hp],rfl⟩)
end
theorem Lj (ok c:Bool) (lo hi:Int):OkP Tryz.prog 296 251 [.b ok] [.b (ok&&c)] [.a [.i .i64 lo,.i .i64 hi],.c (.b c)] [.a [.i .i64 lo,.i .i64 hi]]:=
 ⟨by kernel_rfl,fun V b bs vs vl w hvs hV hb hbl hcs hds=>by
  obtain⟨vs⟩:=vs
  replace hvs:vs=_:=hvs
  subst hvs
  match vl,hds with
  |[],hds=>have:=hds.1;simp at this
  |v1::vl,hds=>
  obtain⟨h1,hds⟩:=hds.uncons
  match vl,hds with
  |[],hds=>have:=hds.1;simp at this
  |v2::vl,hds=>
  obtain⟨h2,hds⟩:=hds.uncons
  have hn:vl=[]:=List.length_eq_zero_iff.1 hds.1
  subst hn
  have h2:=RdC.bool_eq h2
  subst h2
  obtain⟨cs,rfl,h1⟩:=h1
  obtain⟨cs⟩:=cs
  obtain⟨bs⟩:=bs
  match cs,h1 with
  |[],h1=>have:=h1.1;simp at this
  |x1::cs,h1=>
  obtain⟨g1,h1⟩:=h1.uncons
  match cs,h1 with
  |[],h1=>have:=h1.1;simp at this
  |x2::cs,h1=>
  obtain⟨g2,h1⟩:=h1.uncons
  have hn:cs=[]:=List.length_eq_zero_iff.1 h1.1
  subst hn
  have g1:=RdC.int_eq g1
  have g2:=RdC.int_eq g2
  subst g1 g2
  match bs,hcs with
  |[],hcs=>have:=hcs.1;simp at this
  |y1::bs,hcs=>
  obtain⟨g3,hcs⟩:=hcs.uncons
  have hn:bs=[]:=List.length_eq_zero_iff.1 hcs.1
  subst hn
  have g3:=RdC.bool_eq g3
  subst g3
  refine(GA b ok c lo hi w hbl).mono ?_
  rintro e w' ⟨rfl,h3,h4⟩
  exact⟨_,_,rfl,h3,h4,RdCs.cons (.b _) RdCs.nil,_,rfl,RdCs.cons (.i _ _) (RdCs.cons (.i _ _) RdCs.nil)⟩⟩
end Go.Proofs.YtacopbfkmnpfgaaGreat
