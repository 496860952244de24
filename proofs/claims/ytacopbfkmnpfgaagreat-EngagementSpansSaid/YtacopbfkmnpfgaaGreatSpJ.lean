/-Roots and points in reduced form:the reference. -/
import Derived.Test.YtacopbfkmnpfgaaGreatSpI
import Derived.Test.YtacopbfkmnpfgaaGreatProg
namespace Go.Proofs.YtacopbfkmnpfgaaGreat
open Go Go.RowKit
def oW (a b c p q r:Rat):Int:=iu (a-p) b (-q) 0 (zc b c) (zc q r)
def nl (a1 b1 a2 b2 c p1 q1 p2 q2 r:Rat):Int:=if oW a1 b1 c p1 q1 r≠0 then oW a1 b1 c p1 q1 r else oW a2 b2 c p2 q2 r
theorem Il {a1 b1 a2 b2 c p1 q1 p2 q2 r:Rat}(h:(oW a1 b1 c p1 q1 r !=0)=true):nl a1 b1 a2 b2 c p1 q1 p2 q2 r=oW a1 b1 c p1 q1 r:=by unfold nl;rw[if_pos (by simpa using h)]
theorem G4 {a1 b1 a2 b2 c p1 q1 p2 q2 r:Rat}(h:(oW a1 b1 c p1 q1 r !=0)=false):nl a1 b1 a2 b2 c p1 q1 p2 q2 r=oW a2 b2 c p2 q2 r:=by unfold nl;rw[if_neg (by simpa using h)]
theorem Rz.zero {k:Nat}(hk:1≤k):Rz k (0:Rat):=⟨⟨by have:=cD k;rw[Rat.zero_num];omega,by have:=cD k;rw[Rat.zero_num];omega⟩,by rw[Rat.zero_den];exact Sz.one hk⟩
theorem Rz.zc {k:Nat}{b c:Rat}(h:Rz k c) (hk:1≤k):Rz k (zc b c):=by
 unfold Go.Proofs.YtacopbfkmnpfgaaGreat.zc
 split
 ·exact Rz.zero hk
 ·exact h
def rt (c:Rat):Rat:=Rat.divInt (bE c.num) (bE (c.den:Int))
theorem Hj {c:Rat}(h:iX c=true):dQ (if iX c then bE c.num else 0) (if iX c then bE (c.den:Int) else 0)=dR (rt c):=by
 rw[if_pos h,if_pos h]
 unfold iX sQ at h
 simp only[Bool.and_eq_true,beq_iff_eq] at h
 obtain⟨h1,h2⟩:=h
 have n0:=d9 c.num
 have d0:=d9 (c.den:Int)
 have dp:=den_pos c
 have hd:0<bE (c.den:Int):=by
  rcases Int.lt_trichotomy 0 (bE (c.den:Int)) with e|e|e
  ·exact e
  ·rw[←e] at h2;simp at h2;omega
  ·omega
 have hg:Int.gcd (bE c.num) (bE (c.den:Int))=1:=by
  have hr:Int.gcd c.num (c.den:Int)=1:=c.reduced
  have d1:Int.gcd (bE c.num) (bE (c.den:Int))∣Int.gcd c.num (c.den:Int):=by
   refine Int.dvd_gcd ?_ ?_
   ·have t:((Int.gcd (bE c.num) (bE (c.den:Int)):Nat):Int)∣bE c.num*bE c.num:=Int.dvd_mul_of_dvd_left (Int.gcd_dvd_left ..)
    rw[h1] at t;exact t
   ·have t:((Int.gcd (bE c.num) (bE (c.den:Int)):Nat):Int)∣bE (c.den:Int)*bE (c.den:Int):=Int.dvd_mul_of_dvd_left (Int.gcd_dvd_right ..)
    rw[h2] at t;exact t
  rw[hr] at d1
  exact Nat.dvd_one.1 d1
 unfold rt
 exact(qE hd (by rw[hg];rfl)).symm
def HT (x:Nat→Rat):Prop:= ∀e:Rat,0<e→ ∃K:Nat,∀i j,K≤i→K≤j→x i-x j≤e
def wP (x:Nat→Rat):Prop:= ∃e:Rat,0<e∧ ∃K:Nat,∀k,K≤k→e≤x k
def B5 (x:Nat→Rat):Prop:= ∀e:Rat,0<e→ ∃K:Nat,∀k,K≤k→ -e≤x k∧x k≤e
structure Re where
 s:Nat→Rat
 c:HT s
theorem Re.ext {x y:Re}(h: ∀k,x.s k=y.s k):x=y:=by
 cases x;cases y
 have:_=_:=funext h
 subst this;rfl
theorem iJ {e:Rat}(h:0<e):0<e/2:=by grind
theorem yn {e B:Rat}(h:0<e) (h2:0<B):0<e/B∧B*(e/B)=e:=by
 refine⟨?_,by grind⟩
 rw[Rat.div_def]
 exact Rat.mul_pos h (Rat.inv_pos.2 h2)
theorem Re.bnd (x:Re): ∃B:Rat,0<B∧ ∃K:Nat,∀k,K≤k→ -B≤x.s k∧x.s k≤B:=by
 obtain⟨K,h⟩:=x.c 1 (by decide)
 by_cases hs:0≤x.s K
 ·exact⟨x.s K+1,by grind,K,fun k hk=>by have h1:=h k K hk (Nat.le_refl _);have h2:=h K k (Nat.le_refl _) hk;constructor<;>grind⟩
 ·exact⟨1-x.s K,by grind,K,fun k hk=>by have h1:=h k K hk (Nat.le_refl _);have h2:=h K k (Nat.le_refl _) hk;constructor<;>grind⟩
theorem sU (q:Rat):HT (fun _=>q):=fun e he=>⟨0,fun i j _ _=>by grind⟩
theorem GM {x y:Nat→Rat}(hx:HT x) (hy:HT y):HT (fun k=>x k+y k):=fun e he=>by
 obtain⟨K,h⟩:=hx (e/2) (iJ he)
 obtain⟨L,g⟩:=hy (e/2) (iJ he)
 exact⟨max K L,fun i j hi hj=>by have h1:=h i j (by omega) (by omega);have h2:=g i j (by omega) (by omega);grind⟩
theorem Io {x:Nat→Rat}(hx:HT x):HT (fun k=> -x k):=fun e he=>by
 obtain⟨K,h⟩:=hx e he
 exact⟨K,fun i j hi hj=>by have h1:=h j i hj hi;grind⟩
theorem zi {a b e f:Rat}(h1: -e≤a) (h2:a≤e) (h3: -f≤b) (h4:b≤f):a*b≤e*f∧ -(e*f)≤a*b:=by
 have p1:0≤(e-a)*(f+b):=Rat.mul_nonneg (by grind) (by grind)
 have p2:0≤(e+a)*(f-b):=Rat.mul_nonneg (by grind) (by grind)
 have p3:0≤(e-a)*(f-b):=Rat.mul_nonneg (by grind) (by grind)
 have p4:0≤(e+a)*(f+b):=Rat.mul_nonneg (by grind) (by grind)
 constructor<;>grind
theorem HK (x y:Re):HT (fun k=>x.s k*y.s k):=fun e he=>by
 obtain⟨B,hB,K,hb⟩:=x.bnd
 obtain⟨D,hD,L,hd⟩:=y.bnd
 obtain⟨d1,e1⟩:=yn (iJ he) hB
 obtain⟨d2,e2⟩:=yn (iJ he) hD
 obtain⟨K',h⟩:=x.c _ d2
 obtain⟨L',g⟩:=y.c _ d1
 refine⟨max (max K L) (max K' L'),fun i j hi hj=>?_⟩
 have b1:=hb i (by omega)
 have b2:=hd j (by omega)
 have h1:=h i j (by omega) (by omega)
 have h2:=h j i (by omega) (by omega)
 have g1:=g i j (by omega) (by omega)
 have g2:=g j i (by omega) (by omega)
 have p1:=(zi b1.1 b1.2 (a:=x.s i) (b:=y.s i-y.s j) (f:=e/2/B) (by grind) (by grind)).1
 have p2:=(zi b2.1 b2.2 (a:=y.s j) (b:=x.s i-x.s j) (f:=e/2/D) (by grind) (by grind)).1
 rw[e1] at p1
 rw[e2] at p2
 grind
def Re.of (q:Rat):Re:=⟨fun _=>q,sU q⟩
instance:Add Re:=⟨fun x y=>⟨fun k=>x.s k+y.s k,GM x.c y.c⟩⟩
instance:Neg Re:=⟨fun x=>⟨fun k=> -x.s k,Io x.c⟩⟩
instance:_root_.Sub Re:=⟨fun x y=>x+ -y⟩
instance:Mul Re:=⟨fun x y=>⟨fun k=>x.s k*y.s k,HK x y⟩⟩
theorem dM (x y:Re) (k:Nat):(x+y).s k=x.s k+y.s k:=rfl
theorem dN (x:Re) (k:Nat):(-x).s k= -x.s k:=rfl
theorem dF (x y:Re) (k:Nat):(x-y).s k=x.s k+ -y.s k:=rfl
theorem dE (x y:Re) (k:Nat):(x*y).s k=x.s k*y.s k:=rfl
theorem fV (q:Rat) (k:Nat):(Re.of q).s k=q:=rfl
theorem go (x:Re):wP x.s∨B5 x.s∨wP (-x).s:=by
 by_cases hn:B5 x.s
 ·exact .inr (.inl hn)
 ·unfold B5 at hn
  obtain⟨e,hn⟩:=Classical.not_forall.1 hn
  obtain⟨he,hn⟩:=Classical.not_imp.1 hn
  obtain⟨K,h⟩:=x.c (e/2) (iJ he)
  have hn2:=not_exists.1 hn K
  obtain⟨k,hn3⟩:=Classical.not_forall.1 hn2
  obtain⟨hk,hn4⟩:=Classical.not_imp.1 hn3
  by_cases h1:e<x.s k
  ·exact .inl ⟨e/2,iJ he,K,fun j hj=>by have:=h k j hk hj;grind⟩
  ·have h2:x.s k< -e:=by
    apply Classical.byContradiction
    intro h3
    exact hn4 ⟨by grind,by grind⟩
   exact .inr (.inr ⟨e/2,iJ he,K,fun j hj=>by rw[dN];have:=h j k hj hk;grind⟩)
section
variable {x y z:Re}
theorem IT (h:wP x.s): ¬wP (-x).s:=fun g=>by
 obtain⟨e,he,K,h⟩:=h
 obtain⟨f,hf,L,g⟩:=g
 have h1:=h (max K L) (by omega)
 have h2:=g (max K L) (by omega)
 rw[dN] at h2
 grind
theorem pQ (h:wP x.s): ¬B5 x.s:=fun g=>by
 obtain⟨e,he,K,h⟩:=h
 obtain⟨L,g⟩:=g (e/2) (iJ he)
 have h1:=h (max K L) (by omega)
 have h2:=g (max K L) (by omega)
 grind
theorem uz (h:B5 x.s):B5 (-x).s:=fun e he=>by
 obtain⟨K,h⟩:=h e he
 exact⟨K,fun k hk=>by rw[dN];have:=h k hk;constructor<;>grind⟩
theorem Jm (h:B5 x.s) (g:B5 y.s):B5 (x+y).s:=fun e he=>by
 obtain⟨K,h⟩:=h (e/2) (iJ he)
 obtain⟨L,g⟩:=g (e/2) (iJ he)
 exact⟨max K L,fun k hk=>by rw[dM];have:=h k (by omega);have:=g k (by omega);constructor<;>grind⟩
theorem pZ (h:wP x.s) (g:B5 y.s):wP (x+y).s:=by
 obtain⟨e,he,K,h⟩:=h
 obtain⟨L,g⟩:=g (e/2) (iJ he)
 exact⟨e/2,iJ he,max K L,fun k hk=>by rw[dM];have:=h k (by omega);have:=g k (by omega);grind⟩
theorem AL (h:wP x.s) (g:wP y.s):wP (x+y).s:=by
 obtain⟨e,he,K,h⟩:=h
 obtain⟨f,hf,L,g⟩:=g
 exact⟨e,he,max K L,fun k hk=>by rw[dM];have:=h k (by omega);have:=g k (by omega);grind⟩
theorem qq (h:wP x.s) (g:wP y.s):wP (x*y).s:=by
 obtain⟨e,he,K,h⟩:=h
 obtain⟨f,hf,L,g⟩:=g
 refine⟨e*f,Rat.mul_pos he hf,max K L,fun k hk=>?_⟩
 rw[dE]
 have h1:=h k (by omega)
 have h2:=g k (by omega)
 have p1:0≤(x.s k-e)*f:=Rat.mul_nonneg (by grind) (by grind)
 have p2:0≤x.s k*(y.s k-f):=Rat.mul_nonneg (by grind) (by grind)
 grind
theorem oz (x:Re) (g:B5 y.s):B5 (x*y).s:=fun e he=>by
 obtain⟨B,hB,K,hb⟩:=x.bnd
 obtain⟨d1,e1⟩:=yn he hB
 obtain⟨L,g⟩:=g _ d1
 refine⟨max K L,fun k hk=>?_⟩
 rw[dE]
 have h1:=hb k (by omega)
 have h2:=g k (by omega)
 have p:=zi h1.1 h1.2 h2.1 h2.2
 rw[e1] at p
 exact⟨p.2,p.1⟩
theorem BW (x:Re): - -x=x:=Re.ext fun k=>by rw[dN,dN];grind
theorem mO (x y:Re):x*y=y*x:=Re.ext fun k=>by rw[dE,dE];grind
theorem CB (x y:Re): -(x*y)= -x*y:=Re.ext fun k=>by rw[dN,dE,dE,dN];grind
theorem C3 (x y:Re): -(x*y)=x* -y:=Re.ext fun k=>by rw[dN,dE,dE,dN];grind
theorem tW (x y:Re): -(x+y)= -x+ -y:=Re.ext fun k=>by rw[dN,dM,dM,dN,dN];grind
noncomputable def di (x:Re):Int:=open Classical in if wP x.s then 1 else if wP (-x).s then-1 else 0
theorem iM:di x=1↔wP x.s:=by
 unfold di
 split
 ·rename_i h;simp[h]
 ·rename_i h;split<;>simp[h]
theorem iB:di x= -1↔wP (-x).s:=by
 unfold di
 split
 ·rename_i h;simp[IT h]
 ·rename_i h
  split
  ·rename_i h2;simp[h2]
  ·rename_i h2;simp[h2]
theorem gW:di x=0↔B5 x.s:=by
 unfold di
 split
 ·rename_i h;simp[pQ h]
 ·rename_i h
  split
  ·rename_i h2
   have h3:=pQ h2
   simp
   exact fun g=>h3 (uz g)
  ·rename_i h2
   simp
   exact((go x).resolve_left h).resolve_right h2
theorem du (x:Re):di x=1∨di x=0∨di x= -1:=by
 rcases go x with h|h|h
 ·exact .inl (iM.2 h)
 ·exact .inr (.inl (gW.2 h))
 ·exact .inr (.inr (iB.2 h))
theorem mG (x:Re):di (-x)= -di x:=by
 rcases go x with h|h|h
 ·rw[iM.2 h,iB,BW];exact h
 ·rw[gW.2 h,gW.2 (uz h)];rfl
 ·rw[iB.2 h,iM.2 h];rfl
theorem eG (x y:Re):di (x*y)=di x*di y:=by
 rcases go x with h|h|h<;>rcases go y with g|g|g
 ·rw[iM.2 h,iM.2 g,iM.2 (qq h g)];rfl
 ·rw[iM.2 h,gW.2 g,gW.2 (oz x g)];rfl
 ·rw[iM.2 h,iB.2 g,Int.one_mul,iB,C3];exact qq h g
 ·rw[gW.2 h,Int.zero_mul,gW,mO];exact oz y h
 ·rw[gW.2 h,Int.zero_mul,gW,mO];exact oz y h
 ·rw[gW.2 h,Int.zero_mul,gW,mO];exact oz y h
 ·rw[iB.2 h,iM.2 g,Int.mul_one,iB,CB];exact qq h g
 ·rw[iB.2 h,gW.2 g,gW.2 (oz x g)];rfl
 ·rw[iB.2 h,iB.2 g]
  have e:x*y= -x* -y:=Re.ext fun k=>by rw[dE,dE,dN,dN];grind
  rw[e,iM.2 (qq h g)];rfl
theorem km (x:Re) (h:di y=0):di (x+y)=di x:=by
 have g:=gW.1 h
 rcases go x with h|h|h
 ·rw[iM.2 h,iM.2 (pZ h g)]
 ·rw[gW.2 h,gW.2 (Jm h g)]
 ·rw[iB.2 h,iB,tW];exact pZ h (uz g)
theorem Bb (x y:Re):x+y=y+x:=Re.ext fun k=>by rw[dM,dM];grind
theorem sy (h:di x=0) (y:Re):di (x+y)=di y:=by rw[Bb];exact km y h
theorem n8 (h:di x=di y):di (x+y)=di x:=by
 rcases du x with g|g|g
 ·rw[g,iM];exact AL (iM.1 g) (iM.1 (h.symm.trans g))
 ·rw[km x (h.symm.trans g)]
 ·rw[g,iB,tW];exact AL (iB.1 g) (iB.1 (h.symm.trans g))
theorem vr (h:0≤di x) (g:0≤di y):0≤di (x+y):=by
 rcases du x with a|a|a
 ·rcases du y with b|b|b
  ·rw[n8 (a.trans b.symm)];exact h
  ·rw[km x b];exact h
  ·omega
 ·rw[sy a];exact g
 ·omega
theorem vK (h:0<di x) (g:0≤di y):0<di (x+y):=by
 rcases du y with b|b|b
 ·rcases du x with a|a|a
  ·rw[n8 (a.trans b.symm)];exact h
  ·omega
  ·omega
 ·rw[km x b];exact h
 ·omega
theorem lD (h:di (x-y)=0):di x=di y:=by
 have e:x=(x-y)+y:=Re.ext fun k=>by rw[dM,dF];grind
 rw[e]
 exact sy h y
theorem gG (q:Rat):di (Re.of q)=bd q 0:=by
 unfold bd
 split
 ·rename_i h
  exact iB.2 ⟨-q,by grind,0,fun k _=>by rw[dN,fV];grind⟩
 ·split
  ·rename_i h;exact iM.2 ⟨q,h,0,fun k _=>by rw[fV];grind⟩
  ·exact gW.2 fun e he=>⟨0,fun k _=>by rw[fV];constructor<;>grind⟩
end
theorem vW {X Y r n:Re}(hr:0≤di r) (hn:di (r*r-n)=0):di (X+Y*r)=ld (di X) (di Y*di n) (di (X*X-Y*Y*n)):=by
 have hrn:di r=di n:=by
  have h1:=lD hn
  rw[eG] at h1
  rcases du r with h|h|h
  ·rw[←h1,h];rfl
  ·rw[←h1,h];rfl
  ·omega
 have ht:di (Y*r)=di Y*di n:=by rw[eG,hrn]
 rw[←ht]
 unfold ld
 split
 ·rename_i h
  rcases h with h|h
  ·exact km X h
  ·exact n8 h
 ·rename_i h
  split
  ·rename_i h2;exact sy h2 _
  ·rename_i h2
   have hopp:di (Y*r)= -di X:=by
    have a:=du X
    have b:=du (Y*r)
    omega
   have hm:di (X+ -(Y*r))=di X:=n8 (by rw[mG,hopp];omega)
   have e1:di ((X+Y*r)*(X+ -(Y*r)))=di (X*X-Y*Y*n):=by
    refine lD ?_
    have e:(X+Y*r)*(X+ -(Y*r))-(X*X-Y*Y*n)= -(Y*Y)*(r*r-n):=Re.ext fun k=>by
     simp only[dF,dE,dM,dN];grind
    rw[e,eG,hn,Int.mul_zero]
   rw[eG,hm] at e1
   rw[←e1]
   have a:=du X
   have b:=du (X+Y*r)
   rcases a with a|a|a<;>rcases b with b|b|b<;>simp[a,b] at* <;>omega
def lp (m:Rat) (k:Nat):Rat:=(((m.den:Int)*((k:Int)+1):Int):Rat)
def KG (m:Rat) (k:Nat):Int:=bE (m.num*(m.den:Int)*(((k:Int)+1)*((k:Int)+1)))
def nR (m:Rat) (k:Nat):Rat:=((KG m k:Int):Rat)/lp m k
theorem nZ {x y d:Rat}(hd:0<d) (h:x*d≤y*d):x≤y:=by
 apply Classical.byContradiction
 intro hn
 have h1:0<(x-y)*d:=Rat.mul_pos (by grind) hd
 grind
theorem FD (m:Rat):m*((m.den:Int):Rat)=((m.num:Int):Rat):=by
 have h:=Rat.num_divInt_den m
 rw[Rat.divInt_eq_div] at h
 have hd:(0:Rat)<((m.den:Int):Rat):=Rat.intCast_pos.2 (by have:=m.den_pos;omega)
 generalize ((m.den:Int):Rat)=q at*
 generalize ((m.num:Int):Rat)=p at*
 grind
theorem oa (m:Rat) (k:Nat):0<lp m k:=by
 unfold lp
 have h1:=den_pos m
 have h2:(0:Int)<(m.den:Int)*((k:Int)+1):=Int.mul_pos h1 (by omega)
 exact Rat.intCast_pos.2 h2
theorem u9 (m:Rat) (k:Nat):nR m k*lp m k=((KG m k:Int):Rat):=by
 have:=oa m k
 unfold nR;grind
theorem Gf (m:Rat) (k:Nat):m*(lp m k*lp m k)=((m.num*(m.den:Int)*(((k:Int)+1)*((k:Int)+1)):Int):Rat):=by
 have h:=FD m
 unfold lp
 simp only[Rat.intCast_mul,Rat.intCast_add,Rat.intCast_one,Rat.intCast_natCast] at*
 grind
theorem Mq (m:Rat) (k:Nat):0≤KG m k:=d9 _
theorem DY {m:Rat}(h:0≤m) (k:Nat):0≤m.num*(m.den:Int)*(((k:Int)+1)*((k:Int)+1)):=
 Int.mul_nonneg (Int.mul_nonneg (Rat.num_nonneg.2 h) (by have:=den_pos m;omega)) (Int.mul_nonneg (by omega) (by omega))
theorem uc (m:Rat) (k:Nat):0≤nR m k:=by
 refine nZ (oa m k) ?_
 rw[u9]
 have:(0:Rat)≤((KG m k:Int):Rat):=Rat.intCast_nonneg.2 (Mq m k)
 grind
theorem DG {m:Rat}(h:0≤m) (k:Nat):nR m k*nR m k≤m:=by
 have hd:=oa m k
 refine nZ (Rat.mul_pos hd hd) ?_
 rw[Gf]
 have e:nR m k*nR m k*(lp m k*lp m k)=((KG m k*KG m k:Int):Rat):=by
  rw[Rat.intCast_mul,←u9];grind
 rw[e]
 exact Rat.intCast_le_intCast.2 (mE (DY h k))
theorem FP {m:Rat}(h:0≤m) (k:Nat):m<(nR m k+1/lp m k)*(nR m k+1/lp m k):=by
 have hd:=oa m k
 have e:(nR m k+1/lp m k)*(nR m k+1/lp m k)*(lp m k*lp m k)=(((KG m k+1)*(KG m k+1):Int):Rat):=by
  rw[Rat.intCast_mul,Rat.intCast_add,←u9]
  have:1/lp m k*lp m k=1:=by grind
  grind
 have h1:=Rat.intCast_lt_intCast.2 (qN (DY h k))
 rw[←Gf] at h1
 have h2:m*(lp m k*lp m k)<(nR m k+1/lp m k)*(nR m k+1/lp m k)*(lp m k*lp m k):=by rw[e];exact h1
 apply Classical.byContradiction
 intro hn
 have h3:0≤(m-(nR m k+1/lp m k)*(nR m k+1/lp m k))*(lp m k*lp m k):=Rat.mul_nonneg (by grind) (by have:=Rat.mul_pos hd hd;grind)
 grind
theorem pi (m:Rat) {e:Rat}(he:0<e) {k:Nat}(hk:e.den≤k):0<1/lp m k∧1/lp m k≤e:=by
 have hd:=oa m k
 have hc:1/lp m k*lp m k=1:=by grind
 refine⟨?_,?_⟩
 ·have:=(yn (e:=1) (by decide) hd).1;exact this
 ·refine nZ hd ?_
  rw[hc]
  have h1:=FD e
  have h2:0<e.num:=Rat.intCast_pos.1 (by rw[←h1];exact Rat.mul_pos he (Rat.intCast_pos.2 (by have:=e.den_pos;omega)))
  have h3:(1:Rat)≤((e.num:Int):Rat):=by
   have:((1:Int):Rat)≤((e.num:Int):Rat):=Rat.intCast_le_intCast.2 (by omega)
   simpa using this
  have h4:((e.den:Int):Rat)≤lp m k:=by
   unfold lp
   refine Rat.intCast_le_intCast.2 ?_
   have:=den_pos m
   have h5:1*((k:Int)+1)≤(m.den:Int)*((k:Int)+1):=Int.mul_le_mul_of_nonneg_right (by omega) (by omega)
   omega
  have h6:0≤e*(lp m k-((e.den:Int):Rat)):=Rat.mul_nonneg (by grind) (by grind)
  simp only[Rat.intCast_natCast] at*
  grind
theorem KX {m:Rat}(h:0≤m):HT (nR m):=fun e he=>by
 refine⟨e.den,fun i j _ hj=>?_⟩
 obtain⟨hp,hs⟩:=pi m he hj
 have h1:=DG h i
 have h2:=FP h j
 have h3:=uc m i
 have h4:=uc m j
 apply Classical.byContradiction
 intro hn
 have h5:0≤(nR m i-(nR m j+1/lp m j))*(nR m i+(nR m j+1/lp m j)):=Rat.mul_nonneg (by grind) (by grind)
 grind
def Re.rt (m:Rat):Re:=⟨fun k=>if 0≤m then nR m k else 0,by
 by_cases h:0≤m
 ·simp only[h,if_true];exact KX h
 ·simp only[h,if_false];exact sU 0⟩
theorem Ms {x:Re}(h: ∀k,0≤x.s k):0≤di x:=by
 rcases du x with a|a|a
 ·omega
 ·omega
 ·obtain⟨e,he,K,g⟩:=iB.1 a
  have h1:=g K (Nat.le_refl _)
  rw[dN] at h1
  have h2:=h K
  exfalso;grind
theorem DH (m:Rat):0≤di (Re.rt m):=Ms fun k=>by
 show 0≤(if 0≤m then nR m k else 0)
 split
 ·exact uc m k
 ·exact Rat.le_refl
theorem wK {m:Rat}(h:0≤m):di (Re.rt m*Re.rt m-Re.of m)=0:=gW.2 fun e he=>by
 obtain⟨d1,d2⟩:=yn he (show 0<2*m+3 by grind)
 refine⟨(e/(2*m+3)).den,fun k hk=>?_⟩
 rw[dF,dE,fV]
 show-e≤(if 0≤m then nR m k else 0)*(if 0≤m then nR m k else 0)+ -m∧(if 0≤m then nR m k else 0)*(if 0≤m then nR m k else 0)+ -m≤e
 rw[if_pos h]
 obtain⟨hp,hs⟩:=pi m d1 hk
 obtain⟨hp1,hs1⟩:=pi m (e:=1) (by decide) (k:=k) (by
  have:(1:Rat).den=1:=rfl
  rw[this]
  have:=(e/(2*m+3)).den_pos
  omega)
 have h1:=DG h k
 have h2:=FP h k
 have h3:=uc m k
 refine⟨?_,by grind⟩
 have h4:nR m k≤m+1:=by
  apply Classical.byContradiction
  intro hn
  have h5:0≤(nR m k-(m+1))*(nR m k+(m+1)):=Rat.mul_nonneg (by grind) (by grind)
  have h6:0≤m*m:=Rat.mul_nonneg h h
  grind
 generalize 1/lp m k=d at*
 have h7:0≤d*((m+1)-nR m k):=Rat.mul_nonneg (by grind) (by grind)
 have h8:0≤d*(1-d):=Rat.mul_nonneg (by grind) (by grind)
 have h9:0≤(2*m+3)*(e/(2*m+3)-d):=Rat.mul_nonneg (by grind) (by grind)
 grind
theorem re (x y:Rat):bd (x-y) 0=bd x y:=by
 unfold bd
 have e1:(x-y<0)=(x<y):=by apply propext;constructor<;>intro h<;>grind
 have e2:(0<x-y)=(y<x):=by apply propext;constructor<;>intro h<;>grind
 simp only[e1,e2]
theorem lf (x y:Rat):Re.of x*Re.of y=Re.of (x*y):=rfl
theorem EL (x:Rat): -Re.of x=Re.of (-x):=rfl
theorem y7 (x y:Rat):Re.of x-Re.of y=Re.of (x-y):=Re.ext fun k=>by rw[dF,fV,fV,fV];grind
def jv (a b m:Rat):Re:=Re.of a+Re.of b*Re.rt m
theorem pO {a b m:Rat}(h:0≤m):cU a b m=di (jv a b m):=by
 unfold jv
 rw[vW (n:=Re.of m) (DH m) (wK h),gG,gG,gG,lf,lf,lf,y7,gG,re]
 rfl
def sN (A B C D M N:Rat):Re:=jv A B M+jv C D M*Re.rt N
theorem jm {A B C D M N:Rat}(hM:0≤M) (hN:0≤N):iu A B C D M N=di (sN A B C D M N):=by
 unfold sN
 rw[vW (n:=Re.of N) (DH N) (wK hN),←pO hM,←pO hM,gG,mY (by grind) (by grind)]
 have e:di (jv A B M*jv A B M-jv C D M*jv C D M*Re.of N)=di (jv (tp A B C D M N) (nf A B C D N+nf A B C D N) M):=by
  refine lD ?_
  have e:(jv A B M*jv A B M-jv C D M*jv C D M*Re.of N)-jv (tp A B C D M N) (nf A B C D N+nf A B C D N) M=(Re.of (B*B-D*D*N))*(Re.rt M*Re.rt M-Re.of M):=Re.ext fun k=>by
   unfold jv tp nf
   simp only[dF,dE,dM,fV];grind
  rw[e,eG,wK hM,Int.mul_zero]
 rw[e,←pO hM]
theorem CU {a b c d e f:Rat}(hc:0≤c) (hf:0≤f):iu (a-d) b (-e) 0 c f=di (jv a b c-jv d e f):=by
 rw[jm hc hf]
 refine congrArg di (Re.ext fun k=>?_)
 unfold sN jv
 simp only[dF,dE,dM,fV];grind
section
variable {P:Program}{ops:Array Oper}{T:TF}{B:BF}
theorem kR {dst:Option Nat}{xt yt:TypeId}{x y:Operand}{ty:TypeId}{pos:String}{af:Array Edge}{g:Option (Nat×Bool)}{k yk:IntKind}{m n r:Int}
 (hx:cq T x=some (.v (.c (.i k m)))) (hy:cq T y=some (.v (.c (.i yk n)))) (h0: ¬n<0) (hr:m.fdiv (2^(min n.toNat k.bits))=r) (hg:gd ops ⟨dst,.binOp .shr xt x y yt,ty,pos,af,g⟩ T=some true):
 Sem P ops ⟨dst,.binOp .shr xt x y yt,ty,pos,af,g⟩ T B (.r (.v (.c (.i k r)))):=
 bG hg (lv rfl) (fun V β a w hs=>by
  have e1:a.eval x=.int k m:=RdC.int_eq (aG hs (x:=x) (by simp[Op.operands]) hx)
  have e2:a.eval y=.int yk n:=RdC.int_eq (aG hs (x:=y) (by simp[Op.operands]) hy)
  subst hr
  exact⟨.int k (m.fdiv (2^(min n.toNat k.bits))),by simp[execOp,e1,e2,eqGuard,binOp,Op.shift,h0],.i _ _⟩)
theorem G8 {dst:Option Nat}{xt yt:TypeId}{x y:Operand}{ty:TypeId}{pos:String}{af:Array Edge}{g:Option (Nat×Bool)}{k yk:IntKind}{m n r:Int}
 (hx:cq T x=some (.v (.c (.i k m)))) (hy:cq T y=some (.v (.c (.i yk n)))) (h0: ¬n<0) (hr:k.wrap (m*2^(min n.toNat k.bits))=r) (hg:gd ops ⟨dst,.binOp .shl xt x y yt,ty,pos,af,g⟩ T=some true):
 Sem P ops ⟨dst,.binOp .shl xt x y yt,ty,pos,af,g⟩ T B (.r (.v (.c (.i k r)))):=
 bG hg (lv rfl) (fun V β a w hs=>by
  have e1:a.eval x=.int k m:=RdC.int_eq (aG hs (x:=x) (by simp[Op.operands]) hx)
  have e2:a.eval y=.int yk n:=RdC.int_eq (aG hs (x:=y) (by simp[Op.operands]) hy)
  subst hr
  exact⟨.int k (k.wrap (m*2^(min n.toNat k.bits))),by simp[execOp,e1,e2,eqGuard,binOp,Op.shift,h0],.i _ _⟩)
end
def kQ (x:Int):Int:=bE (max x 0*65536)
def gT (y:Int):Int:=if sQ (y*65536) then bE (y*65536) else bE (y*65536)+1
theorem q7 {n:Int}(h0:0≤n) (h1:n≤2305843009213693952):0≤bE (n*65536)∧bE (n*65536)≤549755813888:=by
 refine⟨d9 _,?_⟩
 have h2:=mE (x:=n*65536) (by omega)
 by_cases h:bE (n*65536)≤549755813888
 ·exact h
 ·have:=Fn (a:=549755813889) (b:=bE (n*65536)) (by decide) (by omega)
  omega
theorem Cf {x:Int}(h0: -4611686018427387904≤x) (h1:x≤4611686018427387904):mA x=true:=Jq.2 ⟨by omega,by omega⟩
theorem xf {lo hi:Int}(h0: -2305843009213693952≤lo) (h1:hi≤2305843009213693952):qF lo hi=true:=JL (by omega) (by omega)
theorem uW {a:Rat}(ha:Rz 40000 a):Ok Tryz.prog 253 [dR a] [.a (([.i .i64 (if jS a then nU a else 0)]++[.i .i64 (if jS a then mZ a else 0)])),.c (.b (jS a))]:=by
 have hz:Rz 60000 (a*((65536:Int):Rat)):=(Rz.mul ha (Rz.int (Sz.small (k:=3) (by decide) (by decide) (by decide)) (by decide))).m_
 have ha3:Rz 60000 a:=ha.m_
 have h65:Rz 60000 ((65536:Int):Rat):=(Rz.int (Sz.small (k:=3) (by decide) (by decide) (by decide)) (by decide)).m_
 have hzn:Rz 60000 (-(a*((65536:Int):Rat))):=hz.neg
 have hs1:Sz 1000000 (nU a):=(Sz.fdiv hz.n).m_
 have hs2:Sz 1000000 ((-(a*((65536:Int):Rat))).num.fdiv ((-(a*((65536:Int):Rat))).den:Int)):=(Sz.fdiv hzn.n).m_
 have hs3:Sz 1000000 (mZ a):=hs2.neg
 have hf1:Ok Tryz.prog 315 [dR (a*((65536:Int):Rat))] [dI (nU a)]:=nQ hz
 have hf3:Ok Tryz.prog 189 [dI ((-(a*((65536:Int):Rat))).num.fdiv ((-(a*((65536:Int):Rat))).den:Int))] [dI (mZ a)]:=oX hs2
 refine Ok.fn Tryz.func253 38 [.cell 2 221,.tmp 3] rfl<|aa<|ab<|am 1<|az (ah gU rfl) rfl<|ai<|aa<|aN 4 rfl rfl<|an 1<|ag (aj rfl (pJ (by omega) (by omega))) ?_
 refine ag (aj rfl (dT (by first|assumption|exact Rz.mono (by assumption) (by decide)) (by first|assumption|exact Rz.mono (Rz.int (Sz.small (k:=3) (by decide) (by decide) (by decide)) (by decide)) (by decide)))) ?_
 refine ba (ah br rfl) rfl<|aR<|bg<|ai<|aa<|ab<|am 1<|ak (aj rfl (hf1)) ?_
 refine ak (aj rfl (mI (by first|assumption|exact Sz.mono (by assumption) (by decide)))) ?_
 refine ai<|aa<|ab<|am 1 ?_
 refine ak (aj rfl (sF (by first|assumption|exact Rz.mono (Rz.mul (by assumption) (Rz.int (Sz.small (k:=3) (by decide) (by decide) (by decide)) (by decide))) (by decide)))) ?_
 refine ak (aj rfl (nQ hzn))<|ak (aj rfl (hf3)) ?_
 refine ak (aj rfl (mI (by first|assumption|exact Sz.mono (by assumption) (by decide)))) ?_
 refine ai<|aa<|aa<|ab<|am 2 ?_
 refine dh (ca rfl) (fun c1 hb1=>?_)
 cases c1
 ·refine ai ?_
  refine ay rfl (fun hc2=>?_) (fun hc2=>?_)
  ·refine aa<|ab<|ak (aD (us:=([.i .i64 0]++[.i .i64 0])) ru gU rfl rfl rfl) ?_
   refine ai<|al ?_
   rw[show jS a=false from by unfold jS;rw[AR hc2,Bool.false_and,Bool.and_false],if_neg (by decide),if_neg (by decide)]
   exact ao (bh lG rfl (aC ae))
  ·have e1:=AW hb1
   have e2:=AW hc2
   refine Dw.weak (σ':=⟨38,[(2,.p 2 0),(5,.v (.c (.i .i64 (nU a)))),(7,.v (.c (.i .i64 (mZ a))))],[(2,221,([.i .i64 0]++[.i .i64 0]))]⟩) (aW ⟨rfl,by rw[if_pos e1];rfl,by rw[if_pos e2];rfl,trivial⟩ ⟨rfl,trivial⟩ rfl) ?_
   refine aq<|aa<|ab<|am 2<|ak (aj rfl (kG))<|ai<|al ?_
   rw[show jS a=qF (nU a) (mZ a) from by unfold jS;rw[e1,e2];rfl]
   exact ao (bh lG rfl (aC ae))
 ·refine ai<|bP rfl<|aa<|ab<|ak (aD (us:=([.i .i64 0]++[.i .i64 0])) ru gU rfl rfl rfl) ?_
  refine ai<|al ?_
  rw[show jS a=false from by unfold jS;rw[AR hb1];rfl,if_neg (by decide),if_neg (by decide)]
  exact ao (bh lG rfl (aC ae))
theorem xR {n:Int}(h0:0≤n) (h1:n≤2305843009213693952):Ok Tryz.prog 347 [.c (.i .i64 n)] [.c (.i .i64 (bE (n*65536))),.c (.b (sQ (n*65536)))]:=by
 have z1:Sz 1000000 n:=Sz.small (by decide) (by omega) (by omega)
 have z2:Sz 1000000 (65536:Int):=Sz.small (by decide) (by decide) (by decide)
 have z4:Sz 3 (n*65536):=⟨by have:pw 3=1000000000000000000000000000:=by decide
                             omega,by have:pw 3=1000000000000000000000000000:=by decide
                                      omega⟩
 have z5:Sz 999999 (n*65536):=z4.m_
 have z6:Sz 1000000 (bE (n*65536)):=z4.isq.m_
 have hb:=q7 h0 h1
 have e0:(if mA (bE (n*65536)) then bE (n*65536) else 0)=bE (n*65536):=by rw[Cf (by omega) (by omega),if_pos rfl]
 refine Ok.fn Tryz.func347 30 [.tmp 2,.tmp 3] rfl<|aa<|ab<|ai<|aa<|ab<|am 1<|ak (aj rfl (gF (by omega) (by omega)))<|ak (aj rfl (gF (by omega) (by omega))) ?_
 refine ak (aj rfl (fS (by first|assumption|exact Sz.mono (by assumption) (by decide)) (by first|assumption|exact Sz.mono (Sz.small (k:=3) (by decide) (by decide) (by decide)) (by decide)))) ?_
 refine az (ah cE rfl) rfl<|ai<|aa<|ab<|am 1 ?_
 refine ak (aj rfl (rN (by first|assumption|exact Sz.mono (Sz.mul (by assumption) (Sz.small (k:=3) (by decide) (by decide) (by decide))) (by decide)))) ?_
 refine am 3<|az (ah cE rfl) rfl<|ai<|aa<|ab<|am 1<|ak (aj rfl ((show Ok Tryz.prog 314 [dI (bE (n*65536))] [.c (.i .i64 (bE (n*65536))),.c (.b (mA (bE (n*65536))))] from by have:=mI z6;rw[e0] at this;exact this)))<|ai<|aa<|aN 9 rfl rfl<|an 3 ?_
 refine ag (aj rfl (fS (by first|assumption|exact Sz.mono (Sz.isq (Sz.mul (by assumption) (Sz.small (k:=3) (by decide) (by decide) (by decide)))) (by decide)) (by first|assumption|exact Sz.mono (Sz.isq (Sz.mul (by assumption) (Sz.small (k:=3) (by decide) (by decide) (by decide)))) (by decide)))) ?_
 refine an 1<|ag (aj rfl (io))<|bK<|ar<|ap<|al ?_
 rw[BE]
 exact ao (aC (aC ae))
theorem Fj {x y:Int}(h0: -2305843009213693952≤x) (h1:x≤2305843009213693952) (h2: -2305843009213693952≤y) (h3:y≤2305843009213693952) (hn: ¬y<0):Ok Tryz.prog 297 [.a (([.i .i64 x]++[.i .i64 y]))] [.a (([.i .i64 (kQ x)]++[.i .i64 (gT y)])),.c (.b true)]:=by
 have b1:=q7 (n:=max x 0) (by omega) (by omega)
 have b2:=q7 (n:=y) (by omega) h3
 refine Ok.fn Tryz.func297 34 [.cell 2 221,.tmp 3] rfl<|aa<|ab<|am 1<|az (ah gU rfl) rfl<|ai<|aa<|aa<|ab<|ai ?_
 refine ay rfl (fun hc1=>?_) (fun hc1=>?_)
 ·exact absurd (nk hc1) hn
 ·refine aq<|aa<|ab<|am 2<|ak (Ba rfl rfl rfl) ?_
  refine ak (aj rfl (xR (by omega) (by omega)))<|ai<|aa<|ab<|am 2<|ak (aj rfl (xR (by omega) (by omega)))<|ai<|aa<|aa<|ab<|ai ?_
  refine ay rfl (fun hc2=>?_) (fun hc2=>?_)
  ·--region 6
   refine ab<|am 1<|ak (aJ (r:=(bE (y*65536))+1) rfl rfl (aT (by omega) (by omega)) rfl) ?_
   refine ai<|aa<|ab<|am 2<|ak (aj rfl ((show Ok Tryz.prog 316 [.c (.i .i64 (bE ((max x 0)*65536))),.c (.i .i64 ((bE (y*65536))+1))] [.a ([.i .i64 (bE ((max x 0)*65536))]++[.i .i64 ((bE (y*65536))+1)]),.c (.b true)] from by have:=kG (x:=bE ((max x 0)*65536)) (y:=(bE (y*65536))+1);rw[xf (by omega) (by omega),if_pos rfl,if_pos rfl] at this;exact this)))<|ai<|al ?_
   unfold kQ gT
   rw[AR hc2,if_neg (by decide)]
   exact ao (bh lG rfl (aC ae))
  ·refine aq<|aa<|ab<|am 2<|ak (aj rfl ((show Ok Tryz.prog 316 [.c (.i .i64 (bE ((max x 0)*65536))),.c (.i .i64 (bE (y*65536)))] [.a ([.i .i64 (bE ((max x 0)*65536))]++[.i .i64 (bE (y*65536))]),.c (.b true)] from by have:=kG (x:=bE ((max x 0)*65536)) (y:=bE (y*65536));rw[xf (by omega) (by omega),if_pos rfl,if_pos rfl] at this;exact this)))<|ai<|al ?_
   unfold kQ gT
   rw[AW hc2,if_pos rfl]
   exact ao (bh lG rfl (aC ae))
theorem IA {x y u v:Int}(h0: -2305843009213693952≤x) (h1:x≤2305843009213693952) (h2: -2305843009213693952≤y) (h3:y≤2305843009213693952) (h4: -2305843009213693952≤u) (h5:u≤2305843009213693952) (h6: -2305843009213693952≤v) (h7:v≤2305843009213693952):Ok Tryz.prog 254 [.a (([.i .i64 x]++[.i .i64 y])),.a (([.i .i64 u]++[.i .i64 v]))] [.a (([.i .i64 (if qF (x+u) (y+v) then x+u else 0)]++[.i .i64 (if qF (x+u) (y+v) then y+v else 0)])),.c (.b (qF (x+u) (y+v)))]:=by
 refine Ok.fn Tryz.func254 19 [.cell 4 221,.tmp 5] rfl<|aa<|ab<|am 2<|az (ah gU rfl) rfl<|ai<|aa<|ab<|am 4<|ak (aJ (r:=x+u) rfl rfl (aT (by omega) (by omega)) rfl) ?_
 refine am 4<|ak (aJ (r:=y+v) rfl rfl (aT (by omega) (by omega)) rfl) ?_
 refine ak (aj rfl (kG))<|ai<|al ?_
 exact ao (bh lG rfl (aC ae))
theorem By {x:Int}(h0: -9223372036854775808≤x) (h1:x≤9223372036854775807):Ok Tryz.prog 355 [.c (.i .i64 x)] [.c (.i .u64 (x.natAbs:Int))]:=by
 refine Ok.fn Tryz.func355 10 [.tmp 2] rfl<|aa<|ab<|ai<|aa<|aa<|ab<|ai ?_
 refine ay rfl (fun hc1=>?_) (fun hc1=>?_)
 ·have hn:=nk hc1
  have e:(x.natAbs:Int)= -x:=by omega
  refine aa<|ab<|am 1<|ak (bF (r:=x+18446744073709551616) r8 dH rfl (wv hn h0) rfl) ?_
  refine ak (eE (r:= -x) rfl (tA hn h0) rfl) ?_
  refine ai<|al ?_
  rw[e]
  exact ao (aC ae)
 ·have hn:=iP hc1
  have e:(x.natAbs:Int)=x:=by omega
  refine aq<|aa<|ab<|am 1<|ak (bF (r:=x) r8 dH rfl (fa (by omega) (by omega)) rfl) ?_
  refine ai<|al ?_
  rw[e]
  exact ao (aC ae)
section
variable {P:Program}{ops:Array Oper}{T:TF}{B:BF}
theorem qt {dst:Option Nat}{xt yt:TypeId}{x y:Operand}{ty:TypeId}{pos:String}{af:Array Edge}{g:Option (Nat×Bool)}{k:IntKind}{m n r:Int}
 (hx:cq T x=some (.v (.c (.i k m)))) (hy:cq T y=some (.v (.c (.i k n)))) (hr:k.wrap ((BitVec.ofInt k.bits m&&&BitVec.ofInt k.bits n).toNat:Int)=r) (hg:gd ops ⟨dst,.binOp .and xt x y yt,ty,pos,af,g⟩ T=some true):
 Sem P ops ⟨dst,.binOp .and xt x y yt,ty,pos,af,g⟩ T B (.r (.v (.c (.i k r)))):=
 bG hg (lv rfl) (fun V β a w hs=>by
  have e1:a.eval x=.int k m:=RdC.int_eq (aG hs (x:=x) (by simp[Op.operands]) hx)
  have e2:a.eval y=.int k n:=RdC.int_eq (aG hs (x:=y) (by simp[Op.operands]) hy)
  subst hr
  exact⟨.int k (k.wrap ((BitVec.ofInt k.bits m&&&BitVec.ofInt k.bits n).toNat:Int)),by simp[execOp,e1,e2,eqGuard,binOp,Op.intBits],.i _ _⟩)
theorem LG {dst:Option Nat}{xt yt:TypeId}{x y:Operand}{ty:TypeId}{pos:String}{af:Array Edge}{g:Option (Nat×Bool)}{k:IntKind}{m n r:Int}
 (hx:cq T x=some (.v (.c (.i k m)))) (hy:cq T y=some (.v (.c (.i k n)))) (hr:k.wrap ((BitVec.ofInt k.bits m|||BitVec.ofInt k.bits n).toNat:Int)=r) (hg:gd ops ⟨dst,.binOp .or xt x y yt,ty,pos,af,g⟩ T=some true):
 Sem P ops ⟨dst,.binOp .or xt x y yt,ty,pos,af,g⟩ T B (.r (.v (.c (.i k r)))):=
 bG hg (lv rfl) (fun V β a w hs=>by
  have e1:a.eval x=.int k m:=RdC.int_eq (aG hs (x:=x) (by simp[Op.operands]) hx)
  have e2:a.eval y=.int k n:=RdC.int_eq (aG hs (x:=y) (by simp[Op.operands]) hy)
  subst hr
  exact⟨.int k (k.wrap ((BitVec.ofInt k.bits m|||BitVec.ofInt k.bits n).toNat:Int)),by simp[execOp,e1,e2,eqGuard,binOp,Op.intBits],.i _ _⟩)
end
theorem o8 (n:Nat) (h:n<18446744073709551616):(BitVec.ofInt 64 (n:Int)).toNat=n:=by
 rw[BitVec.toNat_ofInt];omega
theorem Fm {x:Int}(h0:0≤x) (h1:x≤18446744073709551615):IntKind.u64.wrap ((BitVec.ofInt IntKind.u64.bits x&&&BitVec.ofInt IntKind.u64.bits 4294967295).toNat:Int)=x%4294967296:=by
 obtain⟨n,rfl⟩:=Int.eq_ofNat_of_zero_le h0
 have e:(BitVec.ofInt IntKind.u64.bits (n:Int)&&&BitVec.ofInt IntKind.u64.bits 4294967295).toNat=n%4294967296:=by
  show(BitVec.ofInt 64 (n:Int)&&&BitVec.ofInt 64 ((4294967295:Nat):Int)).toNat=_
  rw[BitVec.toNat_and,o8 n (by omega),o8 _ (by decide)]
  exact Nat.and_two_pow_sub_one_eq_mod n 32
 rw[e,fa (by omega) (by omega)];omega
theorem NI {x:Int}(h0:0≤x) (h1:x≤18446744073709551615):IntKind.u64.wrap ((BitVec.ofInt IntKind.u64.bits x&&&BitVec.ofInt IntKind.u64.bits 65535).toNat:Int)=x%65536:=by
 obtain⟨n,rfl⟩:=Int.eq_ofNat_of_zero_le h0
 have e:(BitVec.ofInt IntKind.u64.bits (n:Int)&&&BitVec.ofInt IntKind.u64.bits 65535).toNat=n%65536:=by
  show(BitVec.ofInt 64 (n:Int)&&&BitVec.ofInt 64 ((65535:Nat):Int)).toNat=_
  rw[BitVec.toNat_and,o8 n (by omega),o8 _ (by decide)]
  exact Nat.and_two_pow_sub_one_eq_mod n 16
 rw[e,fa (by omega) (by omega)];omega
theorem QC {h l:Int}(h0:0≤h) (h1:h<65536) (l0:0≤l) (l1:l<281474976710656):IntKind.u64.wrap ((BitVec.ofInt IntKind.u64.bits (h*281474976710656)|||BitVec.ofInt IntKind.u64.bits l).toNat:Int)=h*281474976710656+l:=by
 obtain⟨n,rfl⟩:=Int.eq_ofNat_of_zero_le h0
 obtain⟨m,rfl⟩:=Int.eq_ofNat_of_zero_le l0
 have e:(BitVec.ofInt IntKind.u64.bits ((n:Int)*281474976710656)|||BitVec.ofInt IntKind.u64.bits (m:Int)).toNat=n*281474976710656+m:=by
  show(BitVec.ofInt 64 ((n:Int)*((281474976710656:Nat):Int))|||BitVec.ofInt 64 (m:Int)).toNat=_
  rw[←Int.natCast_mul,BitVec.toNat_or,o8 _ (by omega),o8 _ (by omega)]
  have:=Nat.two_pow_add_eq_or_of_lt (i:=48) (b:=m) (by omega) n
  rw[show n*281474976710656=2^48*n from by omega]
  exact this.symm
 rw[e,fa (by omega) (by omega)];omega
theorem xS {x:Int}:x.fdiv (2^(min (32:Int).toNat IntKind.u64.bits))=x/4294967296:=by
 rw[show(2:Int)^(min (32:Int).toNat IntKind.u64.bits)=4294967296 from rfl];exact Int.fdiv_eq_ediv_of_nonneg _ (by decide)
theorem JD {x:Int}:x.fdiv (2^(min (16:Int).toNat IntKind.u64.bits))=x/65536:=by
 rw[show(2:Int)^(min (16:Int).toNat IntKind.u64.bits)=65536 from rfl];exact Int.fdiv_eq_ediv_of_nonneg _ (by decide)
theorem Pm {x:Int}(h0:0≤x) (h1:x<65536):IntKind.u64.wrap (x*2^(min (48:Int).toNat IntKind.u64.bits))=x*281474976710656:=by
 rw[show(2:Int)^(min (48:Int).toNat IntKind.u64.bits)=281474976710656 from rfl,fa (by omega) (by omega)]
theorem P5 {x:Int}:IntKind.u64.wrap x=x%18446744073709551616:=by unfold IntKind.wrap;simp[IntKind.bits,IntKind.signed]
theorem Pq {x y:Int}(_h0:0≤x) (_h1:x≤18446744073709551615) (_h2:0≤y) (_h3:y≤18446744073709551615):
 (x/4294967296)*(y/4294967296)+((x/4294967296)*(y%4294967296)+(x%4294967296)*(y%4294967296)/4294967296)/4294967296+(((x/4294967296)*(y%4294967296)+(x%4294967296)*(y%4294967296)/4294967296)%4294967296+(x%4294967296)*(y/4294967296))/4294967296=x*y/18446744073709551616:=by
 obtain⟨a,ha⟩: ∃a,x/4294967296=a:=⟨_,rfl⟩
 obtain⟨b,hb⟩: ∃b,x%4294967296=b:=⟨_,rfl⟩
 obtain⟨c,hc⟩: ∃c,y/4294967296=c:=⟨_,rfl⟩
 obtain⟨d,hd⟩: ∃d,y%4294967296=d:=⟨_,rfl⟩
 rw[ha,hb,hc,hd]
 have ex:x=4294967296*a+b:=by omega
 have ey:y=4294967296*c+d:=by omega
 have e:x*y=18446744073709551616*(a*c)+4294967296*(a*d)+4294967296*(b*c)+b*d:=by rw[ex,ey];grind
 rw[e]
 omega
theorem Cq {x y:Int}(h0:0≤x) (h1:x≤18446744073709551615) (h2:0≤y) (h3:y≤18446744073709551615):Ok Tryz.prog 354 [.c (.i .u64 x),.c (.i .u64 y)] [.c (.i .u64 (x*y/18446744073709551616)),.c (.i .u64 (x*y%18446744073709551616))]:=by
 obtain⟨a,ha⟩: ∃a,x/4294967296=a:=⟨_,rfl⟩
 obtain⟨b,hb⟩: ∃b,x%4294967296=b:=⟨_,rfl⟩
 obtain⟨c,hc⟩: ∃c,y/4294967296=c:=⟨_,rfl⟩
 obtain⟨d,hd⟩: ∃d,y%4294967296=d:=⟨_,rfl⟩
 have hm:=Pq h0 h1 h2 h3
 rw[ha,hb,hc,hd] at hm
 have pb: ∀u v:Int,0≤u→u≤4294967295→0≤v→v≤4294967295→0≤u*v∧u*v≤18446744065119617025:=fun u v u0 u1 v0 v1=>⟨Int.mul_nonneg u0 v0,Int.mul_le_mul (c:=(4294967295:Int)) u1 v1 v0 (by decide)⟩
 have q1:=pb b d (by omega) (by omega) (by omega) (by omega)
 have q2:=pb a d (by omega) (by omega) (by omega) (by omega)
 have q3:=pb b c (by omega) (by omega) (by omega) (by omega)
 have q4:=pb a c (by omega) (by omega) (by omega) (by omega)
 refine Ok.fn Tryz.func354 51 [.tmp 4,.tmp 5] rfl<|aa<|ab<|ai<|aa<|ab<|am 1<|ak (qt (r:=b) rfl rfl (by rw[←hb];exact Fm h0 h1) rfl) ?_
 refine ai<|aa<|ab<|am 1<|ak (kR (r:=a) rfl rfl (by decide) (by rw[←ha];exact xS) rfl) ?_
 refine ai<|aa<|ab<|am 1<|ak (qt (r:=d) rfl rfl (by rw[←hd];exact Fm h2 h3) rfl) ?_
 refine ai<|aa<|ab<|am 1<|ak (kR (r:=c) rfl rfl (by decide) (by rw[←hc];exact xS) rfl) ?_
 refine ai<|aa<|ab<|am 2<|ak (aJ (r:=b*d) rfl rfl (eA (by omega) (by omega)) rfl) ?_
 refine ai<|aa<|ab<|am 2<|ak (aJ (r:=a*d) rfl rfl (eA (by omega) (by omega)) rfl) ?_
 refine am 1<|ak (kR (r:=b*d/4294967296) rfl rfl (by decide) (xS) rfl) ?_
 refine ak (aJ (r:=(a*d)+(b*d/4294967296)) rfl rfl (dL (by omega) (by omega)) rfl) ?_
 refine ai<|aa<|ab<|am 1<|ak (qt (r:=(a*d+b*d/4294967296)%4294967296) rfl rfl (Fm (by omega) (by omega)) rfl) ?_
 refine ai<|aa<|ab<|am 1<|ak (kR (r:=(a*d+b*d/4294967296)/4294967296) rfl rfl (by decide) (xS) rfl) ?_
 refine ai<|aa<|ab<|am 3<|ak (aJ (r:=b*c) rfl rfl (eA (by omega) (by omega)) rfl) ?_
 refine ak (aJ (r:=((a*d+b*d/4294967296)%4294967296)+(b*c)) rfl rfl (dL (by omega) (by omega)) rfl) ?_
 refine ai<|aa<|ab<|am 2<|ak (aJ (r:=a*c) rfl rfl (eA (by omega) (by omega)) rfl) ?_
 refine am 1<|ak (aJ (r:=(a*c)+((a*d+b*d/4294967296)/4294967296)) rfl rfl (dL (by omega) (by omega)) rfl) ?_
 refine am 1<|ak (kR (r:=((a*d+b*d/4294967296)%4294967296+b*c)/4294967296) rfl rfl (by decide) (xS) rfl) ?_
 refine ak (aJ (r:=((a*c)+((a*d+b*d/4294967296)/4294967296))+(((a*d+b*d/4294967296)%4294967296+b*c)/4294967296)) rfl rfl (dL (by omega) (by omega)) rfl) ?_
 refine ai<|aa<|ab<|am 2<|ak (aJ (r:=x*y%18446744073709551616) rfl rfl (congrArg some P5) rfl) ?_
 refine ai<|al ?_
 rw[←hm]
 exact ao (aC (aC ae))
def Db (x y:Int):Int:=(x.natAbs:Int)*(y.natAbs:Int)
def rf (p:Int):Int:=if p%65536=0 then p/65536 else p/65536+1
def gA (x y:Int):Int:=if (!(decide (x<0)==decide (y<0)))=true then-(rf (Db x y)) else Db x y/65536
def gy (x y:Int):Int:=if (!(decide (x<0)==decide (y<0)))=true then-(Db x y/65536) else rf (Db x y)
def ni (x y:Int):Bool:=decide (Db x y/65536>2305843009213693952)
def jz (x y:Int):Bool:= !ni x y&&(decide (gA x y≥ -2305843009213693952)&&decide (gy x y≤2305843009213693952))
theorem LL {p:Int}(h:(p%18446744073709551616%65536 !=0)=true):rf p=p/65536+1:=by
 have h:p%18446744073709551616%65536≠0:=by simpa using h
 unfold rf;rw[if_neg (by omega)]
theorem Lf {p:Int}(h:(p%18446744073709551616%65536 !=0)=false):rf p=p/65536:=by
 have h:p%18446744073709551616%65536=0:=by simpa using h
 unfold rf;rw[if_pos (by omega)]
theorem Qd {a:Int}(h:(a !=0)=true):a≠0:=by simpa using h
theorem Qc {a:Int}(h:(a !=0)=false):a=0:=by simpa using h
theorem zg {x y:Int}(h0: -9223372036854775808≤x) (h1:x≤9223372036854775807) (h2: -9223372036854775808≤y) (h3:y≤9223372036854775807):Ok Tryz.prog 317 [.c (.i .i64 x),.c (.i .i64 y)] [.c (.i .i64 (if ni x y then 0 else gA x y)),.c (.i .i64 (if ni x y then 0 else gy x y)),.c (.b (jz x y))]:=by
 obtain⟨p,hp⟩: ∃p,Db x y=p:=⟨_,rfl⟩
 have hp':(x.natAbs:Int)*(y.natAbs:Int)=p:=hp
 have hp0:0≤p:=by rw[←hp'];exact Int.mul_nonneg (by omega) (by omega)
 have hp1:p≤9223372036854775808*9223372036854775808:=by rw[←hp'];exact Int.mul_le_mul (by omega) (by omega) (by omega) (by decide)
 have hmul:Ok Tryz.prog 354 [.c (.i .u64 (x.natAbs:Int)),.c (.i .u64 (y.natAbs:Int))] [.c (.i .u64 (p/18446744073709551616)),.c (.i .u64 (p%18446744073709551616))]:=by rw[←hp'];exact Cq (by omega) (by omega) (by omega) (by omega)
 have big:p/65536>2305843009213693952→ni x y=true:=fun h=>by unfold ni;rw[hp];exact decide_eq_true h
 have small: ¬p/65536>2305843009213693952→ni x y=false:=fun h=>by unfold ni;rw[hp];exact decide_eq_false h
 refine Ok.fn Tryz.func317 56 [.tmp 4,.tmp 5,.tmp 6] rfl<|aa<|ab<|ai<|aa<|ab<|am 1<|ak (aj rfl (By (by omega) (by omega)))<|am 1<|ak (aj rfl (By (by omega) (by omega)))<|ak (aj rfl (hmul))<|ai<|aa<|aa ?_
 refine ab<|am 1<|ak (kR (r:=p/18446744073709551616/65536) rfl rfl (by decide) (JD) rfl) ?_
 refine ai ?_
 refine ay rfl (fun hc1=>?_) (fun hc1=>?_)
 ·have g1:=Qd hc1
  refine aa<|ab<|ai<|al ?_
  rw[show jz x y=false from by unfold jz;rw[big (by omega)];rfl,big (by omega),if_pos rfl,if_pos rfl]
  exact ao (aC (aC (aC ae)))
 ·have g1:=Qc hc1
  refine aq<|aa<|ab<|am 1<|ak (G8 (r:=(p/18446744073709551616)*281474976710656) rfl rfl (by decide) (Pm (by omega) (by omega)) rfl) ?_
  refine am 1<|ak (kR (r:=p%18446744073709551616/65536) rfl rfl (by decide) (JD) rfl) ?_
  refine ak (LG (r:=p/65536) rfl rfl ((QC (by omega) (by omega) (by omega) (by omega)).trans (by omega)) rfl) ?_
  refine ai<|aa<|aa<|ab<|ai ?_
  refine ay rfl (fun hc2=>?_) (fun hc2=>?_)
  ·refine aa<|ab<|ai<|al ?_
   rw[show jz x y=false from by unfold jz;rw[big (nk hc2)];rfl,big (nk hc2),if_pos rfl,if_pos rfl]
   exact ao (aC (aC (aC ae)))
  ·have g2:=iP hc2
   refine aq<|aa<|ab<|am 1<|ak (bF (r:=p/65536) dH r8 rfl (l9 (by omega) (by omega)) rfl) ?_
   refine am 1<|ak (bF (r:=p/65536) dH r8 rfl (l9 (by omega) (by omega)) rfl) ?_
   refine ai<|aa<|aa<|ab<|am 1<|ak (qt (r:=p%18446744073709551616%65536) rfl rfl (NI (by omega) (by omega)) rfl) ?_
   refine ai ?_
   refine ay rfl (fun hc3=>?_) (fun hc3=>?_)
   ·have hu:=LL hc3
    refine ab<|am 1<|ak (aJ (r:=(p/65536)+1) rfl rfl (aT (by omega) (by omega)) rfl) ?_
    refine ai<|aa<|aa<|ab<|am 4<|ak (eo rfl rfl eB rfl) ?_
    refine ap ?_
    refine ay rfl (fun hc4=>?_) (fun hc4=>?_)
    ·--region 11
     refine ab<|am 1<|ak (eE (r:= -(p/65536+1)) rfl (by rw[l9 (by omega) (by omega)];omega) rfl) ?_
     refine am 1<|ak (eE (r:= -(p/65536)) rfl (by rw[l9 (by omega) (by omega)];omega) rfl) ?_
     refine ai<|aa<|ab<|am 4 ?_
     refine dh (ca rfl) (fun c5 hb5=>?_)
     cases c5
     ·refine ai<|al ?_
      unfold jz
      rw[small (iP hc2),if_neg (by decide),if_neg (by decide),Bool.not_false,Bool.true_and]
      rw[show gA x y= -(p/65536+1) from by unfold gA;rw[hp,hu,if_pos hc4],show gy x y= -(p/65536) from by unfold gy;rw[hp,hu,if_pos hc4]]
      rw[hb5,Bool.false_and]
      exact ao (aC (aC (aC ae)))
     ·refine ai<|al ?_
      unfold jz
      rw[small (iP hc2),if_neg (by decide),if_neg (by decide),Bool.not_false,Bool.true_and]
      rw[show gA x y= -(p/65536+1) from by unfold gA;rw[hp,hu,if_pos hc4],show gy x y= -(p/65536) from by unfold gy;rw[hp,hu,if_pos hc4]]
      rw[hb5,Bool.true_and]
      exact ao (aC (aC (aC ae)))
    ·refine aq<|aa<|ab<|am 4 ?_
     refine dh (ca rfl) (fun c6 hb6=>?_)
     cases c6
     ·refine ai<|al ?_
      unfold jz
      rw[small (iP hc2),if_neg (by decide),if_neg (by decide),Bool.not_false,Bool.true_and]
      rw[show gA x y=p/65536 from by unfold gA;rw[hp,hu,if_neg (by rw[hc4];decide)],show gy x y=p/65536+1 from by unfold gy;rw[hp,hu,if_neg (by rw[hc4];decide)]]
      rw[hb6,Bool.false_and]
      exact ao (aC (aC (aC ae)))
     ·refine ai<|al ?_
      unfold jz
      rw[small (iP hc2),if_neg (by decide),if_neg (by decide),Bool.not_false,Bool.true_and]
      rw[show gA x y=p/65536 from by unfold gA;rw[hp,hu,if_neg (by rw[hc4];decide)],show gy x y=p/65536+1 from by unfold gy;rw[hp,hu,if_neg (by rw[hc4];decide)]]
      rw[hb6,Bool.true_and]
      exact ao (aC (aC (aC ae)))
   ·have hu:=Lf hc3
    refine aq<|aa<|aa<|ab<|am 4<|ak (eo rfl rfl eB rfl) ?_
    refine ap ?_
    refine ay rfl (fun hc7=>?_) (fun hc7=>?_)
    ·--region 11
     refine ab<|am 1<|ak (eE (r:= -(p/65536)) rfl (by rw[l9 (by omega) (by omega)];omega) rfl) ?_
     refine am 1<|ak (eE (r:= -(p/65536)) rfl (by rw[l9 (by omega) (by omega)];omega) rfl) ?_
     refine ai<|aa<|ab<|am 4 ?_
     refine dh (ca rfl) (fun c8 hb8=>?_)
     cases c8
     ·refine ai<|al ?_
      unfold jz
      rw[small (iP hc2),if_neg (by decide),if_neg (by decide),Bool.not_false,Bool.true_and]
      rw[show gA x y= -(p/65536) from by unfold gA;rw[hp,hu,if_pos hc7],show gy x y= -(p/65536) from by unfold gy;rw[hp,hu,if_pos hc7]]
      rw[hb8,Bool.false_and]
      exact ao (aC (aC (aC ae)))
     ·refine ai<|al ?_
      unfold jz
      rw[small (iP hc2),if_neg (by decide),if_neg (by decide),Bool.not_false,Bool.true_and]
      rw[show gA x y= -(p/65536) from by unfold gA;rw[hp,hu,if_pos hc7],show gy x y= -(p/65536) from by unfold gy;rw[hp,hu,if_pos hc7]]
      rw[hb8,Bool.true_and]
      exact ao (aC (aC (aC ae)))
    ·refine aq<|aa<|ab<|am 4 ?_
     refine dh (ca rfl) (fun c9 hb9=>?_)
     cases c9
     ·refine ai<|al ?_
      unfold jz
      rw[small (iP hc2),if_neg (by decide),if_neg (by decide),Bool.not_false,Bool.true_and]
      rw[show gA x y=p/65536 from by unfold gA;rw[hp,hu,if_neg (by rw[hc7];decide)],show gy x y=p/65536 from by unfold gy;rw[hp,hu,if_neg (by rw[hc7];decide)]]
      rw[hb9,Bool.false_and]
      exact ao (aC (aC (aC ae)))
     ·refine ai<|al ?_
      unfold jz
      rw[small (iP hc2),if_neg (by decide),if_neg (by decide),Bool.not_false,Bool.true_and]
      rw[show gA x y=p/65536 from by unfold gA;rw[hp,hu,if_neg (by rw[hc7];decide)],show gy x y=p/65536 from by unfold gy;rw[hp,hu,if_neg (by rw[hc7];decide)]]
      rw[hb9,Bool.true_and]
      exact ao (aC (aC (aC ae)))
def ER (x y:Int):Int:=if x>0 then 1 else if y<0 then-1 else 0
def E0 (x y:Int):Bool:=decide (x>0)||(decide (y<0)||(x==0&&y==0))
theorem OY {x y:Int}(h:decide (x>0)=true):ER x y=1∧E0 x y=true:=by
 unfold ER E0;rw[if_pos (by simpa using h),h];exact⟨rfl,rfl⟩
theorem NG {x y:Int}(h:decide (x>0)=false) (h2:decide (y<0)=true):ER x y= -1∧E0 x y=true:=by
 unfold ER E0;rw[if_neg (by simpa using h),if_pos (by simpa using h2),h,h2];exact⟨rfl,rfl⟩
theorem GN {x y:Int}(h:decide (x>0)=false) (h2:decide (y<0)=false):ER x y=0∧E0 x y=(x==0&&y==0):=by
 unfold ER E0;rw[if_neg (by simpa using h),if_neg (by simpa using h2),h,h2];exact⟨rfl,rfl⟩
theorem Df {x y:Int}:Ok Tryz.prog 256 [.a (([.i .i64 x]++[.i .i64 y]))] [.c (.i .i64 (ER x y)),.c (.b (E0 x y))]:=by
 refine Ok.fn Tryz.func256 20 [.tmp 2,.tmp 3] rfl<|aa<|ab<|ai<|aa<|a8<|aa<|ab<|ai ?_
 refine ay rfl (fun hc1=>?_) (fun hc1=>?_)
 ·refine aa<|ab<|ai<|al ?_
  rw[(OY hc1).1,(OY hc1).2]
  exact ao (aC (aC ae))
 ·refine aa<|ab<|ai ?_
  refine ay rfl (fun hc2=>?_) (fun hc2=>?_)
  ·refine aa<|ab<|ai<|al ?_
   rw[(NG hc1 hc2).1,(NG hc1 hc2).2]
   exact ao (aC (aC ae))
  ·refine aq<|aa<|aN 10 rfl rfl<|an 3 ?_
   refine fI (ca rfl) (fun c3 hb3=>?_)
   cases c3
   ·refine bK<|ar<|ap<|al ?_
    rw[(GN hc1 hc2).1,(GN hc1 hc2).2,hb3,Bool.false_and]
    exact ao (aC (aC ae))
   ·refine bK<|ar<|ap<|al ?_
    rw[(GN hc1 hc2).1,(GN hc1 hc2).2,hb3,Bool.true_and]
    exact ao (aC (aC ae))
def mX (x y:Int) (k:Nat):Int:=if k=0 then x else y
theorem Bg {x y:Int}{k:Nat}(h:k<2):([CellD.i .i64 x,.i .i64 y])[k*1]? =some (.i .i64 (mX x y k)):=by
 have:k=0∨k=1:=by omega
 rcases this with rfl|rfl<;>rfl
theorem Gz {x y:Int}{k:Nat}(h0: -2305843009213693952≤x) (h1:x≤2305843009213693952) (h2: -2305843009213693952≤y) (h3:y≤2305843009213693952): -2305843009213693952≤mX x y k∧mX x y k≤2305843009213693952:=by
 unfold mX;split<;>omega
def sH (x y u v:Int):Nat→Int
 |0=>2305843009213693952
 |n+1=>min (sH x y u v n) (gA (mX x y (n/2)) (mX u v (n%2)))
def sp (x y u v:Int):Nat→Int
 |0=> -2305843009213693952
 |n+1=>max (sp x y u v n) (gy (mX x y (n/2)) (mX u v (n%2)))
def qm (x y u v:Int):Nat→Bool
 |0=>true
 |n+1=>qm x y u v n&&jz (mX x y (n/2)) (mX u v (n%2))
theorem Ez {x y:Int}(h:jz x y=true): ¬ni x y=true:=by
 unfold jz at h
 rw[Bool.and_eq_true] at h
 intro e
 rw[e] at h
 exact absurd h.1 (by decide)
theorem Do {x y u v:Int}{n:Nat}(h:qm x y u v n=false) (m:Nat):qm x y u v (n+m)=false:=by
 induction m with
 |zero=>exact h
 |succ m ih=>show(qm x y u v (n+m)&&_)=false;rw[ih];rfl
theorem Id {x y u v:Int}{k j:Nat}(hj:j<2) (h:jz (mX x y k) (mX u v j)=true):min (sH x y u v (2*k+j)) (if ni (mX x y k) (mX u v j) then 0 else gA (mX x y k) (mX u v j))=sH x y u v (2*k+(j+1)):=by
 rw[if_neg (Ez h)]
 show _=min (sH x y u v (2*k+j)) (gA (mX x y ((2*k+j)/2)) (mX u v ((2*k+j)%2)))
 rw[show(2*k+j)/2=k from by omega,show(2*k+j)%2=j from by omega]
theorem Jd {x y u v:Int}{k j:Nat}(hj:j<2) (h:jz (mX x y k) (mX u v j)=true):max (sp x y u v (2*k+j)) (if ni (mX x y k) (mX u v j) then 0 else gy (mX x y k) (mX u v j))=sp x y u v (2*k+(j+1)):=by
 rw[if_neg (Ez h)]
 show _=max (sp x y u v (2*k+j)) (gy (mX x y ((2*k+j)/2)) (mX u v ((2*k+j)%2)))
 rw[show(2*k+j)/2=k from by omega,show(2*k+j)%2=j from by omega]
theorem AE {x y u v:Int}{k j:Nat}(hj:j<2):qm x y u v (2*k+(j+1))=(qm x y u v (2*k+j)&&jz (mX x y k) (mX u v j)):=by
 show(qm x y u v (2*k+j)&&jz (mX x y ((2*k+j)/2)) (mX u v ((2*k+j)%2)))=_
 rw[show(2*k+j)/2=k from by omega,show(2*k+j)%2=j from by omega]
theorem HB {x y u v:Int}(h0: -2305843009213693952≤x) (h1:x≤2305843009213693952) (h2: -2305843009213693952≤y) (h3:y≤2305843009213693952) (h4: -2305843009213693952≤u) (h5:u≤2305843009213693952) (h6: -2305843009213693952≤v) (h7:v≤2305843009213693952):Ok Tryz.prog 258 [.a (([.i .i64 x]++[.i .i64 y])),.a (([.i .i64 u]++[.i .i64 v]))] [.a (([.i .i64 (if qm x y u v 4 then sH x y u v 4 else 0)]++[.i .i64 (if qm x y u v 4 then sp x y u v 4 else 0)])),.c (.b (qm x y u v 4))]:=by
 refine Ok.fn Tryz.func258 56 [.cell 4 221,.tmp 5] rfl<|aa<|ab<|am 2<|az (ah gU rfl) rfl<|ai<|aa<|ab<|ai<|aa<|aa<|ab<|am 4<|lH (kj (us:=[.i .i64 x,.i .i64 y]) J9 rfl rfl (by decide) (by decide) rfl) rfl ?_
 refine ak (te AD rfl rfl) ?_
 refine ai<|a8<|cz (ι:={k:Nat // k≤2∧qm x y u v (2*k)=true}) (fun i=>⟨56,[(2,.p 2 0),(3,.p 3 0),(4,.p 4 0),(6,.v (.c (.i .i64 (sH x y u v (2*i.1))))),(7,.v (.c (.i .i64 (sp x y u v (2*i.1))))),(19,.o 19 2 2),(20,.v (.c (.i .i64 (2:Int)))),(21,.v (.c (.i .i64 (i.1:Int))))],[(2,221,([.i .i64 x]++[.i .i64 y])),(3,221,([.i .i64 u]++[.i .i64 v])),(4,221,([.i .i64 0]++[.i .i64 0])),(19,2,[.i .i64 x,.i .i64 y])]⟩) (fun i=>2-i.1) ⟨0,by omega,rfl⟩ (aW ⟨rfl,rfl,rfl,rfl,rfl,rfl,rfl,rfl,trivial⟩ ⟨rfl,rfl,rfl,rfl,trivial⟩ rfl) ?_
 rintro⟨k,hk0,hok⟩
 replace hk0:k≤2:=hk0
 replace hok:qm x y u v (2*k)=true:=hok
 have gx:=Gz (k:=k) h0 h1 h2 h3
 show Dw _ _ ⟨56,[(2,.p 2 0),(3,.p 3 0),(4,.p 4 0),(6,.v (.c (.i .i64 (sH x y u v (2*k))))),(7,.v (.c (.i .i64 (sp x y u v (2*k))))),(19,.o 19 2 2),(20,.v (.c (.i .i64 (2:Int)))),(21,.v (.c (.i .i64 (k:Int))))],[(2,221,([.i .i64 x]++[.i .i64 y])),(3,221,([.i .i64 u]++[.i .i64 v])),(4,221,([.i .i64 0]++[.i .i64 0])),(19,2,[.i .i64 x,.i .i64 y])]⟩ _
 refine aa<|ab<|ai<|aa ?_
 refine ay rfl (fun hc1=>?_) (fun hc1=>?_)
 ·have hk:k<2:=by have:=nk hc1;omega
  refine aq<|aa<|a8<|aa<|ab<|ak (ci AD rfl rfl (by omega) rfl) ?_
  refine ak (ez MO rfl rfl (Bg (x:=x) (y:=y) (k:=k) (by omega)) rfl) ?_
  refine ai<|aa<|ab<|am 4<|lH (kj (us:=[.i .i64 u,.i .i64 v]) J9 rfl rfl (by decide) (by decide) rfl) rfl ?_
  refine ak (te AD rfl rfl) ?_
  refine ai<|a8<|cz (ι:={j:Nat // j≤2∧qm x y u v (2*k+j)=true}) (fun i=>⟨56,[(2,.p 2 0),(3,.p 3 0),(4,.p 4 0),(6,.v (.c (.i .i64 (sH x y u v (2*k+i.1))))),(7,.v (.c (.i .i64 (sp x y u v (2*k+i.1))))),(19,.o 19 2 2),(20,.v (.c (.i .i64 (2:Int)))),(21,.v (.c (.i .i64 (k:Int)))),(9,.v (.c (.i .i64 (mX x y k)))),(29,.o 29 2 2),(30,.v (.c (.i .i64 (2:Int)))),(31,.v (.c (.i .i64 (i.1:Int))))],[(2,221,([.i .i64 x]++[.i .i64 y])),(3,221,([.i .i64 u]++[.i .i64 v])),(4,221,([.i .i64 0]++[.i .i64 0])),(19,2,[.i .i64 x,.i .i64 y]),(29,2,[.i .i64 u,.i .i64 v])]⟩) (fun i=>2-i.1) ⟨0,by omega,hok⟩ (aW ⟨rfl,rfl,rfl,rfl,rfl,rfl,rfl,rfl,rfl,rfl,rfl,rfl,trivial⟩ ⟨rfl,rfl,rfl,rfl,rfl,trivial⟩ rfl) ?_
  rintro⟨j,hj0,hokj⟩
  replace hj0:j≤2:=hj0
  replace hokj:qm x y u v (2*k+j)=true:=hokj
  have gu:=Gz (k:=j) h4 h5 h6 h7
  show Dw _ _ ⟨56,[(2,.p 2 0),(3,.p 3 0),(4,.p 4 0),(6,.v (.c (.i .i64 (sH x y u v (2*k+j))))),(7,.v (.c (.i .i64 (sp x y u v (2*k+j))))),(19,.o 19 2 2),(20,.v (.c (.i .i64 (2:Int)))),(21,.v (.c (.i .i64 (k:Int)))),(9,.v (.c (.i .i64 (mX x y k)))),(29,.o 29 2 2),(30,.v (.c (.i .i64 (2:Int)))),(31,.v (.c (.i .i64 (j:Int))))],[(2,221,([.i .i64 x]++[.i .i64 y])),(3,221,([.i .i64 u]++[.i .i64 v])),(4,221,([.i .i64 0]++[.i .i64 0])),(19,2,[.i .i64 x,.i .i64 y]),(29,2,[.i .i64 u,.i .i64 v])]⟩ _
  refine aa<|ab<|ai<|aa ?_
  refine ay rfl (fun hc2=>?_) (fun hc2=>?_)
  ·have hj:j<2:=by have:=nk hc2;omega
   refine aq<|aa<|a8<|aa<|ab<|ak (ci AD rfl rfl (by omega) rfl) ?_
   refine ak (ez MO rfl rfl (Bg (x:=u) (y:=v) (k:=j) (by omega)) rfl) ?_
   refine ai<|aa<|ab<|am 2<|ak (aj rfl (zg (by omega) (by omega) (by omega) (by omega)))<|ai<|aa<|aa<|ab<|ai ?_
   refine ay rfl (fun hc3=>?_) (fun hc3=>?_)
   ·have hbad:qm x y u v 4=false:=by
     have h8:=Do (n:=2*k+(j+1)) (by rw[AE hj,AR hc3,Bool.and_false]) (4-(2*k+(j+1)))
     rw[show 2*k+(j+1)+(4-(2*k+(j+1)))=4 from by omega] at h8;exact h8
    refine aa<|ab<|ak (aD (us:=([.i .i64 0]++[.i .i64 0])) ru gU rfl rfl rfl) ?_
    refine ai<|al ?_
    rw[hbad,if_neg (by decide),if_neg (by decide)]
    exact ao (bh lG rfl (aC ae))
   ·have hsc:=AW hc3
    refine aq<|ab<|am 2<|ak (GR rfl rfl rfl) ?_
    refine am 2<|ak (Ba rfl rfl rfl) ?_
    refine ai<|ab<|ak (aJ (r:=(j:Int)+1) rfl rfl (aT (by omega) (by omega)) rfl) ?_
    refine ai ?_
    exact⟨⟨j+1,by omega,by rw[AE hj,hokj,hsc];rfl⟩,aW ⟨rfl,rfl,rfl,by rw[←Id hj hsc];rfl,by rw[←Jd hj hsc];rfl,rfl,rfl,rfl,rfl,rfl,rfl,by rw[show((j+1:Nat):Int)=(j:Int)+1 from by omega];rfl,trivial⟩ ⟨rfl,rfl,rfl,rfl,rfl,trivial⟩ rfl,by show 2-(j+1)<2-j;omega⟩
  ·have hj2:2*k+j=2*k+2:=by have:=iP hc2;omega
   refine cd<|ab<|ak (aJ (r:=(k:Int)+1) rfl rfl (aT (by omega) (by omega)) rfl) ?_
   refine ai ?_
   exact⟨⟨k+1,by omega,by rw[show 2*(k+1)=2*k+2 from by omega,←hj2];exact hokj⟩,aW ⟨rfl,rfl,rfl,by rw[show 2*(k+1)=2*k+2 from by omega,←hj2];rfl,by rw[show 2*(k+1)=2*k+2 from by omega,←hj2];rfl,rfl,rfl,by rw[show((k+1:Nat):Int)=(k:Int)+1 from by omega];rfl,trivial⟩ ⟨rfl,rfl,rfl,rfl,trivial⟩ rfl,by show 2-(k+1)<2-k;omega⟩
 ·have hk2:2*k=4:=by have:=iP hc1;omega
  refine cd<|aa<|ab<|am 2<|ak (aD (us:=([.i .i64 (sH x y u v (2*k))]++[.i .i64 (sp x y u v (2*k))])) ru gU rfl rfl rfl) ?_
  refine ai<|al ?_
  rw[hk2] at hok
  have e1:sH x y u v 4=sH x y u v (2*k):=by rw[hk2]
  have e2:sp x y u v 4=sp x y u v (2*k):=by rw[hk2]
  rw[hok,if_pos rfl,if_pos rfl,e1,e2]
  exact ao (bh lG rfl (aC ae))
theorem v5 {c:Rat}(h: ¬c<0):0≤mZ c:=by
 unfold mZ
 have h0:0≤c:=Rat.not_lt.1 h
 have h1:0≤c*((65536:Int):Rat):=Rat.mul_nonneg h0 (by decide)
 have h2:0≤(c*((65536:Int):Rat)).num:=Rat.num_nonneg.2 h1
 have h3:=den_pos (-(c*((65536:Int):Rat)))
 rw[Int.fdiv_eq_ediv_of_nonneg _ (by omega),Rat.neg_num]
 have h4:(-(c*((65536:Int):Rat)).num)/((-(c*((65536:Int):Rat))).den:Int)≤0:=by
  have h5:=Int.ediv_le_ediv h3 (show-(c*((65536:Int):Rat)).num≤0 by omega)
  rw[Int.zero_ediv] at h5;exact h5
 omega
theorem Ec {lo hi:Int}(h:qF lo hi=true): -2305843009213693952≤lo∧hi≤2305843009213693952:=by unfold qF at h;simpa using h
theorem JI (c:Rat):nU c≤mZ c:=by
 unfold nU mZ
 have h3:=den_pos (c*((65536:Int):Rat))
 rw[Rat.neg_num,Rat.neg_den,Int.fdiv_eq_ediv_of_nonneg _ (by omega),Int.fdiv_eq_ediv_of_nonneg _ (by omega)]
 generalize (c*((65536:Int):Rat)).num=n at*
 generalize ((c*((65536:Int):Rat)).den:Int)=d at*
 have e1:=Int.mul_ediv_add_emod n d
 have e2:=Int.mul_ediv_add_emod (-n) d
 have m1:=Int.emod_nonneg n (show d≠0 by omega)
 have m2:=Int.emod_nonneg (-n) (show d≠0 by omega)
 have h4:d*(n/d+(-n)/d)≤d*0:=by rw[Int.mul_add];omega
 have:=Int.le_of_mul_le_mul_left h4 h3
 omega
theorem JV {c:Rat}(h:jS c=true): -2305843009213693952≤nU c∧nU c≤2305843009213693952∧ -2305843009213693952≤mZ c∧mZ c≤2305843009213693952:=by
 unfold jS at h
 simp only[Bool.and_eq_true] at h
 have h1:=Ec h.2.2
 have h2:=JI c
 omega
theorem JS {x y:Int}(h1:x≤2305843009213693952) (h2:0≤y) (h3:y≤2305843009213693952):0≤kQ x∧kQ x≤549755813889∧0≤gT y∧gT y≤549755813889:=by
 have b1:=q7 (n:=max x 0) (by omega) (by omega)
 have b2:=q7 (n:=y) h2 h3
 unfold kQ gT
 refine⟨b1.1,by omega,?_,?_⟩<;>split<;>omega
theorem Nr {x y u v:Int}(n:Nat) (h:qm x y u v n=true): -2305843009213693952≤sH x y u v n∧sH x y u v n≤2305843009213693952∧ -2305843009213693952≤sp x y u v n∧sp x y u v n≤2305843009213693952:=by
 induction n with
 |zero=>show _≤(2305843009213693952:Int)∧(2305843009213693952:Int)≤_∧_≤(-2305843009213693952:Int)∧(-2305843009213693952:Int)≤_;omega
 |succ n ih=>
  have h':(qm x y u v n&&jz (mX x y (n/2)) (mX u v (n%2)))=true:=h
  rw[Bool.and_eq_true] at h'
  have i:=ih h'.1
  have s1:=h'.2
  unfold jz at s1
  simp only[Bool.and_eq_true,decide_eq_true_eq] at s1
  show _≤min _ _∧min _ _≤_∧_≤max _ _∧max _ _≤_
  omega
theorem rR (w:World) (b:Nat) (v:Value) (U T:TypeId) (cs ds:Array Value) (u:Value) (hlt:b<w.heap.size) (hb:w.heap[b]? =some (.cells #[u] T (0,0))):
 (((w.setCell ⟨b,0,none⟩ v).alloc (.cells cs U)).alloc (.cells ds U)).heap[w.heap.size+1]? =some (.cells ds U (0,0))∧
 (((w.setCell ⟨b,0,none⟩ v).alloc (.cells cs U)).alloc (.cells ds U)).heap[b]? =some (.cells #[v] T (0,0))∧Mid b w (((w.setCell ⟨b,0,none⟩ v).alloc (.cells cs U)).alloc (.cells ds U)):=by
 have hs:(w.setCell ⟨b,0,none⟩ v).heap.size=w.heap.size:=by simp
 refine⟨?_,?_,?_⟩
 ·have:=heap_alloc_new ((w.setCell ⟨b,0,none⟩ v).alloc (.cells cs U)) (.cells ds U)
  rw[cH,hs] at this
  exact this
 ·rw[Below.heap_alloc _ _ _ (by rw[cH,hs];omega),Below.heap_alloc _ _ _ (by rw[hs];omega)]
  exact heap_setCell_same w b 0 #[u] T v hb
 ·refine⟨rfl,rfl,rfl,by rw[cH,cH,hs];omega,fun c hc hne=>?_⟩
  rw[Below.heap_alloc _ _ _ (by rw[cH,hs];omega),Below.heap_alloc _ _ _ (by rw[hs];omega)]
  exact heap_setCell_other w ⟨b,0,none⟩ c v hne
set_option maxRecDepth 10000 in
theorem DX (b:Nat) (ok c:Bool) (lo hi:Int) (w:World) (hb:w.heap[b]? =some (.cells #[.bool ok] 251 (0,0))):
 Calls Tryz.prog 296 #[.pointer (some ⟨b,0,none⟩),.agg #[.int .i64 lo,.int .i64 hi],.bool c] w fun e w'=>
  e=.returned (.agg #[.int .i64 lo,.int .i64 hi])∧w'.heap[b]? =some (.cells #[.bool (ok&&c)] 251 (0,0))∧Mid b w w':=by
 have hlt:b<w.heap.size:=(Array.getElem?_eq_some_iff.1 hb).1
 have e1:((w.alloc (.cells #[.int .i64 lo,.int .i64 hi] 221)).alloc (.cells #[.int .i64 0,.int .i64 0] 221)).heap[b]? =some (.cells #[.bool ok] 251 (0,0)):=by
  rw[Below.heap_alloc _ _ _ (by simp;omega),Below.heap_alloc _ _ _ hlt];exact hb
 have c1:((w.alloc (.cells #[.int .i64 lo,.int .i64 hi] 221)).alloc (.cells #[.int .i64 0,.int .i64 0] 221)).cell? ⟨b,0,none⟩=some (.bool ok):=(bq e1 0).trans rfl
 have f0:w.frozen? ⟨b,0,none⟩=false:=Bk.frozen (t:=251) (cs:= #[.bool ok]) hb 0
 cases ok
 ·go_enter Tryz.func296,Tryz.ntmps296
  go_wp2_with fail
  obtain⟨h1,h2,h3⟩:=rR w b (.bool false) 221 251 #[.int .i64 lo,.int .i64 hi] #[.int .i64 lo,.int .i64 hi] _ hlt hb
  have k0:=(bq h1 0).trans rfl
  have k1:=(bq h1 1).trans rfl
  refine⟨rfl,.agg #[.int .i64 lo,.int .i64 hi],?_,rfl,h2,h3⟩
  simp[results,Tryz.results296,go_sem,k0,k1]
  try rfl
 ·go_enter Tryz.func296,Tryz.ntmps296
  go_wp2_with fail
  obtain⟨h1,h2,h3⟩:=rR w b (.bool c) 221 251 #[.int .i64 lo,.int .i64 hi] #[.int .i64 lo,.int .i64 hi] _ hlt hb
  have k0:=(bq h1 0).trans rfl
  have k1:=(bq h1 1).trans rfl
  refine⟨rfl,.agg #[.int .i64 lo,.int .i64 hi],?_,rfl,h2,h3⟩
  simp[results,Tryz.results296,go_sem,k0,k1]
  try rfl
structure OkP (P:Program) (f:FuncId) (U:TypeId) (cs0 cs1:List CellD) (ds rs:List D0):Prop where
 cal:eg P f=true
 run: ∀(V:Nat→Prop) (b:Nat) (bs:Array Value) (vs:Array Value) (vl:List Value) (w:World),vs.toList=.pointer (some ⟨b,0,none⟩)::vl→(∀c,V c→c<w.heap.size)→V b→w.heap[b]? =some (.cells bs U (0,0))→RdCs V w bs.toList cs0→RdL V w vl ds→
  Calls P f vs w fun e w'=> ∃v,∃bs':Array Value,e=.returned v∧w'.heap[b]? =some (.cells bs' U (0,0))∧Mid b w w'∧RdCs V w' bs'.toList cs1∧J5 V w' v rs
section
variable {P:Program}{ops:Array Oper}{T:TF}{B:BF}
theorem dD {dst:Option Nat}{fo x:Operand}{xs:List Operand}{args:Array Operand}{at_:Array TypeId}{ty:TypeId}{pos:String}{af:Array Edge}{g:Option (Nat×Bool)}{f:FuncId}{k:Nat}{U:TypeId}{cs0 cs1:List CellD}{ds rs:List D0}
 (hf:cq T fo=some (.v (.c (.f f)))) (hargs:args.toList=x::xs) (hx:cq T x=some (.p k 0)) (ha:tu T xs=some ds) (hb:B k=some (U,cs0)) (hok:OkP P f U cs0 cs1 ds rs) (hg:gd ops ⟨dst,.call ⟨.value fo,args,at_⟩,ty,pos,af,g⟩ T=some true):
 Sem P ops ⟨dst,.call ⟨.value fo,args,at_⟩,ty,pos,af,g⟩ T B (.rs k U cs1 (vM rs)):=by
 refine⟨by unfold vM;split<;>rfl,⟨_,hb⟩,fun V β a w hs=>⟨dY hs hg,?_⟩⟩
 have hin: ∀y∈x::xs,y∈(⟨dst,.call ⟨.value fo,args,at_⟩,ty,pos,af,g⟩:Oper).op.operands:=fun y hy=>by
  have hx2:y∈args:=Array.mem_toList_iff.1 (by rw[hargs];exact hy)
  simp[Op.operands,Call.operands,hx2]
 have h1:=RdC.func_eq (aG hs (x:=fo) (by simp[Op.operands,Call.operands]) hf)
 have h2:=mg hs xs ds (fun y hy=>hin y (List.mem_cons_of_mem _ hy)) ha
 have h3:a.eval x=.pointer (some ⟨β k,0,none⟩):=aG hs (hin x (List.mem_cons_self ..)) hx
 obtain⟨hV,bs,e,hr⟩:=hs.box k U cs0 hb
 have hc:=hok.cal
 unfold eg at hc
 cases hfn:P.funcs[f]? with
 |none=>rw[hfn] at hc;cases hc
 |some fn=>
  rw[hfn] at hc
  simp only[Bool.and_eq_true,bne_iff_ne,ne_eq,Bool.not_eq_true'] at hc
  have hrun:(execOp a.eval ⟨dst,.call ⟨.value fo,args,at_⟩,ty,pos,af,g⟩).run P w=.ok (.enter f (args.map a.eval)) w:=by
   have hb2:fn.body≠none:=by have:=hc.2;cases hbb:fn.body with
    |none=>rw[hbb] at this;cases this
    |some c=>simp
   simp[execOp,resolve,h1,Deferred.ofValue,invoke,callFunc,program,Sem.run,hfn,hc.1,hb2]
  unfold Gives
  rw[hrun]
  refine(hok.run V (β k) bs (args.map a.eval) (xs.map a.eval) w (by rw[Array.toList_map,hargs,List.map_cons,h3]) hs.av hV e hr h2).mono ?_
  rintro e w' ⟨v,bs',rfl,hbl,hm,hr1,hr2⟩
  refine⟨v,rfl,bs',hbl,hm,hr1,?_⟩
  unfold J5 at hr2
  split at hr2
  ·exact hr2
  ·rename_i hne
   have e2:vM rs=.t rs:=by
    unfold vM
    split
    ·rename_i d;exact absurd rfl (hne d)
    ·rfl
   rw[e2];exact hr2
theorem kS {dst:Option Nat}{x:Operand}{ty:TypeId}{pos:String}{af:Array Edge}{g:Option (Nat×Bool)}{k off:Nat}
 (hx:cq T x=some (.p k off)) (hg:gd ops ⟨dst,.nilCheck x,ty,pos,af,g⟩ T=some true):Sem P ops ⟨dst,.nilCheck x,ty,pos,af,g⟩ T B (.r (.p k off)):=
 bG hg (fun l e=>mW (ops:=ops) (o:=⟨dst,.nilCheck x,ty,pos,af,g⟩) (by simp[Op.operands]) hx e)
  (fun V β a w hs=>by
   have hp:a.eval x=.pointer (some ⟨β k,off,none⟩):=aG hs (x:=x) (by simp[Op.operands]) hx
   exact⟨_,by simp[execOp,hp],rfl⟩)
end
theorem Ja (ok c:Bool) (lo hi:Int):OkP Tryz.prog 296 251 [.b ok] [.b (ok&&c)] [.a [.i .i64 lo,.i .i64 hi],.c (.b c)] [.a [.i .i64 lo,.i .i64 hi]]:=
 ⟨by kernel_rfl,fun V b bs vs vl w hvs hV hb hbl hcs hds=>by
  obtain⟨vs⟩:=vs
  replace hvs:vs=_:=hvs
  subst hvs
  match vl,hds with
  |[],hds=>have:=hds.1;simp at this
  |v1::vl,hds=>
  obtain⟨h1,hds⟩:=hds.uncons
  match vl,hds with
  |[],hds=>have:=hds.1;simp at this
  |v2::vl,hds=>
  obtain⟨h2,hds⟩:=hds.uncons
  have hn:vl=[]:=List.length_eq_zero_iff.1 hds.1
  subst hn
  have h2:=RdC.bool_eq h2
  subst h2
  obtain⟨cs,rfl,h1⟩:=h1
  obtain⟨cs⟩:=cs
  obtain⟨bs⟩:=bs
  match cs,h1 with
  |[],h1=>have:=h1.1;simp at this
  |x1::cs,h1=>
  obtain⟨g1,h1⟩:=h1.uncons
  match cs,h1 with
  |[],h1=>have:=h1.1;simp at this
  |x2::cs,h1=>
  obtain⟨g2,h1⟩:=h1.uncons
  have hn:cs=[]:=List.length_eq_zero_iff.1 h1.1
  subst hn
  have g1:=RdC.int_eq g1
  have g2:=RdC.int_eq g2
  subst g1 g2
  match bs,hcs with
  |[],hcs=>have:=hcs.1;simp at this
  |y1::bs,hcs=>
  obtain⟨g3,hcs⟩:=hcs.uncons
  have hn:bs=[]:=List.length_eq_zero_iff.1 hcs.1
  subst hn
  have g3:=RdC.bool_eq g3
  subst g3
  refine(DX b ok c lo hi w hbl).mono ?_
  rintro e w' ⟨rfl,h3,h4⟩
  exact⟨_,_,rfl,h3,h4,RdCs.cons (.b _) RdCs.nil,_,rfl,RdCs.cons (.i _ _) (RdCs.cons (.i _ _) RdCs.nil)⟩⟩
end Go.Proofs.YtacopbfkmnpfgaaGreat
