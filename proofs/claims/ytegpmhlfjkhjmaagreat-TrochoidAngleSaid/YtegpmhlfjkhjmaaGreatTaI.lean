/-Package swarfref03:signs,sums,products. -/
import Derived.Test.YtegpmhlfjkhjmaaGreatTaH
import Derived.Test.YtegpmhlfjkhjmaaGreatProg
namespace Go.Proofs.YtegpmhlfjkhjmaaGreat
open Go Go.RowKit
variable {hi lo n p r u v x y:Int}{j k:Nat}{A B C D M N a a1 a2 b b1 b2 c d e m p1 p2 q1 q2:Rat}{U xt yt:TypeId}
variable {ty:TypeId}{pos:String}{af:Array Edge}{g:Option (Nat×Bool)}{dst:Option Nat}
theorem fC:type_of% @Rz.mono:=@Rz.mono
theorem dD:type_of% @Rat.intCast_mul:=@Rat.intCast_mul
theorem fl:type_of% @Rat.mul_nonneg:=@Rat.mul_nonneg
theorem fm:type_of% @Rat.intCast_le_intCast:=@Rat.intCast_le_intCast
theorem gz:type_of% @Rat.intCast_add:=@Rat.intCast_add
theorem iF:type_of% @Rat.intCast_lt_intCast:=@Rat.intCast_lt_intCast
theorem jh:type_of% @Rat.mul_pos:=@Rat.mul_pos
theorem uI:type_of% @Rat.intCast_pos:=@Rat.intCast_pos
theorem tQ:type_of% @Rat.le_refl:=@Rat.le_refl
theorem vO:type_of% @Bool.and_true:=@Bool.and_true
theorem yI:type_of% @Rat.divInt_eq_div:=@Rat.divInt_eq_div
theorem yi:type_of% @Rat.intCast_nonneg:=@Rat.intCast_nonneg
theorem F7:Ok Tryz.prog 191 [dR a,dR b,dR c] [.a ((cR a++cR (rB b c)++cR (rC b c)))]:=by
 refine b9 Tryz.func191 rfl<|ac rfl (qf) ?_
 refine lg (bJ rfl) (fun c1 hb1=>?_)
 cases c1
 ·refine ac rfl (qf) ?_
  refine dS rfl (fun hc2=>?_) (fun hc2=>?_)
  ·refine ac rfl (fF) ?_
   refine ai ?_
   rw[Zs (.inr (tM hc2)),YJ (.inr (tM hc2))]
   exact bj d9 rfl ag
  ·refine ar (aF (us:=(cR a++cR b++cR c)) nA lW rfl rfl rfl) ?_
   refine ai ?_
   rw[abM (tP hb1) (tP hc2),adj (tP hb1) (tP hc2)]
   exact bj d9 rfl ag
 ·refine lr rfl ?_
  refine ac rfl (fF) ?_
  refine ai ?_
  rw[Zs (.inl (tM hb1)),YJ (.inl (tM hb1))]
  exact bj d9 rfl ag
def Ee (a b c p q r:Rat):Int:=fN (a-p) b (-q) 0 (zc b c) (zc q r)
def uQ (a1 b1 a2 b2 c p1 q1 p2 q2 r:Rat):Int:=if Ee a1 b1 c p1 q1 r≠0 then Ee a1 b1 c p1 q1 r else Ee a2 b2 c p2 q2 r
theorem V5 {r:Rat}(h:(Ee a1 b1 c p1 q1 r !=0)=true):uQ a1 b1 a2 b2 c p1 q1 p2 q2 r=Ee a1 b1 c p1 q1 r:=by unfold uQ;rw[if_pos (by simpa using h)]
theorem UM {r:Rat}(h:(Ee a1 b1 c p1 q1 r !=0)=false):uQ a1 b1 a2 b2 c p1 q1 p2 q2 r=Ee a2 b2 c p2 q2 r:=by unfold uQ;rw[if_neg (by simpa using h)]
theorem Rz.zero (hk:1≤k):Rz k (0:Rat):=⟨⟨by have:=cU k;rw[Rat.zero_num];omega,by have:=cU k;rw[Rat.zero_num];omega⟩,by rw[Rat.zero_den];exact Sz.one hk⟩
theorem Rz.zc (h:Rz k c) (hk:1≤k):Rz k (zc b c):=by
 unfold Go.Proofs.YtegpmhlfjkhjmaaGreat.zc
 split
 ·exact Rz.zero hk
 ·exact h
def rt (c:Rat):Rat:=Rat.divInt (bZ c.num) (bZ (c.den:Int))
theorem UT (h:kg c=true):dQ (if kg c then bZ c.num else 0) (if kg c then bZ (c.den:Int) else 0)=dR (rt c):=by
 rw[if_pos h,if_pos h]
 unfold kg D6 at h
 simp only[di,beq_iff_eq] at h
 obtain⟨h1,h2⟩:=h
 have d0:=fg (c.den:Int)
 have dp:=den_pos c
 have hd:0<bZ (c.den:Int):=by grind
 have hg:Int.gcd (bZ c.num) (bZ (c.den:Int))=1:=by
  have hr:Int.gcd c.num (c.den:Int)=1:=c.reduced
  have d1:Int.gcd (bZ c.num) (bZ (c.den:Int))∣Int.gcd c.num (c.den:Int):=by
   refine Int.dvd_gcd ?_ ?_
   ·have t:((Int.gcd (bZ c.num) (bZ (c.den:Int)):Nat):Int)∣bZ c.num*bZ c.num:=Int.dvd_mul_of_dvd_left (Int.gcd_dvd_left ..)
    rw[h1] at t;exact t
   ·have t:((Int.gcd (bZ c.num) (bZ (c.den:Int)):Nat):Int)∣bZ (c.den:Int)*bZ (c.den:Int):=Int.dvd_mul_of_dvd_left (Int.gcd_dvd_right ..)
    rw[h2] at t;exact t
  rw[hr] at d1
  exact Nat.dvd_one.1 d1
 exact(Cc hd (by rw[hg];rfl)).symm
def Uo (x:Nat→Rat):Prop:= ∀e:Rat,0<e→ ∃K:Nat,∀i j,K≤i→K≤j→x i-x j≤e
def IW (x:Nat→Rat):Prop:= ∃e:Rat,0<e∧ ∃K:Nat,∀k,K≤k→e≤x k
def Of (x:Nat→Rat):Prop:= ∀e:Rat,0<e→ ∃K:Nat,∀k,K≤k→ -e≤x k∧x k≤e
structure Re where
 s:Nat→Rat
 c:Uo s
theorem Re.ext {x y:Re}(h: ∀k,x.s k=y.s k):x=y:=by
 cases x;cases y
 have:_=_:=funext h
 subst this;rfl
theorem oY (h:0<e):0<e/2:=by grind
theorem IC (h:0<e) (h2:0<B):0<e/B∧B*(e/B)=e:=by
 refine⟨?_,by grind⟩
 exact jh h (Rat.inv_pos.2 h2)
theorem Re.bnd (x:Re): ∃B:Rat,0<B∧ ∃K:Nat,∀k,K≤k→ -B≤x.s k∧x.s k≤B:=by
 obtain⟨K,h⟩:=x.c 1 (by decide)
 by_cases hs:0≤x.s K
 ·exact⟨x.s K+1,by grind,K,fun k hk=>by have h1:=h k K hk (ck _);have h2:=h K k (ck _) hk;constructor<;>grind⟩
 ·exact⟨1-x.s K,by grind,K,fun k hk=>by have h1:=h k K hk (ck _);have h2:=h K k (ck _) hk;constructor<;>grind⟩
theorem Ew (q:Rat):Uo (fun _=>q):=fun e he=>⟨0,fun i j _ _=>by grind⟩
theorem Vx {x y:Nat→Rat}(hx:Uo x) (hy:Uo y):Uo (fun k=>x k+y k):=fun e he=>by
 obtain⟨K,h⟩:=hx (e/2) (oY he)
 obtain⟨L,g⟩:=hy (e/2) (oY he)
 exact⟨max K L,fun i j hi hj=>by have h1:=h i j (by omega) (by omega);have h2:=g i j (by omega) (by omega);grind⟩
theorem T6 {x:Nat→Rat}(hx:Uo x):Uo (fun k=> -x k):=fun e he=>by
 obtain⟨K,h⟩:=hx e he
 exact⟨K,fun i j hi hj=>by have h1:=h j i hj hi;grind⟩
theorem JO {f:Rat}(h1: -e≤a) (h2:a≤e) (h3: -f≤b) (h4:b≤f):a*b≤e*f∧ -(e*f)≤a*b:=by
 have p1:0≤(e-a)*(f+b):=fl (by grind) (by grind)
 have p2:0≤(e+a)*(f-b):=fl (by grind) (by grind)
 have p3:0≤(e-a)*(f-b):=fl (by grind) (by grind)
 have p4:0≤(e+a)*(f+b):=fl (by grind) (by grind)
 grind
theorem VV (x y:Re):Uo (fun k=>x.s k*y.s k):=fun e he=>by
 obtain⟨B,hB,K,hb⟩:=x.bnd
 obtain⟨D,hD,L,hd⟩:=y.bnd
 obtain⟨d1,e1⟩:=IC (oY he) hB
 obtain⟨d2,e2⟩:=IC (oY he) hD
 obtain⟨K',h⟩:=x.c _ d2
 obtain⟨L',g⟩:=y.c _ d1
 refine⟨max (max K L) (max K' L'),fun i j hi hj=>?_⟩
 have b1:=hb i (by omega)
 have b2:=hd j (by omega)
 have h1:=h i j (by omega) (by omega)
 have h2:=h j i (by omega) (by omega)
 have g1:=g i j (by omega) (by omega)
 have g2:=g j i (by omega) (by omega)
 have p1:=(JO b1.1 b1.2 (a:=x.s i) (b:=y.s i-y.s j) (f:=e/2/B) (by grind) (by grind)).1
 have p2:=(JO b2.1 b2.2 (a:=y.s j) (b:=x.s i-x.s j) (f:=e/2/D) (by grind) (by grind)).1
 rw[e1] at p1
 rw[e2] at p2
 grind
def Re.of (q:Rat):Re:=⟨fun _=>q,Ew q⟩
instance:Add Re:=⟨fun x y=>⟨fun k=>x.s k+y.s k,Vx x.c y.c⟩⟩
instance:Neg Re:=⟨fun x=>⟨fun k=> -x.s k,T6 x.c⟩⟩
instance:_root_.Sub Re:=⟨fun x y=>x+ -y⟩
instance:Mul Re:=⟨fun x y=>⟨fun k=>x.s k*y.s k,VV x y⟩⟩
theorem aD (x y:Re) (k:Nat):(x+y).s k=x.s k+y.s k:=rfl
theorem aV (x:Re) (k:Nat):(-x).s k= -x.s k:=rfl
theorem aj (x y:Re) (k:Nat):(x-y).s k=x.s k+ -y.s k:=rfl
theorem aE (x y:Re) (k:Nat):(x*y).s k=x.s k*y.s k:=rfl
theorem aK (q:Rat) (k:Nat):(Re.of q).s k=q:=rfl
theorem mx (x:Re):IW x.s∨Of x.s∨IW (-x).s:=by
 by_cases hn:Of x.s
 ·grind
 ·unfold Of at hn
  obtain⟨e,hn⟩:=Classical.not_forall.1 hn
  obtain⟨he,hn⟩:=Classical.not_imp.1 hn
  obtain⟨K,h⟩:=x.c (e/2) (oY he)
  have hn2:=not_exists.1 hn K
  obtain⟨k,hn3⟩:=Classical.not_forall.1 hn2
  obtain⟨hk,hn4⟩:=Classical.not_imp.1 hn3
  by_cases h1:e<x.s k
  ·exact .inl ⟨e/2,oY he,K,fun j hj=>by have:=h k j hk hj;grind⟩
  ·have h2:x.s k< -e:=by
    apply fe
    grind
   exact .inr (.inr ⟨e/2,oY he,K,fun j hj=>by rw[aV];have:=h j k hj hk;grind⟩)
section
variable {x y z:Re}
theorem VS (h:IW x.s): ¬IW (-x).s:=fun g=>by
 obtain⟨e,he,K,h⟩:=h
 obtain⟨f,hf,L,g⟩:=g
 have h1:=h (max K L) (by omega)
 have h2:=g (max K L) (by omega)
 rw[aV] at h2
 grind
theorem Bj (h:IW x.s): ¬Of x.s:=fun g=>by
 obtain⟨e,he,K,h⟩:=h
 obtain⟨L,g⟩:=g (e/2) (oY he)
 have h1:=h (max K L) (by omega)
 have h2:=g (max K L) (by omega)
 grind
theorem Fq (h:Of x.s):Of (-x).s:=fun e he=>by
 obtain⟨K,h⟩:=h e he
 exact⟨K,fun k hk=>by rw[aV];have:=h k hk;constructor<;>grind⟩
theorem TW (h:Of x.s) (g:Of y.s):Of (x+y).s:=fun e he=>by
 obtain⟨K,h⟩:=h (e/2) (oY he)
 obtain⟨L,g⟩:=g (e/2) (oY he)
 exact⟨max K L,fun k hk=>by rw[aD];have:=h k (by omega);have:=g k (by omega);constructor<;>grind⟩
theorem Bu (h:IW x.s) (g:Of y.s):IW (x+y).s:=by
 obtain⟨e,he,K,h⟩:=h
 obtain⟨L,g⟩:=g (e/2) (oY he)
 exact⟨e/2,oY he,max K L,fun k hk=>by rw[aD];have:=h k (by omega);have:=g k (by omega);grind⟩
theorem Ma (h:IW x.s) (g:IW y.s):IW (x+y).s:=by
 obtain⟨e,he,K,h⟩:=h
 obtain⟨f,hf,L,g⟩:=g
 exact⟨e,he,max K L,fun k hk=>by rw[aD];have:=h k (by omega);have:=g k (by omega);grind⟩
theorem Cj (h:IW x.s) (g:IW y.s):IW (x*y).s:=by
 obtain⟨e,he,K,h⟩:=h
 obtain⟨f,hf,L,g⟩:=g
 refine⟨e*f,jh he hf,max K L,fun k hk=>?_⟩
 rw[aE]
 have p1:0≤(x.s k-e)*f:=fl (by grind) (by grind)
 have p2:0≤x.s k*(y.s k-f):=fl (by grind) (by grind)
 grind
theorem zj (x:Re) (g:Of y.s):Of (x*y).s:=fun e he=>by
 obtain⟨B,hB,K,hb⟩:=x.bnd
 obtain⟨d1,e1⟩:=IC he hB
 obtain⟨L,g⟩:=g _ d1
 refine⟨max K L,fun k hk=>?_⟩
 rw[aE]
 have h1:=hb k (by omega)
 have h2:=g k (by omega)
 have p:=JO h1.1 h1.2 h2.1 h2.2
 rw[e1] at p
 exact⟨p.2,p.1⟩
theorem EK (x:Re): - -x=x:=Re.ext fun k=>by rw[aV,aV];grind
theorem rn (x y:Re):x*y=y*x:=Re.ext fun k=>by rw[aE,aE];grind
theorem Nm (x y:Re): -(x*y)= -x*y:=Re.ext fun k=>by rw[aV,aE,aE,aV];grind
theorem Nr (x y:Re): -(x*y)=x* -y:=Re.ext fun k=>by rw[aV,aE,aE,aV];grind
theorem E9 (x y:Re): -(x+y)= -x+ -y:=Re.ext fun k=>by rw[aV,aD,aD,aV,aV];grind
noncomputable def aB (x:Re):Int:=open Classical in if IW x.s then 1 else if IW (-x).s then-1 else 0
theorem pk:aB x=1↔IW x.s:=by
 unfold aB
 split
 ·rename_i h;simp[h]
 ·rename_i h;split<;>simp[h]
theorem oN:aB x= -1↔IW (-x).s:=by
 unfold aB
 split
 ·rename_i h;simp[VS h]
 grind
theorem nK:aB x=0↔Of x.s:=by
 unfold aB
 split
 ·rename_i h;simp[Bj h]
 ·rename_i h
  split
  ·rename_i h2
   have h3:=Bj h2
   simp
   exact fun g=>h3 (Fq g)
  ·rename_i h2
   simp
   exact((mx x).resolve_left h).resolve_right h2
theorem bg (x:Re):aB x=1∨aB x=0∨aB x= -1:=by
 rcases mx x with h|h|h
 ·exact .inl (pk.2 h)
 ·exact .inr (.inl (nK.2 h))
 ·exact .inr (.inr (oN.2 h))
theorem bG (x:Re):aB (-x)= -aB x:=by
 rcases mx x with h|h|h
 ·rw[pk.2 h,oN,EK];exact h
 ·rw[nK.2 h,nK.2 (Fq h)];rfl
 ·rw[oN.2 h,pk.2 h];rfl
theorem aY (x y:Re):aB (x*y)=aB x*aB y:=by
 rcases mx x with h|h|h<;>rcases mx y with g|g|g
 ·rw[pk.2 h,pk.2 g,pk.2 (Cj h g)];rfl
 ·rw[pk.2 h,nK.2 g,nK.2 (zj x g)];rfl
 ·rw[pk.2 h,oN.2 g,js,oN,Nr];exact Cj h g
 ·rw[nK.2 h,oG,nK,rn];exact zj y h
 ·rw[nK.2 h,oG,nK,rn];exact zj y h
 ·rw[nK.2 h,oG,nK,rn];exact zj y h
 ·rw[oN.2 h,pk.2 g,sv,oN,Nm];exact Cj h g
 ·rw[oN.2 h,nK.2 g,nK.2 (zj x g)];rfl
 ·rw[oN.2 h,oN.2 g]
  have e:x*y= -x* -y:=Re.ext fun k=>by rw[aE,aE,aV,aV];grind
  rw[e,pk.2 (Cj h g)];rfl
theorem dH (x:Re) (h:aB y=0):aB (x+y)=aB x:=by
 have g:=nK.1 h
 rcases mx x with h|h|h
 ·rw[pk.2 h,pk.2 (Bu h g)]
 ·rw[nK.2 h,nK.2 (TW h g)]
 ·rw[oN.2 h,oN,E9];exact Bu h (Fq g)
theorem y8 (x y:Re):x+y=y+x:=Re.ext fun k=>by rw[aD,aD];grind
theorem nm (h:aB x=0) (y:Re):aB (x+y)=aB y:=by rw[y8];exact dH y h
theorem jF (h:aB x=aB y):aB (x+y)=aB x:=by
 rcases bg x with g|g|g
 ·rw[g,pk];exact Ma (pk.1 g) (pk.1 (h.symm.trans g))
 ·rw[dH x (h.symm.trans g)]
 ·rw[g,oN,E9];exact Ma (oN.1 g) (oN.1 (h.symm.trans g))
theorem fP (h:0≤aB x) (g:0≤aB y):0≤aB (x+y):=by
 rcases bg x with a|a|a
 ·rcases bg y with b|b|b
  ·rw[jF (a.trans b.symm)];exact h
  ·rw[dH x b];exact h
  grind
 ·rw[nm a];exact g
 grind
theorem wG (h:0<aB x) (g:0≤aB y):0<aB (x+y):=by
 rcases bg y with b|b|b
 ·rcases bg x with a|a|a
  ·rw[jF (a.trans b.symm)];exact h
  ·omega
  grind
 ·rw[dH x b];exact h
 grind
theorem cY (h:aB (x-y)=0):aB x=aB y:=by
 have e:x=(x-y)+y:=Re.ext fun k=>by rw[aD,aj];grind
 rw[e]
 exact nm h y
theorem bQ (q:Rat):aB (Re.of q)=aX q 0:=by
 unfold aX
 split
 ·rename_i h
  exact oN.2 ⟨-q,by grind,0,fun k _=>by rw[aV,aK];grind⟩
 ·split
  ·rename_i h;exact pk.2 ⟨q,h,0,fun k _=>by rw[aK];grind⟩
  ·exact nK.2 fun e he=>⟨0,fun k _=>by rw[aK];constructor<;>grind⟩
end
theorem Ix {X Y r n:Re}(hr:0≤aB r) (hn:aB (r*r-n)=0):aB (X+Y*r)=sB (aB X) (aB Y*aB n) (aB (X*X-Y*Y*n)):=by
 have hrn:aB r=aB n:=by
  have h1:=cY hn
  rw[aY] at h1
  rcases bg r with h|h|h
  ·grind
  ·grind
  grind
 have ht:aB (Y*r)=aB Y*aB n:=by rw[aY,hrn]
 rw[←ht]
 unfold sB
 split
 ·rename_i h
  rcases h with h|h
  ·exact dH X h
  ·exact jF h
 ·rename_i h
  split
  ·rename_i h2;exact nm h2 _
  ·rename_i h2
   have hopp:aB (Y*r)= -aB X:=by
    have a:=bg X
    have b:=bg (Y*r)
    omega
   have hm:aB (X+ -(Y*r))=aB X:=jF (by rw[bG,hopp];omega)
   have e1:aB ((X+Y*r)*(X+ -(Y*r)))=aB (X*X-Y*Y*n):=by
    refine cY ?_
    have e:(X+Y*r)*(X+ -(Y*r))-(X*X-Y*Y*n)= -(Y*Y)*(r*r-n):=Re.ext fun k=>by
     simp only[aj,aE,aD,aV];grind
    rw[e,aY,hn,ny]
   rw[aY,hm] at e1
   have a:=bg X
   grind
def yy (m:Rat) (k:Nat):Rat:=(((m.den:Int)*((k:Int)+1):Int):Rat)
def Xf (m:Rat) (k:Nat):Int:=bZ (m.num*(m.den:Int)*(((k:Int)+1)*((k:Int)+1)))
def yP (m:Rat) (k:Nat):Rat:=((Xf m k:Int):Rat)/yy m k
theorem pZ {x y:Rat}(hd:0<d) (h:x*d≤y*d):x≤y:=by
 apply fe
 intro hn
 have h1:0<(x-y)*d:=jh (by grind) hd
 grind
theorem uW (m:Rat):m*((m.den:Int):Rat)=((m.num:Int):Rat):=by
 have h:=Rat.num_divInt_den m
 rw[yI] at h
 have hd:(0:Rat)<((m.den:Int):Rat):=uI.2 (by have:=m.den_pos;omega)
 grind
theorem yV (m:Rat) (k:Nat):0<yy m k:=by
 have h1:=den_pos m
 have h2:(0:Int)<(m.den:Int)*((k:Int)+1):=by grind
 exact uI.2 h2
theorem Gd (m:Rat) (k:Nat):yP m k*yy m k=((Xf m k:Int):Rat):=by
 have:=yV m k
 unfold yP;grind
theorem Qk (m:Rat) (k:Nat):m*(yy m k*yy m k)=((m.num*(m.den:Int)*(((k:Int)+1)*((k:Int)+1)):Int):Rat):=by
 have h:=uW m
 unfold yy
 grind
theorem Yp (m:Rat) (k:Nat):0≤Xf m k:=fg _
theorem QY (h:0≤m) (k:Nat):0≤m.num*(m.den:Int)*(((k:Int)+1)*((k:Int)+1)):=
 fU (fU (Rat.num_nonneg.2 h) (by have:=den_pos m;omega)) (fU (by omega) (by omega))
theorem FJ (m:Rat) (k:Nat):0≤yP m k:=by
 refine pZ (yV m k) ?_
 rw[Gd]
 have:(0:Rat)≤((Xf m k:Int):Rat):=yi.2 (Yp m k)
 grind
theorem RU (h:0≤m) (k:Nat):yP m k*yP m k≤m:=by
 have hd:=yV m k
 refine pZ (jh hd hd) ?_
 rw[Qk]
 have e:yP m k*yP m k*(yy m k*yy m k)=((Xf m k*Xf m k:Int):Rat):=by
  rw[dD,←Gd];grind
 rw[e]
 exact fm.2 (ry (QY h k))
theorem R3 (h:0≤m) (k:Nat):m<(yP m k+1/yy m k)*(yP m k+1/yy m k):=by
 have hd:=yV m k
 have e:(yP m k+1/yy m k)*(yP m k+1/yy m k)*(yy m k*yy m k)=(((Xf m k+1)*(Xf m k+1):Int):Rat):=by
  rw[dD,gz,←Gd]
  grind
 have h1:=iF.2 (xg (QY h k))
 rw[←Qk] at h1
 have h2:m*(yy m k*yy m k)<(yP m k+1/yy m k)*(yP m k+1/yy m k)*(yy m k*yy m k):=by rw[e];exact h1
 apply fe
 intro hn
 have h3:0≤(m-(yP m k+1/yy m k)*(yP m k+1/yy m k))*(yy m k*yy m k):=fl (by grind) (by have:=jh hd hd;grind)
 grind
theorem AJ (m:Rat) (he:0<e) (hk:e.den≤k):0<1/yy m k∧1/yy m k≤e:=by
 have hd:=yV m k
 refine⟨?_,?_⟩
 ·have:=(IC (e:=1) (by decide) hd).1;exact this
 ·refine pZ hd ?_
  have h1:=uW e
  have h2:0<e.num:=uI.1 (by rw[←h1];exact jh he (uI.2 (by have:=e.den_pos;omega)))
  have h3:(1:Rat)≤((e.num:Int):Rat):=by
   have:((1:Int):Rat)≤((e.num:Int):Rat):=fm.2 (by omega)
   grind
  have h4:((e.den:Int):Rat)≤yy m k:=by
   refine fm.2 ?_
   have:=den_pos m
   have h5:1*((k:Int)+1)≤(m.den:Int)*((k:Int)+1):=vv (by omega) (by omega)
   omega
  have h6:0≤e*(yy m k-((e.den:Int):Rat)):=fl (by grind) (by grind)
  grind
theorem X9 (h:0≤m):Uo (yP m):=fun e he=>by
 refine⟨e.den,fun i j _ hj=>?_⟩
 obtain⟨hp,hs⟩:=AJ m he hj
 have h1:=RU h i
 have h2:=R3 h j
 have h3:=FJ m i
 have h4:=FJ m j
 apply fe
 intro hn
 have h5:0≤(yP m i-(yP m j+1/yy m j))*(yP m i+(yP m j+1/yy m j)):=fl (by grind) (by grind)
 grind
def Re.rt (m:Rat):Re:=⟨fun k=>if 0≤m then yP m k else 0,by
 by_cases h:0≤m
 ·simp only[h,if_true];exact X9 h
 ·simp only[h,if_false];exact Ew 0⟩
theorem YQ {x:Re}(h: ∀k,0≤x.s k):0≤aB x:=by
 rcases bg x with a|a|a
 ·omega
 ·omega
 ·obtain⟨e,he,K,g⟩:=oN.1 a
  have h1:=g K (ck _)
  rw[aV] at h1
  grind
theorem u9 (m:Rat):0≤aB (Re.rt m):=YQ fun k=>by
 show 0≤(if 0≤m then yP m k else 0)
 split
 ·exact FJ m k
 ·exact tQ
theorem lh (h:0≤m):aB (Re.rt m*Re.rt m-Re.of m)=0:=nK.2 fun e he=>by
 obtain⟨d1,d2⟩:=IC he (show 0<2*m+3 by grind)
 refine⟨(e/(2*m+3)).den,fun k hk=>?_⟩
 rw[aj,aE,aK]
 show-e≤(if 0≤m then yP m k else 0)*(if 0≤m then yP m k else 0)+ -m∧(if 0≤m then yP m k else 0)*(if 0≤m then yP m k else 0)+ -m≤e
 rw[if_pos h]
 obtain⟨hp,hs⟩:=AJ m d1 hk
 obtain⟨hp1,hs1⟩:=AJ m (e:=1) (by decide) (k:=k) (by
  have:(1:Rat).den=1:=rfl
  rw[this]
  have:=(e/(2*m+3)).den_pos
  omega)
 have h1:=RU h k
 have h2:=R3 h k
 have h3:=FJ m k
 refine⟨?_,by grind⟩
 have h4:yP m k≤m+1:=by
  apply fe
  intro hn
  have h5:0≤(yP m k-(m+1))*(yP m k+(m+1)):=fl (by grind) (by grind)
  have h6:0≤m*m:=fl h h
  grind
 generalize 1/yy m k=d at*
 have h7:0≤d*((m+1)-yP m k):=fl (by grind) (by grind)
 have h8:0≤d*(1-d):=fl (by grind) (by grind)
 have h9:0≤(2*m+3)*(e/(2*m+3)-d):=fl (by grind) (by grind)
 grind
theorem oE (x y:Rat):aX (x-y) 0=aX x y:=by
 unfold aX
 grind
theorem dO (x y:Rat):Re.of x*Re.of y=Re.of (x*y):=rfl
theorem Sv (x:Rat): -Re.of x=Re.of (-x):=rfl
theorem vX (x y:Rat):Re.of x+Re.of y=Re.of (x+y):=rfl
theorem yo (x y:Rat):Re.of x-Re.of y=Re.of (x-y):=Re.ext fun k=>by rw[aj,aK,aK,aK];grind
def az (a b m:Rat):Re:=Re.of a+Re.of b*Re.rt m
theorem jn (h:0≤m):bD a b m=aB (az a b m):=by
 unfold az
 rw[Ix (n:=Re.of m) (u9 m) (lh h),bQ,bQ,bQ,dO,dO,dO,yo,bQ,oE]
 rfl
def jM (A B C D M N:Rat):Re:=az A B M+az C D M*Re.rt N
theorem np (hM:0≤M) (hN:0≤N):fN A B C D M N=aB (jM A B C D M N):=by
 unfold jM
 rw[Ix (n:=Re.of N) (u9 N) (lh hN),←jn hM,←jn hM,bQ,xo (by grind) (by grind)]
 have e:aB (az A B M*az A B M-az C D M*az C D M*Re.of N)=aB (az (Ep A B C D M N) (xS A B C D N+xS A B C D N) M):=by
  refine cY ?_
  have e:(az A B M*az A B M-az C D M*az C D M*Re.of N)-az (Ep A B C D M N) (xS A B C D N+xS A B C D N) M=(Re.of (B*B-D*D*N))*(Re.rt M*Re.rt M-Re.of M):=Re.ext fun k=>by
   unfold az Ep xS
   simp only[aj,aE,aD,aK];grind
  rw[e,aY,lh hM,ny]
 rw[e,←jn hM]
theorem nL {f:Rat}(hc:0≤c) (hf:0≤f):fN (a-d) b (-e) 0 c f=aB (az a b c-az d e f):=by
 rw[np hc hf]
 refine congrArg aB (Re.ext fun k=>?_)
 unfold jM az
 simp only[aj,aE,aD,aK];grind
section
variable {P:Program}{ops:Array Oper}{T:TF}{B:BF}
theorem tS {x y:Operand}{k yk:IntKind}{m:Int}
 (hx:cO T x=some (.v (.c (.i k m)))) (hy:cO T y=some (.v (.c (.i yk n)))) (h0: ¬n<0) (hr:m.fdiv (2^(min n.toNat k.bits))=r) (hg:gd ops ⟨dst,.binOp .shr xt x y yt,ty,pos,af,g⟩ T=some true):
 Sem P ops ⟨dst,.binOp .shr xt x y yt,ty,pos,af,g⟩ T B (.r (.v (.c (.i k r)))):=
 bI hg (pF rfl) (fun V β a w hs=>by
  have e1:a.eval x=.int k m:=fO (aC hs (x:=x) (by simp[Op.operands]) hx)
  have e2:a.eval y=.int yk n:=fO (aC hs (x:=y) (by simp[Op.operands]) hy)
  subst hr
  exact⟨.int k (m.fdiv (2^(min n.toNat k.bits))),by simp[execOp,e1,e2,eqGuard,binOp,Op.shift,h0],.i _ _⟩)
theorem Vk {x y:Operand}{k yk:IntKind}{m:Int}
 (hx:cO T x=some (.v (.c (.i k m)))) (hy:cO T y=some (.v (.c (.i yk n)))) (h0: ¬n<0) (hr:k.wrap (m*2^(min n.toNat k.bits))=r) (hg:gd ops ⟨dst,.binOp .shl xt x y yt,ty,pos,af,g⟩ T=some true):
 Sem P ops ⟨dst,.binOp .shl xt x y yt,ty,pos,af,g⟩ T B (.r (.v (.c (.i k r)))):=
 bI hg (pF rfl) (fun V β a w hs=>by
  have e1:a.eval x=.int k m:=fO (aC hs (x:=x) (by simp[Op.operands]) hx)
  have e2:a.eval y=.int yk n:=fO (aC hs (x:=y) (by simp[Op.operands]) hy)
  subst hr
  exact⟨.int k (k.wrap (m*2^(min n.toNat k.bits))),by simp[execOp,e1,e2,eqGuard,binOp,Op.shift,h0],.i _ _⟩)
end
def qy (x:Int):Int:=bZ (max x 0*65536)
def lI (y:Int):Int:=if D6 (y*65536) then bZ (y*65536) else bZ (y*65536)+1
theorem Ct (h0:0≤n) (h1:n≤2305843009213693952):0≤bZ (n*65536)∧bZ (n*65536)≤549755813888:=by
 refine⟨fg _,?_⟩
 have h2:=ry (x:=n*65536) (by omega)
 by_cases h:bZ (n*65536)≤549755813888
 ·exact h
 ·have:=QZ (a:=549755813889) (b:=bZ (n*65536)) (by decide) (by omega)
  omega
theorem NS (h0: -4611686018427387904≤x) (h1:x≤4611686018427387904):yz x=true:=Vy.2 ⟨by omega,by omega⟩
theorem Ia (h0: -2305843009213693952≤lo) (h1:hi≤2305843009213693952):xD lo hi=true:=Wz (by omega) (by omega)
theorem pD (ha:Rz 4000000 a):Ok Tryz.prog 238 [dR a] [.a (([.i .i64 (if jo a then jD a else 0)]++[.i .i64 (if jo a then jq a else 0)])),.c (.b (jo a))]:=by
 have hz:Rz 6000000 (a*((65536:Int):Rat)):=(a8 ha (fu (dC (k:=3) (by decide) (by decide) (by decide)) (by decide))).m_
 have ha3:Rz 6000000 a:=ha.m_
 have h65:Rz 6000000 ((65536:Int):Rat):=(fu (dC (k:=3) (by decide) (by decide) (by decide)) (by decide)).m_
 have hzn:Rz 6000000 (-(a*((65536:Int):Rat))):=hz.neg
 have hs1:Sz 100000000 (jD a):=(Sz.fdiv hz.n).m_
 have hs2:Sz 100000000 ((-(a*((65536:Int):Rat))).num.fdiv ((-(a*((65536:Int):Rat))).den:Int)):=(Sz.fdiv hzn.n).m_
 have hs3:Sz 100000000 (jq a):=hs2.neg
 have hf1:Ok Tryz.prog 323 [dR (a*((65536:Int):Rat))] [dI (jD a)]:=xY hz
 have hf3:Ok Tryz.prog 167 [dI ((-(a*((65536:Int):Rat))).num.fdiv ((-(a*((65536:Int):Rat))).den:Int))] [dI (jq a)]:=Aa hs2
 refine eo Tryz.func238 38 [.cell 2 230,.tmp 3] rfl<|ae<|ah<|ae<|cX 4 [] ?_
 refine aI rfl (ig (by omega) (by omega)) ?_
 refine aI rfl (cT (by first|assumption|exact fC (by assumption) (by decide)) (by first|assumption|exact fC (fu (dC (k:=3) (by decide) (by decide) (by decide)) (by decide)) (by decide))) ?_
 refine ae<|ah ?_
 refine ac rfl (hf1) ?_
 refine ac rfl (AF (by first|assumption|exact Sz.mono (by assumption) (by decide))) ?_
 refine ae<|ah ?_
 refine ac rfl (dV (by first|assumption|exact fC (a8 (by assumption) (fu (dC (k:=3) (by decide) (by decide) (by decide)) (by decide))) (by decide))) ?_
 refine ac rfl (xY hzn)<|ac rfl (hf3) ?_
 refine ac rfl (AF (by first|assumption|exact Sz.mono (by assumption) (by decide))) ?_
 refine ae<|ae<|ah ?_
 refine lg (bJ rfl) (fun c1 hb1=>?_)
 cases c1
 ·refine aP rfl (fun hc2=>?_) (fun hc2=>?_)
  ·refine ae<|ah<|ar (aF (us:=([.i .i64 0]++[.i .i64 0])) qZ p9 rfl rfl rfl) ?_
   refine ba ?_
   rw[show jo a=false from by unfold jo;rw[jS hc2,q7,mX],if_neg (by decide),if_neg (by decide)]
   exact ai (bj kv rfl (ak ag))
  ·have e1:=fM hb1
   have e2:=fM hc2
   refine nH (σ':=⟨38,[(2,.p 2 0),(5,.v (.c (.i .i64 (jD a)))),(7,.v (.c (.i .i64 (jq a))))],[(2,230,([.i .i64 0]++[.i .i64 0]))]⟩) (ap ⟨rfl,by rw[if_pos e1];rfl,by rw[if_pos e2];rfl,trivial⟩ ⟨rfl,trivial⟩ rfl) ?_
   refine aA<|ae<|ah<|ac rfl (tX) ?_
   refine ba ?_
   rw[show jo a=xD (jD a) (jq a) from by unfold jo;rw[e1,e2];rfl]
   exact ai (bj kv rfl (ak ag))
 ·refine cz rfl<|ae<|ah<|ar (aF (us:=([.i .i64 0]++[.i .i64 0])) qZ p9 rfl rfl rfl) ?_
  refine ba ?_
  rw[show jo a=false from by unfold jo;rw[jS hb1];rfl,if_neg (by decide),if_neg (by decide)]
  exact ai (bj kv rfl (ak ag))
theorem Ju (h0:0≤n) (h1:n≤2305843009213693952):Ok Tryz.prog 387 [.c (.i .i64 n)] [.c (.i .i64 (bZ (n*65536))),.c (.b (D6 (n*65536)))]:=by
 have z1:Sz 100000000 n:=dC (by decide) (by omega) (by omega)
 have z2:Sz 100000000 (65536:Int):=dC (by decide) (by decide) (by decide)
 have z4:Sz 3 (n*65536):=⟨by have:pw 3=1000000000000000000000000000:=by decide
                             omega,by have:pw 3=1000000000000000000000000000:=by decide
                                      omega⟩
 have z5:Sz 99999999 (n*65536):=z4.m_
 have z6:Sz 100000000 (bZ (n*65536)):=z4.isq.m_
 have hb:=Ct h0 h1
 have e0:(if yz (bZ (n*65536)) then bZ (n*65536) else 0)=bZ (n*65536):=by rw[NS (by omega) (by omega),if_pos rfl]
 refine b9 Tryz.func387 rfl<|ac rfl (jj (by omega) (by omega))<|ac rfl (jj (by omega) (by omega)) ?_
 refine ac rfl (gU (by first|assumption|exact Sz.mono (by assumption) (by decide)) (by first|assumption|exact Sz.mono (dC (k:=3) (by decide) (by decide) (by decide)) (by decide))) ?_
 refine ac rfl (DD (by first|assumption|exact Sz.mono (dB (by assumption) (dC (k:=3) (by decide) (by decide) (by decide))) (by decide))) ?_
 refine ac rfl ((show Ok Tryz.prog 322 [dI (bZ (n*65536))] [.c (.i .i64 (bZ (n*65536))),.c (.b (yz (bZ (n*65536))))] from by have:=AF z6;rw[e0] at this;exact this))<|dF 9 [] ?_
 refine aI rfl (gU (by first|assumption|exact Sz.mono (Sz.isq (dB (by assumption) (dC (k:=3) (by decide) (by decide) (by decide)))) (by decide)) (by first|assumption|exact Sz.mono (Sz.isq (dB (by assumption) (dC (k:=3) (by decide) (by decide) (by decide)))) (by decide))) ?_
 refine aI rfl (pq)<|ai ?_
 rw[M1]
 exact ak (ak ag)
theorem Hq (h0: -2305843009213693952≤x) (h1:x≤2305843009213693952) (h2: -2305843009213693952≤y) (h3:y≤2305843009213693952) (hn: ¬y<0):Ok Tryz.prog 365 [.a (([.i .i64 x]++[.i .i64 y]))] [.a (([.i .i64 (qy x)]++[.i .i64 (lI y)])),.c (.b true)]:=by
 have b1:=Ct (n:=max x 0) (by omega) (by omega)
 have b2:=Ct (n:=y) (by omega) h3
 refine b9 Tryz.func365 rfl ?_
 refine dS rfl (fun hc1=>?_) (fun hc1=>?_)
 ·exact absurd (xM hc1) hn
 ·refine ar (zU rfl rfl rfl) ?_
  refine ac rfl (Ju (by omega) (by omega))<|ac rfl (Ju (by omega) (by omega)) ?_
  refine dS rfl (fun hc2=>?_) (fun hc2=>?_)
  ·refine ar (bF ((bZ (y*65536))+1) (aT (by omega) (by omega)) rfl)<|ac rfl ((show Ok Tryz.prog 324 [.c (.i .i64 (bZ ((max x 0)*65536))),.c (.i .i64 ((bZ (y*65536))+1))] [.a ([.i .i64 (bZ ((max x 0)*65536))]++[.i .i64 ((bZ (y*65536))+1)]),.c (.b true)] from by have:=tX (x:=bZ ((max x 0)*65536)) (y:=(bZ (y*65536))+1);rw[Ia (by omega) (by omega),if_pos rfl,if_pos rfl] at this;exact this)) ?_
   refine ai ?_
   unfold qy lI
   rw[jS hc2,if_neg (by decide)]
   exact bj kv rfl (ak ag)
  ·refine ac rfl ((show Ok Tryz.prog 324 [.c (.i .i64 (bZ ((max x 0)*65536))),.c (.i .i64 (bZ (y*65536)))] [.a ([.i .i64 (bZ ((max x 0)*65536))]++[.i .i64 (bZ (y*65536))]),.c (.b true)] from by have:=tX (x:=bZ ((max x 0)*65536)) (y:=bZ (y*65536));rw[Ia (by omega) (by omega),if_pos rfl,if_pos rfl] at this;exact this)) ?_
   refine ai ?_
   unfold qy lI
   rw[fM hc2,if_pos rfl]
   exact bj kv rfl (ak ag)
theorem Mr (h0: -2305843009213693952≤x) (h1:x≤2305843009213693952) (h2: -2305843009213693952≤y) (h3:y≤2305843009213693952) (h4: -2305843009213693952≤u) (h5:u≤2305843009213693952) (h6: -2305843009213693952≤v) (h7:v≤2305843009213693952):Ok Tryz.prog 240 [.a (([.i .i64 x]++[.i .i64 y])),.a (([.i .i64 u]++[.i .i64 v]))] [.a (([.i .i64 (if xD (x+u) (y+v) then x+u else 0)]++[.i .i64 (if xD (x+u) (y+v) then y+v else 0)])),.c (.b (xD (x+u) (y+v)))]:=by
 refine b9 Tryz.func240 rfl<|ar (bF (x+u) (aT (by omega) (by omega)) rfl) ?_
 refine ar (bF (y+v) (aT (by omega) (by omega)) rfl) ?_
 refine ac rfl (tX) ?_
 exact ai (bj kv rfl (ak ag))
theorem Mg (h0: -9223372036854775808≤x) (h1:x≤9223372036854775807):Ok Tryz.prog 367 [.c (.i .i64 x)] [.c (.i .u64 (x.natAbs:Int))]:=by
 refine b9 Tryz.func367 rfl ?_
 refine dS rfl (fun hc1=>?_) (fun hc1=>?_)
 ·have hn:=xM hc1
  have e:(x.natAbs:Int)= -x:=by omega
  refine ar (b6 (r:=x+18446744073709551616) Ec fX rfl (H0 hn h0) rfl) ?_
  refine ar (il (r:= -x) rfl (EQ hn h0) rfl) ?_
  refine ai ?_
  rw[e]
  exact ak ag
 ·have hn:=ph hc1
  have e:(x.natAbs:Int)=x:=by omega
  refine ar (b6 (r:=x) Ec fX rfl (iE (by omega) (by omega)) rfl) ?_
  refine ai ?_
  rw[e]
  exact ak ag
section
variable {P:Program}{ops:Array Oper}{T:TF}{B:BF}
theorem BU {x y:Operand}{k:IntKind}{m:Int}
 (hx:cO T x=some (.v (.c (.i k m)))) (hy:cO T y=some (.v (.c (.i k n)))) (hr:k.wrap ((BitVec.ofInt k.bits m&&&BitVec.ofInt k.bits n).toNat:Int)=r) (hg:gd ops ⟨dst,.binOp .and xt x y yt,ty,pos,af,g⟩ T=some true):
 Sem P ops ⟨dst,.binOp .and xt x y yt,ty,pos,af,g⟩ T B (.r (.v (.c (.i k r)))):=
 bI hg (pF rfl) (fun V β a w hs=>by
  have e1:a.eval x=.int k m:=fO (aC hs (x:=x) (by simp[Op.operands]) hx)
  have e2:a.eval y=.int k n:=fO (aC hs (x:=y) (by simp[Op.operands]) hy)
  subst hr
  exact⟨.int k (k.wrap ((BitVec.ofInt k.bits m&&&BitVec.ofInt k.bits n).toNat:Int)),by simp[execOp,e1,e2,eqGuard,binOp,Op.intBits],.i _ _⟩)
theorem YK {x y:Operand}{k:IntKind}{m:Int}
 (hx:cO T x=some (.v (.c (.i k m)))) (hy:cO T y=some (.v (.c (.i k n)))) (hr:k.wrap ((BitVec.ofInt k.bits m|||BitVec.ofInt k.bits n).toNat:Int)=r) (hg:gd ops ⟨dst,.binOp .or xt x y yt,ty,pos,af,g⟩ T=some true):
 Sem P ops ⟨dst,.binOp .or xt x y yt,ty,pos,af,g⟩ T B (.r (.v (.c (.i k r)))):=
 bI hg (pF rfl) (fun V β a w hs=>by
  have e1:a.eval x=.int k m:=fO (aC hs (x:=x) (by simp[Op.operands]) hx)
  have e2:a.eval y=.int k n:=fO (aC hs (x:=y) (by simp[Op.operands]) hy)
  subst hr
  exact⟨.int k (k.wrap ((BitVec.ofInt k.bits m|||BitVec.ofInt k.bits n).toNat:Int)),by simp[execOp,e1,e2,eqGuard,binOp,Op.intBits],.i _ _⟩)
end
theorem As (n:Nat) (h:n<18446744073709551616):(BitVec.ofInt 64 (n:Int)).toNat=n:=by
 rw[BitVec.toNat_ofInt];omega
theorem SG (h0:0≤x) (h1:x≤18446744073709551615):IntKind.u64.wrap ((BitVec.ofInt IntKind.u64.bits x&&&BitVec.ofInt IntKind.u64.bits 4294967295).toNat:Int)=x%4294967296:=by
 obtain⟨n,rfl⟩:=Ax h0
 have e:(BitVec.ofInt IntKind.u64.bits (n:Int)&&&BitVec.ofInt IntKind.u64.bits 4294967295).toNat=n%4294967296:=by
  show(BitVec.ofInt 64 (n:Int)&&&BitVec.ofInt 64 ((4294967295:Nat):Int)).toNat=_
  rw[BitVec.toNat_and,As n (by omega),As _ (by decide)]
  exact Nat.and_two_pow_sub_one_eq_mod n 32
 rw[e,iE (by omega) (by omega)];omega
theorem aaT (h0:0≤x) (h1:x≤18446744073709551615):IntKind.u64.wrap ((BitVec.ofInt IntKind.u64.bits x&&&BitVec.ofInt IntKind.u64.bits 65535).toNat:Int)=x%65536:=by
 obtain⟨n,rfl⟩:=Ax h0
 have e:(BitVec.ofInt IntKind.u64.bits (n:Int)&&&BitVec.ofInt IntKind.u64.bits 65535).toNat=n%65536:=by
  show(BitVec.ofInt 64 (n:Int)&&&BitVec.ofInt 64 ((65535:Nat):Int)).toNat=_
  rw[BitVec.toNat_and,As n (by omega),As _ (by decide)]
  exact Nat.and_two_pow_sub_one_eq_mod n 16
 rw[e,iE (by omega) (by omega)];omega
theorem adu {h l:Int}(h0:0≤h) (h1:h<65536) (l0:0≤l) (l1:l<281474976710656):IntKind.u64.wrap ((BitVec.ofInt IntKind.u64.bits (h*281474976710656)|||BitVec.ofInt IntKind.u64.bits l).toNat:Int)=h*281474976710656+l:=by
 obtain⟨n,rfl⟩:=Ax h0
 obtain⟨m,rfl⟩:=Ax l0
 have e:(BitVec.ofInt IntKind.u64.bits ((n:Int)*281474976710656)|||BitVec.ofInt IntKind.u64.bits (m:Int)).toNat=n*281474976710656+m:=by
  show(BitVec.ofInt 64 ((n:Int)*((281474976710656:Nat):Int))|||BitVec.ofInt 64 (m:Int)).toNat=_
  rw[←Int.natCast_mul,BitVec.toNat_or,As _ (by omega),As _ (by omega)]
  have:=Nat.two_pow_add_eq_or_of_lt (i:=48) (b:=m) (by omega) n
  grind
 rw[e,iE (by omega) (by omega)];omega
theorem If:x.fdiv (2^(min (32:Int).toNat IntKind.u64.bits))=x/4294967296:=by
 rw[show(2:Int)^(min (32:Int).toNat IntKind.u64.bits)=4294967296 from rfl];exact pc _ (by decide)
theorem Xx:x.fdiv (2^(min (16:Int).toNat IntKind.u64.bits))=x/65536:=by
 rw[show(2:Int)^(min (16:Int).toNat IntKind.u64.bits)=65536 from rfl];exact pc _ (by decide)
theorem acr (h0:0≤x) (h1:x<65536):IntKind.u64.wrap (x*2^(min (48:Int).toNat IntKind.u64.bits))=x*281474976710656:=by
 rw[show(2:Int)^(min (48:Int).toNat IntKind.u64.bits)=281474976710656 from rfl,iE (by omega) (by omega)]
theorem adC:IntKind.u64.wrap x=x%18446744073709551616:=by unfold IntKind.wrap;simp[IntKind.bits,IntKind.signed]
theorem aa0 (_h0:0≤x) (_h1:x≤18446744073709551615) (_h2:0≤y) (_h3:y≤18446744073709551615):
 (x/4294967296)*(y/4294967296)+((x/4294967296)*(y%4294967296)+(x%4294967296)*(y%4294967296)/4294967296)/4294967296+(((x/4294967296)*(y%4294967296)+(x%4294967296)*(y%4294967296)/4294967296)%4294967296+(x%4294967296)*(y/4294967296))/4294967296=x*y/18446744073709551616:=by
 obtain⟨a,ha⟩: ∃a,x/4294967296=a:=⟨_,rfl⟩
 obtain⟨b,hb⟩: ∃b,x%4294967296=b:=⟨_,rfl⟩
 obtain⟨c,hc⟩: ∃c,y/4294967296=c:=⟨_,rfl⟩
 obtain⟨d,hd⟩: ∃d,y%4294967296=d:=⟨_,rfl⟩
 rw[ha,hb,hc,hd]
 have e:x*y=18446744073709551616*(a*c)+4294967296*(a*d)+4294967296*(b*c)+b*d:=by grind
 omega
theorem Ox (h0:0≤x) (h1:x≤18446744073709551615) (h2:0≤y) (h3:y≤18446744073709551615):Ok Tryz.prog 366 [.c (.i .u64 x),.c (.i .u64 y)] [.c (.i .u64 (x*y/18446744073709551616)),.c (.i .u64 (x*y%18446744073709551616))]:=by
 obtain⟨a,ha⟩: ∃a,x/4294967296=a:=⟨_,rfl⟩
 obtain⟨b,hb⟩: ∃b,x%4294967296=b:=⟨_,rfl⟩
 obtain⟨c,hc⟩: ∃c,y/4294967296=c:=⟨_,rfl⟩
 obtain⟨d,hd⟩: ∃d,y%4294967296=d:=⟨_,rfl⟩
 have hm:=aa0 h0 h1 h2 h3
 rw[ha,hb,hc,hd] at hm
 have pb: ∀u v:Int,0≤u→u≤4294967295→0≤v→v≤4294967295→0≤u*v∧u*v≤18446744065119617025:=fun u v u0 u1 v0 v1=>⟨Int.mul_nonneg u0 v0,qS (c:=(4294967295:Int)) u1 v1 v0 (by decide)⟩
 have q1:=pb b d (by omega) (by omega) (by omega) (by omega)
 have q2:=pb a d (by omega) (by omega) (by omega) (by omega)
 have q3:=pb b c (by omega) (by omega) (by omega) (by omega)
 have q4:=pb a c (by omega) (by omega) (by omega) (by omega)
 refine b9 Tryz.func366 rfl<|ar (BU (r:=b) rfl rfl (by rw[←hb];exact SG h0 h1) rfl) ?_
 refine ar (tS (r:=a) rfl rfl (by decide) (by rw[←ha];exact If) rfl) ?_
 refine ar (BU (r:=d) rfl rfl (by rw[←hd];exact SG h2 h3) rfl) ?_
 refine ar (tS (r:=c) rfl rfl (by decide) (by rw[←hc];exact If) rfl) ?_
 refine ar (bF (b*d) (iK (by omega) (by omega)) rfl)<|ar (bF (a*d) (iK (by omega) (by omega)) rfl)<|ar (tS (r:=b*d/4294967296) rfl rfl (by decide) (If) rfl) ?_
 refine ar (bF ((a*d)+(b*d/4294967296)) (gn (by omega) (by omega)) rfl)<|ar (BU (r:=(a*d+b*d/4294967296)%4294967296) rfl rfl (SG (by omega) (by omega)) rfl) ?_
 refine ar (tS (r:=(a*d+b*d/4294967296)/4294967296) rfl rfl (by decide) (If) rfl) ?_
 refine ar (bF (b*c) (iK (by omega) (by omega)) rfl)<|ar (bF (((a*d+b*d/4294967296)%4294967296)+(b*c)) (gn (by omega) (by omega)) rfl)<|ar (bF (a*c) (iK (by omega) (by omega)) rfl)<|ar (bF ((a*c)+((a*d+b*d/4294967296)/4294967296)) (gn (by omega) (by omega)) rfl)<|ar (tS (r:=((a*d+b*d/4294967296)%4294967296+b*c)/4294967296) rfl rfl (by decide) (If) rfl) ?_
 refine ar (bF (((a*c)+((a*d+b*d/4294967296)/4294967296))+(((a*d+b*d/4294967296)%4294967296+b*c)/4294967296)) (gn (by omega) (by omega)) rfl)<|ar (bF (x*y%18446744073709551616) (congrArg some adC) rfl)<|ai ?_
 rw[←hm]
 exact ak (ak ag)
def OB (x y:Int):Int:=(x.natAbs:Int)*(y.natAbs:Int)
def Eh (p:Int):Int:=if p%65536=0 then p/65536 else p/65536+1
def mM (x y:Int):Int:=if (!(decide (x<0)==decide (y<0)))=true then-(Eh (OB x y)) else OB x y/65536
def mK (x y:Int):Int:=if (!(decide (x<0)==decide (y<0)))=true then-(OB x y/65536) else Eh (OB x y)
def xP (x y:Int):Bool:=decide (OB x y/65536>2305843009213693952)
def qM (x y:Int):Bool:= !xP x y&&(decide (mM x y≥ -2305843009213693952)&&decide (mK x y≤2305843009213693952))
theorem Yj (h:(p%18446744073709551616%65536 !=0)=true):Eh p=p/65536+1:=by
 have h:p%18446744073709551616%65536≠0:=by simpa using h
 unfold Eh;rw[if_neg (by omega)]
theorem Y3 (h:(p%18446744073709551616%65536 !=0)=false):Eh p=p/65536:=by
 have h:p%18446744073709551616%65536=0:=by simpa using h
 unfold Eh;rw[if_pos (by omega)]
theorem adX {a:Int}(h:(a !=0)=true):a≠0:=by simpa using h
theorem ad4 {a:Int}(h:(a !=0)=false):a=0:=by simpa using h
theorem Ko (h0: -9223372036854775808≤x) (h1:x≤9223372036854775807) (h2: -9223372036854775808≤y) (h3:y≤9223372036854775807):Ok Tryz.prog 325 [.c (.i .i64 x),.c (.i .i64 y)] [.c (.i .i64 (if xP x y then 0 else mM x y)),.c (.i .i64 (if xP x y then 0 else mK x y)),.c (.b (qM x y))]:=by
 obtain⟨p,hp⟩: ∃p,OB x y=p:=⟨_,rfl⟩
 have hp':(x.natAbs:Int)*(y.natAbs:Int)=p:=hp
 have hp0:0≤p:=by rw[←hp'];exact fU (by omega) (by omega)
 have hp1:p≤9223372036854775808*9223372036854775808:=by rw[←hp'];exact qS (by omega) (by omega) (by omega) (by decide)
 have hmul:Ok Tryz.prog 366 [.c (.i .u64 (x.natAbs:Int)),.c (.i .u64 (y.natAbs:Int))] [.c (.i .u64 (p/18446744073709551616)),.c (.i .u64 (p%18446744073709551616))]:=by rw[←hp'];exact Ox (by omega) (by omega) (by omega) (by omega)
 have big:p/65536>2305843009213693952→xP x y=true:=fun h=>by unfold xP;rw[hp];exact decide_eq_true h
 have small: ¬p/65536>2305843009213693952→xP x y=false:=fun h=>by unfold xP;rw[hp];exact decide_eq_false h
 refine b9 Tryz.func325 rfl<|ac rfl (Mg (by omega) (by omega))<|ac rfl (Mg (by omega) (by omega))<|ac rfl (hmul)<|ar (tS (r:=p/18446744073709551616/65536) rfl rfl (by decide) (Xx) rfl) ?_
 refine dS rfl (fun hc1=>?_) (fun hc1=>?_)
 ·have g1:=adX hc1
  refine ai ?_
  rw[show qM x y=false from by unfold qM;rw[big (by omega)];rfl,big (by omega),if_pos rfl,if_pos rfl]
  exact ak (ak (ak ag))
 ·have g1:=ad4 hc1
  refine ar (Vk (r:=(p/18446744073709551616)*281474976710656) rfl rfl (by decide) (acr (by omega) (by omega)) rfl) ?_
  refine ar (tS (r:=p%18446744073709551616/65536) rfl rfl (by decide) (Xx) rfl) ?_
  refine ar (YK (r:=p/65536) rfl rfl ((adu (by omega) (by omega) (by omega) (by omega)).trans (by omega)) rfl) ?_
  refine dS rfl (fun hc2=>?_) (fun hc2=>?_)
  ·refine ai ?_
   rw[show qM x y=false from by unfold qM;rw[big (xM hc2)];rfl,big (xM hc2),if_pos rfl,if_pos rfl]
   exact ak (ak (ak ag))
  ·have g2:=ph hc2
   refine ar (b6 (r:=p/65536) fX Ec rfl (qO (by omega) (by omega)) rfl) ?_
   refine ar (b6 (r:=p/65536) fX Ec rfl (qO (by omega) (by omega)) rfl) ?_
   refine ar (BU (r:=p%18446744073709551616%65536) rfl rfl (aaT (by omega) (by omega)) rfl) ?_
   refine dS rfl (fun hc3=>?_) (fun hc3=>?_)
   ·have hu:=Yj hc3
    refine ar (bF ((p/65536)+1) (aT (by omega) (by omega)) rfl)<|ar (kG rfl rfl jQ rfl) ?_
    refine dS rfl (fun hc4=>?_) (fun hc4=>?_)
    ·refine ar (il (r:= -(p/65536+1)) rfl (by rw[qO (by omega) (by omega)];omega) rfl) ?_
     refine ar (il (r:= -(p/65536)) rfl (by rw[qO (by omega) (by omega)];omega) rfl) ?_
     refine lg (bJ rfl) (fun c5 hb5=>?_)
     cases c5
     ·refine ai ?_
      unfold qM
      rw[small (ph hc2),if_neg (by decide),if_neg (by decide),uV,iA]
      rw[show mM x y= -(p/65536+1) from by unfold mM;rw[hp,hu,if_pos hc4],show mK x y= -(p/65536) from by unfold mK;rw[hp,hu,if_pos hc4]]
      rw[hb5,q7]
      exact ak (ak (ak ag))
     ·refine ai ?_
      unfold qM
      rw[small (ph hc2),if_neg (by decide),if_neg (by decide),uV,iA]
      rw[show mM x y= -(p/65536+1) from by unfold mM;rw[hp,hu,if_pos hc4],show mK x y= -(p/65536) from by unfold mK;rw[hp,hu,if_pos hc4]]
      rw[hb5,iA]
      exact ak (ak (ak ag))
    ·refine lg (bJ rfl) (fun c6 hb6=>?_)
     cases c6
     ·refine ai ?_
      unfold qM
      rw[small (ph hc2),if_neg (by decide),if_neg (by decide),uV,iA]
      rw[show mM x y=p/65536 from by unfold mM;rw[hp,hu,if_neg (by rw[hc4];decide)],show mK x y=p/65536+1 from by unfold mK;rw[hp,hu,if_neg (by rw[hc4];decide)]]
      rw[hb6,q7]
      exact ak (ak (ak ag))
     ·refine ai ?_
      unfold qM
      rw[small (ph hc2),if_neg (by decide),if_neg (by decide),uV,iA]
      rw[show mM x y=p/65536 from by unfold mM;rw[hp,hu,if_neg (by rw[hc4];decide)],show mK x y=p/65536+1 from by unfold mK;rw[hp,hu,if_neg (by rw[hc4];decide)]]
      rw[hb6,iA]
      exact ak (ak (ak ag))
   ·have hu:=Y3 hc3
    refine ar (kG rfl rfl jQ rfl) ?_
    refine dS rfl (fun hc7=>?_) (fun hc7=>?_)
    ·refine ar (il (r:= -(p/65536)) rfl (by rw[qO (by omega) (by omega)];omega) rfl) ?_
     refine ar (il (r:= -(p/65536)) rfl (by rw[qO (by omega) (by omega)];omega) rfl) ?_
     refine lg (bJ rfl) (fun c8 hb8=>?_)
     cases c8
     ·refine ai ?_
      unfold qM
      rw[small (ph hc2),if_neg (by decide),if_neg (by decide),uV,iA]
      rw[show mM x y= -(p/65536) from by unfold mM;rw[hp,hu,if_pos hc7],show mK x y= -(p/65536) from by unfold mK;rw[hp,hu,if_pos hc7]]
      rw[hb8,q7]
      exact ak (ak (ak ag))
     ·refine ai ?_
      unfold qM
      rw[small (ph hc2),if_neg (by decide),if_neg (by decide),uV,iA]
      rw[show mM x y= -(p/65536) from by unfold mM;rw[hp,hu,if_pos hc7],show mK x y= -(p/65536) from by unfold mK;rw[hp,hu,if_pos hc7]]
      rw[hb8,iA]
      exact ak (ak (ak ag))
    ·refine lg (bJ rfl) (fun c9 hb9=>?_)
     cases c9
     ·refine ai ?_
      unfold qM
      rw[small (ph hc2),if_neg (by decide),if_neg (by decide),uV,iA]
      rw[show mM x y=p/65536 from by unfold mM;rw[hp,hu,if_neg (by rw[hc7];decide)],show mK x y=p/65536 from by unfold mK;rw[hp,hu,if_neg (by rw[hc7];decide)]]
      rw[hb9,q7]
      exact ak (ak (ak ag))
     ·refine ai ?_
      unfold qM
      rw[small (ph hc2),if_neg (by decide),if_neg (by decide),uV,iA]
      rw[show mM x y=p/65536 from by unfold mM;rw[hp,hu,if_neg (by rw[hc7];decide)],show mK x y=p/65536 from by unfold mK;rw[hp,hu,if_neg (by rw[hc7];decide)]]
      rw[hb9,iA]
      exact ak (ak (ak ag))
def NG (x y:Int):Int:=if x>0 then 1 else if y<0 then-1 else 0
def Nu (x y:Int):Bool:=decide (x>0)||(decide (y<0)||(x==0&&y==0))
theorem ab5 (h:decide (x>0)=true):NG x y=1∧Nu x y=true:=by
 unfold NG Nu;rw[if_pos (by simpa using h),h];exact⟨rfl,rfl⟩
theorem aaS (h:decide (x>0)=false) (h2:decide (y<0)=true):NG x y= -1∧Nu x y=true:=by
 unfold NG Nu;rw[if_neg (by simpa using h),if_pos (by simpa using h2),h,h2];exact⟨rfl,rfl⟩
theorem Uy (h:decide (x>0)=false) (h2:decide (y<0)=false):NG x y=0∧Nu x y=(x==0&&y==0):=by
 unfold NG Nu;rw[if_neg (by simpa using h),if_neg (by simpa using h2),h,h2];exact⟨rfl,rfl⟩
theorem Je:Ok Tryz.prog 242 [.a (([.i .i64 x]++[.i .i64 y]))] [.c (.i .i64 (NG x y)),.c (.b (Nu x y))]:=by
 refine b9 Tryz.func242 rfl ?_
 refine dS rfl (fun hc1=>?_) (fun hc1=>?_)
 ·refine ai ?_
  rw[(ab5 hc1).1,(ab5 hc1).2]
  exact ak (ak ag)
 ·refine dS rfl (fun hc2=>?_) (fun hc2=>?_)
  ·refine ai ?_
   rw[(aaS hc1 hc2).1,(aaS hc1 hc2).2]
   exact ak (ak ag)
  ·refine dF 10 [] ?_
   refine D5 (bJ rfl) (fun c3 hb3=>?_)
   cases c3
   ·refine ai ?_
    rw[(Uy hc1 hc2).1,(Uy hc1 hc2).2,hb3,q7]
    exact ak (ak ag)
   ·refine ai ?_
    rw[(Uy hc1 hc2).1,(Uy hc1 hc2).2,hb3,iA]
    exact ak (ak ag)
def xK (x y:Int) (k:Nat):Int:=if k=0 then x else y
theorem Mh (h:k<2):([CellD.i .i64 x,.i .i64 y])[k*1]? =some (.i .i64 (xK x y k)):=by
 have:k=0∨k=1:=by omega
 rcases this with rfl|rfl<;>rfl
theorem OC (h0: -2305843009213693952≤x) (h1:x≤2305843009213693952) (h2: -2305843009213693952≤y) (h3:y≤2305843009213693952): -2305843009213693952≤xK x y k∧xK x y k≤2305843009213693952:=by
 unfold xK;split<;>omega
def Em (x y u v:Int):Nat→Int
 |0=>2305843009213693952
 |n+1=>min (Em x y u v n) (mM (xK x y (n/2)) (xK u v (n%2)))
def D3 (x y u v:Int):Nat→Int
 |0=> -2305843009213693952
 |n+1=>max (D3 x y u v n) (mK (xK x y (n/2)) (xK u v (n%2)))
def AD (x y u v:Int):Nat→Bool
 |0=>true
 |n+1=>AD x y u v n&&qM (xK x y (n/2)) (xK u v (n%2))
theorem Sh (h:qM x y=true): ¬xP x y=true:=by
 unfold qM at h
 grind
theorem Q3 {n:Nat}(h:AD x y u v n=false) (m:Nat):AD x y u v (n+m)=false:=by
 induction m with
 |zero=>exact h
 |succ m ih=>show(AD x y u v (n+m)&&_)=false;rw[ih];rfl
theorem Ul (hj:j<2) (h:qM (xK x y k) (xK u v j)=true):min (Em x y u v (2*k+j)) (if xP (xK x y k) (xK u v j) then 0 else mM (xK x y k) (xK u v j))=Em x y u v (2*k+(j+1)):=by
 rw[if_neg (Sh h)]
 show _=min (Em x y u v (2*k+j)) (mM (xK x y ((2*k+j)/2)) (xK u v ((2*k+j)%2)))
 grind
theorem VE (hj:j<2) (h:qM (xK x y k) (xK u v j)=true):max (D3 x y u v (2*k+j)) (if xP (xK x y k) (xK u v j) then 0 else mK (xK x y k) (xK u v j))=D3 x y u v (2*k+(j+1)):=by
 rw[if_neg (Sh h)]
 show _=max (D3 x y u v (2*k+j)) (mK (xK x y ((2*k+j)/2)) (xK u v ((2*k+j)%2)))
 grind
theorem Mw (hj:j<2):AD x y u v (2*k+(j+1))=(AD x y u v (2*k+j)&&qM (xK x y k) (xK u v j)):=by
 show(AD x y u v (2*k+j)&&qM (xK x y ((2*k+j)/2)) (xK u v ((2*k+j)%2)))=_
 grind
theorem LQ (h0: -2305843009213693952≤x) (h1:x≤2305843009213693952) (h2: -2305843009213693952≤y) (h3:y≤2305843009213693952) (h4: -2305843009213693952≤u) (h5:u≤2305843009213693952) (h6: -2305843009213693952≤v) (h7:v≤2305843009213693952):Ok Tryz.prog 239 [.a (([.i .i64 x]++[.i .i64 y])),.a (([.i .i64 u]++[.i .i64 v]))] [.a (([.i .i64 (if AD x y u v 4 then Em x y u v 4 else 0)]++[.i .i64 (if AD x y u v 4 then D3 x y u v 4 else 0)])),.c (.b (AD x y u v 4))]:=by
 refine eo Tryz.func239 56 [.cell 4 230,.tmp 5] rfl<|ae<|ah<|ae<|ah<|ae<|ae<|ah ?_
 refine DL.mk<|qa (qA (us:=[.i .i64 x,.i .i64 y]) D1 rfl rfl (by decide) (by decide) rfl) rfl<|fa ?_
 refine ar (jm jI rfl rfl) ?_
 refine aG<|bv (ι:={k:Nat // k≤2∧AD x y u v (2*k)=true}) (fun i=>⟨56,[(2,.p 2 0),(3,.p 3 0),(4,.p 4 0),(6,.v (.c (.i .i64 (Em x y u v (2*i.1))))),(7,.v (.c (.i .i64 (D3 x y u v (2*i.1))))),(19,.o 19 2 2),(20,.v (.c (.i .i64 (2:Int)))),(21,.v (.c (.i .i64 (i.1:Int))))],[(2,230,([.i .i64 x]++[.i .i64 y])),(3,230,([.i .i64 u]++[.i .i64 v])),(4,230,([.i .i64 0]++[.i .i64 0])),(19,2,[.i .i64 x,.i .i64 y])]⟩) (fun i=>2-i.1) ⟨0,by omega,rfl⟩ (ap (bo rfl) (bo rfl) rfl) ?_
 rintro⟨k,hk0,hok⟩
 replace hk0:k≤2:=hk0
 replace hok:AD x y u v (2*k)=true:=hok
 have gx:=OC (k:=k) h0 h1 h2 h3
 dsimp only
 refine ae<|ah<|ae ?_
 refine aP rfl (fun hc1=>?_) (fun hc1=>?_)
 ·have hk:k<2:=by have:=xM hc1;omega
  refine aA<|ae<|aG<|ae<|bq<|aO (bE jI rfl rfl (by omega) rfl) ?_
  refine aO (pQ yQ rfl rfl (Mh (x:=x) (y:=y) (k:=k) (by omega)) rfl) ?_
  refine gi<|ae<|ah ?_
  refine DL.mk<|qa (qA (us:=[.i .i64 u,.i .i64 v]) D1 rfl rfl (by decide) (by decide) rfl) rfl<|fa ?_
  refine ar (jm jI rfl rfl) ?_
  refine aG<|bv (ι:={j:Nat // j≤2∧AD x y u v (2*k+j)=true}) (fun i=>⟨56,[(2,.p 2 0),(3,.p 3 0),(4,.p 4 0),(6,.v (.c (.i .i64 (Em x y u v (2*k+i.1))))),(7,.v (.c (.i .i64 (D3 x y u v (2*k+i.1))))),(19,.o 19 2 2),(20,.v (.c (.i .i64 (2:Int)))),(21,.v (.c (.i .i64 (k:Int)))),(9,.v (.c (.i .i64 (xK x y k)))),(29,.o 29 2 2),(30,.v (.c (.i .i64 (2:Int)))),(31,.v (.c (.i .i64 (i.1:Int))))],[(2,230,([.i .i64 x]++[.i .i64 y])),(3,230,([.i .i64 u]++[.i .i64 v])),(4,230,([.i .i64 0]++[.i .i64 0])),(19,2,[.i .i64 x,.i .i64 y]),(29,2,[.i .i64 u,.i .i64 v])]⟩) (fun i=>2-i.1) ⟨0,by omega,hok⟩ (ap (bo rfl) (bo rfl) rfl) ?_
  rintro⟨j,hj0,hokj⟩
  replace hj0:j≤2:=hj0
  replace hokj:AD x y u v (2*k+j)=true:=hokj
  have gu:=OC (k:=j) h4 h5 h6 h7
  dsimp only
  refine ae<|ah<|ae ?_
  refine aP rfl (fun hc2=>?_) (fun hc2=>?_)
  ·have hj:j<2:=by have:=xM hc2;omega
   refine aA<|ae<|aG<|ae<|bq<|aO (bE jI rfl rfl (by omega) rfl) ?_
   refine aO (pQ yQ rfl rfl (Mh (x:=u) (y:=v) (k:=j) (by omega)) rfl) ?_
   refine gi<|ae<|ah<|ac rfl (Ko (by omega) (by omega) (by omega) (by omega))<|ae<|ae<|ah ?_
   refine aP rfl (fun hc3=>?_) (fun hc3=>?_)
   ·have hbad:AD x y u v 4=false:=by
     have h8:=Q3 (n:=2*k+(j+1)) (by rw[Mw hj,jS hc3,mX]) (4-(2*k+(j+1)))
     rw[show 2*k+(j+1)+(4-(2*k+(j+1)))=4 from by omega] at h8;exact h8
    refine ae<|ah<|ar (aF (us:=([.i .i64 0]++[.i .i64 0])) qZ p9 rfl rfl rfl) ?_
    refine ba ?_
    rw[hbad,if_neg (by decide),if_neg (by decide)]
    exact ai (bj kv rfl (ak ag))
   ·have hsc:=fM hc3
    refine aA<|ah<|ar (zN rfl rfl rfl) ?_
    refine ar (zU rfl rfl rfl) ?_
    refine ah<|ar (bF ((j:Int)+1) (aT (by omega) (by omega)) rfl) ?_
    exact⟨⟨j+1,by omega,by rw[Mw hj,hokj,hsc];rfl⟩,ap ⟨rfl,rfl,rfl,by rw[←Ul hj hsc];rfl,by rw[←VE hj hsc];rfl,rfl,rfl,rfl,rfl,rfl,rfl,by rw[show((j+1:Nat):Int)=(j:Int)+1 from by omega];rfl,trivial⟩ (bo rfl) rfl,by show 2-(j+1)<2-j;omega⟩
  ·have hj2:2*k+j=2*k+2:=by have:=ph hc2;omega
   refine bV<|ah<|ar (bF ((k:Int)+1) (aT (by omega) (by omega)) rfl) ?_
   exact⟨⟨k+1,by omega,by rw[show 2*(k+1)=2*k+2 from by omega,←hj2];exact hokj⟩,ap ⟨rfl,rfl,rfl,by rw[show 2*(k+1)=2*k+2 from by omega,←hj2];rfl,by rw[show 2*(k+1)=2*k+2 from by omega,←hj2];rfl,rfl,rfl,by rw[show((k+1:Nat):Int)=(k:Int)+1 from by omega];rfl,trivial⟩ (bo rfl) rfl,by show 2-(k+1)<2-k;omega⟩
 ·have hk2:2*k=4:=by have:=ph hc1;omega
  refine bV<|ae<|ah<|ar (aF (us:=([.i .i64 (Em x y u v (2*k))]++[.i .i64 (D3 x y u v (2*k))])) qZ p9 rfl rfl rfl) ?_
  refine ba ?_
  rw[hk2] at hok
  have e1:Em x y u v 4=Em x y u v (2*k):=by rw[hk2]
  have e2:D3 x y u v 4=D3 x y u v (2*k):=by rw[hk2]
  rw[hok,if_pos rfl,if_pos rfl,e1,e2]
  exact ai (bj kv rfl (ak ag))
theorem Bl (h: ¬c<0):0≤jq c:=by
 unfold jq
 have h1:0≤c*((65536:Int):Rat):=by grind
 have h2:0≤(c*((65536:Int):Rat)).num:=Rat.num_nonneg.2 h1
 have h3:=den_pos (-(c*((65536:Int):Rat)))
 rw[pc _ (by omega),Rat.neg_num]
 have h4:(-(c*((65536:Int):Rat)).num)/((-(c*((65536:Int):Rat))).den:Int)≤0:=by
  have h5:=Int.ediv_le_ediv h3 (show-(c*((65536:Int):Rat)).num≤0 by omega)
  rw[Int.zero_ediv] at h5;exact h5
 omega
theorem L9 (h:xD lo hi=true): -2305843009213693952≤lo∧hi≤2305843009213693952:=by unfold xD at h;simpa using h
theorem WP (c:Rat):jD c≤jq c:=by
 unfold jD jq
 have h3:=den_pos (c*((65536:Int):Rat))
 rw[Rat.neg_num,Rat.neg_den,pc _ (by omega),pc _ (by omega)]
 generalize (c*((65536:Int):Rat)).num=n at*
 generalize ((c*((65536:Int):Rat)).den:Int)=d at*
 have e1:=rS n d
 have e2:=rS (-n) d
 have m1:=po n (show d≠0 by omega)
 have m2:=po (-n) (show d≠0 by omega)
 have h4:d*(n/d+(-n)/d)≤d*0:=by grind
 have:=Int.le_of_mul_le_mul_left h4 h3
 omega
theorem Ex (h:jo c=true): -2305843009213693952≤jD c∧jD c≤2305843009213693952∧ -2305843009213693952≤jq c∧jq c≤2305843009213693952:=by
 unfold jo at h
 simp only[di] at h
 have h1:=L9 h.2.2
 have h2:=WP c
 omega
theorem Sp (h1:x≤2305843009213693952) (h2:0≤y) (h3:y≤2305843009213693952):0≤qy x∧qy x≤549755813889∧0≤lI y∧lI y≤549755813889:=by
 have b1:=Ct (n:=max x 0) (by omega) (by omega)
 have b2:=Ct (n:=y) h2 h3
 unfold qy lI
 grind
theorem Y4 (n:Nat) (h:AD x y u v n=true): -2305843009213693952≤Em x y u v n∧Em x y u v n≤2305843009213693952∧ -2305843009213693952≤D3 x y u v n∧D3 x y u v n≤2305843009213693952:=by
 induction n with
 |zero=>show _≤(2305843009213693952:Int)∧(2305843009213693952:Int)≤_∧_≤(-2305843009213693952:Int)∧(-2305843009213693952:Int)≤_;omega
 |succ n ih=>
  have h':(AD x y u v n&&qM (xK x y (n/2)) (xK u v (n%2)))=true:=h
  rw[di] at h'
  have i:=ih h'.1
  have s1:=h'.2
  unfold qM at s1
  simp only[di,decide_eq_true_eq] at s1
  show _≤min _ _∧min _ _≤_∧_≤max _ _∧max _ _≤_
  omega
def Ui (b c:Rat):Bool:=AD (jD b) (jq b) (qy (jD c)) (lI (jq c)) 4
def Fp (b c:Rat):Int:=Em (jD b) (jq b) (qy (jD c)) (lI (jq c)) 4
def Gn (b c:Rat):Int:=D3 (jD b) (jq b) (qy (jD c)) (lI (jq c)) 4
def V8 (a b c:Rat):Bool:=jo b&&(jo c&&(!decide (aX c 0<0)&&(Ui b c&&xD (jD a+Fp b c) (jq a+Gn b c))))
def eh (a b c:Rat):Bool:=jo a&&((aX b 0==0)||V8 a b c)
def eB (a b c:Rat):Int:=if eh a b c then(if (aX b 0==0)=true then jD a else jD a+Fp b c) else 0
def eF (a b c:Rat):Int:=if eh a b c then(if (aX b 0==0)=true then jq a else jq a+Gn b c) else 0
theorem rj (h:eh a b c=false):eB a b c=0∧eF a b c=0:=by
 unfold eB eF;rw[h];exact⟨rfl,rfl⟩
theorem ads (h:jo a=false):eh a b c=false:=by unfold eh;rw[h];rfl
theorem UB (h:(aX b 0==0)=false) (hx:V8 a b c=false):eh a b c=false:=by unfold eh;rw[h,hx];cases jo a<;>rfl
theorem abd (h:jo a=true) (h2:(aX b 0==0)=true):eB a b c=jD a∧eF a b c=jq a∧eh a b c=true:=by
 have e:eh a b c=true:=by unfold eh;rw[h,h2];rfl
 unfold eB eF;rw[e,if_pos rfl,if_pos rfl,if_pos h2,if_pos h2];exact⟨rfl,rfl,rfl⟩
theorem adF (h:jo a=true) (h2:(aX b 0==0)=false) (h3:jo b=true) (h4:jo c=true) (h5:decide (aX c 0<0)=false) (h6:Ui b c=true):
 eB a b c=(if xD (jD a+Fp b c) (jq a+Gn b c) then jD a+Fp b c else 0)∧eF a b c=(if xD (jD a+Fp b c) (jq a+Gn b c) then jq a+Gn b c else 0)∧eh a b c=xD (jD a+Fp b c) (jq a+Gn b c):=by
 have e:eh a b c=xD (jD a+Fp b c) (jq a+Gn b c):=by unfold eh V8;rw[h,h2,h3,h4,h5,h6];rfl
 unfold eB eF;rw[e,h2];exact⟨rfl,rfl,rfl⟩
theorem x8 (ha:Rz 4000000 a) (hb:Rz 4000000 b) (hc:Rz 4000000 c):Ok Tryz.prog 321 [.a ((cR a++cR b++cR c))] [.a (([.i .i64 (eB a b c)]++[.i .i64 (eF a b c)])),.c (.b (eh a b c))]:=by
 refine eo Tryz.func321 72 [.cell 2 230,.tmp 3] rfl<|ae<|ah<|ae<|ah ?_
 refine ac rfl (pD (bk ha))<|ae<|ae<|ah ?_
 refine lg (bJ rfl) (fun c1 hb1=>?_)
 cases c1
 ·have ea:=fM hb1
  refine ac rfl (cJ) ?_
  refine aP rfl (fun hc2=>?_) (fun hc2=>?_)
  ·obtain⟨w1,w2,w3⟩:=abd (c:=c) ea hc2
   refine ae<|ah ?_
   refine ba ?_
   have x1:eB a b c=(if jo a then jD a else 0):=by rw[w1,ea];rfl
   have x2:eF a b c=(if jo a then jq a else 0):=by rw[w2,ea];rfl
   have x3:eh a b c=jo a:=by rw[w3,ea]
   rw[x1,x2,x3]
   exact ai (bj kv rfl (ak ag))
  ·have hb0:=hc2
   refine aA<|ae<|ah ?_
   refine ac rfl (pD (bk hb))<|ae<|ah ?_
   refine ac rfl (pD (bk hc))<|ae<|ae<|ah ?_
   refine lg (bJ rfl) (fun c3 hb3=>?_)
   cases c3
   ·have eb:=fM hb3
    refine lg (bJ rfl) (fun c4 hb4=>?_)
    cases c4
    ·have ec:=fM hb4
     refine ac rfl (cJ) ?_
     refine aP rfl (fun hc5=>?_) (fun hc5=>?_)
     ·have hno:eh a b c=false:=UB hb0 (by unfold V8;rw[hc5,Bool.not_true,q7,mX,mX])
      refine ae<|ah<|ar (aF (us:=([.i .i64 0]++[.i .i64 0])) qZ p9 rfl rfl rfl) ?_
      refine ba ?_
      rw[(rj hno).1,(rj hno).2,hno]
      exact ai (bj kv rfl (ak ag))
     ·have hcn:=hc5
      have bA:=Ex ea
      have bB:=Ex eb
      have bC:=Ex ec
      have hH:=Bl (c:=c) (Dc hc5)
      have bS:=Sp (x:=jD c) (y:=jq c) (by omega) hH (by omega)
      refine nH (σ':=⟨72,[(1,.p 1 0),(2,.p 2 0),(4,.p 4 0),(6,.p 6 0),(7,.p 7 0)],[(1,129,(cR a++cR b++cR c)),(2,230,([.i .i64 0]++[.i .i64 0])),(4,230,([.i .i64 (jD a)]++[.i .i64 (jq a)])),(6,230,([.i .i64 (jD b)]++[.i .i64 (jq b)])),(7,230,([.i .i64 (jD c)]++[.i .i64 (jq c)]))]⟩) (ap (bo rfl) ⟨rfl,rfl,by rw[if_pos ea,if_pos ea];rfl,by rw[if_pos eb,if_pos eb];rfl,by rw[if_pos ec,if_pos ec];rfl,trivial⟩ rfl) ?_
      refine aA<|ae<|ae<|ah ?_
      refine ac rfl (Hq (by omega) (by omega) (by omega) (by omega) (by omega)) ?_
      refine ae<|ah ?_
      refine bh rfl ?_
      refine aA<|ae<|ae<|ah ?_
      refine ac rfl (LQ (by omega) (by omega) (by omega) (by omega) (by omega) (by omega) (by omega) (by omega)) ?_
      refine ae ?_
      refine ah ?_
      refine aP rfl (fun hc6=>?_) (fun hc6=>?_)
      ·have hno:eh a b c=false:=UB hb0 (by unfold V8 Ui;rw[jS hc6,q7,mX,mX,mX])
       refine ae<|ah<|ar (aF (us:=([.i .i64 0]++[.i .i64 0])) qZ p9 rfl rfl rfl) ?_
       refine ba ?_
       rw[(rj hno).1,(rj hno).2,hno]
       exact ai (bj kv rfl (ak ag))
      ·have hm:Ui b c=true:=fM hc6
       have bM:=Y4 4 hm
       obtain⟨w1,w2,w3⟩:=adF ea hb0 eb ec hcn hm
       refine nH (σ':=⟨72,[(1,.p 1 0),(2,.p 2 0),(4,.p 4 0),(6,.p 6 0),(7,.p 7 0)],[(1,129,(cR a++cR b++cR c)),(2,230,([.i .i64 0]++[.i .i64 0])),(4,230,([.i .i64 (jD a)]++[.i .i64 (jq a)])),(6,230,([.i .i64 (Fp b c)]++[.i .i64 (Gn b c)])),(7,230,([.i .i64 (qy (jD c))]++[.i .i64 (lI (jq c))]))]⟩) (ap (bo rfl) ⟨rfl,rfl,rfl,by rw[if_pos (fM hc6),if_pos (fM hc6)];rfl,rfl,trivial⟩ rfl) ?_
       refine aA<|ae<|ah ?_
       refine ac rfl (Mr (x:=jD a) (y:=jq a) (u:=Fp b c) (v:=Gn b c) (by omega) (by omega) (by omega) (by omega) bM.1 bM.2.1 bM.2.2.1 bM.2.2.2) ?_
       refine ba ?_
       rw[w1,w2,w3]
       exact ai (bj kv rfl (ak ag))
    ·have hno:eh a b c=false:=UB hb0 (by unfold V8;rw[jS hb4,q7,mX])
     refine cz rfl<|ae<|ah<|ar (aF (us:=([.i .i64 0]++[.i .i64 0])) qZ p9 rfl rfl rfl) ?_
     refine ba ?_
     rw[(rj hno).1,(rj hno).2,hno]
     exact ai (bj kv rfl (ak ag))
   ·have hno:eh a b c=false:=UB hb0 (by unfold V8;rw[jS hb3];rfl)
    refine ar (bJ rfl)<|cz rfl<|ae<|ah<|ar (aF (us:=([.i .i64 0]++[.i .i64 0])) qZ p9 rfl rfl rfl) ?_
    refine ba ?_
    rw[(rj hno).1,(rj hno).2,hno]
    exact ai (bj kv rfl (ak ag))
 ·refine cz rfl<|ae<|ah ?_
  refine ba ?_
  have hno:eh a b c=false:=ads (jS hb1)
  have x1:eB a b c=(if jo a then jD a else 0):=by rw[(rj hno).1,jS hb1];rfl
  have x2:eF a b c=(if jo a then jq a else 0):=by rw[(rj hno).2,jS hb1];rfl
  have x3:eh a b c=jo a:=by rw[hno,jS hb1]
  rw[x1,x2,x3]
  exact ai (bj kv rfl (ak ag))
def Kr (o1 o2:Bool) (l1 h1 l2 h2:Int):Int:=if (o1&&o2)=true then(if decide (h1<l2)=true then-1 else if decide (l1>h2)=true then 1 else 0) else 0
def Ij (o1 o2:Bool) (l1 h1 l2 h2:Int):Bool:=(o1&&o2)&&(decide (h1<l2)||decide (l1>h2))
theorem Dq {f:Rat}(ha:Rz 4000000 a) (hb:Rz 4000000 b) (hc:Rz 4000000 c) (hd:Rz 4000000 d) (he:Rz 4000000 e) (hf:Rz 4000000 f):Ok Tryz.prog 253 [.a ((cR a++cR b++cR c)),.a ((cR d++cR e++cR f))] [.c (.i .i64 (Kr (eh a b c) (eh d e f) (eB a b c) (eF a b c) (eB d e f) (eF d e f))),.c (.b (Ij (eh a b c) (eh d e f) (eB a b c) (eF a b c) (eB d e f) (eF d e f)))]:=by
 refine b9 Tryz.func253 rfl ?_
 refine ac rfl (x8 (by assumption) (by assumption) (by assumption)) ?_
 refine ac rfl (x8 (by assumption) (by assumption) (by assumption)) ?_
 refine lg (bJ rfl) (fun c1 hb1=>?_)
 cases c1
 ·refine dS rfl (fun hc2=>?_) (fun hc2=>?_)
  ·refine ai ?_
   rw[show Kr (eh a b c) (eh d e f) (eB a b c) (eF a b c) (eB d e f) (eF d e f)=0 from by unfold Kr;rw[fM hb1,jS hc2];rfl,show Ij (eh a b c) (eh d e f) (eB a b c) (eF a b c) (eB d e f) (eF d e f)=false from by unfold Ij;rw[fM hb1,jS hc2];rfl]
   exact ak (ak ag)
  ·refine dS rfl (fun hc3=>?_) (fun hc3=>?_)
   ·refine ai ?_
    rw[show Kr (eh a b c) (eh d e f) (eB a b c) (eF a b c) (eB d e f) (eF d e f)= -1 from by unfold Kr;rw[fM hb1,fM hc2,hc3];rfl,show Ij (eh a b c) (eh d e f) (eB a b c) (eF a b c) (eB d e f) (eF d e f)=true from by unfold Ij;rw[fM hb1,fM hc2,hc3];rfl]
    exact ak (ak ag)
   ·refine dS rfl (fun hc4=>?_) (fun hc4=>?_)
    ·refine ai ?_
     rw[show Kr (eh a b c) (eh d e f) (eB a b c) (eF a b c) (eB d e f) (eF d e f)=1 from by unfold Kr;rw[fM hb1,fM hc2,hc3,hc4];rfl,show Ij (eh a b c) (eh d e f) (eB a b c) (eF a b c) (eB d e f) (eF d e f)=true from by unfold Ij;rw[fM hb1,fM hc2,hc3,hc4];rfl]
     exact ak (ak ag)
    ·refine ai ?_
     rw[show Kr (eh a b c) (eh d e f) (eB a b c) (eF a b c) (eB d e f) (eF d e f)=0 from by unfold Kr;rw[fM hb1,fM hc2,hc3,hc4];rfl,show Ij (eh a b c) (eh d e f) (eB a b c) (eF a b c) (eB d e f) (eF d e f)=false from by unfold Ij;rw[fM hb1,fM hc2,hc3,hc4];rfl]
     exact ak (ak ag)
 ·refine lr rfl<|ai ?_
  rw[show Kr (eh a b c) (eh d e f) (eB a b c) (eF a b c) (eB d e f) (eF d e f)=0 from by unfold Kr;rw[jS hb1];rfl,show Ij (eh a b c) (eh d e f) (eB a b c) (eF a b c) (eB d e f) (eF d e f)=false from by unfold Ij;rw[jS hb1];rfl]
  exact ak (ak ag)
theorem C5 (w:World) (b:Nat) (v:Value) (U T:TypeId) (cs ds:Array Value) (u:Value) (hlt:b<w.heap.size) (hb:w.heap[b]? =some (.cells #[u] T (0,0))):
 (((w.setCell ⟨b,0,none⟩ v).alloc (.cells cs U)).alloc (.cells ds U)).heap[w.heap.size+1]? =some (.cells ds U (0,0))∧
 (((w.setCell ⟨b,0,none⟩ v).alloc (.cells cs U)).alloc (.cells ds U)).heap[b]? =some (.cells #[v] T (0,0))∧Mid b w (((w.setCell ⟨b,0,none⟩ v).alloc (.cells cs U)).alloc (.cells ds U)):=by
 have hs:(w.setCell ⟨b,0,none⟩ v).heap.size=w.heap.size:=by simp
 refine⟨?_,?_,?_⟩
 ·have:=heap_alloc_new ((w.setCell ⟨b,0,none⟩ v).alloc (.cells cs U)) (.cells ds U)
  rw[iD,hs] at this
  grind
 ·rw[yJ _ _ _ (by rw[iD,hs];omega),yJ _ _ _ (by rw[hs];omega)]
  exact heap_setCell_same w b 0 #[u] T v hb
 ·refine⟨rfl,rfl,rfl,by rw[iD,iD,hs];omega,fun c hc hne=>?_⟩
  rw[yJ _ _ _ (by rw[iD,hs];omega),yJ _ _ _ (by rw[hs];omega)]
  exact heap_setCell_other w ⟨b,0,none⟩ c v hne
set_option maxRecDepth 10000 in
theorem Q8 (b:Nat) (ok c:Bool) (lo hi:Int) (w:World) (hb:w.heap[b]? =some (.cells #[.bool ok] 313 (0,0))):
 Calls Tryz.prog 369 #[.pointer (some ⟨b,0,none⟩),.agg #[.int .i64 lo,.int .i64 hi],.bool c] w fun e w'=>
  e=.returned (.agg #[.int .i64 lo,.int .i64 hi])∧w'.heap[b]? =some (.cells #[.bool (ok&&c)] 313 (0,0))∧Mid b w w':=by
 have hlt:b<w.heap.size:=(uS.1 hb).1
 have e1:((w.alloc (.cells #[.int .i64 lo,.int .i64 hi] 230)).alloc (.cells #[.int .i64 0,.int .i64 0] 230)).heap[b]? =some (.cells #[.bool ok] 313 (0,0)):=by
  rw[yJ _ _ _ (by simp;omega),yJ _ _ _ hlt];exact hb
 have c1:((w.alloc (.cells #[.int .i64 lo,.int .i64 hi] 230)).alloc (.cells #[.int .i64 0,.int .i64 0] 230)).cell? ⟨b,0,none⟩=some (.bool ok):=(dr e1 0).trans rfl
 have f0:w.frozen? ⟨b,0,none⟩=false:=Bk.frozen (t:=313) (cs:= #[.bool ok]) hb 0
 cases ok
 ·go_enter Tryz.func369,Tryz.ntmps369
  go_wp2_with fail
  obtain⟨h1,h2,h3⟩:=C5 w b (.bool false) 230 313 #[.int .i64 lo,.int .i64 hi] #[.int .i64 lo,.int .i64 hi] _ hlt hb
  have k0:=(dr h1 0).trans rfl
  have k1:=(dr h1 1).trans rfl
  refine⟨rfl,.agg #[.int .i64 lo,.int .i64 hi],?_,rfl,h2,h3⟩
  simp[results,Tryz.results369,go_sem,k0,k1]
  try rfl
 ·go_enter Tryz.func369,Tryz.ntmps369
  go_wp2_with fail
  obtain⟨h1,h2,h3⟩:=C5 w b (.bool c) 230 313 #[.int .i64 lo,.int .i64 hi] #[.int .i64 lo,.int .i64 hi] _ hlt hb
  have k0:=(dr h1 0).trans rfl
  have k1:=(dr h1 1).trans rfl
  refine⟨rfl,.agg #[.int .i64 lo,.int .i64 hi],?_,rfl,h2,h3⟩
  simp[results,Tryz.results369,go_sem,k0,k1]
  try rfl
structure OkP (P:Program) (f:FuncId) (U:TypeId) (cs0 cs1:List CellD) (ds rs:List D0):Prop where
 cal:fT P f=true
 run: ∀(V:Nat→Prop) (b:Nat) (bs:Array Value) (vs:Array Value) (vl:List Value) (w:World),vs.toList=.pointer (some ⟨b,0,none⟩)::vl→(∀c,V c→c<w.heap.size)→V b→w.heap[b]? =some (.cells bs U (0,0))→RdCs V w bs.toList cs0→RdL V w vl ds→
  Calls P f vs w fun e w'=> ∃v,∃bs':Array Value,e=.returned v∧w'.heap[b]? =some (.cells bs' U (0,0))∧Mid b w w'∧RdCs V w' bs'.toList cs1∧Xk V w' v rs
section
variable {P:Program}{ops:Array Oper}{T:TF}{B:BF}
theorem fZ {fo x:Operand}{xs:List Operand}{args:Array Operand}{at_:Array TypeId}{f:FuncId}{cs0 cs1:List CellD}{ds rs:List D0}
 (hf:cO T fo=some (.v (.c (.f f)))) (hargs:args.toList=x::xs) (hx:cO T x=some (.p k 0)) (ha:qK T xs=some ds) (hb:B k=some (U,cs0)) (hok:OkP P f U cs0 cs1 ds rs) (hg:gd ops ⟨dst,.call ⟨.value fo,args,at_⟩,ty,pos,af,g⟩ T=some true):
 Sem P ops ⟨dst,.call ⟨.value fo,args,at_⟩,ty,pos,af,g⟩ T B (.rs k U cs1 (xV rs)):=by
 refine⟨by unfold xV;split<;>rfl,⟨_,hb⟩,fun V β a w hs=>⟨eL hs hg,?_⟩⟩
 have hin: ∀y∈x::xs,y∈(⟨dst,.call ⟨.value fo,args,at_⟩,ty,pos,af,g⟩:Oper).op.operands:=fun y hy=>by
  have hx2:y∈args:=by grind
  simp[Op.operands,Call.operands,hx2]
 have h1:=RdC.func_eq (aC hs (x:=fo) (by simp[Op.operands,Call.operands]) hf)
 have h2:=jr hs xs ds (fun y hy=>hin y (jd _ hy)) ha
 have h3:a.eval x=.pointer (some ⟨β k,0,none⟩):=aC hs (hin x (io ..)) hx
 obtain⟨hV,bs,e,hr⟩:=hs.box k U cs0 hb
 have hc:=hok.cal
 unfold fT at hc
 cases hfn:P.funcs[f]? with
 |none=>rw[hfn] at hc;cases hc
 |some fn=>
  rw[hfn] at hc
  simp only[di,bne_iff_ne,ne_eq,qg] at hc
  have hrun:(execOp a.eval ⟨dst,.call ⟨.value fo,args,at_⟩,ty,pos,af,g⟩).run P w=.ok (.enter f (args.map a.eval)) w:=by
   have hb2:fn.body≠none:=by have:=hc.2;cases hbb:fn.body with
    |none=>rw[hbb] at this;cases this
    |some c=>simp
   simp[execOp,resolve,h1,Deferred.ofValue,invoke,callFunc,program,Sem.run,hfn,hc.1,hb2]
  unfold Gives
  rw[hrun]
  refine(hok.run V (β k) bs (args.map a.eval) (xs.map a.eval) w (by rw[yH,hargs,ru,h3]) hs.av hV e hr h2).mono ?_
  rintro e w' ⟨v,bs',rfl,hbl,hm,hr1,hr2⟩
  refine⟨v,rfl,bs',hbl,hm,hr1,?_⟩
  unfold Xk at hr2
  split at hr2
  ·exact hr2
  ·rename_i hne
   have e2:xV rs=.t rs:=by
    unfold xV
    grind
   rw[e2];exact hr2
theorem uu {x:Operand}{off:Nat}
 (hx:cO T x=some (.p k off)) (hg:gd ops ⟨dst,.nilCheck x,ty,pos,af,g⟩ T=some true):Sem P ops ⟨dst,.nilCheck x,ty,pos,af,g⟩ T B (.r (.p k off)):=
 bI hg (fun l e=>oi (ops:=ops) (o:=⟨dst,.nilCheck x,ty,pos,af,g⟩) (by simp[Op.operands]) hx e)
  (fun V β a w hs=>by
   have hp:a.eval x=.pointer (some ⟨β k,off,none⟩):=aC hs (x:=x) (by simp[Op.operands]) hx
   exact⟨_,by simp[execOp,hp],rfl⟩)
end
theorem Vp (ok c:Bool) (lo hi:Int):OkP Tryz.prog 369 313 [.b ok] [.b (ok&&c)] [.a [.i .i64 lo,.i .i64 hi],.c (.b c)] [.a [.i .i64 lo,.i .i64 hi]]:=
 ⟨by kernel_rfl,fun V b bs vs vl w hvs hV hb hbl hcs hds=>by
  obtain⟨vs⟩:=vs
  replace hvs:vs=_:=hvs
  subst hvs
  match vl,hds with
  |[],hds=>have:=hds.1;simp at this
  |v1::vl,hds=>
  obtain⟨h1,hds⟩:=hds.uncons
  match vl,hds with
  |[],hds=>have:=hds.1;simp at this
  |v2::vl,hds=>
  obtain⟨h2,hds⟩:=hds.uncons
  have hn:vl=[]:=nJ.1 hds.1
  subst hn
  have h2:=vZ h2
  subst h2
  obtain⟨cs,rfl,h1⟩:=h1
  obtain⟨cs⟩:=cs
  obtain⟨bs⟩:=bs
  match cs,h1 with
  |[],h1=>have:=h1.1;simp at this
  |x1::cs,h1=>
  obtain⟨g1,h1⟩:=h1.uncons
  match cs,h1 with
  |[],h1=>have:=h1.1;simp at this
  |x2::cs,h1=>
  obtain⟨g2,h1⟩:=h1.uncons
  have hn:cs=[]:=nJ.1 h1.1
  subst hn
  have g1:=fO g1
  have g2:=fO g2
  subst g1 g2
  match bs,hcs with
  |[],hcs=>have:=hcs.1;simp at this
  |y1::bs,hcs=>
  obtain⟨g3,hcs⟩:=hcs.uncons
  have hn:bs=[]:=nJ.1 hcs.1
  subst hn
  have g3:=vZ g3
  subst g3
  refine(Q8 b ok c lo hi w hbl).mono ?_
  rintro e w' ⟨rfl,h3,h4⟩
  exact⟨_,_,rfl,h3,h4,nE (.b _) ro,_,rfl,nE (.i _ _) (nE (.i _ _) ro)⟩⟩
def Bd (x:Int):Prop:= -2305843009213693952≤x∧x≤2305843009213693952
theorem Bd.zero:Bd 0:=by unfold Bd;omega
def gL (e:Rat):Int:=if jo e then jD e else 0
def gH (e:Rat):Int:=if jo e then jq e else 0
theorem vH (e:Rat):Bd (gL e):=by
 unfold gL;split
 ·rename_i h;have:=Ex h;exact⟨this.1,this.2.1⟩
 ·exact Bd.zero
theorem wg (e:Rat):Bd (gH e):=by
 unfold gH;split
 ·rename_i h;have:=Ex h;exact⟨this.2.2.1,this.2.2.2⟩
 ·exact Bd.zero
theorem D8 (e:Rat):gL e≤gH e:=by
 unfold gL gH;split
 ·exact WP e
 ·exact o9 _
theorem Mo (h: ¬e<0): ¬gH e<0:=by
 unfold gH;split
 ·have:=Bl h;omega
 ·omega
theorem MB (e:Rat):Bd (qy (gL e)):=by
 have:=Sp (x:=gL e) (y:=0) (vH e).2 (by omega) (by omega)
 unfold Bd;omega
theorem LS (h: ¬e<0):Bd (lI (gH e)):=by
 have:=Sp (x:=0) (y:=gH e) (by omega) (by have:=Mo h;omega) (wg e).2
 unfold Bd;omega
theorem aby (x y:Int):mM x y≤mK x y:=by
 have h:OB x y/65536≤Eh (OB x y):=by unfold Eh;split<;>omega
 unfold mM mK;split<;>omega
theorem acy (x y u v:Int):Em x y u v 4≤D3 x y u v 4:=by
 exact Int.le_trans (Int.min_le_right _ _) (Int.le_trans (aby _ _) (Int.le_max_right _ _))
def pL (x y u v:Int):Int:=if AD x y u v 4 then Em x y u v 4 else 0
def pH (x y u v:Int):Int:=if AD x y u v 4 then D3 x y u v 4 else 0
theorem E7 (x y u v:Int):Bd (pL x y u v):=by
 unfold pL;split
 ·rename_i h;have:=Y4 4 h;exact⟨this.1,this.2.1⟩
 ·exact Bd.zero
theorem Er (x y u v:Int):Bd (pH x y u v):=by
 unfold pH;split
 ·rename_i h;have:=Y4 4 h;exact⟨this.2.2.1,this.2.2.2⟩
 ·exact Bd.zero
theorem BB (x y u v:Int):pL x y u v≤pH x y u v:=by
 unfold pL pH;split
 ·exact acy x y u v
 ·exact o9 _
def aL (x y u v:Int):Int:=if xD (x+u) (y+v) then x+u else 0
def aH (x y u v:Int):Int:=if xD (x+u) (y+v) then y+v else 0
theorem LN (h:x≤y) (h2:u≤v):Bd (aL x y u v):=by
 unfold aL;split
 ·rename_i h3;have:=L9 h3;unfold Bd;omega
 ·exact Bd.zero
theorem Lc (h:x≤y) (h2:u≤v):Bd (aH x y u v):=by
 unfold aH;split
 ·rename_i h3;have:=L9 h3;unfold Bd;omega
 ·exact Bd.zero
theorem jt (h:Rz 4000000 e):Ok Tryz.prog 238 [dR e] [.a ([.i .i64 (gL e)]++[.i .i64 (gH e)]),.c (.b (jo e))]:=pD h
theorem Hj (h: ¬e<0):Ok Tryz.prog 365 [.a ([.i .i64 (gL e)]++[.i .i64 (gH e)])] [.a ([.i .i64 (qy (gL e))]++[.i .i64 (lI (gH e))]),.c (.b true)]:=
 Hq (vH e).1 (vH e).2 (wg e).1 (wg e).2 (Mo h)
theorem wN (h1:Bd x) (h2:Bd y) (h3:Bd u) (h4:Bd v):Ok Tryz.prog 239 [.a ([.i .i64 x]++[.i .i64 y]),.a ([.i .i64 u]++[.i .i64 v])] [.a ([.i .i64 (pL x y u v)]++[.i .i64 (pH x y u v)]),.c (.b (AD x y u v 4))]:=
 LQ h1.1 h1.2 h2.1 h2.2 h3.1 h3.2 h4.1 h4.2
theorem wT (h1:Bd x) (h2:Bd y) (h3:Bd u) (h4:Bd v):Ok Tryz.prog 240 [.a ([.i .i64 x]++[.i .i64 y]),.a ([.i .i64 u]++[.i .i64 v])] [.a ([.i .i64 (aL x y u v)]++[.i .i64 (aH x y u v)]),.c (.b (xD (x+u) (y+v)))]:=
 Mr h1.1 h1.2 h2.1 h2.2 h3.1 h3.2 h4.1 h4.2
theorem ip {ok c:Bool}:OkP Tryz.prog 369 313 [.b ok] [.b (ok&&c)] [.a ([.i .i64 x]++[.i .i64 y]),.c (.b c)] [.a ([.i .i64 x]++[.i .i64 y])]:=Vp ok c x y
def W7 (B M:Rat):Int:=pL (gL B) (gH B) (qy (gL M)) (lI (gH M))
def Ww (B M:Rat):Int:=pH (gL B) (gH B) (qy (gL M)) (lI (gH M))
def qbK (B M:Rat):Bool:=AD (gL B) (gH B) (qy (gL M)) (lI (gH M)) 4
def UG (M N:Rat):Int:=pL (qy (gL M)) (lI (gH M)) (qy (gL N)) (lI (gH N))
def Wa (M N:Rat):Int:=pH (qy (gL M)) (lI (gH M)) (qy (gL N)) (lI (gH N))
def ad8 (M N:Rat):Bool:=AD (qy (gL M)) (lI (gH M)) (qy (gL N)) (lI (gH N)) 4
def qdL (D M N:Rat):Int:=pL (gL D) (gH D) (UG M N) (Wa M N)
def qdH (D M N:Rat):Int:=pH (gL D) (gH D) (UG M N) (Wa M N)
def qdK (D M N:Rat):Bool:=AD (gL D) (gH D) (UG M N) (Wa M N) 4
def Uk (A B M:Rat):Int:=aL (gL A) (gH A) (W7 B M) (Ww B M)
def Vh (A B M:Rat):Int:=aH (gL A) (gH A) (W7 B M) (Ww B M)
def adE (A B M:Rat):Bool:=xD (gL A+W7 B M) (gH A+Ww B M)
def Tr (C D M N:Rat):Int:=aL (W7 C N) (Ww C N) (qdL D M N) (qdH D M N)
def Tv (C D M N:Rat):Int:=aH (W7 C N) (Ww C N) (qdL D M N) (qdH D M N)
def ad3 (C D M N:Rat):Bool:=xD (W7 C N+qdL D M N) (Ww C N+qdH D M N)
def qsL (A B C D M N:Rat):Int:=aL (Uk A B M) (Vh A B M) (Tr C D M N) (Tv C D M N)
def qsH (A B C D M N:Rat):Int:=aH (Uk A B M) (Vh A B M) (Tr C D M N) (Tv C D M N)
def qsK (A B C D M N:Rat):Bool:=xD (Uk A B M+Tr C D M N) (Vh A B M+Tv C D M N)
def ZZ (M N:Rat):Bool:=jo M&&jo N
def ZU (B C D M N:Rat):Bool:=ZZ M N&&(jo B&&(qbK B M&&(jo C&&(qbK C N&&(jo D&&(ad8 M N&&qdK D M N))))))
def MJ (A B C D M N:Rat):Bool:=ZU B C D M N&&(jo A&&(adE A B M&&(ad3 C D M N&&qsK A B C D M N)))
def Ti (A B C D M N:Rat):Bool:=MJ A B C D M N&&Nu (qsL A B C D M N) (qsH A B C D M N)
def Xw (A B C D M N:Rat):Int:=if MJ A B C D M N then NG (qsL A B C D M N) (qsH A B C D M N) else 0
theorem Ev (h:MJ A B C D M N=false):Xw A B C D M N=0∧Ti A B C D M N=false:=by
 unfold Xw Ti;rw[h];exact⟨rfl,rfl⟩
theorem KG (h:MJ A B C D M N=true):Xw A B C D M N=NG (qsL A B C D M N) (qsH A B C D M N)∧Ti A B C D M N=Nu (qsL A B C D M N) (qsH A B C D M N):=by
 unfold Xw Ti;rw[h];exact⟨rfl,rfl⟩
theorem R6 (h:ZU B C D M N=false):MJ A B C D M N=false:=by unfold MJ;rw[h];rfl
theorem Yo (h:ZZ M N=false):MJ A B C D M N=false:=R6 (by unfold ZU;rw[h];rfl)
theorem KJ {b c:Bool}(h:(!b)=true) (e:c=b):c=false:=by rw[e];simpa using h
theorem Ya {b c:Bool}(h:(!b)=false) (e:c=b):c=true:=by rw[e];simpa using h
theorem Ke (hA:Rz 4000000 A) (hB:Rz 4000000 B) (hC:Rz 4000000 C) (hD:Rz 4000000 D) (hM:Rz 4000000 M) (hN:Rz 4000000 N) (hm: ¬M<0) (hn: ¬N<0):Ok Tryz.prog 331 [.a ((cR A++cR B++cR C++cR D++cR M++cR N))] [.c (.i .i64 (Xw A B C D M N)),.c (.b (Ti A B C D M N))]:=by
 refine b9 Tryz.func331 rfl<|ar (aF (us:=([.b true])) aaK abz rfl rfl rfl) ?_
 refine ac rfl (jt (bk hM)) ?_
 refine DL.mk<|tE (fZ rfl rfl rfl rfl rfl (ip) rfl)<|fa ?_
 refine ac rfl (Hj (by assumption)) ?_
 refine DL.mk<|tE (fZ rfl rfl rfl rfl rfl (ip) rfl)<|fa ?_
 refine ac rfl (jt (bk hN)) ?_
 refine DL.mk<|tE (fZ rfl rfl rfl rfl rfl (ip) rfl)<|fa ?_
 refine ac rfl (Hj (by assumption)) ?_
 refine DL.mk<|tE (fZ rfl rfl rfl rfl rfl (ip) rfl)<|fa ?_
 refine ar (uu rfl rfl) ?_
 refine dS rfl (fun hc1=>?_) (fun hc1=>?_)
 ·have hk:MJ A B C D M N=false:=Yo (KJ hc1 (by unfold ZZ;simp only[iA,vO];try rfl))
  refine ai ?_
  rw[(Ev hk).1,(Ev hk).2]
  exact ak (ak ag)
 ·refine dF 14 [12] ?_
  refine aI rfl (jt (bk hB)) ?_
  refine DQ.mk<|wl (fZ rfl rfl rfl rfl rfl (ip) rfl) rfl rfl rfl rfl rfl (by kernel_rfl) rfl<|dP ?_
  refine aI rfl (wN (vH _) (wg _) (MB _) (LS (by assumption))) ?_
  refine DQ.mk<|wl (fZ rfl rfl rfl rfl rfl (ip) rfl) rfl rfl rfl rfl rfl (by kernel_rfl) rfl<|dP ?_
  refine dF 14 [12] ?_
  refine aI rfl (jt (bk hC)) ?_
  refine DQ.mk<|wl (fZ rfl rfl rfl rfl rfl (ip) rfl) rfl rfl rfl rfl rfl (by kernel_rfl) rfl<|dP ?_
  refine aI rfl (wN (vH _) (wg _) (MB _) (LS (by assumption))) ?_
  refine DQ.mk<|wl (fZ rfl rfl rfl rfl rfl (ip) rfl) rfl rfl rfl rfl rfl (by kernel_rfl) rfl<|dP ?_
  refine dF 20 [12] ?_
  refine aI rfl (jt (bk hD)) ?_
  refine DQ.mk<|wl (fZ rfl rfl rfl rfl rfl (ip) rfl) rfl rfl rfl rfl rfl (by kernel_rfl) rfl<|dP ?_
  refine aI rfl (wN (MB _) (LS (by assumption)) (MB _) (LS (by assumption))) ?_
  refine DQ.mk<|wl (fZ rfl rfl rfl rfl rfl (ip) rfl) rfl rfl rfl rfl rfl (by kernel_rfl) rfl<|dP ?_
  refine aI rfl (wN (vH _) (wg _) (E7 _ _ _ _) (Er _ _ _ _)) ?_
  refine DQ.mk<|wl (fZ rfl rfl rfl rfl rfl (ip) rfl) rfl rfl rfl rfl rfl (by kernel_rfl) rfl<|dP ?_
  refine ar (uu rfl rfl) ?_
  refine dS rfl (fun hc2=>?_) (fun hc2=>?_)
  ·have hk:MJ A B C D M N=false:=R6 (KJ hc2 (by unfold ZU ZZ;simp only[iA,vO,Bool.and_assoc];try rfl))
   refine ai ?_
   rw[(Ev hk).1,(Ev hk).2]
   exact ak (ak ag)
  ·refine dF 26 [12] ?_
   refine aI rfl (jt (bk hA)) ?_
   refine DQ.mk<|wl (fZ rfl rfl rfl rfl rfl (ip) rfl) rfl rfl rfl rfl rfl (by kernel_rfl) rfl<|dP ?_
   refine aI rfl (wT (vH _) (wg _) (E7 _ _ _ _) (Er _ _ _ _)) ?_
   refine DQ.mk<|wl (fZ rfl rfl rfl rfl rfl (ip) rfl) rfl rfl rfl rfl rfl (by kernel_rfl) rfl<|dP ?_
   refine aI rfl (wT (E7 _ _ _ _) (Er _ _ _ _) (E7 _ _ _ _) (Er _ _ _ _)) ?_
   refine DQ.mk<|wl (fZ rfl rfl rfl rfl rfl (ip) rfl) rfl rfl rfl rfl rfl (by kernel_rfl) rfl<|dP ?_
   refine aI rfl (wT (LN (by first|exact D8 _|exact BB _ _ _ _) (by first|exact D8 _|exact BB _ _ _ _)) (Lc (by first|exact D8 _|exact BB _ _ _ _) (by first|exact D8 _|exact BB _ _ _ _)) (LN (by first|exact D8 _|exact BB _ _ _ _) (by first|exact D8 _|exact BB _ _ _ _)) (Lc (by first|exact D8 _|exact BB _ _ _ _) (by first|exact D8 _|exact BB _ _ _ _))) ?_
   refine DQ.mk<|wl (fZ rfl rfl rfl rfl rfl (ip) rfl) rfl rfl rfl rfl rfl (by kernel_rfl) rfl<|dP ?_
   refine ar (uu rfl rfl) ?_
   refine dS rfl (fun hc3=>?_) (fun hc3=>?_)
   ·have hk:MJ A B C D M N=false:=KJ hc3 (by unfold MJ ZU ZZ;simp only[iA,vO,Bool.and_assoc];try rfl)
    refine ai ?_
    rw[(Ev hk).1,(Ev hk).2]
    exact ak (ak ag)
   ·refine ac rfl (Je) ?_
    have hk:MJ A B C D M N=true:=Ya hc3 (by unfold MJ ZU ZZ;simp only[iA,vO,Bool.and_assoc];try rfl)
    refine ai ?_
    rw[(KG hk).1,(KG hk).2]
    exact ak (ak ag)
end Go.Proofs.YtegpmhlfjkhjmaaGreat
