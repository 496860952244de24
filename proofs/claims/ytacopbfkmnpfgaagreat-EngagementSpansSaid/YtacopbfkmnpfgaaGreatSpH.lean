/-Plain:the integer square root,and Newton's steps to it;the first root as a slice. -/
import Derived.Test.YtacopbfkmnpfgaaGreatSpG
namespace Go.Proofs.YtacopbfkmnpfgaaGreat
open Go Go.RowKit
def isq:Nat→Nat
 |0=>0
 |n+1=>if (isq n+1)*(isq n+1)≤n+1 then isq n+1 else isq n
theorem xV (n:Nat):isq n*isq n≤n∧n<(isq n+1)*(isq n+1):=by
 induction n with
 |zero=>exact⟨by decide,by decide⟩
 |succ n ih=>
  obtain⟨h1,h2⟩:=ih
  unfold isq
  split
  ·rename_i h
   refine⟨h,?_⟩
   have:(isq n+1)*(isq n+1)<(isq n+1+1)*(isq n+1+1):=Nat.mul_lt_mul_of_lt_of_le (by omega) (by omega) (by omega)
   omega
  ·exact⟨by omega,by omega⟩
theorem Fn {a b:Int}(ha:0≤a) (h:a≤b):a*a≤b*b:=Int.mul_le_mul h h ha (by omega)
theorem sW {a b:Int}(hb:0≤b) (h:a*a<b*b):a<b:=by
 by_cases h1:a<b
 ·exact h1
 ·have:=Fn hb (show b≤a by omega);omega
def bE (x:Int):Int:=if x<0 then 0 else(isq x.toNat:Nat)
theorem d9 (x:Int):0≤bE x:=by unfold bE;split<;>omega
theorem mE {x:Int}(h:0≤x):bE x*bE x≤x:=by
 unfold bE;rw[if_neg (by omega)]
 have:=(xV x.toNat).1
 rw[←Int.natCast_mul];omega
theorem qN {x:Int}(h:0≤x):x<(bE x+1)*(bE x+1):=by
 unfold bE;rw[if_neg (by omega)]
 have:=(xV x.toNat).2
 rw[show((isq x.toNat:Nat):Int)+1=((isq x.toNat+1:Nat):Int) from by omega,←Int.natCast_mul];omega
theorem pX {x r:Int}(h:0≤x) (hr:0≤r) (h1:r*r≤x) (h2:x<(r+1)*(r+1)):bE x=r:=by
 have a1:=mE h
 have a2:=qN h
 have a0:=d9 x
 have:=sW (a:=r) (b:=bE x+1) (by omega) (by omega)
 have:=sW (a:=bE x) (b:=r+1) (by omega) (by omega)
 omega
theorem sZ:bE 0=0:=by decide
theorem ml {x:Int}(h:x<0):bE x=0:=by unfold bE;rw[if_pos h]
theorem Gu {x:Int}:(bE x).natAbs≤x.natAbs:=by
 have h0:=d9 x
 by_cases h:x<0
 ·rw[ml h];omega
 ·have h1:=mE (show 0≤x by omega)
  by_cases h2:bE x<1
  ·omega
  ·have:=Int.mul_le_mul_of_nonneg_left (show 1≤bE x by omega) h0
   omega
theorem xk (a b:Int):4*(a*b)≤(a+b)*(a+b):=by
 have h:0≤(a-b)*(a-b):=by
  rcases Int.le_total 0 (a-b) with h|h
  ·exact Int.mul_nonneg h h
  ·exact Int.mul_nonneg_of_nonpos_of_nonpos h h
 have e1:(a-b)*(a-b)=a*a-2*(a*b)+b*b:=by rw[Int.sub_mul,Int.mul_sub,Int.mul_sub,Int.mul_comm b a];omega
 have e2:(a+b)*(a+b)=a*a+2*(a*b)+b*b:=by rw[Int.add_mul,Int.mul_add,Int.mul_add,Int.mul_comm b a];omega
 omega
theorem DR {x r:Int}(hx:0<x) (hr:0<r) (_hup:x<(r+1)*(r+1)):
 0≤(r+x.fdiv r).fdiv 2∧x<((r+x.fdiv r).fdiv 2+1)*((r+x.fdiv r).fdiv 2+1)∧0<(r+x.fdiv r).fdiv 2∧0≤x.fdiv r∧x.fdiv r≤x:=by
 rw[Int.fdiv_eq_ediv_of_nonneg _ (by omega:(0:Int)≤r),Int.fdiv_eq_ediv_of_nonneg _ (by omega:(0:Int)≤2)]
 have hq0:0≤x/r:=Int.ediv_nonneg (by omega) (by omega)
 have hq1:x/r≤x:=Int.ediv_le_self _ (by omega)
 have hq2:x<r*(x/r+1):=by have h1:=Int.mul_ediv_add_emod x r;have h2:=Int.emod_lt_of_pos x hr;rw[Int.mul_add];omega
 obtain⟨q,hq⟩: ∃q,x/r=q:=⟨_,rfl⟩
 rw[hq] at hq0 hq1 hq2⊢
 obtain⟨n,hn⟩: ∃n,(r+q)/2=n:=⟨_,rfl⟩
 rw[hn]
 have hn0:0≤n:=by omega
 have h4:=xk r (q+1)
 have h5:(r+(q+1))*(r+(q+1))≤(2*(n+1))*(2*(n+1)):=Fn (by omega) (by omega)
 have h6:(2*(n+1))*(2*(n+1))=4*((n+1)*(n+1)):=by rw[Int.mul_assoc,Int.mul_left_comm (n+1) 2,←Int.mul_assoc];omega
 have hu:x<(n+1)*(n+1):=by omega
 refine⟨hn0,hu,?_,hq0,hq1⟩
 by_cases h:0<n
 ·exact h
 ·rw[show n=0 from by omega] at hu;omega
theorem wl {x r:Int}(_hx:0<x) (hr:0<r) (h:r≤(r+x.fdiv r).fdiv 2):r*r≤x:=by
 rw[Int.fdiv_eq_ediv_of_nonneg _ (by omega:(0:Int)≤r),Int.fdiv_eq_ediv_of_nonneg _ (by omega:(0:Int)≤2)] at h
 have h1:=Int.mul_ediv_add_emod x r
 have h2:=Int.emod_nonneg x (show r≠0 by omega)
 have h3:r≤x/r:=by omega
 have:=Int.mul_le_mul_of_nonneg_left h3 (show 0≤r by omega)
 omega
structure NInv (K:Nat) (x r:Int):Prop where
 r0:0<r
 sz:Sz K r
 up:x<(r+1)*(r+1)
theorem NInv.sum {K:Nat}{x r:Int}(h:NInv K x r) (hs:Sz K x) (hx:0<x):Sz K (x.fdiv r)∧Sz (K+1) (r+x.fdiv r)∧Sz (K+1) ((r+x.fdiv r).fdiv 2):=by
 obtain⟨h1,h2,h3,h4,h5⟩:=DR hx h.r0 h.up
 have h6:Sz K (x.fdiv r):=hs.of_le (by omega)
 have h7:=h.sz.add h6
 refine⟨h6,h7,h7.of_le ?_⟩
 have h8:=h.r0
 rw[Int.fdiv_eq_ediv_of_nonneg _ (by omega:(0:Int)≤2)] at*
 omega
theorem NInv.next {K:Nat}{x r:Int}(h:NInv K x r) (hx:0<x) (hl:(r+x.fdiv r).fdiv 2<r):NInv K x ((r+x.fdiv r).fdiv 2):=by
 obtain⟨h1,h2,h3,h4,h5⟩:=DR hx h.r0 h.up
 exact⟨h3,h.sz.of_le (by omega),h2⟩
theorem NInv.done {K:Nat}{x r:Int}(h:NInv K x r) (hx:0<x) (hl:r≤(r+x.fdiv r).fdiv 2):bE x=r:=
 pX (by omega) (by have:=h.r0;omega) (wl hx h.r0 hl) h.up
theorem nW:dI 0=.a ([.b false]++[.s 0 []]):=by unfold dI cI;rw[show cL 0=.s 0 [] from by unfold cL;rw[show(0:Int).natAbs=0 from rfl,f7];rfl];rfl
theorem Np {v:Int}(h:0≤v):([CellD.b false]++[cL v])=cI v:=by unfold cI;rw[show decide (v<0)=false from by simp;omega];rfl
theorem Oi {x:Int}{n k:Nat}(_h0:0≤x) (h:x<pw n) (hk:n≤2*k):x<(pw k+1)*(pw k+1):=by
 have h1:=iO (n:=n) (m:=2*k) hk
 have h2:pw (2*k)=pw k*pw k:=by rw[show 2*k=k+k from by omega,ny]
 have h3:=cD k
 have h4:(pw k+1)*(pw k+1)=pw k*pw k+2*pw k+1:=by rw[Int.add_mul,Int.mul_add];omega
 omega
theorem NInv.start {K k:Nat}{x:Int}(h0:0<x) (_hs:Sz K x) (hk:((cb x.natAbs).length+1)/2=k) (hK:k<K):NInv K x (pw k):=by
 have hv:=dz (bp x.natAbs)
 rw[bD] at hv
 refine⟨cD k,?_,Oi (n:=(cb x.natAbs).length) (by omega) (by omega) (by omega)⟩
 have h1:Sz (k+1) (pw k):=⟨by have:=cD k;rw[de];omega,by have:=cD k;have:=cD (k+1);omega⟩
 exact h1.mono (by omega)
theorem Mm (n:Nat):aE (List.replicate n 0++[1])=pw n:=by
 induction n with
 |zero=>decide
 |succ n ih=>rw[List.replicate_succ,List.cons_append,cS,ih,de];omega
theorem Pn (n:Nat):cL (pw n)=cM (List.replicate n 0++[1]):=by
 have hL:Lim (List.replicate n 0++[1]):=(Lim.zeros n).append (Lim.nil.cons (by omega) (by omega))
 have hN:Nrm (List.replicate n 0++[1]):=by
  induction n with
  |zero=>exact su [] 1 (by decide)
  |succ n ih=>exact vY (ih ((Lim.zeros n).append (Lim.nil.cons (by omega) (by omega)))) (by simp)
 rw[Kg,←Mm]
 have:=yR hN hL
 rw[show(aE (List.replicate n 0++[1])).natAbs=(aE (List.replicate n 0++[1])).toNat from by have:=bL hL;omega,←this]
variable {P:Program}{ops:Array Oper}{T:TF}{B:BF}
theorem ng {dst:Option Nat}{x y:Operand}{U e:TypeId}{ty:TypeId}{pos:String}{af:Array Edge}{g:Option (Nat×Bool)}{k n:Nat}{z:CellD}
 (hU:nd P U=some (e,1,4,[z])) (hx:cq T x=some (.o k n n)) (hy:cq T y=some (.v (.c (cM [1])))) (hb:B k=some (e,List.replicate n (CellD.i .u32 0))) (hl:n≤10000000)
 (hg:gd ops ⟨dst,.call ⟨.builtin .append,#[x,y],#[U,U]⟩,ty,pos,af,g⟩ T=some true):
 Sem P ops ⟨dst,.call ⟨.builtin .append,#[x,y],#[U,U]⟩,ty,pos,af,g⟩ T B (.c k (.v (.c (cL (pw n))))):=by
 rw[Pn]
 have:=oR (us:=(List.replicate n (0:Int)++[1]).map (CellD.i .u32)) hU hx hy hb (by simp) (ft _) (by omega) (by simp) (by omega) (by simp;omega) (by simp;unfold maxLen;omega) (by simp) hg
 rw[show n+[(1:Int)].length=(List.replicate n (0:Int)++[1]).length from by simp] at this
 exact this
theorem n5 {a b:Int}:cK a b=0↔a=b:=by
 rcases Int.lt_trichotomy a b with h|h|h
 ·rw[dj h];constructor<;>intro h2<;>omega
 ·rw[fl h];constructor<;>intro h2<;>omega
 ·rw[dt h];constructor<;>intro h2<;>omega
theorem sC {a b:Int}:cK a b<0↔a<b:=by
 rcases Int.lt_trichotomy a b with h|h|h
 ·rw[dj h];constructor<;>intro h2<;>omega
 ·rw[fl h];constructor<;>intro h2<;>omega
 ·rw[dt h];constructor<;>intro h2<;>omega
theorem qY {a b:Int}:0<cK a b↔b<a:=by
 rcases Int.lt_trichotomy a b with h|h|h
 ·rw[dj h];constructor<;>intro h2<;>omega
 ·rw[fl h];constructor<;>intro h2<;>omega
 ·rw[dt h];constructor<;>intro h2<;>omega
theorem MA {a b:Int}(h:decide (cK a b<0)=true):a<b:=sC.1 (by simpa using h)
theorem LB {a b:Int}(h:decide (cK a b<0)=false): ¬a<b:=fun e=>by have:=sC.2 e;simp at h;omega
theorem II {a b:Int}(h:(cK a b==0)=true):a=b:=n5.1 (by simpa using h)
theorem PZ {a b:Int}(h:(cK a b !=0)=true):a≠b:=fun e=>by have:=n5.2 e;simp at h;omega
theorem OS {a b:Int}(h:(cK a b !=0)=false):a=b:=n5.1 (by simpa using h)
theorem PA {a b:Int}(h:decide (cK a b>0)=true):b<a:=qY.1 (by simpa using h)
theorem Qq {a b:Int}(h:decide (cK a b>0)=false): ¬b<a:=fun e=>by have:=qY.2 e;simp at h;omega
structure Rz (k:Nat) (x:Rat):Prop where
 n:Sz k x.num
 d:Sz k (x.den:Int)
theorem Sz.addm {k l:Nat}{x y:Int}(h:Sz k x) (h':Sz l y):Sz (max k l+1) (x+y):=(h.mono (Nat.le_max_left k l)).add (h'.mono (Nat.le_max_right k l))
theorem Sz.gcd {l:Nat}{x y:Int}(h':Sz l y) (h0:y≠0):Sz l ((Int.gcd x y:Nat):Int):=h'.of_le (by
 have:Int.gcd x y≤y.natAbs:=Nat.le_of_dvd (by omega) (Nat.gcd_dvd_right ..)
 rw[Int.natAbs_natCast];exact this)
theorem Rz.mono {k l:Nat}{x:Rat}(h:Rz k x) (hl:k≤l):Rz l x:=⟨h.n.mono hl,h.d.mono hl⟩
theorem Rz.m_ {k l:Nat}{x:Rat}(h:Rz k x) (hl:k≤l:=by decide):Rz l x:=h.mono hl
theorem aO {k l:Nat}{x:Rat}(h:Rz k x) (hl:k≤l:=by decide):Rz l x:=h.mono hl
theorem MT {l:Nat}{x:Rat}(h:Rz l x:=by first|assumption|exact Rz.mono (by assumption) (by decide)):Rz l x:=h
theorem den_pos (x:Rat):(0:Int)<(x.den:Int):=by have:=x.den_pos;omega
theorem gE (x:Rat):(x.den:Int)≠0:=by have:=den_pos x;omega
theorem l8 (a b:Int):(a/b).natAbs≤a.natAbs:=Int.natAbs_ediv_le_natAbs a b
theorem Rz.of {k:Nat}{n d:Int}(hn:Sz k n) (hd:Sz k d) (h0:d≠0):Rz k (Rat.divInt n d):=by
 refine⟨hn.of_le ?_,hd.of_le ?_⟩
 ·rw[Rat.num_divInt]
  refine Nat.le_trans (l8 _ _) ?_
  rw[Int.natAbs_mul,Int.natAbs_sign_of_ne_zero h0];omega
 ·rw[Rat.den_divInt,if_neg h0]
  rw[Int.natAbs_natCast]
  exact Nat.div_le_self d.natAbs (Int.gcd d n)
theorem G7 {x y:Rat}:Rat.divInt (x.num*(y.den:Int)+y.num*(x.den:Int)) ((x.den:Int)*(y.den:Int))=x+y:=by
 rw[Rat.add_def',←Int.natCast_mul,Rat.divInt_ofNat]
theorem M7 {x y:Rat}(h:(x.den:Int)=(y.den:Int)):Rat.divInt (x.num+y.num) (x.den:Int)=x+y:=by
 rw[←G7,←h,←Int.add_mul,Rat.divInt_mul_right (gE x)]
theorem LJ {x y:Rat}:Rat.divInt (x.num*y.num) ((x.den:Int)*(y.den:Int))=x*y:=by
 rw[Rat.mul_def',←Int.natCast_mul,Rat.divInt_ofNat]
theorem KT {x y:Rat}:Rat.divInt (x.num*(y.den:Int)) ((x.den:Int)*y.num)=x/y:=by
 rw[Rat.div_def,Rat.inv_def,←Rat.divInt_mul_divInt,Rat.num_divInt_den]
theorem Rz.add {k l:Nat}{x y:Rat}(hx:Rz k x) (hy:Rz l y):Rz (k+l+1) (x+y):=by
 rw[←G7]
 exact Rz.of (((hx.n.mul hy.d).addm (hy.n.mul hx.d)).mono (by omega)) ((hx.d.mul hy.d).mono (by omega)) (by have:=Int.mul_pos (den_pos x) (den_pos y);omega)
theorem Rz.mul {k l:Nat}{x y:Rat}(hx:Rz k x) (hy:Rz l y):Rz (k+l) (x*y):=by
 rw[←LJ]
 exact Rz.of (hx.n.mul hy.n) (hx.d.mul hy.d) (by have:=Int.mul_pos (den_pos x) (den_pos y);omega)
theorem Rz.neg {k:Nat}{x:Rat}(hx:Rz k x):Rz k (-x):=⟨by rw[Rat.neg_num];exact hx.n.neg,by rw[Rat.neg_den];exact hx.d⟩
theorem Rz.sub {k l:Nat}{x y:Rat}(hx:Rz k x) (hy:Rz l y):Rz (k+l+1) (x-y):=by rw[Rat.sub_eq_add_neg];exact hx.add hy.neg
theorem Rz.div {k l:Nat}{x y:Rat}(hx:Rz k x) (hy:Rz l y) (h0:y≠0):Rz (k+l) (x/y):=by
 rw[←KT]
 exact Rz.of (hx.n.mul hy.d) (hx.d.mul hy.n) (by
  have h1:y.num≠0:=fun e=>h0 (Rat.num_eq_zero.1 e)
  intro e
  rcases Int.mul_eq_zero.1 e with h|h
  ·exact gE x h
  ·exact h1 h)
theorem Sz.one {k:Nat}(hk:1≤k):Sz k 1:=by
 have:=iO (n:=1) (m:=k) hk
 have h1:pw 1=1000000000:=by decide
 exact⟨by omega,by omega⟩
theorem Rz.int {k:Nat}{n:Int}(h:Sz k n) (hk:1≤k):Rz k (n:Rat):=⟨by rw[Rat.num_intCast];exact h,by rw[Rat.den_intCast];exact Sz.one hk⟩
theorem sf {n d:Int}(hd:0<d):dR (Rat.divInt n d)=dQ (n.fdiv ((Int.gcd n d:Nat):Int)) (d.fdiv ((Int.gcd n d:Nat):Int)):=by
 unfold dR cR
 rw[Rat.num_divInt,Rat.den_divInt,if_neg (by omega),Int.sign_eq_one_of_pos hd,Int.one_mul,Int.gcd_comm d n,Int.fdiv_eq_ediv_of_nonneg _ (by omega),Int.fdiv_eq_ediv_of_nonneg _ (by omega)]
 rw[show((d.natAbs/Int.gcd n d:Nat):Int)=d/((Int.gcd n d:Nat):Int) from by rw[Int.natCast_ediv];rw[show((d.natAbs:Nat):Int)=d from by omega]]
 rfl
theorem qE {n d:Int}(hd:0<d) (hg:((Int.gcd n d:Nat):Int)=1):dR (Rat.divInt n d)=dQ n d:=by
 rw[sf hd,hg,Int.fdiv_one,Int.fdiv_one]
theorem y9 {n d:Int}:dR (Rat.divInt n d)=dR (Rat.divInt (-n) (-d)):=by rw[Rat.neg_divInt_neg]
theorem vD {n d:Int}(h:d≠0):((Int.gcd n d:Nat):Int)≠0:=by
 have:Int.gcd n d≠0:=fun e=>h (Int.gcd_eq_zero_iff.1 e).2
 omega
theorem kL {x y:Rat}:cK (x.num*(y.den:Int)) (y.num*(x.den:Int))=if x<y then-1 else if y<x then 1 else 0:=by
 unfold cK
 simp only[Rat.lt_iff]
def bd (x y:Rat):Int:=if x<y then-1 else if y<x then 1 else 0
theorem mB {x:Rat}:cK x.num 0=bd x 0:=by
 unfold bd
 rw[←kL]
 simp
theorem Gh {x:Rat}{n d:Int}(h1:x.num=n) (h2:(x.den:Int)=d):dR x=dQ n d:=by unfold dR cR;rw[h1,h2];rfl
theorem FS {n:Int}:dR (n:Rat)=dQ n 1:=Gh (Rat.num_intCast n) (by rw[Rat.den_intCast];rfl)
def sQ (x:Int):Bool:=bE x*bE x==x
def iX (x:Rat):Bool:=sQ x.num&&sQ (x.den:Int)
theorem uI {x:Int}(h:x<0):sQ x=false:=by unfold sQ;rw[ml h];simp;omega
theorem eY {a b:Int}(ha:a≠0) (hb:b≠0):a*b≠0:=fun e=>by rcases Int.mul_eq_zero.1 e with h|h<;>contradiction
theorem Gd {x:Rat}(h:x≠0):x.num≠0:=fun e=>h (Rat.num_eq_zero.1 e)
theorem Sz.isq {k:Nat}{x:Int}(h:Sz k x):Sz k (bE x):=h.of_le Gu
theorem zV {x:Rat}(h:(bd x 0==0)=true):x=0:=by rw[←mB] at h;exact Rat.num_eq_zero.1 (II h)
theorem v9 {x y:Rat}:bd x y=0↔x=y:=by
 unfold bd
 rw[←kL,n5,Rat.eq_iff_mul_eq_mul]
theorem xL {x y:Rat}:bd x y<0↔x<y:=by
 unfold bd
 rw[←kL,sC,Rat.lt_iff]
theorem xn {x y:Rat}:0<bd x y↔y<x:=by
 unfold bd
 rw[←kL,qY,Rat.lt_iff]
theorem tC {x:Rat}:bd x 0=cK x.num 0:=mB.symm
theorem yH {x y:Rat}(h:(cK (bd x 0) (bd y 0) !=0)=true):cK (bd x 0) (bd y 0)=bd x y:=by
 have h1:=PZ h
 rw[tC,tC] at*
 have px:=den_pos x
 have py:=den_pos y
 have e1: ∀ {a b:Int},a<0→0<b→a*b<0:=fun ha hb=>Int.mul_neg_of_neg_of_pos ha hb
 have hr:bd x y=cK (x.num*(y.den:Int)) (y.num*(x.den:Int)):=by unfold bd;rw[←kL]
 rw[hr]
 rcases Int.lt_trichotomy x.num 0 with hx|hx|hx<;>rcases Int.lt_trichotomy y.num 0 with hy|hy|hy
 ·rw[dj hx,dj hy] at h1;exact absurd rfl h1
 ·rw[dj hx,fl hy,dj (a:= -1) (by decide),dj]
  rw[hy,Int.zero_mul];exact e1 hx py
 ·rw[dj hx,dt hy,dj (a:= -1) (by decide),dj]
  have:=e1 hx py
  have:=Int.mul_pos hy px
  omega
 ·rw[fl hx,dj hy,dt (a:=0) (by decide),dt]
  rw[hx,Int.zero_mul];exact e1 hy px
 ·rw[fl hx,fl hy] at h1;exact absurd rfl h1
 ·rw[fl hx,dt hy,dj (a:=0) (by decide),dj]
  rw[hx,Int.zero_mul];exact Int.mul_pos hy px
 ·rw[dt hx,dj hy,dt (a:=1) (by decide),dt]
  have:=e1 hy px
  have:=Int.mul_pos hx py
  omega
 ·rw[dt hx,fl hy,dt (a:=1) (by decide),dt]
  rw[hy,Int.zero_mul];exact Int.mul_pos hx py
 ·rw[dt hx,dt hy] at h1;exact absurd rfl h1
theorem x8 {x y:Rat}:bd x y=cK (x.num*(y.den:Int)) (y.num*(x.den:Int)):=by unfold bd;rw[←kL]
theorem e7 {x:Int}(h:((if x<0 then(7:Int) else 0)==0)=false):x<0:=by
 by_cases hx:x<0
 ·exact hx
 ·rw[if_neg hx] at h;cases h
theorem Md {x y:Rat}(h:(x.num==y.num)=false):decide (x=y)=false:=by
 simp only[beq_eq_false_iff_ne,ne_eq] at h
 rw[decide_eq_false_iff_not]
 exact fun e=>h (by rw[e])
theorem MC {x y:Rat}(h:(x.num==y.num)=true):decide (x=y)=((x.den:Int)==(y.den:Int)):=by
 simp only[beq_iff_eq] at h
 rw[Bool.eq_iff_iff,decide_eq_true_eq,beq_iff_eq]
 exact⟨fun e=>by rw[e],fun e=>Rat.ext h (by omega)⟩
theorem BE {x:Int}:sQ x=(cK (bE x*bE x) x==0):=by
 unfold sQ
 rcases Int.lt_trichotomy (bE x*bE x) x with h|h|h
 ·rw[dj h];simp;omega
 ·rw[fl h];simp;omega
 ·rw[dt h];simp;omega
theorem J3 {x:Rat}(h:sQ x.num=true) (h2:sQ (x.den:Int)=true):iX x=true:=by unfold iX;rw[h,h2];rfl
theorem Dp {x:Rat}(h:sQ x.num=false):iX x=false:=by unfold iX;rw[h];rfl
theorem FF {x:Rat}(h:sQ (x.den:Int)=false):iX x=false:=by unfold iX;rw[h];cases sQ x.num<;>rfl
theorem qO:dQ 0 0=.a (([.b false]++[.s 0 []])++([.b false]++[.s 0 []])):=by
 have h:cI 0=[.b false]++[.s 0 []]:=by
  have:=nW
  unfold dI at this
  injection this
 unfold dQ cQ
 rw[h]
theorem Sz.fdiv {k:Nat}{x y:Int}(h:Sz k x):Sz k (x.fdiv y):=h.of_le (by
 have h0: ∀a b:Nat,a/b≤a:=fun a b=>Nat.div_le_self a b
 rcases Int.lt_trichotomy y 0 with hy|hy|hy
 ·rw[←Int.neg_fdiv_neg,Int.fdiv_eq_ediv_of_nonneg _ (by omega)]
  have h2:(-x/ -y).natAbs≤(-x).natAbs:=l8 _ _
  omega
 ·subst hy;simp
 ·rw[Int.fdiv_eq_ediv_of_nonneg _ (by omega)]
  exact l8 x y)
section
variable {P:Program}{ops:Array Oper}{T:TF}{B:BF}
theorem Ba {dst:Option Nat}{x y:Operand}{t1 t2:TypeId}{ty:TypeId}{pos:String}{af:Array Edge}{g:Option (Nat×Bool)}{k:IntKind}{m n:Int}
 (hx:cq T x=some (.v (.c (.i k m)))) (hy:cq T y=some (.v (.c (.i k n)))) (hg:gd ops ⟨dst,.call ⟨.builtin .max,#[x,y],#[t1,t2]⟩,ty,pos,af,g⟩ T=some true):
 Sem P ops ⟨dst,.call ⟨.builtin .max,#[x,y],#[t1,t2]⟩,ty,pos,af,g⟩ T B (.r (.v (.c (.i k (max m n))))):=
 bG hg (lv rfl) (fun V β a w hs=>by
  have e1:a.eval x=.int k m:=RdC.int_eq (aG hs (x:=x) (by simp[Op.operands,Call.operands]) hx)
  have e2:a.eval y=.int k n:=RdC.int_eq (aG hs (x:=y) (by simp[Op.operands,Call.operands]) hy)
  refine⟨.int k (max m n),?_,.i _ _⟩
  simp[execOp,resolve,invoke,builtin,Builtin.max_,Builtin.max2,e1,e2]
  split<;>omega)
theorem GR {dst:Option Nat}{x y:Operand}{t1 t2:TypeId}{ty:TypeId}{pos:String}{af:Array Edge}{g:Option (Nat×Bool)}{k:IntKind}{m n:Int}
 (hx:cq T x=some (.v (.c (.i k m)))) (hy:cq T y=some (.v (.c (.i k n)))) (hg:gd ops ⟨dst,.call ⟨.builtin .min,#[x,y],#[t1,t2]⟩,ty,pos,af,g⟩ T=some true):
 Sem P ops ⟨dst,.call ⟨.builtin .min,#[x,y],#[t1,t2]⟩,ty,pos,af,g⟩ T B (.r (.v (.c (.i k (min m n))))):=
 bG hg (lv rfl) (fun V β a w hs=>by
  have e1:a.eval x=.int k m:=RdC.int_eq (aG hs (x:=x) (by simp[Op.operands,Call.operands]) hx)
  have e2:a.eval y=.int k n:=RdC.int_eq (aG hs (x:=y) (by simp[Op.operands,Call.operands]) hy)
  refine⟨.int k (min m n),?_,.i _ _⟩
  simp[execOp,resolve,invoke,builtin,Builtin.min_,Builtin.min2,e1,e2]
  split<;>omega)
end
theorem cW {P:Program}{ops:Array Oper}{T:TF}{B:BF}{dst:Option Nat}{U e:TypeId}{ps:Array (Nat×Operand)}{ty:TypeId}{pos:String}{af:Array Edge}{g:Option (Nat×Bool)}{n m by_:Nat}{zs us:List CellD}{dps:List (Nat×D0)}
 (hU:nd P U=some (e,m,by_,zs)) (hp:mj T ps.toList=some dps) (hf:nj (fun i=>some (i*m,m)) (List.replicate n zs).flatten dps=some us) (hl:us.length=n*m) (hn:n*m≤16777216) (hm:0<n*m)
 (hg:gd ops ⟨dst,.buildSlice U n ps,ty,pos,af,g⟩ T=some true):Sem P ops ⟨dst,.buildSlice U n ps,ty,pos,af,g⟩ T B (.r (.v (.c (.s n us)))):=by
 have h:=kj (B:=B) hU hp hf hn hm hg
 refine⟨lv rfl,fun V β a w hs=>?_⟩
 obtain⟨hw,hg⟩:=h V β a w hs
 refine⟨hw,hg.mono ?_⟩
 rintro v w' ⟨vs,rfl,rfl,hr⟩
 refine⟨?_,(Below.refl _ w).alloc (Nat.le_refl _) _⟩
 have hkeep:=Keep.below (av:=V) ((Below.refl w.heap.size w).alloc (Nat.le_refl _) (.cells vs e))
 have hr2:=hr.keep hkeep
 have hvl:vs.size=n*m:=by have:=hr.1;rw[hl] at this;simpa using this
 have hn0:0<n:=by
  rcases Nat.eq_zero_or_pos n with h0|h0
  ·rw[h0,Nat.zero_mul] at hm;omega
  ·exact h0
 have hm0:0<m:=by
  rcases Nat.eq_zero_or_pos m with h0|h0
  ·rw[h0,Nat.mul_zero] at hm;omega
  ·exact h0
 have hnm:n≤n*m:=Nat.le_mul_of_pos_right n hm0
 refine .s w.heap.size 0 n m n _ (fun j=>vs.getD j undef) hn0 (Nat.le_refl _) (by omega) hl (by simp) (fun h=>by have:=hs.av _ h;omega) (fun j hj=>?_) (fun j u hj=>?_)
 ·rw[Nat.zero_add,bq (heap_alloc_new w (.cells vs e))]
  have:j<vs.size:=by omega
  simp[Array.getD,this]
 ·have hlt:j<n*m:=by have:=(List.getElem?_eq_some_iff.1 hj).1;omega
  refine hr2.2 j _ u ?_ hj
  rw[Array.getElem?_toList]
  have:j<vs.size:=by omega
  simp[Array.getD,this]
theorem df {P:Program}{ops:Array Oper}{o:Oper}{T:TF}{B:BF}{b c:Bool}(h:Sem P ops o T B (.r (.v (.c (.b b))))) (e:b=c):Sem P ops o T B (.r (.v (.c (.b c)))):=by subst e;exact h
theorem ff {a b:Int}(h0: -9223372036854775808≤a*b) (h1:a*b≤9223372036854775807):sO .mul .i64 a b=some (a*b):=congrArg some (l9 h0 h1)
section
variable {P:Program}{f:FuncId}{ds rs:List D0}{x y z u v x' y' z' u' v':Rat}
theorem cJ (h:Ok P f ds [dR x]) (e:x=x'):Ok P f ds [dR x']:=by subst e;exact h
theorem rX (h:Ok P f ds [.a (cR x++cR y++cR z)]) (e1:x=x') (e2:y=y') (e3:z=z'):Ok P f ds [.a (cR x'++cR y'++cR z')]:=by subst e1 e2 e3;exact h
theorem Fe {b c:Bool}(h:Ok P f ds [.c (.b b)]) (e:b=c):Ok P f ds [.c (.b c)]:=by subst e;exact h
theorem GA {b c:Int}(h:Ok P f ds [.c (.i .i64 b)]) (e:b=c):Ok P f ds [.c (.i .i64 c)]:=by subst e;exact h
end
theorem qP {x y:Rat}:bd x y≤0↔x≤y:=by
 unfold bd
 split
 ·rename_i h;exact⟨fun _=>by grind,fun _=>by omega⟩
 ·split
  ·rename_i h;exact⟨fun h2=>by omega,fun h2=>by grind⟩
  ·rename_i h1 h2;exact⟨fun _=>by grind,fun _=>by omega⟩
theorem HM {x y:Rat}:bd x y≥0↔y≤x:=by
 unfold bd
 split
 ·rename_i h;exact⟨fun _=>by omega,fun _=>by grind⟩
 ·split
  ·rename_i h;exact⟨fun h2=>by grind,fun h2=>by omega⟩
  ·rename_i h1 h2;exact⟨fun _=>by grind,fun _=>by omega⟩
theorem Rz.num {n:Int}(h0: -9223372036854775808≤n) (h1:n≤9223372036854775807):Rz 3 (n:Rat):=Rz.int (Sz.small (by decide) h0 h1) (by decide)
def Iu (xs:List Int):Prop:= ∀x∈xs,0≤x∧x≤4294967295
theorem D3 {xs:List Int}(h:Iu xs) (i:Nat):0≤xs.getD i 0∧xs.getD i 0≤4294967295:=by
 by_cases hi:i<xs.length
 ·have:xs.getD i 0=xs[i]:=by simp[List.getD,hi]
  rw[this];exact h _ (List.getElem_mem hi)
 ·have:xs.getD i 0=0:=by rw[List.getD,List.getElem?_eq_none (by omega)];rfl
  rw[this];omega
def vI (neg:Bool) (xs:List Int):Bool:=xs.all (fun x=>decide (x<1000000000))&&((trm xs).length==xs.length)&&(!neg||decide (0<xs.length))
theorem LW {neg:Bool}{xs:List Int}{k:Nat}(hk:k<xs.length) (h:xs.getD k 0≥1000000000):vI neg xs=false:=by
 have h1:xs.all (fun x=>decide (x<1000000000))=false:=by
  rw[Bool.eq_false_iff]
  intro hall
  have h2:=List.all_eq_true.1 hall xs[k] (List.getElem_mem hk)
  have h3:xs.getD k 0=xs[k]:=by simp[List.getD,hk]
  simp only[decide_eq_true_eq] at h2
  omega
 unfold vI
 rw[h1];rfl
theorem zU {xs:List Int}(hb:Iu xs) (h: ∀k,k<xs.length→xs.getD k 0<1000000000):Lim xs:=by
 intro x hx
 obtain⟨i,hi,rfl⟩:=List.getElem_of_mem hx
 have h1:=h i hi
 have h3:xs.getD i 0=xs[i]:=by simp[List.getD,hi]
 have:=hb xs[i] (List.getElem_mem hi)
 omega
theorem rA {xs:List Int}(h:Lim xs):xs.all (fun x=>decide (x<1000000000))=true:=List.all_eq_true.2 fun x hx=>by have:=h x hx;simp;omega
theorem L0 {neg:Bool}{xs:List Int}(h:Lim xs):vI neg xs=(((trm xs).length==xs.length)&&(!neg||decide (0<xs.length))):=by
 unfold vI;rw[rA h];rfl
theorem zE {neg:Bool}{xs:List Int}(h:Lim xs):vI neg xs=((((cb (aE xs).natAbs).length:Int)==(xs.length:Int))&&(!neg||decide ((xs.length:Int)>0))):=by
 rw[L0 h,Bw h]
 congr 1
 ·rw[Bool.eq_iff_iff,beq_iff_eq,beq_iff_eq];omega
 ·simp
theorem Az {x y:Int}(hx:Sz 1000000 x) (hy:Sz 1000000 y):Ok Tryz.prog 241 [dI x,dI y] [dI (Int.gcd x y:Int)]:=by
 refine Ok.fn Tryz.func241 61 [.cell 4 29] rfl<|aa<|ab<|am 2<|az (ah cE rfl) rfl<|ap<|aa<|aN 8 rfl rfl<|an 2<|ag (aj rfl (kW))<|an 2<|ag (aj rfl (kW))<|ba (ah cE rfl) rfl<|ba (ah cE rfl) rfl ?_
 refine aR<|cf<|ai<|aa<|a8<|cz (ι:={p:Int×Int // GInv x y p.1 p.2}) (fun i=>⟨61,[(4,.p 4 0),(5,.p 5 0),(6,.p 6 0)],[(4,29,([.b false]++[.s 0 []])),(5,29,cI i.1.1),(6,29,cI i.1.2)]⟩) (fun i=>i.1.2.toNat) ⟨(sg false (x.natAbs:Int),sg false (y.natAbs:Int)),GInv.start hx hy⟩ (aW ⟨rfl,rfl,rfl,trivial⟩ ⟨rfl,rfl,rfl,trivial⟩ rfl) ?_
 rintro⟨⟨a,c⟩,hg⟩
 replace hg:GInv x y a c:=hg
 have ha:=hg.sa
 have hcc:=hg.sc
 show Dw _ _ ⟨61,[(4,.p 4 0),(5,.p 5 0),(6,.p 6 0)],[(4,29,([.b false]++[.s 0 []])),(5,29,cI a),(6,29,cI c)]⟩ _
 refine aa<|aa<|ab<|ai ?_
 refine ay rfl (fun hc1=>?_) (fun hc1=>?_)
 ·have hne:=j7 hc1
  refine aq<|a8<|aa<|ab<|am 1<|ak (aj rfl (xr))<|ai<|aa<|ab<|am 1<|ak (aj rfl (xr))<|ai<|aa<|aa ?_
  refine ab<|am 1 ?_
  refine dh (ca rfl) (fun c2 hb2=>?_)
  cases c2
  ·refine ai<|bj rfl<|aq<|aa<|ab<|am 4<|ak (aj rfl (nE (by assumption) (by assumption) (by assumption)))<|ai<|aN 3 rfl rfl<|an 2<|ag (aj rfl (gh))<|aR<|ar<|ai ?_
   exact⟨⟨(c,sg false ((a.natAbs:Int)%c.natAbs)),hg.step hne⟩,aW ⟨rfl,rfl,rfl,trivial⟩ ⟨rfl,rfl,rfl,trivial⟩ rfl,hg.less hne⟩
  ·refine ai ?_
   refine ay rfl (fun hc3=>?_) (fun hc3=>?_)
   ·refine aa<|a8<|cz (ι:={p:Int×Int // GInv2 x y p.1 p.2}) (fun i=>⟨61,[(4,.p 4 0),(7,.v (.c (.i .u64 i.1.1))),(9,.v (.c (.i .u64 i.1.2)))],[(4,29,([.b false]++[.s 0 []]))]⟩) (fun i=>i.1.2.toNat) ⟨(if a.natAbs<1000000000000000000 then(a.natAbs:Int) else 0,if c.natAbs<1000000000000000000 then(c.natAbs:Int) else 0),hg.word hb2 hc3⟩ (aW ⟨rfl,rfl,rfl,trivial⟩ ⟨rfl,trivial⟩ rfl) ?_
    rintro⟨⟨u,v⟩,hw⟩
    replace hw:GInv2 x y u v:=hw
    show Dw _ _ ⟨61,[(4,.p 4 0),(7,.v (.c (.i .u64 u))),(9,.v (.c (.i .u64 v)))],[(4,29,([.b false]++[.s 0 []]))]⟩ _
    refine aa<|aa<|ab<|ai ?_
    refine ay rfl (fun hc4=>?_) (fun hc4=>?_)
    ·have hv:v>0:=by simpa using hc4
     refine aq<|a8<|aN 6 rfl rfl<|an 3<|ag (vm rfl rfl (by omega) rfl) ?_
     refine bK<|ar<|ap ?_
     exact⟨⟨(v,u.tmod v),hw.step hv⟩,aW ⟨rfl,rfl,rfl,trivial⟩ ⟨rfl,trivial⟩ rfl,hw.less hv⟩
    ·refine cd<|aa<|ab<|am 1<|ak (aj rfl (CW hw.u0 hw.u1))<|ak (aj rfl (gh))<|ai<|al ?_
     rw[hw.done (by simpa using hc4)]
     exact ao (bh bt rfl ae)
   ·refine aq<|aa<|ab<|am 4<|ak (aj rfl (nE (by assumption) (by assumption) (by assumption)))<|ai<|aN 3 rfl rfl<|an 2<|ag (aj rfl (gh))<|aR<|ar<|ai ?_
    exact⟨⟨(c,sg false ((a.natAbs:Int)%c.natAbs)),hg.step hne⟩,aW ⟨rfl,rfl,rfl,trivial⟩ ⟨rfl,rfl,rfl,trivial⟩ rfl,hg.less hne⟩
 ·refine cd<|aa<|ab<|am 2<|ak (D7 rfl (by assumption) rfl) ?_
  refine ak (aj rfl (kW))<|ai<|al ?_
  rw[hg.done (kp hc1)]
  exact ao (bh bt rfl ae)
theorem ja {x y:Int}(hx:Sz 1000000 x) (hy:Sz 1000000 y) (h0:y≠0):Ok Tryz.prog 310 [dI x,dI y] [dI (x.fdiv y),dI (x.fmod y),.c (.i .i64 0)]:=by
 have hq:Sz 1000000 (q0 x y):=hx.q0
 have hr:Sz 1000000 (r0 x y):=hy.r0 h0
 have h1:Sz 1000000 (1:Int):=Sz.small (by omega) (by omega) (by omega)
 refine Ok.fn Tryz.func310 55 [.cell 4 29,.cell 5 29,.tmp 6] rfl<|aa<|ab<|am 2<|az (ah cE rfl) rfl<|az (ah cE rfl) rfl<|ai<|aa<|aa<|ab<|ai ?_
 refine ay rfl (fun hc1=>?_) (fun hc1=>?_)
 ·exact absurd hc1 (by simp[cV,h0])
 ·refine aq<|aa<|ab<|am 4<|ak (aj rfl (nE (by assumption) (by assumption) (by assumption)))<|ai<|aa<|aN 13 rfl rfl<|an 4<|ag (eo rfl rfl eB rfl) ?_
  refine an 1<|ag (aj rfl (gh))<|an 3<|ag (aj rfl (gh))<|ba (ah cE rfl) rfl<|ba (ah cE rfl) rfl<|aR<|cf<|ai<|aa<|aa<|ab<|am 4 ?_
  refine dh (ca rfl) (fun c2 hb2=>?_)
  cases c2
  ·refine ai<|bj rfl<|aq<|aa<|cm 5 [4,5,999999] a7 (by kernel_rfl) rfl rfl<|an 2<|fU (fE bt rfl) rfl rfl rfl rfl<|fU (fE bt rfl) rfl rfl rfl rfl<|bK<|cf<|ap<|al ?_
   obtain⟨e1,e2⟩:=oP (x:=x) h0 (.inl (kp hb2))
   rw[e1,e2]
   exact ao (bh bt rfl (bh bt rfl (aC ae)))
  ·refine am 4<|ak (eo rfl rfl eB rfl) ?_
   refine ai ?_
   refine ay rfl (fun hc3=>?_) (fun hc3=>?_)
   ·--region 6
    refine aN 6 rfl rfl<|an 1<|ag (aj rfl (gF (by omega) (by omega)))<|ag (aj rfl (GS (by assumption) (by assumption)))<|an 2<|ag (aj rfl (n7 (by assumption) (by assumption)))<|aR<|ar<|ai<|aa<|cm 5 [4,5,999999] a7 (by kernel_rfl) rfl rfl<|an 2<|fU (fE bt rfl) rfl rfl rfl rfl<|fU (fE bt rfl) rfl rfl rfl rfl ?_
    refine bK<|cf<|ap<|al ?_
    obtain⟨e1,e2⟩:=xF (x:=x) h0 (j7 hb2) (vh hc3)
    rw[e1,e2]
    exact ao (bh bt rfl (bh bt rfl (aC ae)))
   ·refine aq<|aa<|cm 5 [4,5,999999] a7 (by kernel_rfl) rfl rfl<|an 2<|fU (fE bt rfl) rfl rfl rfl rfl<|fU (fE bt rfl) rfl rfl rfl rfl<|bK<|cf<|ap<|al ?_
    obtain⟨e1,e2⟩:=oP (x:=x) h0 (.inr (vt hc3))
    rw[e1,e2]
    exact ao (bh bt rfl (bh bt rfl (aC ae)))
theorem n9 {x:Int}:Ok Tryz.prog 148 [dI x] [.c (.i .i64 (cK x 0))]:=by
 refine Ok.fn Tryz.func148 9 [.tmp 2] rfl<|aa<|ab<|ai<|aa<|aa<|ab<|ai ?_
 refine ay rfl (fun hc1=>?_) (fun hc1=>?_)
 ·refine aa<|ab<|ai<|al ?_
  rw[fl (by have:=hc1;simp[cV] at this;omega)]
  exact ao (aC ae)
 ·refine aq<|aa<|aa<|ab<|ai ?_
  refine ay rfl (fun hc2=>?_) (fun hc2=>?_)
  ·refine aa<|ab<|ai<|al ?_
   rw[dj (by simpa using hc2)]
   exact ao (aC ae)
  ·refine aq<|aa<|ab<|ai<|al ?_
   rw[dt (by have:=hc1;have h2:=hc2;simp[cV] at this h2;omega)]
   exact ao (aC ae)
theorem BO {x y:Int}(hx:Sz 1000000 x) (hy:Sz 1000000 y):Ok Tryz.prog 224 [dI x,dI y] [.c (.i .i64 (cK x y))]:=by
 refine Ok.fn Tryz.func224 24 [.tmp 4] rfl<|aa<|ab<|ai<|aa<|aa<|ab<|am 4<|ak (eo rfl rfl eB rfl) ?_
 refine ap ?_
 refine ay rfl (fun hc1=>?_) (fun hc1=>?_)
 ·refine aa<|aa<|ab<|ai ?_
  refine ay rfl (fun hc2=>?_) (fun hc2=>?_)
  ·refine aa<|ab<|ai<|al ?_
   rw[dj (by have:=vh hc1;have h2:=hc2;simp only[decide_eq_true_eq] at h2;omega)]
   exact ao (aC ae)
  ·refine aq<|aa<|ab<|ai<|al ?_
   rw[dt (by have:=vh hc1;have h2:=hc2;simp only[decide_eq_false_iff_not] at h2;omega)]
   exact ao (aC ae)
 ·refine aq<|aa<|aa<|ab<|ai ?_
  refine ay rfl (fun hc3=>?_) (fun hc3=>?_)
  ·refine aa<|ab<|am 4<|ak (aj rfl (ji (by assumption) (by assumption)))<|ai<|al ?_
   rw[←vN hc3 (by have:=vt hc1;have h2:=hc3;simp only[decide_eq_true_eq] at h2;omega)]
   exact ao (aC ae)
  ·refine aq<|aa<|ab<|am 4<|ak (aj rfl (ji (by assumption) (by assumption)))<|ai<|al ?_
   rw[←vq hc3 (by have:=vt hc1;have h2:=hc3;simp only[decide_eq_false_iff_not] at h2;omega)]
   exact ao (aC ae)
theorem kv {x:Int}(h0: -9223372036854775808≤x) (h1:x≤9223372036854775807):Ok Tryz.prog 88 [.c (.i .i64 x)] [dI x]:=by
 refine Ok.fn Tryz.func88 14 [.cell 2 29] rfl<|aa<|ab<|az (ah cE rfl) rfl<|ap<|aa<|aa<|ab<|ai ?_
 refine ay rfl (fun hc1=>?_) (fun hc1=>?_)
 ·have hn:x<0:=by simpa using hc1
  refine aa<|ab<|am 1<|ak (bF (r:=x+18446744073709551616) r8 dH rfl (wv hn h0) rfl) ?_
  refine ak (eE (r:= -x) rfl (tA hn h0) rfl) ?_
  refine ak (aj rfl (kg (by omega) (by omega)))<|ak (aj rfl (fb (Sz.small3 (by omega) (by omega))))<|ai<|al ?_
  have hfin:dI x=dI (sg true (((-x).natAbs:Nat):Int)):=congrArg dI (by rw[dU];omega)
  rw[hfin]
  exact ao (bh bt rfl ae)
 ·have hn:0≤x:=by have:=hc1;simp at this;omega
  refine aq<|aa<|ab<|am 1<|ak (bF (r:=x) r8 dH rfl (fa (by omega) (by omega)) rfl) ?_
  refine ak (aj rfl (kg (by omega) (by omega)))<|ak (aj rfl (fb (Sz.small3 (by omega) (by omega))))<|ai<|al ?_
  have hfin:dI x=dI (sg false ((x.natAbs:Nat):Int)):=congrArg dI (by rw[bW];omega)
  rw[hfin]
  exact ao (bh bt rfl ae)
theorem qo {x:Int}(hx:Sz 1000000 x):Ok Tryz.prog 221 [dI x] [dI (-x)]:=by
 refine Ok.fn Tryz.func221 9 [.cell 2 29] rfl<|aa<|ab<|am 1<|az (ah cE rfl) rfl<|ap<|aa<|ab<|am 5<|ak (aj rfl (fb (by assumption)))<|ai<|al ?_
 rw[←LI (x:=x)]
 exact ao (bh bt rfl ae)
theorem ii {x y:Int}(hx:Sz 400000 x) (hy:Sz 400000 y):Ok Tryz.prog 147 [dI x,dI y] [dI (x*y)]:=by
 have hx6:Sz 1000000 x:=hx.m_
 have hy6:Sz 1000000 y:=hy.m_
 have hp:Sz 1000000 ((x.natAbs:Int)*(y.natAbs:Int)):=((vd hx).mul (vd hy)).m_
 refine Ok.fn Tryz.func147 16 [.cell 4 29] rfl<|aa<|ab<|am 2<|az (ah cE rfl) rfl<|ap<|aa<|aN 11 rfl rfl<|an 4<|ag (eo rfl rfl eB rfl) ?_
 refine an 4<|ag (aj rfl (Eh (by assumption) (by assumption)))<|ag (aj rfl (fb (by assumption)))<|aR<|ar<|ai<|al ?_
 rw[←MG (x:=x) (y:=y)]
 exact ao (bh bt rfl ae)
theorem qK {x y:Int}(hx:Sz 900000 x) (hy:Sz 900000 y):Ok Tryz.prog 229 [dI x,dI y] [dI (x+y)]:=by
 have hx6:Sz 1000000 x:=hx.m_
 have hy6:Sz 1000000 y:=hy.m_
 have hp:Sz 1000000 ((x.natAbs:Int)+(y.natAbs:Int)):=((vd (hx.mono (l:=999999) (by decide))).add (vd (hy.m_))).m_
 refine Ok.fn Tryz.func229 40 [.cell 4 29] rfl<|aa<|ab<|am 2<|az (ah cE rfl) rfl<|ap<|aa<|aa<|ab<|am 4<|ak (wj rfl rfl eB rfl) ?_
 refine ap ?_
 refine ay rfl (fun hc1=>?_) (fun hc1=>?_)
 ·refine aa<|aN 8 rfl rfl<|an 6<|ag (aj rfl (Jp (by assumption) (by assumption)))<|ag (aj rfl (fb (by assumption)))<|aR<|ar<|ai<|al ?_
  rw[←IB hc1]
  exact ao (bh bt rfl ae)
 ·refine aq<|aa<|aa<|ab<|am 4<|ak (aj rfl (ji (by assumption) (by assumption)))<|ai ?_
  refine ay rfl (fun hc2=>?_) (fun hc2=>?_)
  ·have hge:=uu hc2
   have hq:Sz 1000000 ((x.natAbs:Int)-(y.natAbs:Int)):=hx6.of_le (by omega)
   refine aa<|aN 8 rfl rfl<|an 6<|ag (aj rfl (oH (by assumption) (by omega)))<|ag (aj rfl (fb (by assumption)))<|aR<|ar<|ai<|al ?_
   rw[←OJ hc1 (by omega)]
   exact ao (bh bt rfl ae)
  ·have hge:=uC hc2
   have hq:Sz 1000000 ((y.natAbs:Int)-(x.natAbs:Int)):=hy6.of_le (by omega)
   refine aq<|aa<|aN 8 rfl rfl<|an 6<|ag (aj rfl (oH (by assumption) (by omega)))<|ag (aj rfl (fb (by assumption)))<|aR<|ar<|ai<|al ?_
   rw[←O3 hc1 (by omega)]
   exact ao (bh bt rfl ae)
theorem Jo {x y:Int}(hx:Sz 900000 x) (hy:Sz 900000 y):Ok Tryz.prog 300 [dI x,dI y] [dI (x-y)]:=by
 have hx6:Sz 1000000 x:=hx.m_
 have hy6:Sz 1000000 y:=hy.m_
 have hyn:Sz 900000 (-y):=hy.neg
 refine Ok.fn Tryz.func300 9 [.cell 4 29] rfl<|aa<|ab<|am 2<|az (ah cE rfl) rfl<|ap<|aa<|aN 4 rfl rfl<|an 2<|ag (aj rfl (qo (by assumption)))<|ag (aj rfl (qK (by assumption) (by assumption)))<|aR<|ar<|ai ?_
 refine al ?_
 rw[Int.sub_eq_add_neg]
 exact ao (bh bt rfl ae)
theorem ol {x y:Int}(hx:Sz 1000000 x) (hy:Sz 1000000 y):Ok Tryz.prog 135 [dI x,dI y] [.c (.b (x==y))]:=by
 refine Ok.fn Tryz.func135 18 [.tmp 4] rfl<|aa<|ab<|ai<|aa<|ab<|am 4<|ak (wj rfl rfl eB rfl) ?_
 refine dh (ca rfl) (fun c1 hb1=>?_)
 cases c1
 ·refine ai<|al ?_
  rw[show(x==y)=false from by have:=hb1;simp only[beq_eq_false_iff_ne,ne_eq] at this⊢;intro e;subst e;exact this rfl]
  exact ao (aC ae)
 ·refine am 4<|ak (aj rfl (ji (by assumption) (by assumption)))<|ai<|al ?_
  rw[←Fa hb1]
  exact ao (aC ae)
theorem g9 {x y:Int}(hx:Sz 200000 x) (hy:Sz 200000 y) (h0:y≠0):Ok Tryz.prog 223 [dI x,dI y] [dI (x.fdiv y),dI (x.fmod y),.c (.i .i64 0)]:=by
 have hq:Sz 900000 (q0 x y):=hx.q0.m_
 have hr:Sz 900000 (r0 x y):=(hy.r0 h0).m_
 have h1:Sz 900000 (1:Int):=Sz.small (by omega) (by omega) (by omega)
 have hy9:Sz 900000 y:=hy.m_
 have hqq:Sz 1000000 ((x.natAbs:Int)/y.natAbs):=N6 hx
 have hrr:Sz 1000000 ((x.natAbs:Int)%y.natAbs):=O8 hy h0
 refine Ok.fn Tryz.func223 54 [.cell 4 29,.cell 5 29,.tmp 6] rfl<|aa<|ab<|am 2<|az (ah cE rfl) rfl<|az (ah cE rfl) rfl<|ai<|aa<|aa<|ab<|ai ?_
 refine ay rfl (fun hc1=>?_) (fun hc1=>?_)
 ·exact absurd hc1 (by simp[cV,h0])
 ·refine aq<|aa<|ab<|am 4<|ak (aj rfl (rI (by assumption) (by assumption) (by assumption)))<|ai<|aa<|aN 13 rfl rfl<|an 4<|ag (eo rfl rfl eB rfl) ?_
  refine an 1<|ag (aj rfl (zr hqq))<|an 3<|ag (aj rfl (zI h0 hrr))<|ba (ah cE rfl) rfl<|ba (ah cE rfl) rfl<|aR<|cf<|ai<|aa<|aa<|ab<|am 3 ?_
  refine dh (ca rfl) (fun c2 hb2=>?_)
  cases c2
  ·refine ai<|bj rfl<|aq<|aa<|cm 5 [4,5,999999] a7 (by kernel_rfl) rfl rfl<|an 2<|fU (fE bt rfl) rfl rfl rfl rfl<|fU (fE bt rfl) rfl rfl rfl rfl<|bK<|cf<|ap<|al ?_
   obtain⟨e1,e2⟩:=oP (x:=x) h0 (.inl (BI.1 (kp hb2)))
   rw[e1,e2]
   exact ao (bh bt rfl (bh bt rfl (aC ae)))
  ·refine am 4<|ak (eo rfl rfl eB rfl) ?_
   refine ai ?_
   refine ay rfl (fun hc3=>?_) (fun hc3=>?_)
   ·--region 6
    refine aN 6 rfl rfl<|an 1<|ag (aj rfl (kv (by omega) (by omega)))<|ag (aj rfl (Jo (by assumption) (by assumption)))<|an 2<|ag (aj rfl (qK (by assumption) (by assumption)))<|aR<|ar<|ai<|aa<|cm 5 [4,5,999999] a7 (by kernel_rfl) rfl rfl<|an 2<|fU (fE bt rfl) rfl rfl rfl rfl<|fU (fE bt rfl) rfl rfl rfl rfl ?_
    refine bK<|cf<|ap<|al ?_
    obtain⟨e1,e2⟩:=xF (x:=x) h0 (fun e=>j7 hb2 (BI.2 e)) (by rw[AY h0 (j7 hb2)];exact vh hc3)
    rw[e1,e2]
    exact ao (bh bt rfl (bh bt rfl (aC ae)))
   ·refine aq<|aa<|cm 5 [4,5,999999] a7 (by kernel_rfl) rfl rfl<|an 2<|fU (fE bt rfl) rfl rfl rfl rfl<|fU (fE bt rfl) rfl rfl rfl rfl<|bK<|cf<|ap<|al ?_
    obtain⟨e1,e2⟩:=oP (x:=x) h0 (.inr (by rw[AY h0 (j7 hb2)];exact vt hc3))
    rw[e1,e2]
    exact ao (bh bt rfl (bh bt rfl (aC ae)))
theorem ut {x y:Int}(hx:Sz 200000 x) (hy:Sz 200000 y):Ok Tryz.prog 222 [dI x,dI y] [dI (Int.gcd x y:Int)]:=by
 refine Ok.fn Tryz.func222 54 [.cell 4 29] rfl<|aa<|ab<|am 2<|az (ah cE rfl) rfl<|ap<|aa<|aN 6 rfl rfl<|bK<|ar<|ap<|aa<|a8<|cz (ι:={p:Int×Int // RG x y p.1 p.2}) (fun i=>⟨54,[(4,.p 4 0),(5,.v (.c (cL i.1.1))),(6,.v (.c (cL i.1.2)))],[(4,29,([.b false]++[.s 0 []]))]⟩) (fun i=>i.1.2.toNat) ⟨((x.natAbs:Int),(y.natAbs:Int)),RG.start hx hy⟩ (aW ⟨rfl,by rw[Gj x];rfl,by rw[Gj y];rfl,trivial⟩ ⟨rfl,trivial⟩ rfl) ?_
 rintro⟨⟨a,c⟩,hg⟩
 replace hg:RG x y a c:=hg
 have ha:=hg.sa
 have hcc:=hg.sc
 have ha0:=hg.a0
 have hcc0:=hg.c0
 have ha6:Sz 1000000 a:=ha.m_
 show Dw _ _ ⟨54,[(4,.p 4 0),(5,.v (.c (cL a))),(6,.v (.c (cL c)))],[(4,29,([.b false]++[.s 0 []]))]⟩ _
 refine aa<|aa<|ab<|am 3 ?_
 refine dh (ca rfl) (fun c1 hb1=>?_)
 cases c1
 ·refine ai<|bj rfl<|cd<|aa<|aa<|ab<|ai ?_
  refine ay rfl (fun hc2=>?_) (fun hc2=>?_)
  ·refine aa<|ab<|am 1<|ak (aj rfl (fb (by assumption)))<|ai<|al ?_
   rw[hg.done (kp hb1)]
   exact ao (bh bt rfl ae)
  ·exact absurd hc2 (by simp[cV,kp hb1])
 ·have hne:=j7 hb1
  refine am 3 ?_
  refine dh (ca rfl) (fun c3 hb3=>?_)
  cases c3
  ·have hwa:=A6 hb3
   refine ai ?_
   refine ay rfl (fun hc4=>?_) (fun hc4=>?_)
   ·refine aq<|a8<|aa<|ab<|am 2<|ak (aj rfl (rI (by assumption) (by assumption) (by assumption)))<|ai<|ab<|ai ?_
    exact⟨⟨(c,(a.natAbs:Int)%c.natAbs),hg.step hne⟩,aW ⟨rfl,rfl,rfl,trivial⟩ ⟨rfl,trivial⟩ rfl,hg.less hne⟩
   ·have hwc:=A6 hc4
    refine cd<|aa<|aa<|ab<|ai ?_
    refine ay rfl (fun hc5=>?_) (fun hc5=>?_)
    ·exact absurd hc5 (by simp[cV,hne])
    ·refine aq<|aa<|ab<|am 1<|ak (aj rfl (wH (by assumption)))<|am 1<|ak (aj rfl (wH (by assumption)))<|ai<|aa<|a8<|cz (ι:={p:Int×Int // GInv2 x y p.1 p.2}) (fun i=>⟨54,[(4,.p 4 0),(9,.v (.c (.i .u64 i.1.1))),(10,.v (.c (.i .u64 i.1.2)))],[(4,29,([.b false]++[.s 0 []]))]⟩) (fun i=>i.1.2.toNat) ⟨((a.natAbs:Int),(c.natAbs:Int)),hg.word hwa hwc⟩ (aW ⟨rfl,rfl,rfl,trivial⟩ ⟨rfl,trivial⟩ rfl) ?_
     rintro⟨⟨u,v⟩,hw⟩
     replace hw:GInv2 x y u v:=hw
     have hu0:=hw.u0
     have hu1:=hw.u1
     have hsu:Sz 1000000 u:=Sz.small3 hu0 hu1
     show Dw _ _ ⟨54,[(4,.p 4 0),(9,.v (.c (.i .u64 u))),(10,.v (.c (.i .u64 v)))],[(4,29,([.b false]++[.s 0 []]))]⟩ _
     refine aa<|aa<|ab<|ai ?_
     refine ay rfl (fun hc6=>?_) (fun hc6=>?_)
     ·have hv:v>0:=by simpa using hc6
      have hvn:v≠0:=by omega
      refine aq<|a8<|aN 6 rfl rfl<|an 3<|ag (vm rfl rfl (by omega) rfl) ?_
      refine bK<|ar<|ap ?_
      exact⟨⟨(v,u.tmod v),hw.step hv⟩,aW ⟨rfl,rfl,rfl,trivial⟩ ⟨rfl,trivial⟩ rfl,hw.less hv⟩
     ·refine cd<|aa<|ab<|am 1<|ak (aj rfl (kg (by omega) (by omega)))<|ak (aj rfl (fb (by assumption)))<|ai<|al ?_
      rw[hw.fin (by simpa using hc6)]
      exact ao (bh bt rfl ae)
  ·refine ai<|bP rfl<|aq<|a8<|aa<|ab<|am 2<|ak (aj rfl (rI (by assumption) (by assumption) (by assumption)))<|ai<|ab<|ai ?_
   exact⟨⟨(c,(a.natAbs:Int)%c.natAbs),hg.step hne⟩,aW ⟨rfl,rfl,rfl,trivial⟩ ⟨rfl,trivial⟩ rfl,hg.less hne⟩
theorem rN {x:Int}(hx:Sz 999999 x):Ok Tryz.prog 313 [dI x] [dI (bE x),.c (.i .i64 (if x<0 then 7 else 0))]:=by
 have h20:(2:Int)≠0:=by decide
 have hl:=ep hx
 have hs2:Sz 1000000 (2:Int):=Sz.small (by omega) (by omega) (by omega)
 refine Ok.fn Tryz.func313 54 [.cell 2 29,.tmp 3] rfl<|aa<|ab<|am 1<|az (ah cE rfl) rfl<|ai<|aa<|aa<|ab<|ai ?_
 refine ay rfl (fun hc1=>?_) (fun hc1=>?_)
 ·have hn:x<0:=by simpa using hc1
  refine aa<|ab<|ak (aD (us:=([.b false]++[.s 0 []])) zJ cE rfl rfl rfl) ?_
  refine ai<|al ?_
  rw[ml hn,if_pos hn,nW]
  exact ao (bh bt rfl (aC ae))
 ·have hn:0≤x:=by have:=hc1;simp at this;omega
  refine aq<|aa<|aa<|ab<|ai ?_
  refine ay rfl (fun hc2=>?_) (fun hc2=>?_)
  ·have hz:x=0:=by have:=hc2;simp[cV] at this;omega
   refine aa<|ab<|ak (aD (us:=([.b false]++[.s 0 []])) zJ cE rfl rfl rfl) ?_
   refine ai<|al ?_
   rw[hz,sZ,nW,if_neg (by omega)]
   exact ao (bh bt rfl (aC ae))
  ·have hx0:0<x:=by have:=hc2;simp[cV] at this;omega
   obtain⟨k,hk⟩: ∃k:Nat,((cb x.natAbs).length+1)/2=k:=⟨_,rfl⟩
   have hpk:=cD k
   have hpc:cL (pw k)=cL (pw k):=rfl
   refine aq<|aa<|ab<|am 3<|ak (aJ (r:=(((cb x.natAbs).length:Int))+1) rfl rfl (aT (by omega) (by omega)) rfl) ?_
   refine ak (fK (r:=(k:Int)) rfl rfl (by omega) (by rw[Int.tdiv_eq_ediv_of_nonneg (by omega),show(((cb x.natAbs).length:Int)+1)/2=(k:Int) from by omega];exact l9 (by omega) (by omega)) rfl) ?_
   refine ai<|aa<|ab<|am 1<|lH (iE (n:=k) nn rfl rfl (by omega) (by omega) rfl) rfl ?_
   refine ak (nD nn rfl rfl) ?_
   refine LH (ng nn rfl rfl rfl (by omega) rfl) ?_
   refine ak (aj rfl (kW))<|az (ah cE rfl) rfl<|ai<|aa<|ab<|ak (aj rfl (gF (by omega) (by omega)))<|az (ah cE rfl) rfl<|ai<|a8<|cz (ι:={r:Int // NInv 999999 x r}) (fun i=>⟨54,[(1,.p 1 0),(2,.p 2 0),(3,.v (.c (.i .i64 0))),(5,.p 5 0),(6,.p 6 0)],[(1,29,cI x),(2,29,([.b false]++[.s 0 []])),(5,29,cI i.1),(6,29,cI 2)]⟩) (fun i=>i.1.toNat) ⟨pw k,NInv.start hx0 hx hk (by omega)⟩ (aW ⟨rfl,rfl,rfl,rfl,rfl,trivial⟩ ⟨rfl,rfl,by rw[show sg false (((pw k).natAbs:Nat):Int)=pw k from by rw[bW];have:=cD k;omega];rfl,rfl,trivial⟩ rfl) ?_
   rintro⟨r,hg⟩
   replace hg:NInv 999999 x r:=hg
   have hsr:=hg.sz
   have hr0:=hg.r0
   have hrn:r≠0:=by omega
   obtain⟨hsq,hsum,hsn⟩:=hg.sum hx hx0
   have a1:Sz 1000000 r:=hsr.m_
   have a2:Sz 1000000 (x.fdiv r):=hsq.m_
   have a3:Sz 1000000 x:=hx.m_
   show Dw _ _ ⟨54,[(1,.p 1 0),(2,.p 2 0),(3,.v (.c (.i .i64 0))),(5,.p 5 0),(6,.p 6 0)],[(1,29,cI x),(2,29,([.b false]++[.s 0 []])),(5,29,cI r),(6,29,cI 2)]⟩ _
   refine a8<|aa<|ab<|am 2<|ak (aj rfl (ja (by assumption) (by assumption) (by assumption)))<|am 4<|az (ah cE rfl) rfl<|az (ah cE rfl) rfl<|ai<|aa<|cm 14 [10,11,999999] a7 (by kernel_rfl) rfl rfl<|an 2<|ag (aj rfl (n7 (by assumption) (by assumption)))<|an 1 ?_
   refine ag (aj rfl (ja (by assumption) (by assumption) (by assumption)))<|an 4<|ba (ah cE rfl) rfl<|ba (ah cE rfl) rfl<|iz (fE bt rfl) rfl rfl rfl rfl<|iz (fE bt rfl) rfl rfl rfl rfl<|bK<|fz<|ap<|aa<|aa<|ab<|am 2<|ak (aj rfl (io)) ?_
   refine ai ?_
   refine ay rfl (fun hc3=>?_) (fun hc3=>?_)
   ·have hst:=uu hc3
    refine aa<|ab<|ai<|al ?_
    rw[hg.done hx0 hst,if_neg (by omega)]
    exact ao (bh bt rfl (aC ae))
   ·have hlt:=uC hc3
    refine aq<|ab<|ai ?_
    exact⟨⟨(r+x.fdiv r).fdiv 2,hg.next hx0 hlt⟩,aW ⟨rfl,rfl,rfl,rfl,rfl,trivial⟩ ⟨rfl,rfl,rfl,rfl,trivial⟩ rfl,by show((r+x.fdiv r).fdiv 2).toNat<r.toNat;omega⟩
theorem Et {x:Int}(hx:Sz 199999 x):Ok Tryz.prog 321 [dI x] [dI (bE x),.c (.i .i64 (if x<0 then 7 else 0))]:=by
 have h20:(2:Int)≠0:=by decide
 have hl:=ep hx
 have hs2:Sz 200000 (2:Int):=Sz.small (by omega) (by omega) (by omega)
 refine Ok.fn Tryz.func321 52 [.cell 2 29,.tmp 3] rfl<|aa<|ab<|am 1<|az (ah cE rfl) rfl<|ai<|aa<|aa<|ab<|ai ?_
 refine ay rfl (fun hc1=>?_) (fun hc1=>?_)
 ·have hn:x<0:=by simpa using hc1
  refine aa<|ab<|ak (aD (us:=([.b false]++[.s 0 []])) zJ cE rfl rfl rfl) ?_
  refine ai<|al ?_
  rw[ml hn,if_pos hn,nW]
  exact ao (bh bt rfl (aC ae))
 ·have hn:0≤x:=by have:=hc1;simp at this;omega
  refine aq<|aa<|aa<|ab<|ai ?_
  refine ay rfl (fun hc2=>?_) (fun hc2=>?_)
  ·have hz:x=0:=by have:=hc2;simp[cV] at this;omega
   refine aa<|ab<|ak (aD (us:=([.b false]++[.s 0 []])) zJ cE rfl rfl rfl) ?_
   refine ai<|al ?_
   rw[hz,sZ,nW,if_neg (by omega)]
   exact ao (bh bt rfl (aC ae))
  ·have hx0:0<x:=by have:=hc2;simp[cV] at this;omega
   obtain⟨k,hk⟩: ∃k:Nat,((cb x.natAbs).length+1)/2=k:=⟨_,rfl⟩
   have hpk:=cD k
   have hpc:cL (pw k)=cL (pw k):=rfl
   refine aq<|aa<|ab<|am 3<|ak (aJ (r:=(((cb x.natAbs).length:Int))+1) rfl rfl (aT (by omega) (by omega)) rfl) ?_
   refine ak (fK (r:=(k:Int)) rfl rfl (by omega) (by rw[Int.tdiv_eq_ediv_of_nonneg (by omega),show(((cb x.natAbs).length:Int)+1)/2=(k:Int) from by omega];exact l9 (by omega) (by omega)) rfl) ?_
   refine lH (iE (n:=k) nn rfl rfl (by omega) (by omega) rfl) rfl ?_
   refine ak (nD nn rfl rfl) ?_
   refine LH (ng nn rfl rfl rfl (by omega) rfl) ?_
   refine ak (aD (us:=([.b false]++[cL (pw k)])) zJ cE rfl rfl rfl) ?_
   refine az (ah cE rfl) rfl<|ai<|aa<|ab<|ak (aj rfl (kv (by omega) (by omega)))<|az (ah cE rfl) rfl<|ai<|a8<|cz (ι:={r:Int // NInv 199999 x r}) (fun i=>⟨52,[(1,.p 1 0),(2,.p 2 0),(3,.v (.c (.i .i64 0))),(4,.p 4 0),(5,.p 5 0)],[(1,29,cI x),(2,29,([.b false]++[.s 0 []])),(4,29,cI i.1),(5,29,cI 2)]⟩) (fun i=>i.1.toNat) ⟨pw k,NInv.start hx0 hx hk (by omega)⟩ (aW ⟨rfl,rfl,rfl,rfl,rfl,trivial⟩ ⟨rfl,rfl,by rw[Np (by have:=cD k;omega)];rfl,rfl,trivial⟩ rfl) ?_
   rintro⟨r,hg⟩
   replace hg:NInv 199999 x r:=hg
   have hsr:=hg.sz
   have hr0:=hg.r0
   have hrn:r≠0:=by omega
   obtain⟨hsq,hsum,hsn⟩:=hg.sum hx hx0
   have a1:Sz 200000 r:=hsr.m_
   have a2:Sz 900000 (x.fdiv r):=hsq.m_
   have a3:Sz 200000 x:=hx.m_
   have a4:Sz 900000 r:=hsr.m_
   have a5:Sz 1000000 r:=hsr.m_
   have a6:Sz 1000000 ((r+x.fdiv r).fdiv 2):=hsn.m_
   show Dw _ _ ⟨52,[(1,.p 1 0),(2,.p 2 0),(3,.v (.c (.i .i64 0))),(4,.p 4 0),(5,.p 5 0)],[(1,29,cI x),(2,29,([.b false]++[.s 0 []])),(4,29,cI r),(5,29,cI 2)]⟩ _
   refine a8<|aa<|ab<|am 2<|ak (aj rfl (g9 (by assumption) (by assumption) (by assumption)))<|am 4<|az (ah cE rfl) rfl<|az (ah cE rfl) rfl<|ai<|aa<|cm 14 [9,10,999999] a7 (by kernel_rfl) rfl rfl<|an 2<|ag (aj rfl (qK (by assumption) (by assumption)))<|an 1 ?_
   refine ag (aj rfl (g9 (by assumption) (by assumption) (by assumption)))<|an 4<|ba (ah cE rfl) rfl<|ba (ah cE rfl) rfl<|iz (fE bt rfl) rfl rfl rfl rfl<|iz (fE bt rfl) rfl rfl rfl rfl<|bK<|fz<|ap<|aa<|aa<|ab<|am 2<|ak (aj rfl (BO (by assumption) (by assumption))) ?_
   refine ai ?_
   refine ay rfl (fun hc3=>?_) (fun hc3=>?_)
   ·have hst:=uu hc3
    refine aa<|ab<|ai<|al ?_
    rw[hg.done hx0 hst,if_neg (by omega)]
    exact ao (bh bt rfl (aC ae))
   ·have hlt:=uC hc3
    refine aq<|ab<|ai ?_
    exact⟨⟨(r+x.fdiv r).fdiv 2,hg.next hx0 hlt⟩,aW ⟨rfl,rfl,rfl,rfl,rfl,trivial⟩ ⟨rfl,rfl,rfl,rfl,trivial⟩ rfl,by show((r+x.fdiv r).fdiv 2).toNat<r.toNat;omega⟩
theorem uJ:Ok Tryz.prog 242 [] [dI 1]:=by
 refine Ok.fn Tryz.func242 2 [.cell 0 29] rfl<|aa<|ab<|az (ah cE rfl) rfl<|ap<|aa<|ab<|ak (aj rfl (gF (by omega) (by omega)))<|ai<|al ?_
 exact ao (bh bt rfl ae)
theorem xw {m:Int}:Ok Tryz.prog 279 [.c (.i .i64 m)] [.c (.b false)]:=by
 refine Ok.fn Tryz.func279 6 [.tmp 2] rfl<|aa<|ab<|ai<|aa<|ab<|ai<|al ?_
 exact⟨.inr rfl,by simpa using(aC ae)⟩
theorem BT {m n:Int}:Ok Tryz.prog 210 [.c (.i .i64 m),.c (.i .i64 n)] [.c (.i .i64 (cK m n))]:=by
 refine Ok.fn Tryz.func210 20 [.tmp 4] rfl<|aa<|ab<|ai<|aa<|ab<|am 1<|ak (aj rfl (xw))<|ai<|aa<|ab<|am 1<|ak (aj rfl (xw))<|ai ?_
 refine aa<|aa<|ab<|ai<|bj rfl<|aq<|aa<|aa<|ab<|ai<|bj rfl<|aq<|aa<|aa ?_
 refine ab<|ai ?_
 refine ay rfl (fun hc1=>?_) (fun hc1=>?_)
 ·refine aa<|ab<|ai<|al ?_
  rw[dj (by simpa using hc1)]
  exact ao (aC ae)
 ·refine aq<|aa<|aa<|ab<|ai ?_
  refine ay rfl (fun hc2=>?_) (fun hc2=>?_)
  ·refine aa<|ab<|ai<|al ?_
   rw[dt (by simpa using hc2)]
   exact ao (aC ae)
  ·refine aq<|aa<|ab<|ai<|al ?_
   rw[fl (by have:=hc1;have h2:=hc2;simp at this h2;omega)]
   exact ao (aC ae)
theorem v8 {x:Rat}:Ok Tryz.prog 93 [dR x] [.c (.i .i64 (bd x 0))]:=by
 refine Ok.fn Tryz.func93 6 [.tmp 2] rfl<|aa<|ab<|ai<|aa<|ab<|am 1<|ak (aw (cI x.num) bt rfl)<|ak (aj rfl (sq))<|ai<|al ?_
 rw[←mB]
 exact ao (aC ae)
theorem fQ {x:Rat}:Ok Tryz.prog 93 [dR x] [.c (.i .i64 (bd x 0))]:=v8
theorem CR {n:Int}:Ok Tryz.prog 167 [dI n] [dR (n:Rat)]:=by
 refine Ok.fn Tryz.func167 6 [.cell 2 31] rfl<|aa<|ab<|am 1<|az (ah br rfl) rfl<|ap<|aa<|aN 3 rfl rfl<|an 1<|ag (aj rfl (uJ))<|ag (aD (us:=cQ n 1) m8 br rfl rfl rfl) ?_
 refine aR<|ar<|ai<|al ?_
 rw[FS]
 exact ao (bh au rfl ae)
theorem sw {n:Int}(h0: -9223372036854775808≤n) (h1:n≤9223372036854775807):Ok Tryz.prog 87 [.c (.i .i64 n)] [dR (n:Rat)]:=by
 refine Ok.fn Tryz.func87 6 [.cell 2 31] rfl<|aa<|ab<|az (ah br rfl) rfl<|ap<|aa<|ab<|am 1<|ak (aj rfl (gF (by omega) (by omega)))<|ak (aj rfl (CR))<|ai<|al ?_
 exact ao (bh au rfl ae)
theorem pJ {n:Int}(h0: -9223372036854775808≤n) (h1:n≤9223372036854775807):Ok Tryz.prog 87 [.c (.i .i64 n)] [dR (n:Rat)]:=sw h0 h1
theorem kP {x y:Int}(hx:Sz 1000000 x) (hy:Sz 1000000 y) (h0:y≠0):Ok Tryz.prog 243 [dI x,dI y] [dI (x.fdiv y)]:=by
 refine Ok.fn Tryz.func243 16 [.cell 4 29] rfl<|aa<|ab<|am 2<|az (ah cE rfl) rfl<|ap<|aa<|ab<|am 2<|ak (aj rfl (ja (dJ hx) (dJ hy) (by assumption)))<|am 4<|az (ah cE rfl) rfl<|az (ah cE rfl) rfl<|ai ?_
 refine aa<|ab<|ai<|al ?_
 exact ao (bh bt rfl ae)
theorem iD {x y:Int}(hx:Sz 199800 x) (hy:Sz 199800 y) (h0:y≠0):Ok Tryz.prog 162 [dI x,dI y] [dR (Rat.divInt x y)]:=by
 have hg:=vD (n:=x) h0
 have hg2:=vD (n:= -x) (d:= -y) (by omega)
 have hgs:=Sz.gcd (x:=x) hy h0
 have hgs2:=Sz.gcd (x:= -x) hy.neg (by omega)
 refine Ok.fn Tryz.func162 29 [.cell 4 31] rfl<|aa<|ab<|am 2<|az (ah br rfl) rfl<|ap<|aa<|aa<|ab<|am 1<|ak (aj rfl (sq))<|ai ?_
 refine ay rfl (fun hc1=>?_) (fun hc1=>?_)
 ·have hn:=MA hc1
  refine aN 4 rfl rfl<|an 1<|ag (aj rfl (oX (dJ hx)))<|an 1<|ag (aj rfl (oX (dJ hy)))<|aR<|ar<|ai<|aa<|aa<|ab<|am 2<|ak (aj rfl (Az (dJ (Sz.neg hx)) (dJ (Sz.neg hy))))<|az (ah cE rfl) rfl ?_
  refine ai<|aa<|aN 4 rfl rfl<|an 1<|ag (aj rfl (uJ))<|ag (aj rfl (io))<|bK<|ar<|ap ?_
  refine ay rfl (fun hc2=>?_) (fun hc2=>?_)
  ·--region 5
   refine aN 6 rfl rfl<|an 2 ?_
   refine ag (aj rfl (kP (dJ (Sz.neg hx)) (FU) (by first|assumption|exact neg_ne (by assumption)|exact eY (by assumption) (by assumption)))) ?_
   refine an 2 ?_
   refine ag (aj rfl (kP (dJ (Sz.neg hy)) (FU) (by first|assumption|exact neg_ne (by assumption)|exact eY (by assumption) (by assumption)))) ?_
   refine aR<|ar<|ai<|aa<|ab<|am 2<|ak (aD (us:=cQ ((-x).fdiv ((Int.gcd (-x) (-y):Int))) ((-y).fdiv ((Int.gcd (-x) (-y):Int)))) m8 br rfl rfl rfl) ?_
   refine ai<|al ?_
   rw[y9,sf (by omega)]
   exact ao (bh au rfl ae)
  ·refine aq<|aa<|ab<|am 2<|ak (aD (us:=cQ (-x) (-y)) m8 br rfl rfl rfl) ?_
   refine ai<|al ?_
   rw[y9,qE (by omega) (OS hc2)]
   exact ao (bh au rfl ae)
 ·have hn:=LB hc1
  refine aq<|aa<|aa<|ab<|am 2<|ak (aj rfl (Az (dJ hx) (dJ hy)))<|az (ah cE rfl) rfl<|ai<|aa<|aN 4 rfl rfl<|an 1<|ag (aj rfl (uJ))<|ag (aj rfl (io))<|bK ?_
  refine ar<|ap ?_
  refine ay rfl (fun hc3=>?_) (fun hc3=>?_)
  ·--region 5
   refine aN 6 rfl rfl<|an 2 ?_
   refine ag (aj rfl (kP (dJ hx) (FU) (by first|assumption|exact neg_ne (by assumption)|exact eY (by assumption) (by assumption)))) ?_
   refine an 2 ?_
   refine ag (aj rfl (kP (dJ hy) (FU) (by first|assumption|exact neg_ne (by assumption)|exact eY (by assumption) (by assumption)))) ?_
   refine aR<|ar<|ai<|aa<|ab<|am 2<|ak (aD (us:=cQ (x.fdiv (Int.gcd x y:Int)) (y.fdiv (Int.gcd x y:Int))) m8 br rfl rfl rfl) ?_
   refine ai<|al ?_
   rw[sf (by omega)]
   exact ao (bh au rfl ae)
  ·refine aq<|aa<|ab<|am 2<|ak (aD (us:=cQ x y) m8 br rfl rfl rfl) ?_
   refine ai<|al ?_
   rw[qE (by omega) (OS hc3)]
   exact ao (bh au rfl ae)
theorem BS {x y:Int}(hx:Sz 199800 x) (hy:Sz 199800 y) (h0:y≠0):Ok Tryz.prog 339 [dI x,dI y] [dR (Rat.divInt x y),.c (.i .i64 0)]:=by
 refine Ok.fn Tryz.func339 13 [.cell 4 31,.tmp 5] rfl<|aa<|ab<|am 2<|az (ah br rfl) rfl<|ai<|aa<|aa<|ab<|am 1<|ak (aj rfl (sq))<|ai ?_
 refine ay rfl (fun hc1=>?_) (fun hc1=>?_)
 ·exact absurd (II hc1) h0
 ·refine aq<|aa<|ab<|am 2 ?_
  refine ak (aj rfl (iD (dJ hx) (dJ hy) (by first|assumption|exact neg_ne (by assumption)|exact eY (by assumption) (by assumption)))) ?_
  refine ai<|al ?_
  exact ao (bh au rfl (aC ae))
theorem E8 {x y:Int}(hx:Sz 999 x) (hy:Sz 999 y) (h0:y≠0):Ok Tryz.prog 339 [dI x,dI y] [dR (Rat.divInt x y),.c (.i .i64 0)]:=BS (hx.mono (by decide)) (hy.mono (by decide)) h0
theorem sF {x:Rat}(hx:Rz 60000 x):Ok Tryz.prog 102 [dR x] [dR (-x)]:=by
 refine Ok.fn Tryz.func102 9 [.cell 2 31] rfl<|aa<|ab<|am 1<|az (ah br rfl) rfl<|ap<|aa<|aN 6 rfl rfl<|an 1<|ag (aw (cI x.num) bt rfl)<|ag (aj rfl (oX (dJ (Rz.n hx))))<|an 1<|ag (aw (cI (x.den:Int)) bt rfl)<|ag (aD (us:=cQ (-x.num) (x.den:Int)) m8 br rfl rfl rfl) ?_
 refine aR<|ar<|ai<|al ?_
 rw[Gh (Rat.neg_num x) (congrArg Int.ofNat (Rat.neg_den x))]
 exact ao (bh au rfl ae)
theorem Bz {x:Rat}(hx:Rz 300 x):Ok Tryz.prog 102 [dR x] [dR (-x)]:=sF (hx.mono (by decide))
theorem oC {x y:Rat}(hx:Rz 60000 x) (hy:Rz 60000 y):Ok Tryz.prog 164 [dR x,dR y] [dR (x+y)]:=by
 have hn:=eY (gE x) (gE y)
 have hn1:=gE x
 refine Ok.fn Tryz.func164 36 [.cell 4 31] rfl<|aa<|ab<|am 2<|az (ah br rfl) rfl<|ap<|aa<|aa<|ab<|am 1<|ak (aw (cI (x.den:Int)) bt rfl)<|am 1<|ak (aw (cI (y.den:Int)) bt rfl)<|ak (aj rfl (io)) ?_
 refine ai ?_
 refine ay rfl (fun hc1=>?_) (fun hc1=>?_)
 ·refine aa<|aN 8 rfl rfl<|an 1<|ag (aw (cI x.num) bt rfl)<|an 1<|ag (aw (cI y.num) bt rfl)<|ag (aj rfl (n7 (dJ (Rz.n hx)) (dJ (Rz.n hy))))<|an 1<|ag (aw (cI (x.den:Int)) bt rfl) ?_
  refine ag (aj rfl (iD (dJ (Sz.addm (Rz.n hx) (Rz.n hy))) (dJ (Rz.d hx)) (by first|assumption|exact neg_ne (by assumption)|exact eY (by assumption) (by assumption)))) ?_
  refine aR<|ar<|ai<|al ?_
  rw[←M7 (II hc1)]
  exact ao (bh au rfl ae)
 ·refine aq<|aa<|aN 17 rfl rfl<|an 1<|ag (aw (cI x.num) bt rfl)<|an 1<|ag (aw (cI (y.den:Int)) bt rfl)<|ag (aj rfl (fS (dJ (Rz.n hx)) (dJ (Rz.d hy))))<|an 1<|ag (aw (cI y.num) bt rfl)<|an 1<|ag (aw (cI (x.den:Int)) bt rfl)<|ag (aj rfl (fS (dJ (Rz.n hy)) (dJ (Rz.d hx))))<|ag (aj rfl (n7 (dJ (Sz.mul (Rz.n hx) (Rz.d hy))) (dJ (Sz.mul (Rz.n hy) (Rz.d hx))))) ?_
  refine an 1<|ag (aw (cI (x.den:Int)) bt rfl)<|an 1<|ag (aw (cI (y.den:Int)) bt rfl)<|ag (aj rfl (fS (dJ (Rz.d hx)) (dJ (Rz.d hy)))) ?_
  refine ag (aj rfl (iD (dJ (Sz.addm (Sz.mul (Rz.n hx) (Rz.d hy)) (Sz.mul (Rz.n hy) (Rz.d hx)))) (dJ (Sz.mul (Rz.d hx) (Rz.d hy))) (by first|assumption|exact neg_ne (by assumption)|exact eY (by assumption) (by assumption)))) ?_
  refine aR<|ar<|ai<|al ?_
  rw[←G7]
  exact ao (bh au rfl ae)
theorem HR {x y:Rat}(hx:Rz 300 x) (hy:Rz 300 y):Ok Tryz.prog 164 [dR x,dR y] [dR (x+y)]:=oC (hx.mono (by decide)) (hy.mono (by decide))
theorem oo {x y:Rat}(hx:Rz 60000 x) (hy:Rz 60000 y):Ok Tryz.prog 84 [dR x,dR y] [dR (x-y)]:=by
 refine Ok.fn Tryz.func84 9 [.cell 4 31] rfl<|aa<|ab<|am 2<|az (ah br rfl) rfl<|ap<|aa<|aN 4 rfl rfl<|an 2<|ag (aj rfl (sF (aO hy)))<|ag (aj rfl (oC (aO hx) (aO (Rz.neg hy))))<|aR<|ar<|ai ?_
 refine al ?_
 rw[Rat.sub_eq_add_neg]
 exact ao (bh au rfl ae)
theorem IE {x y:Rat}(hx:Rz 300 x) (hy:Rz 300 y):Ok Tryz.prog 84 [dR x,dR y] [dR (x-y)]:=oo (hx.mono (by decide)) (hy.mono (by decide))
theorem dT {x y:Rat}(hx:Rz 60000 x) (hy:Rz 60000 y):Ok Tryz.prog 85 [dR x,dR y] [dR (x*y)]:=by
 have hn:=eY (gE x) (gE y)
 refine Ok.fn Tryz.func85 16 [.cell 4 31] rfl<|aa<|ab<|am 2<|az (ah br rfl) rfl<|ap<|aa<|aN 11 rfl rfl<|an 1<|ag (aw (cI x.num) bt rfl)<|an 1<|ag (aw (cI y.num) bt rfl)<|ag (aj rfl (fS (dJ (Rz.n hx)) (dJ (Rz.n hy))))<|an 1 ?_
 refine ag (aw (cI (x.den:Int)) bt rfl)<|an 1<|ag (aw (cI (y.den:Int)) bt rfl)<|ag (aj rfl (fS (dJ (Rz.d hx)) (dJ (Rz.d hy)))) ?_
 refine ag (aj rfl (iD (dJ (Sz.mul (Rz.n hx) (Rz.n hy))) (dJ (Sz.mul (Rz.d hx) (Rz.d hy))) (by first|assumption|exact neg_ne (by assumption)|exact eY (by assumption) (by assumption)))) ?_
 refine aR<|ar<|ai<|al ?_
 rw[←LJ]
 exact ao (bh au rfl ae)
theorem HO {x y:Rat}(hx:Rz 300 x) (hy:Rz 300 y):Ok Tryz.prog 85 [dR x,dR y] [dR (x*y)]:=dT (hx.mono (by decide)) (hy.mono (by decide))
theorem FC {x y:Rat}(hx:Rz 60000 x) (hy:Rz 60000 y) (h0:y≠0):Ok Tryz.prog 83 [dR x,dR y] [dR (x/y),.c (.i .i64 0)]:=by
 have hn:=eY (gE x) (Gd h0)
 refine Ok.fn Tryz.func83 21 [.cell 4 31,.tmp 5] rfl<|aa<|ab<|am 2<|az (ah br rfl) rfl<|ai<|aa<|aa<|ab<|am 1<|ak (aj rfl (fQ))<|ai ?_
 refine ay rfl (fun hc1=>?_) (fun hc1=>?_)
 ·exact absurd (zV hc1) h0
 ·refine aq<|aa<|aN 11 rfl rfl<|an 1<|ag (aw (cI x.num) bt rfl)<|an 1<|ag (aw (cI (y.den:Int)) bt rfl)<|ag (aj rfl (fS (dJ (Rz.n hx)) (dJ (Rz.d hy))))<|an 1<|ag (aw (cI (x.den:Int)) bt rfl)<|an 1<|ag (aw (cI y.num) bt rfl)<|ag (aj rfl (fS (dJ (Rz.d hx)) (dJ (Rz.n hy)))) ?_
  refine ag (aj rfl (iD (dJ (Sz.mul (Rz.n hx) (Rz.d hy))) (dJ (Sz.mul (Rz.d hx) (Rz.n hy))) (by first|assumption|exact neg_ne (by assumption)|exact eY (by assumption) (by assumption)))) ?_
  refine aR<|ar<|ai<|al ?_
  rw[←KT]
  exact ao (bh au rfl (aC ae))
theorem G3 {x y:Rat}(hx:Rz 300 x) (hy:Rz 300 y) (h0:y≠0):Ok Tryz.prog 83 [dR x,dR y] [dR (x/y),.c (.i .i64 0)]:=FC (hx.mono (by decide)) (hy.mono (by decide)) h0
theorem wQ {x y:Rat}(hx:Rz 60000 x) (hy:Rz 60000 y):Ok Tryz.prog 120 [dR x,dR y] [.c (.i .i64 (bd x y))]:=by
 refine Ok.fn Tryz.func120 25 [.tmp 4] rfl<|aa<|ab<|ai<|aa<|aa<|aN 6 rfl rfl<|an 1<|ag (aj rfl (fQ))<|an 1<|ag (aj rfl (fQ))<|ag (aj rfl (BT))<|bK<|ar ?_
 refine ap<|aa<|ab<|ai ?_
 refine ay rfl (fun hc1=>?_) (fun hc1=>?_)
 ·refine aa<|ab<|ai<|al ?_
  rw[←yH hc1]
  exact ao (aC ae)
 ·refine aq<|aa<|aN 12 rfl rfl<|an 1<|ag (aw (cI x.num) bt rfl)<|an 1<|ag (aw (cI (y.den:Int)) bt rfl)<|ag (aj rfl (fS (dJ (Rz.n hx)) (dJ (Rz.d hy))))<|an 1<|ag (aw (cI y.num) bt rfl)<|an 1<|ag (aw (cI (x.den:Int)) bt rfl)<|ag (aj rfl (fS (dJ (Rz.n hy)) (dJ (Rz.d hx))))<|ag (aj rfl (io)) ?_
  refine bK<|ar<|ap<|al ?_
  rw[x8 (x:=x) (y:=y)]
  exact ao (aC ae)
theorem uQ {x y:Rat}(hx:Rz 300 x) (hy:Rz 300 y):Ok Tryz.prog 120 [dR x,dR y] [.c (.i .i64 (bd x y))]:=wQ (hx.mono (by decide)) (hy.mono (by decide))
theorem nQ {x:Rat}(hx:Rz 60000 x):Ok Tryz.prog 315 [dR x] [dI (x.num.fdiv (x.den:Int))]:=by
 have hn1:=gE x
 refine Ok.fn Tryz.func315 16 [.cell 2 29] rfl<|aa<|ab<|am 1<|az (ah cE rfl) rfl<|ap<|aa<|ab<|am 1<|ak (aw (cI x.num) bt rfl)<|am 1<|ak (aw (cI (x.den:Int)) bt rfl)<|ak (aj rfl (ja (dJ (Rz.n hx)) (dJ (Rz.d hx)) (by assumption)))<|am 4 ?_
 refine az (ah cE rfl) rfl<|az (ah cE rfl) rfl<|ai<|aa<|ab<|ai<|al ?_
 exact ao (bh bt rfl ae)
theorem CG {x:Rat}(hx:Rz 300 x):Ok Tryz.prog 315 [dR x] [dI (x.num.fdiv (x.den:Int))]:=nQ (hx.mono (by decide))
theorem tz {x:Int}(hx:Sz 60000 x):Ok Tryz.prog 247 [dI x] [dI (bE x),.c (.b (sQ x))]:=by
 have hs:=Sz.isq hx
 refine Ok.fn Tryz.func247 22 [.cell 2 29,.tmp 3] rfl<|aa<|ab<|am 1<|az (ah cE rfl) rfl<|ai<|aa<|ab<|am 1<|ak (aj rfl (rN (dJ hx)))<|am 3<|az (ah cE rfl) rfl<|ai<|aa ?_
 refine cm 13 [2,999999] a7 (by kernel_rfl) rfl rfl<|an 3 ?_
 refine fI (ca rfl) (fun c1 hb1=>?_)
 cases c1
 ·refine an 7<|fU (fE bt rfl) rfl rfl rfl rfl<|bK<|bg<|ap<|al ?_
  rw[uI (e7 hb1)]
  exact ao (bh bt rfl (aC ae))
 ·refine an 2<|ag (aj rfl (fS (dJ (Sz.isq hx)) (dJ (Sz.isq hx))))<|an 1<|ag (aj rfl (io))<|an 2<|BC (fE bt rfl) rfl rfl (by kernel_rfl) rfl<|bK<|bg<|ap<|al ?_
  rw[BE]
  exact ao (bh bt rfl (aC ae))
theorem CI {x:Rat}(hx:Rz 60000 x):Ok Tryz.prog 165 [dR x] [dQ (if iX x then bE x.num else 0) (if iX x then bE (x.den:Int) else 0),.c (.b (iX x))]:=by
 refine Ok.fn Tryz.func165 26 [.cell 2 31,.tmp 3] rfl<|aa<|ab<|am 1<|az (ah br rfl) rfl<|ai<|aa<|aa<|ab<|am 1<|ak (aw (cI x.num) bt rfl)<|ak (aj rfl (tz (dJ (Rz.n hx))))<|am 3<|az (ah cE rfl) rfl ?_
 refine ai<|aa<|ab<|ai ?_
 refine ay rfl (fun hc1=>?_) (fun hc1=>?_)
 ·refine aa<|ab<|am 1<|ak (aw (cI (x.den:Int)) bt rfl)<|ak (aj rfl (tz (dJ (Rz.d hx))))<|am 3<|az (ah cE rfl) rfl<|ai<|aa<|ab<|ai ?_
  refine ay rfl (fun hc2=>?_) (fun hc2=>?_)
  ·refine aa<|ab<|am 2<|ak (aD (us:=cQ (bE x.num) (bE (x.den:Int))) m8 br rfl rfl rfl) ?_
   refine ai<|al ?_
   rw[J3 hc1 hc2,if_pos rfl,if_pos rfl]
   exact ao (bh au rfl (aC ae))
  ·refine aq<|aa<|ab<|ak (aD (us:=(([.b false]++[.s 0 []])++([.b false]++[.s 0 []]))) m8 br rfl rfl rfl) ?_
   refine ai<|al ?_
   rw[FF hc2,if_neg (by decide),if_neg (by decide),qO]
   exact ao (bh au rfl (aC ae))
 ·refine aq<|aa<|ab<|ak (aD (us:=(([.b false]++[.s 0 []])++([.b false]++[.s 0 []]))) m8 br rfl rfl rfl) ?_
  refine ai<|al ?_
  rw[Dp hc1,if_neg (by decide),if_neg (by decide),qO]
  exact ao (bh au rfl (aC ae))
theorem Gw {x:Rat}(hx:Rz 300 x):Ok Tryz.prog 165 [dR x] [dQ (if iX x then bE x.num else 0) (if iX x then bE (x.den:Int) else 0),.c (.b (iX x))]:=CI (hx.mono (by decide))
end Go.Proofs.YtacopbfkmnpfgaaGreat
