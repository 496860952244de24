/-Plain:the integer square root,and Newton's steps to it;the first root as a slice. -/
import Derived.Test.YtkmdgigkbhmilaaGreatNbG
namespace Go.Proofs.YtkmdgigkbhmilaaGreat
open Go Go.RowKit
variable {ty:TypeId}{pos:String}{af:Array Edge}{g:Option (Nat×Bool)}{dst:Option Nat}
def isq:Nat→Nat
 |0=>0
 |n+1=>if (isq n+1)*(isq n+1)≤n+1 then isq n+1 else isq n
theorem CU (n:Nat):isq n*isq n≤n∧n<(isq n+1)*(isq n+1):=by
 induction n with
 |zero=>exact⟨by decide,by decide⟩
 |succ n ih=>
  obtain⟨h1,h2⟩:=ih
  unfold isq
  split
  ·rename_i h
   refine⟨h,?_⟩
   have:(isq n+1)*(isq n+1)<(isq n+1+1)*(isq n+1+1):=Nat.mul_lt_mul_of_lt_of_le (by omega) (by omega) (by omega)
   omega
  ·exact⟨by omega,by omega⟩
theorem L4 {a b:Int}(ha:0≤a) (h:a≤b):a*a≤b*b:=Int.mul_le_mul h h ha (by omega)
theorem yq {a b:Int}(hb:0≤b) (h:a*a<b*b):a<b:=by
 by_cases h1:a<b
 ·exact h1
 ·have:=L4 hb (show b≤a by omega);omega
def bP (x:Int):Int:=if x<0 then 0 else(isq x.toNat:Nat)
theorem ep (x:Int):0≤bP x:=by unfold bP;split<;>omega
theorem oe {x:Int}(h:0≤x):bP x*bP x≤x:=by
 unfold bP;rw[if_neg (by omega)]
 have:=(CU x.toNat).1
 rw[←Int.natCast_mul];omega
theorem ug {x:Int}(h:0≤x):x<(bP x+1)*(bP x+1):=by
 unfold bP;rw[if_neg (by omega)]
 have:=(CU x.toNat).2
 rw[show((isq x.toNat:Nat):Int)+1=((isq x.toNat+1:Nat):Int) from by omega,←Int.natCast_mul];omega
theorem pv {x r:Int}(h:0≤x) (hr:0≤r) (h1:r*r≤x) (h2:x<(r+1)*(r+1)):bP x=r:=by
 have a1:=oe h
 have a2:=ug h
 have a0:=ep x
 have:=yq (a:=r) (b:=bP x+1) (by omega) (by omega)
 have:=yq (a:=bP x) (b:=r+1) (by omega) (by omega)
 omega
theorem yC:bP 0=0:=by decide
theorem ph {x:Int}(h:x<0):bP x=0:=by unfold bP;rw[if_pos h]
theorem Kj {x:Int}:(bP x).natAbs≤x.natAbs:=by
 have h0:=ep x
 by_cases h:x<0
 ·rw[ph h];omega
 ·have h1:=oe (show 0≤x by omega)
  by_cases h2:bP x<1
  ·omega
  ·have:=Int.mul_le_mul_of_nonneg_left (show 1≤bP x by omega) h0
   omega
theorem BG (a b:Int):4*(a*b)≤(a+b)*(a+b):=by
 have h:0≤(a-b)*(a-b):=by
  rcases Int.le_total 0 (a-b) with h|h
  ·exact Int.mul_nonneg h h
  ·exact Int.mul_nonneg_of_nonpos_of_nonpos h h
 have e1:(a-b)*(a-b)=a*a-2*(a*b)+b*b:=by rw[Int.sub_mul,Int.mul_sub,Int.mul_sub,Int.mul_comm b a];omega
 have e2:(a+b)*(a+b)=a*a+2*(a*b)+b*b:=by rw[Int.add_mul,Int.mul_add,Int.mul_add,Int.mul_comm b a];omega
 omega
theorem Ki {x r:Int}(hx:0<x) (hr:0<r) (_hup:x<(r+1)*(r+1)):
 0≤(r+x.fdiv r).fdiv 2∧x<((r+x.fdiv r).fdiv 2+1)*((r+x.fdiv r).fdiv 2+1)∧0<(r+x.fdiv r).fdiv 2∧0≤x.fdiv r∧x.fdiv r≤x:=by
 rw[Int.fdiv_eq_ediv_of_nonneg _ (by omega:(0:Int)≤r),Int.fdiv_eq_ediv_of_nonneg _ (by omega:(0:Int)≤2)]
 have hq0:0≤x/r:=Int.ediv_nonneg (by omega) (by omega)
 have hq1:x/r≤x:=Int.ediv_le_self _ (by omega)
 have hq2:x<r*(x/r+1):=by have h1:=Int.mul_ediv_add_emod x r;have h2:=Int.emod_lt_of_pos x hr;rw[Int.mul_add];omega
 obtain⟨q,hq⟩: ∃q,x/r=q:=⟨_,rfl⟩
 rw[hq] at hq0 hq1 hq2⊢
 obtain⟨n,hn⟩: ∃n,(r+q)/2=n:=⟨_,rfl⟩
 rw[hn]
 have hn0:0≤n:=by omega
 have h4:=BG r (q+1)
 have h5:(r+(q+1))*(r+(q+1))≤(2*(n+1))*(2*(n+1)):=L4 (by omega) (by omega)
 have h6:(2*(n+1))*(2*(n+1))=4*((n+1)*(n+1)):=by rw[Int.mul_assoc,Int.mul_left_comm (n+1) 2,←Int.mul_assoc];omega
 have hu:x<(n+1)*(n+1):=by omega
 refine⟨hn0,hu,?_,hq0,hq1⟩
 by_cases h:0<n
 ·exact h
 ·rw[show n=0 from by omega] at hu;omega
theorem Cg {x r:Int}(_hx:0<x) (hr:0<r) (h:r≤(r+x.fdiv r).fdiv 2):r*r≤x:=by
 rw[Int.fdiv_eq_ediv_of_nonneg _ (by omega:(0:Int)≤r),Int.fdiv_eq_ediv_of_nonneg _ (by omega:(0:Int)≤2)] at h
 have h1:=Int.mul_ediv_add_emod x r
 have h2:=Int.emod_nonneg x (show r≠0 by omega)
 have h3:r≤x/r:=by omega
 have:=Int.mul_le_mul_of_nonneg_left h3 (show 0≤r by omega)
 omega
structure NInv (K:Nat) (x r:Int):Prop where
 r0:0<r
 sz:Sz K r
 up:x<(r+1)*(r+1)
theorem NInv.sum {K:Nat}{x r:Int}(h:NInv K x r) (hs:Sz K x) (hx:0<x):Sz K (x.fdiv r)∧Sz (K+1) (r+x.fdiv r)∧Sz (K+1) ((r+x.fdiv r).fdiv 2):=by
 obtain⟨h1,h2,h3,h4,h5⟩:=Ki hx h.r0 h.up
 have h6:Sz K (x.fdiv r):=hs.of_le (by omega)
 have h7:=h.sz.add h6
 refine⟨h6,h7,h7.of_le ?_⟩
 have h8:=h.r0
 rw[Int.fdiv_eq_ediv_of_nonneg _ (by omega:(0:Int)≤2)] at*
 omega
theorem NInv.next {K:Nat}{x r:Int}(h:NInv K x r) (hx:0<x) (hl:(r+x.fdiv r).fdiv 2<r):NInv K x ((r+x.fdiv r).fdiv 2):=by
 obtain⟨h1,h2,h3,h4,h5⟩:=Ki hx h.r0 h.up
 exact⟨h3,h.sz.of_le (by omega),h2⟩
theorem NInv.done {K:Nat}{x r:Int}(h:NInv K x r) (hx:0<x) (hl:r≤(r+x.fdiv r).fdiv 2):bP x=r:=
 pv (by omega) (by have:=h.r0;omega) (Cg hx h.r0 hl) h.up
theorem sF:dI 0=.a ([.b false]++[.s 0 []]):=by unfold dI cI;rw[show cL 0=.s 0 [] from by unfold cL;rw[show(0:Int).natAbs=0 from rfl,iG];rfl];rfl
theorem Te {v:Int}(h:0≤v):([CellD.b false]++[cL v])=cI v:=by unfold cI;rw[show decide (v<0)=false from by simp;omega];rfl
theorem TV {x:Int}{n k:Nat}(_h0:0≤x) (h:x<pw n) (hk:n≤2*k):x<(pw k+1)*(pw k+1):=by
 have h1:=lh (n:=n) (m:=2*k) hk
 have h2:pw (2*k)=pw k*pw k:=by rw[show 2*k=k+k from by omega,qQ]
 have h3:=dJ k
 have h4:(pw k+1)*(pw k+1)=pw k*pw k+2*pw k+1:=by rw[Int.add_mul,Int.mul_add];omega
 omega
theorem NInv.start {K k:Nat}{x:Int}(h0:0<x) (_hs:Sz K x) (hk:((du x.natAbs).length+1)/2=k) (hK:k<K):NInv K x (pw k):=by
 have hv:=eI (bW x.natAbs)
 rw[cz] at hv
 refine⟨dJ k,?_,TV (n:=(du x.natAbs).length) (by omega) (by omega) (by omega)⟩
 have h1:Sz (k+1) (pw k):=⟨by have:=dJ k;rw[eh];omega,by have:=dJ k;have:=dJ (k+1);omega⟩
 exact h1.mono (by omega)
theorem RT (n:Nat):val (List.replicate n 0++[1])=pw n:=by
 induction n with
 |zero=>decide
 |succ n ih=>rw[List.replicate_succ,List.cons_append,dU,ih,eh];omega
theorem UI (n:Nat):cL (pw n)=cM (List.replicate n 0++[1]):=by
 have hL:Lim (List.replicate n 0++[1]):=(Lim.zeros n).append (Lim.nil.cons (by omega) (by omega))
 have hN:Nrm (List.replicate n 0++[1]):=by
  induction n with
  |zero=>exact u5 [] 1 (by decide)
  |succ n ih=>exact A5 (ih ((Lim.zeros n).append (Lim.nil.cons (by omega) (by omega)))) (by simp)
 rw[Pr,←RT]
 have:=Db hN hL
 rw[show(val (List.replicate n 0++[1])).natAbs=(val (List.replicate n 0++[1])).toNat from by have:=cK hL;omega,←this]
variable {P:Program}{ops:Array Oper}{T:TF}{B:BF}
theorem qF {x y:Operand}{U e:TypeId}{k n:Nat}{z:CellD}
 (hU:pc P U=some (e,1,4,[z])) (hx:di T x=some (.o k n n)) (hy:di T y=some (.v (.c (cM [1])))) (hb:B k=some (e,List.replicate n (CellD.i .u32 0))) (hl:n≤10000000)
 (hg:gd ops ⟨dst,.call ⟨.builtin .append,#[x,y],#[U,U]⟩,ty,pos,af,g⟩ T=some true):
 Sem P ops ⟨dst,.call ⟨.builtin .append,#[x,y],#[U,U]⟩,ty,pos,af,g⟩ T B (.c k (.v (.c (cL (pw n))))):=by
 rw[UI]
 have:=rq (us:=(List.replicate n (0:Int)++[1]).map (CellD.i .u32)) hU hx hy hb (by simp) (ig _) (by omega) (by simp) (by omega) (by simp;omega) (by simp;unfold maxLen;omega) (by simp) hg
 rw[show n+[(1:Int)].length=(List.replicate n (0:Int)++[1]).length from by simp] at this
 exact this
theorem rY {a b:Int}:dS a b=0↔a=b:=by
 rcases Int.lt_trichotomy a b with h|h|h
 ·rw[ew h];constructor<;>intro h2<;>omega
 ·rw[hJ h];constructor<;>intro h2<;>omega
 ·rw[eA h];constructor<;>intro h2<;>omega
theorem vm {a b:Int}:dS a b<0↔a<b:=by
 rcases Int.lt_trichotomy a b with h|h|h
 ·rw[ew h];constructor<;>intro h2<;>omega
 ·rw[hJ h];constructor<;>intro h2<;>omega
 ·rw[eA h];constructor<;>intro h2<;>omega
theorem u7 {a b:Int}:0<dS a b↔b<a:=by
 rcases Int.lt_trichotomy a b with h|h|h
 ·rw[ew h];constructor<;>intro h2<;>omega
 ·rw[hJ h];constructor<;>intro h2<;>omega
 ·rw[eA h];constructor<;>intro h2<;>omega
theorem PU {a b:Int}(h:decide (dS a b<0)=true):a<b:=vm.1 (by simpa using h)
theorem QQ {a b:Int}(h:decide (dS a b<0)=false): ¬a<b:=fun e=>by have:=vm.2 e;simp at h;omega
theorem PX {a b:Int}(h:(dS a b==0)=true):a=b:=rY.1 (by simpa using h)
theorem VK {a b:Int}(h:(dS a b !=0)=true):a≠b:=fun e=>by have:=rY.2 e;simp at h;omega
theorem Ty {a b:Int}(h:(dS a b !=0)=false):a=b:=rY.1 (by simpa using h)
theorem UW {a b:Int}(h:decide (dS a b>0)=true):b<a:=u7.1 (by simpa using h)
theorem VA {a b:Int}(h:decide (dS a b>0)=false): ¬b<a:=fun e=>by have:=u7.2 e;simp at h;omega
structure Rz (k:Nat) (x:Rat):Prop where
 n:Sz k x.num
 d:Sz k (x.den:Int)
theorem Sz.addm {k l:Nat}{x y:Int}(h:Sz k x) (h':Sz l y):Sz (max k l+1) (x+y):=(h.mono (Nat.le_max_left k l)).add (h'.mono (Nat.le_max_right k l))
theorem Sz.gcd {l:Nat}{x y:Int}(h':Sz l y) (h0:y≠0):Sz l ((Int.gcd x y:Nat):Int):=h'.of_le (by
 have:Int.gcd x y≤y.natAbs:=Nat.le_of_dvd (by omega) (Nat.gcd_dvd_right ..)
 rw[Int.natAbs_natCast];exact this)
theorem Rz.mono {k l:Nat}{x:Rat}(h:Rz k x) (hl:k≤l):Rz l x:=⟨h.n.mono hl,h.d.mono hl⟩
theorem Rz.m_ {k l:Nat}{x:Rat}(h:Rz k x) (hl:k≤l:=by decide):Rz l x:=h.mono hl
theorem aX {k l:Nat}{x:Rat}(h:Rz k x) (hl:k≤l:=by decide):Rz l x:=h.mono hl
theorem Sn {l:Nat}{x:Rat}(h:Rz l x:=by first|assumption|exact Rz.mono (by assumption) (by decide)):Rz l x:=h
theorem den_pos (x:Rat):(0:Int)<(x.den:Int):=by have:=x.den_pos;omega
theorem jP (x:Rat):(x.den:Int)≠0:=by have:=den_pos x;omega
theorem pE (a b:Int):(a/b).natAbs≤a.natAbs:=Int.natAbs_ediv_le_natAbs a b
theorem Rz.of {k:Nat}{n d:Int}(hn:Sz k n) (hd:Sz k d) (h0:d≠0):Rz k (Rat.divInt n d):=by
 refine⟨hn.of_le ?_,hd.of_le ?_⟩
 ·rw[Rat.num_divInt]
  refine Nat.le_trans (pE _ _) ?_
  rw[Int.natAbs_mul,Int.natAbs_sign_of_ne_zero h0];omega
 ·rw[Rat.den_divInt,if_neg h0]
  rw[Int.natAbs_natCast]
  exact Nat.div_le_self d.natAbs (Int.gcd d n)
theorem Oz {x y:Rat}:Rat.divInt (x.num*(y.den:Int)+y.num*(x.den:Int)) ((x.den:Int)*(y.den:Int))=x+y:=by
 rw[Rat.add_def',←Int.natCast_mul,Rat.divInt_ofNat]
theorem TJ {x y:Rat}(h:(x.den:Int)=(y.den:Int)):Rat.divInt (x.num+y.num) (x.den:Int)=x+y:=by
 rw[←Oz,←h,←Int.add_mul,Rat.divInt_mul_right (jP x)]
theorem Rq {x y:Rat}:Rat.divInt (x.num*y.num) ((x.den:Int)*(y.den:Int))=x*y:=by
 rw[Rat.mul_def',←Int.natCast_mul,Rat.divInt_ofNat]
theorem Rl {x y:Rat}:Rat.divInt (x.num*(y.den:Int)) ((x.den:Int)*y.num)=x/y:=by
 rw[Rat.div_def,Rat.inv_def,←Rat.divInt_mul_divInt,Rat.num_divInt_den]
theorem Rz.add {k l:Nat}{x y:Rat}(hx:Rz k x) (hy:Rz l y):Rz (k+l+1) (x+y):=by
 rw[←Oz]
 exact Rz.of (((hx.n.mul hy.d).addm (hy.n.mul hx.d)).mono (by omega)) ((hx.d.mul hy.d).mono (by omega)) (by have:=Int.mul_pos (den_pos x) (den_pos y);omega)
theorem Rz.mul {k l:Nat}{x y:Rat}(hx:Rz k x) (hy:Rz l y):Rz (k+l) (x*y):=by
 rw[←Rq]
 exact Rz.of (hx.n.mul hy.n) (hx.d.mul hy.d) (by have:=Int.mul_pos (den_pos x) (den_pos y);omega)
theorem Rz.neg {k:Nat}{x:Rat}(hx:Rz k x):Rz k (-x):=⟨by rw[Rat.neg_num];exact hx.n.neg,by rw[Rat.neg_den];exact hx.d⟩
theorem Rz.sub {k l:Nat}{x y:Rat}(hx:Rz k x) (hy:Rz l y):Rz (k+l+1) (x-y):=by rw[Rat.sub_eq_add_neg];exact hx.add hy.neg
theorem Rz.div {k l:Nat}{x y:Rat}(hx:Rz k x) (hy:Rz l y) (h0:y≠0):Rz (k+l) (x/y):=by
 rw[←Rl]
 exact Rz.of (hx.n.mul hy.d) (hx.d.mul hy.n) (by
  have h1:y.num≠0:=fun e=>h0 (Rat.num_eq_zero.1 e)
  intro e
  rcases Int.mul_eq_zero.1 e with h|h
  ·exact jP x h
  ·exact h1 h)
theorem Sz.one {k:Nat}(hk:1≤k):Sz k 1:=by
 have:=lh (n:=1) (m:=k) hk
 have h1:pw 1=1000000000:=by decide
 exact⟨by omega,by omega⟩
theorem Rz.int {k:Nat}{n:Int}(h:Sz k n) (hk:1≤k):Rz k (n:Rat):=⟨by rw[Rat.num_intCast];exact h,by rw[Rat.den_intCast];exact Sz.one hk⟩
theorem ww {n d:Int}(hd:0<d):dR (Rat.divInt n d)=dQ (n.fdiv ((Int.gcd n d:Nat):Int)) (d.fdiv ((Int.gcd n d:Nat):Int)):=by
 unfold dR cR
 rw[Rat.num_divInt,Rat.den_divInt,if_neg (by omega),Int.sign_eq_one_of_pos hd,Int.one_mul,Int.gcd_comm d n,Int.fdiv_eq_ediv_of_nonneg _ (by omega),Int.fdiv_eq_ediv_of_nonneg _ (by omega)]
 rw[show((d.natAbs/Int.gcd n d:Nat):Int)=d/((Int.gcd n d:Nat):Int) from by rw[Int.natCast_ediv];rw[show((d.natAbs:Nat):Int)=d from by omega]]
 rfl
theorem uJ {n d:Int}(hd:0<d) (hg:((Int.gcd n d:Nat):Int)=1):dR (Rat.divInt n d)=dQ n d:=by
 rw[ww hd,hg,Int.fdiv_one,Int.fdiv_one]
theorem Dv {n d:Int}:dR (Rat.divInt n d)=dR (Rat.divInt (-n) (-d)):=by rw[Rat.neg_divInt_neg]
theorem zF {n d:Int}(h:d≠0):((Int.gcd n d:Nat):Int)≠0:=by
 have:Int.gcd n d≠0:=fun e=>h (Int.gcd_eq_zero_iff.1 e).2
 omega
theorem qr {x y:Rat}:dS (x.num*(y.den:Int)) (y.num*(x.den:Int))=if x<y then-1 else if y<x then 1 else 0:=by
 unfold dS
 simp only[Rat.lt_iff]
def aV (x y:Rat):Int:=if x<y then-1 else if y<x then 1 else 0
theorem sn {x:Rat}:dS x.num 0=aV x 0:=by
 unfold aV
 rw[←qr]
 simp
theorem IR {x:Rat}{n d:Int}(h1:x.num=n) (h2:(x.den:Int)=d):dR x=dQ n d:=by unfold dR cR;rw[h1,h2];rfl
theorem LF {n:Int}:dR (n:Rat)=dQ n 1:=IR (Rat.num_intCast n) (by rw[Rat.den_intCast];rfl)
def xe (x:Int):Bool:=bP x*bP x==x
def go (x:Rat):Bool:=xe x.num&&xe (x.den:Int)
theorem FM {x:Int}(h:x<0):xe x=false:=by unfold xe;rw[ph h];simp;omega
theorem gZ {a b:Int}(ha:a≠0) (hb:b≠0):a*b≠0:=fun e=>by rcases Int.mul_eq_zero.1 e with h|h<;>contradiction
theorem LW {x:Rat}(h:x≠0):x.num≠0:=fun e=>h (Rat.num_eq_zero.1 e)
theorem Sz.isq {k:Nat}{x:Int}(h:Sz k x):Sz k (bP x):=h.of_le Kj
theorem Gb {x:Rat}(h:(aV x 0==0)=true):x=0:=by rw[←sn] at h;exact Rat.num_eq_zero.1 (PX h)
theorem lP {x y:Rat}:aV x y=0↔x=y:=by
 unfold aV
 rw[←qr,rY,Rat.eq_iff_mul_eq_mul]
theorem CI {x y:Rat}:aV x y<0↔x<y:=by
 unfold aV
 rw[←qr,vm,Rat.lt_iff]
theorem vW {x y:Rat}:0<aV x y↔y<x:=by
 unfold aV
 rw[←qr,u7,Rat.lt_iff]
theorem yi {x:Rat}:aV x 0=dS x.num 0:=sn.symm
theorem DX {x y:Rat}(h:(dS (aV x 0) (aV y 0) !=0)=true):dS (aV x 0) (aV y 0)=aV x y:=by
 have h1:=VK h
 rw[yi,yi] at*
 have px:=den_pos x
 have py:=den_pos y
 have e1: ∀ {a b:Int},a<0→0<b→a*b<0:=fun ha hb=>Int.mul_neg_of_neg_of_pos ha hb
 have hr:aV x y=dS (x.num*(y.den:Int)) (y.num*(x.den:Int)):=by unfold aV;rw[←qr]
 rw[hr]
 rcases Int.lt_trichotomy x.num 0 with hx|hx|hx<;>rcases Int.lt_trichotomy y.num 0 with hy|hy|hy
 ·rw[ew hx,ew hy] at h1;exact absurd rfl h1
 ·rw[ew hx,hJ hy,ew (a:= -1) (by decide),ew]
  rw[hy,Int.zero_mul];exact e1 hx py
 ·rw[ew hx,eA hy,ew (a:= -1) (by decide),ew]
  have:=e1 hx py
  have:=Int.mul_pos hy px
  omega
 ·rw[hJ hx,ew hy,eA (a:=0) (by decide),eA]
  rw[hx,Int.zero_mul];exact e1 hy px
 ·rw[hJ hx,hJ hy] at h1;exact absurd rfl h1
 ·rw[hJ hx,eA hy,ew (a:=0) (by decide),ew]
  rw[hx,Int.zero_mul];exact Int.mul_pos hy px
 ·rw[eA hx,ew hy,eA (a:=1) (by decide),eA]
  have:=e1 hy px
  have:=Int.mul_pos hx py
  omega
 ·rw[eA hx,hJ hy,eA (a:=1) (by decide),eA]
  rw[hy,Int.zero_mul];exact Int.mul_pos hx py
 ·rw[eA hx,eA hy] at h1;exact absurd rfl h1
theorem Bn {x y:Rat}:aV x y=dS (x.num*(y.den:Int)) (y.num*(x.den:Int)):=by unfold aV;rw[←qr]
theorem e7 {x:Int}(h:((if x<0 then(7:Int) else 0)==0)=false):x<0:=by
 by_cases hx:x<0
 ·exact hx
 ·rw[if_neg hx] at h;cases h
theorem Ro {x y:Rat}(h:(x.num==y.num)=false):decide (x=y)=false:=by
 simp only[beq_eq_false_iff_ne,ne_eq] at h
 rw[decide_eq_false_iff_not]
 exact fun e=>h (by rw[e])
theorem R2 {x y:Rat}(h:(x.num==y.num)=true):decide (x=y)=((x.den:Int)==(y.den:Int)):=by
 simp only[beq_iff_eq] at h
 rw[Bool.eq_iff_iff,decide_eq_true_eq,beq_iff_eq]
 exact⟨fun e=>by rw[e],fun e=>Rat.ext h (by omega)⟩
theorem FC {x:Int}:xe x=(dS (bP x*bP x) x==0):=by
 unfold xe
 rcases Int.lt_trichotomy (bP x*bP x) x with h|h|h
 ·rw[ew h];simp;omega
 ·rw[hJ h];simp;omega
 ·rw[eA h];simp;omega
theorem PE {x:Rat}(h:xe x.num=true) (h2:xe (x.den:Int)=true):go x=true:=by unfold go;rw[h,h2];rfl
theorem K9 {x:Rat}(h:xe x.num=false):go x=false:=by unfold go;rw[h];rfl
theorem IQ {x:Rat}(h:xe (x.den:Int)=false):go x=false:=by unfold go;rw[h];cases xe x.num<;>rfl
theorem rO:dQ 0 0=.a (([.b false]++[.s 0 []])++([.b false]++[.s 0 []])):=by
 have h:cI 0=[.b false]++[.s 0 []]:=by
  have:=sF
  unfold dI at this
  injection this
 unfold dQ cQ
 rw[h]
theorem Sz.fdiv {k:Nat}{x y:Int}(h:Sz k x):Sz k (x.fdiv y):=h.of_le (by
 have h0: ∀a b:Nat,a/b≤a:=fun a b=>Nat.div_le_self a b
 rcases Int.lt_trichotomy y 0 with hy|hy|hy
 ·rw[←Int.neg_fdiv_neg,Int.fdiv_eq_ediv_of_nonneg _ (by omega)]
  have h2:(-x/ -y).natAbs≤(-x).natAbs:=pE _ _
  omega
 ·subst hy;simp
 ·rw[Int.fdiv_eq_ediv_of_nonneg _ (by omega)]
  exact pE x y)
section
variable {P:Program}{ops:Array Oper}{T:TF}{B:BF}
theorem zE {x y:Operand}{t1 t2:TypeId}{k:IntKind}{m n:Int}
 (hx:di T x=some (.v (.c (.i k m)))) (hy:di T y=some (.v (.c (.i k n)))) (hg:gd ops ⟨dst,.call ⟨.builtin .max,#[x,y],#[t1,t2]⟩,ty,pos,af,g⟩ T=some true):
 Sem P ops ⟨dst,.call ⟨.builtin .max,#[x,y],#[t1,t2]⟩,ty,pos,af,g⟩ T B (.r (.v (.c (.i k (max m n))))):=
 bO hg (mG rfl) (fun V β a w hs=>by
  have e1:a.eval x=.int k m:=RdC.int_eq (aS hs (x:=x) (by simp[Op.operands,Call.operands]) hx)
  have e2:a.eval y=.int k n:=RdC.int_eq (aS hs (x:=y) (by simp[Op.operands,Call.operands]) hy)
  refine⟨.int k (max m n),?_,.i _ _⟩
  simp[execOp,resolve,invoke,builtin,Builtin.max_,Builtin.max2,e1,e2]
  split<;>omega)
theorem FP {x y:Operand}{t1 t2:TypeId}{k:IntKind}{m n:Int}
 (hx:di T x=some (.v (.c (.i k m)))) (hy:di T y=some (.v (.c (.i k n)))) (hg:gd ops ⟨dst,.call ⟨.builtin .min,#[x,y],#[t1,t2]⟩,ty,pos,af,g⟩ T=some true):
 Sem P ops ⟨dst,.call ⟨.builtin .min,#[x,y],#[t1,t2]⟩,ty,pos,af,g⟩ T B (.r (.v (.c (.i k (min m n))))):=
 bO hg (mG rfl) (fun V β a w hs=>by
  have e1:a.eval x=.int k m:=RdC.int_eq (aS hs (x:=x) (by simp[Op.operands,Call.operands]) hx)
  have e2:a.eval y=.int k n:=RdC.int_eq (aS hs (x:=y) (by simp[Op.operands,Call.operands]) hy)
  refine⟨.int k (min m n),?_,.i _ _⟩
  simp[execOp,resolve,invoke,builtin,Builtin.min_,Builtin.min2,e1,e2]
  split<;>omega)
end
theorem cC {P:Program}{ops:Array Oper}{T:TF}{B:BF}{U e:TypeId}{ps:Array (Nat×Operand)}{n m by_:Nat}{zs us:List CellD}{dps:List (Nat×D0)}
 (hU:pc P U=some (e,m,by_,zs)) (hp:pT T ps.toList=some dps) (hf:qG (fun i=>some (i*m,m)) (List.replicate n zs).flatten dps=some us) (hl:us.length=n*m) (hn:n*m≤16777216) (hm:0<n*m)
 (hg:gd ops ⟨dst,.buildSlice U n ps,ty,pos,af,g⟩ T=some true):Sem P ops ⟨dst,.buildSlice U n ps,ty,pos,af,g⟩ T B (.r (.v (.c (.s n us)))):=by
 have h:=gg (B:=B) hU hp hf hn hm hg
 refine⟨mG rfl,fun V β a w hs=>?_⟩
 obtain⟨hw,hg⟩:=h V β a w hs
 refine⟨hw,hg.mono ?_⟩
 rintro v w' ⟨vs,rfl,rfl,hr⟩
 refine⟨?_,(Below.refl _ w).alloc (Nat.le_refl _) _⟩
 have hkeep:=Keep.below (av:=V) ((Below.refl w.heap.size w).alloc (Nat.le_refl _) (.cells vs e))
 have hr2:=hr.keep hkeep
 have hvl:vs.size=n*m:=by have:=hr.1;rw[hl] at this;simpa using this
 have hn0:0<n:=by
  rcases Nat.eq_zero_or_pos n with h0|h0
  ·rw[h0,Nat.zero_mul] at hm;omega
  ·exact h0
 have hm0:0<m:=by
  rcases Nat.eq_zero_or_pos m with h0|h0
  ·rw[h0,Nat.mul_zero] at hm;omega
  ·exact h0
 have hnm:n≤n*m:=Nat.le_mul_of_pos_right n hm0
 refine .s w.heap.size 0 n m n _ (fun j=>vs.getD j undef) hn0 (Nat.le_refl _) (by omega) hl (by simp) (fun h=>by have:=hs.av _ h;omega) (fun j hj=>?_) (fun j u hj=>?_)
 ·rw[Nat.zero_add,cE (heap_alloc_new w (.cells vs e))]
  have:j<vs.size:=by omega
  simp[Array.getD,this]
 ·have hlt:j<n*m:=by have:=(List.getElem?_eq_some_iff.1 hj).1;omega
  refine hr2.2 j _ u ?_ hj
  rw[Array.getElem?_toList]
  have:j<vs.size:=by omega
  simp[Array.getD,this]
theorem bQ {P:Program}{ops:Array Oper}{o:Oper}{T:TF}{B:BF}{b c:Bool}(h:Sem P ops o T B (.r (.v (.c (.b b))))) (e:b=c):Sem P ops o T B (.r (.v (.c (.b c)))):=by subst e;exact h
theorem dg {a b:Int}(h0: -9223372036854775808≤a*b) (h1:a*b≤9223372036854775807):xu .mul .i64 a b=some (a*b):=congrArg some (iU h0 h1)
section
variable {P:Program}{f:FuncId}{ds rs:List D0}{x y z u v x' y' z' u' v':Rat}
theorem dt (h:Ok P f ds [dR x]) (e:x=x'):Ok P f ds [dR x']:=by subst e;exact h
theorem ow (h:Ok P f ds [.a (cR x++cR y++cR z)]) (e1:x=x') (e2:y=y') (e3:z=z'):Ok P f ds [.a (cR x'++cR y'++cR z')]:=by subst e1 e2 e3;exact h
theorem zg {rs:List D0}(h:Ok P f ds (.a (cR x++cR y++cR z++cR u++cR v)::rs)) (e1:x=x') (e2:y=y') (e3:z=z') (e4:u=u') (e5:v=v'):Ok P f ds (.a (cR x'++cR y'++cR z'++cR u'++cR v')::rs):=by subst e1 e2 e3 e4 e5;exact h
theorem gQ {b c:Bool}(h:Ok P f ds [.c (.b b)]) (e:b=c):Ok P f ds [.c (.b c)]:=by subst e;exact h
theorem i5 {b c:Int}(h:Ok P f ds [.c (.i .i64 b)]) (e:b=c):Ok P f ds [.c (.i .i64 c)]:=by subst e;exact h
end
theorem EY {x y:Int}(hx:Sz 1000000 x) (hy:Sz 1000000 y):Ok Tryz.prog 203 [dI x,dI y] [dI (Int.gcd x y:Int)]:=by
 refine Ok.fn Tryz.func203 61 [.cell 4 33] rfl<|aa<|ab<|al 2<|aC (ai dL rfl) rfl<|ar<|aa<|aR 8 rfl rfl<|ap 2<|aj (am rfl (oT))<|ap 2<|aj (am rfl (oT))<|ba (ai dL rfl) rfl<|ba (ai dL rfl) rfl ?_
 refine aY<|bG<|ag<|aa<|aJ<|bD (ι:={p:Int×Int // GInv x y p.1 p.2}) (fun i=>⟨61,[(4,.p 4 0),(5,.p 5 0),(6,.p 6 0)],[(4,33,([.b false]++[.s 0 []])),(5,33,cI i.1.1),(6,33,cI i.1.2)]⟩) (fun i=>i.1.2.toNat) ⟨(sg false (x.natAbs:Int),sg false (y.natAbs:Int)),GInv.start hx hy⟩ (aM ⟨rfl,rfl,rfl,trivial⟩ ⟨rfl,rfl,rfl,trivial⟩ rfl) ?_
 rintro⟨⟨a,c⟩,hg⟩
 replace hg:GInv x y a c:=hg
 have ha:=hg.sa
 have hcc:=hg.sc
 show Dw _ _ ⟨61,[(4,.p 4 0),(5,.p 5 0),(6,.p 6 0)],[(4,33,([.b false]++[.s 0 []])),(5,33,cI a),(6,33,cI c)]⟩ _
 refine aa<|aa<|ab<|ag ?_
 refine aw rfl (fun hc1=>?_) (fun hc1=>?_)
 ·have hne:=nT hc1
  refine ao<|aJ<|aa<|ab<|al 1<|ah (am rfl (B6))<|ag<|aa<|ab<|al 1<|ah (am rfl (B6))<|ag<|aa<|aa ?_
  refine ab<|al 1 ?_
  refine cg (bN rfl) (fun c2 hb2=>?_)
  cases c2
  ·refine ag<|aP rfl<|ao<|aa<|ab<|al 4<|ah (am rfl (qO (by assumption) (by assumption) (by assumption)))<|ag<|aR 3 rfl rfl<|ap 2<|aj (am rfl (jA))<|aY<|az<|ag ?_
   exact⟨⟨(c,sg false ((a.natAbs:Int)%c.natAbs)),hg.step hne⟩,aM ⟨rfl,rfl,rfl,trivial⟩ ⟨rfl,rfl,rfl,trivial⟩ rfl,hg.less hne⟩
  ·refine ag ?_
   refine aw rfl (fun hc3=>?_) (fun hc3=>?_)
   ·refine aa<|aJ<|bD (ι:={p:Int×Int // GInv2 x y p.1 p.2}) (fun i=>⟨61,[(4,.p 4 0),(7,.v (.c (.i .u64 i.1.1))),(9,.v (.c (.i .u64 i.1.2)))],[(4,33,([.b false]++[.s 0 []]))]⟩) (fun i=>i.1.2.toNat) ⟨(if a.natAbs<1000000000000000000 then(a.natAbs:Int) else 0,if c.natAbs<1000000000000000000 then(c.natAbs:Int) else 0),hg.word hb2 hc3⟩ (aM ⟨rfl,rfl,rfl,trivial⟩ ⟨rfl,trivial⟩ rfl) ?_
    rintro⟨⟨u,v⟩,hw⟩
    replace hw:GInv2 x y u v:=hw
    show Dw _ _ ⟨61,[(4,.p 4 0),(7,.v (.c (.i .u64 u))),(9,.v (.c (.i .u64 v)))],[(4,33,([.b false]++[.s 0 []]))]⟩ _
    refine aa<|aa<|ab<|ag ?_
    refine aw rfl (fun hc4=>?_) (fun hc4=>?_)
    ·have hv:v>0:=by simpa using hc4
     refine ao<|aJ<|aR 6 rfl rfl<|ap 3<|aj (yM rfl rfl (by omega) rfl) ?_
     refine bk<|az<|ar ?_
     exact⟨⟨(v,u.tmod v),hw.step hv⟩,aM ⟨rfl,rfl,rfl,trivial⟩ ⟨rfl,trivial⟩ rfl,hw.less hv⟩
    ·refine bj<|aa<|ab<|al 1<|ah (am rfl (G8 hw.u0 hw.u1))<|ah (am rfl (jA))<|ag<|an ?_
     rw[hw.done (by simpa using hc4)]
     exact aq (a7 bU rfl ae)
   ·refine ao<|aa<|ab<|al 4<|ah (am rfl (qO (by assumption) (by assumption) (by assumption)))<|ag<|aR 3 rfl rfl<|ap 2<|aj (am rfl (jA))<|aY<|az<|ag ?_
    exact⟨⟨(c,sg false ((a.natAbs:Int)%c.natAbs)),hg.step hne⟩,aM ⟨rfl,rfl,rfl,trivial⟩ ⟨rfl,rfl,rfl,trivial⟩ rfl,hg.less hne⟩
 ·refine bj<|aa<|ab<|al 2<|ah (KM rfl (by assumption) rfl) ?_
  refine ah (am rfl (oT))<|ag<|an ?_
  rw[hg.done (nW hc1)]
  exact aq (a7 bU rfl ae)
theorem om {x y:Int}(hx:Sz 1000000 x) (hy:Sz 1000000 y) (h0:y≠0):Ok Tryz.prog 269 [dI x,dI y] [dI (x.fdiv y),dI (x.fmod y),.c (.i .i64 0)]:=by
 have hq:Sz 1000000 (q0 x y):=hx.q0
 have hr:Sz 1000000 (r0 x y):=hy.r0 h0
 have h1:Sz 1000000 (1:Int):=Sz.small (by omega) (by omega) (by omega)
 refine Ok.fn Tryz.func269 55 [.cell 4 33,.cell 5 33,.tmp 6] rfl<|aa<|ab<|al 2<|aC (ai dL rfl) rfl<|aC (ai dL rfl) rfl<|ag<|aa<|aa<|ab<|ag ?_
 refine aw rfl (fun hc1=>?_) (fun hc1=>?_)
 ·exact absurd hc1 (by simp[dZ,h0])
 ·refine ao<|aa<|ab<|al 4<|ah (am rfl (qO (by assumption) (by assumption) (by assumption)))<|ag<|aa<|aR 13 rfl rfl<|ap 4<|aj (ff rfl rfl fp rfl) ?_
  refine ap 1<|aj (am rfl (jA))<|ap 3<|aj (am rfl (jA))<|ba (ai dL rfl) rfl<|ba (ai dL rfl) rfl<|aY<|bG<|ag<|aa<|aa<|ab<|al 4 ?_
  refine cg (bN rfl) (fun c2 hb2=>?_)
  cases c2
  ·refine ag<|aP rfl<|ao<|aa<|bZ 5 [4,5,999999] aU (by kernel_rfl) rfl rfl<|ap 2<|gw (fG bU rfl) rfl rfl rfl rfl<|gw (fG bU rfl) rfl rfl rfl rfl<|bk<|bG<|ar<|an ?_
   obtain⟨e1,e2⟩:=rL (x:=x) h0 (.inl (nW hb2))
   rw[e1,e2]
   exact aq (a7 bU rfl (a7 bU rfl (aE ae)))
  ·refine al 4<|ah (ff rfl rfl fp rfl) ?_
   refine ag ?_
   refine aw rfl (fun hc3=>?_) (fun hc3=>?_)
   ·--region 6
    refine aR 6 rfl rfl<|ap 1<|aj (am rfl (kH (by omega) (by omega)))<|aj (am rfl (MF (by assumption) (by assumption)))<|ap 2<|aj (am rfl (uP (by assumption) (by assumption)))<|aY<|az<|ag<|aa<|bZ 5 [4,5,999999] aU (by kernel_rfl) rfl rfl<|ap 2<|gw (fG bU rfl) rfl rfl rfl rfl<|gw (fG bU rfl) rfl rfl rfl rfl ?_
    refine bk<|bG<|ar<|an ?_
    obtain⟨e1,e2⟩:=Ck (x:=x) h0 (nT hb2) (Ag hc3)
    rw[e1,e2]
    exact aq (a7 bU rfl (a7 bU rfl (aE ae)))
   ·refine ao<|aa<|bZ 5 [4,5,999999] aU (by kernel_rfl) rfl rfl<|ap 2<|gw (fG bU rfl) rfl rfl rfl rfl<|gw (fG bU rfl) rfl rfl rfl rfl<|bk<|bG<|ar<|an ?_
    obtain⟨e1,e2⟩:=rL (x:=x) h0 (.inr (Ai hc3))
    rw[e1,e2]
    exact aq (a7 bU rfl (a7 bU rfl (aE ae)))
theorem sm {x:Int}:Ok Tryz.prog 134 [dI x] [.c (.i .i64 (dS x 0))]:=by
 refine Ok.fn Tryz.func134 9 [.tmp 2] rfl<|aa<|ab<|ag<|aa<|aa<|ab<|ag ?_
 refine aw rfl (fun hc1=>?_) (fun hc1=>?_)
 ·refine aa<|ab<|ag<|an ?_
  rw[hJ (by have:=hc1;simp[dZ] at this;omega)]
  exact aq (aE ae)
 ·refine ao<|aa<|aa<|ab<|ag ?_
  refine aw rfl (fun hc2=>?_) (fun hc2=>?_)
  ·refine aa<|ab<|ag<|an ?_
   rw[ew (by simpa using hc2)]
   exact aq (aE ae)
  ·refine ao<|aa<|ab<|ag<|an ?_
   rw[eA (by have:=hc1;have h2:=hc2;simp[dZ] at this h2;omega)]
   exact aq (aE ae)
theorem F1 {x y:Int}(hx:Sz 1000000 x) (hy:Sz 1000000 y):Ok Tryz.prog 135 [dI x,dI y] [.c (.i .i64 (dS x y))]:=by
 refine Ok.fn Tryz.func135 24 [.tmp 4] rfl<|aa<|ab<|ag<|aa<|aa<|ab<|al 4<|ah (ff rfl rfl fp rfl) ?_
 refine ar ?_
 refine aw rfl (fun hc1=>?_) (fun hc1=>?_)
 ·refine aa<|aa<|ab<|ag ?_
  refine aw rfl (fun hc2=>?_) (fun hc2=>?_)
  ·refine aa<|ab<|ag<|an ?_
   rw[ew (by have:=Ag hc1;have h2:=hc2;simp only[decide_eq_true_eq] at h2;omega)]
   exact aq (aE ae)
  ·refine ao<|aa<|ab<|ag<|an ?_
   rw[eA (by have:=Ag hc1;have h2:=hc2;simp only[decide_eq_false_iff_not] at h2;omega)]
   exact aq (aE ae)
 ·refine ao<|aa<|aa<|ab<|ag ?_
  refine aw rfl (fun hc3=>?_) (fun hc3=>?_)
  ·refine aa<|ab<|al 4<|ah (am rfl (mD (by assumption) (by assumption)))<|ag<|an ?_
   rw[←yJ hc3 (by have:=Ai hc1;have h2:=hc3;simp only[decide_eq_true_eq] at h2;omega)]
   exact aq (aE ae)
  ·refine ao<|aa<|ab<|al 4<|ah (am rfl (mD (by assumption) (by assumption)))<|ag<|an ?_
   rw[←yY hc3 (by have:=Ai hc1;have h2:=hc3;simp only[decide_eq_false_iff_not] at h2;omega)]
   exact aq (aE ae)
theorem nO {x:Int}(h0: -9223372036854775808≤x) (h1:x≤9223372036854775807):Ok Tryz.prog 113 [.c (.i .i64 x)] [dI x]:=by
 refine Ok.fn Tryz.func113 14 [.cell 2 33] rfl<|aa<|ab<|aC (ai dL rfl) rfl<|ar<|aa<|aa<|ab<|ag ?_
 refine aw rfl (fun hc1=>?_) (fun hc1=>?_)
 ·have hn:x<0:=by simpa using hc1
  refine aa<|ab<|al 1<|ah (bF (r:=x+18446744073709551616) kZ fk rfl (BU hn h0) rfl) ?_
  refine ah (dD (r:= -x) rfl (xR hn h0) rfl) ?_
  refine ah (am rfl (nE (by omega) (by omega)))<|ah (am rfl (gO (Sz.small3 (by omega) (by omega))))<|ag<|an ?_
  have hfin:dI x=dI (sg true (((-x).natAbs:Nat):Int)):=congrArg dI (by rw[fH];omega)
  rw[hfin]
  exact aq (a7 bU rfl ae)
 ·have hn:0≤x:=by have:=hc1;simp at this;omega
  refine ao<|aa<|ab<|al 1<|ah (bF (r:=x) kZ fk rfl (gG (by omega) (by omega)) rfl) ?_
  refine ah (am rfl (nE (by omega) (by omega)))<|ah (am rfl (gO (Sz.small3 (by omega) (by omega))))<|ag<|an ?_
  have hfin:dI x=dI (sg false ((x.natAbs:Nat):Int)):=congrArg dI (by rw[dj];omega)
  rw[hfin]
  exact aq (a7 bU rfl ae)
theorem uv {x:Int}(hx:Sz 1000000 x):Ok Tryz.prog 197 [dI x] [dI (-x)]:=by
 refine Ok.fn Tryz.func197 9 [.cell 2 33] rfl<|aa<|ab<|al 1<|aC (ai dL rfl) rfl<|ar<|aa<|ab<|al 5<|ah (am rfl (gO (by assumption)))<|ag<|an ?_
 rw[←Qp (x:=x)]
 exact aq (a7 bU rfl ae)
theorem ko {x y:Int}(hx:Sz 400000 x) (hy:Sz 400000 y):Ok Tryz.prog 129 [dI x,dI y] [dI (x*y)]:=by
 have hx6:Sz 1000000 x:=hx.m_
 have hy6:Sz 1000000 y:=hy.m_
 have hp:Sz 1000000 ((x.natAbs:Int)*(y.natAbs:Int)):=((As hx).mul (As hy)).m_
 refine Ok.fn Tryz.func129 16 [.cell 4 33] rfl<|aa<|ab<|al 2<|aC (ai dL rfl) rfl<|ar<|aa<|aR 11 rfl rfl<|ap 4<|aj (ff rfl rfl fp rfl) ?_
 refine ap 4<|aj (am rfl (H6 (by assumption) (by assumption)))<|aj (am rfl (gO (by assumption)))<|aY<|az<|ag<|an ?_
 rw[←PM (x:=x) (y:=y)]
 exact aq (a7 bU rfl ae)
theorem ub {x y:Int}(hx:Sz 900000 x) (hy:Sz 900000 y):Ok Tryz.prog 213 [dI x,dI y] [dI (x+y)]:=by
 have hx6:Sz 1000000 x:=hx.m_
 have hy6:Sz 1000000 y:=hy.m_
 have hp:Sz 1000000 ((x.natAbs:Int)+(y.natAbs:Int)):=((As (hx.mono (l:=999999) (by decide))).add (As (hy.m_))).m_
 refine Ok.fn Tryz.func213 40 [.cell 4 33] rfl<|aa<|ab<|al 2<|aC (ai dL rfl) rfl<|ar<|aa<|aa<|ab<|al 4<|ah (wU rfl rfl fp rfl) ?_
 refine ar ?_
 refine aw rfl (fun hc1=>?_) (fun hc1=>?_)
 ·refine aa<|aR 8 rfl rfl<|ap 6<|aj (am rfl (MQ (by assumption) (by assumption)))<|aj (am rfl (gO (by assumption)))<|aY<|az<|ag<|an ?_
  rw[←OC hc1]
  exact aq (a7 bU rfl ae)
 ·refine ao<|aa<|aa<|ab<|al 4<|ah (am rfl (mD (by assumption) (by assumption)))<|ag ?_
  refine aw rfl (fun hc2=>?_) (fun hc2=>?_)
  ·have hge:=yP hc2
   have hq:Sz 1000000 ((x.natAbs:Int)-(y.natAbs:Int)):=hx6.of_le (by omega)
   refine aa<|aR 8 rfl rfl<|ap 6<|aj (am rfl (rI (by assumption) (by omega)))<|aj (am rfl (gO (by assumption)))<|aY<|az<|ag<|an ?_
   rw[←TR hc1 (by omega)]
   exact aq (a7 bU rfl ae)
  ·have hge:=zW hc2
   have hq:Sz 1000000 ((y.natAbs:Int)-(x.natAbs:Int)):=hy6.of_le (by omega)
   refine ao<|aa<|aR 8 rfl rfl<|ap 6<|aj (am rfl (rI (by assumption) (by omega)))<|aj (am rfl (gO (by assumption)))<|aY<|az<|ag<|an ?_
   rw[←UE hc1 (by omega)]
   exact aq (a7 bU rfl ae)
theorem N6 {x y:Int}(hx:Sz 900000 x) (hy:Sz 900000 y):Ok Tryz.prog 257 [dI x,dI y] [dI (x-y)]:=by
 have hx6:Sz 1000000 x:=hx.m_
 have hy6:Sz 1000000 y:=hy.m_
 have hyn:Sz 900000 (-y):=hy.neg
 refine Ok.fn Tryz.func257 9 [.cell 4 33] rfl<|aa<|ab<|al 2<|aC (ai dL rfl) rfl<|ar<|aa<|aR 4 rfl rfl<|ap 2<|aj (am rfl (uv (by assumption)))<|aj (am rfl (ub (by assumption) (by assumption)))<|aY<|az<|ag ?_
 refine an ?_
 rw[Int.sub_eq_add_neg]
 exact aq (a7 bU rfl ae)
theorem pr {x y:Int}(hx:Sz 1000000 x) (hy:Sz 1000000 y):Ok Tryz.prog 133 [dI x,dI y] [.c (.b (x==y))]:=by
 refine Ok.fn Tryz.func133 18 [.tmp 4] rfl<|aa<|ab<|ag<|aa<|ab<|al 4<|ah (wU rfl rfl fp rfl) ?_
 refine cg (bN rfl) (fun c1 hb1=>?_)
 cases c1
 ·refine ag<|an ?_
  rw[show(x==y)=false from by have:=hb1;simp only[beq_eq_false_iff_ne,ne_eq] at this⊢;intro e;subst e;exact this rfl]
  exact aq (aE ae)
 ·refine al 4<|ah (am rfl (mD (by assumption) (by assumption)))<|ag<|an ?_
  rw[←J1 hb1]
  exact aq (aE ae)
theorem j6 {x y:Int}(hx:Sz 200000 x) (hy:Sz 200000 y) (h0:y≠0):Ok Tryz.prog 198 [dI x,dI y] [dI (x.fdiv y),dI (x.fmod y),.c (.i .i64 0)]:=by
 have hq:Sz 900000 (q0 x y):=hx.q0.m_
 have hr:Sz 900000 (r0 x y):=(hy.r0 h0).m_
 have h1:Sz 900000 (1:Int):=Sz.small (by omega) (by omega) (by omega)
 have hy9:Sz 900000 y:=hy.m_
 have hqq:Sz 1000000 ((x.natAbs:Int)/y.natAbs):=Sf hx
 have hrr:Sz 1000000 ((x.natAbs:Int)%y.natAbs):=T5 hy h0
 refine Ok.fn Tryz.func198 54 [.cell 4 33,.cell 5 33,.tmp 6] rfl<|aa<|ab<|al 2<|aC (ai dL rfl) rfl<|aC (ai dL rfl) rfl<|ag<|aa<|aa<|ab<|ag ?_
 refine aw rfl (fun hc1=>?_) (fun hc1=>?_)
 ·exact absurd hc1 (by simp[dZ,h0])
 ·refine ao<|aa<|ab<|al 4<|ah (am rfl (wK (by assumption) (by assumption) (by assumption)))<|ag<|aa<|aR 13 rfl rfl<|ap 4<|aj (ff rfl rfl fp rfl) ?_
  refine ap 1<|aj (am rfl (Ec hqq))<|ap 3<|aj (am rfl (DZ h0 hrr))<|ba (ai dL rfl) rfl<|ba (ai dL rfl) rfl<|aY<|bG<|ag<|aa<|aa<|ab<|al 3 ?_
  refine cg (bN rfl) (fun c2 hb2=>?_)
  cases c2
  ·refine ag<|aP rfl<|ao<|aa<|bZ 5 [4,5,999999] aU (by kernel_rfl) rfl rfl<|ap 2<|gw (fG bU rfl) rfl rfl rfl rfl<|gw (fG bU rfl) rfl rfl rfl rfl<|bk<|bG<|ar<|an ?_
   obtain⟨e1,e2⟩:=rL (x:=x) h0 (.inl (FO.1 (nW hb2)))
   rw[e1,e2]
   exact aq (a7 bU rfl (a7 bU rfl (aE ae)))
  ·refine al 4<|ah (ff rfl rfl fp rfl) ?_
   refine ag ?_
   refine aw rfl (fun hc3=>?_) (fun hc3=>?_)
   ·--region 6
    refine aR 6 rfl rfl<|ap 1<|aj (am rfl (nO (by omega) (by omega)))<|aj (am rfl (N6 (by assumption) (by assumption)))<|ap 2<|aj (am rfl (ub (by assumption) (by assumption)))<|aY<|az<|ag<|aa<|bZ 5 [4,5,999999] aU (by kernel_rfl) rfl rfl<|ap 2<|gw (fG bU rfl) rfl rfl rfl rfl<|gw (fG bU rfl) rfl rfl rfl rfl ?_
    refine bk<|bG<|ar<|an ?_
    obtain⟨e1,e2⟩:=Ck (x:=x) h0 (fun e=>nT hb2 (FO.2 e)) (by rw[Fn h0 (nT hb2)];exact Ag hc3)
    rw[e1,e2]
    exact aq (a7 bU rfl (a7 bU rfl (aE ae)))
   ·refine ao<|aa<|bZ 5 [4,5,999999] aU (by kernel_rfl) rfl rfl<|ap 2<|gw (fG bU rfl) rfl rfl rfl rfl<|gw (fG bU rfl) rfl rfl rfl rfl<|bk<|bG<|ar<|an ?_
    obtain⟨e1,e2⟩:=rL (x:=x) h0 (.inr (by rw[Fn h0 (nT hb2)];exact Ai hc3))
    rw[e1,e2]
    exact aq (a7 bU rfl (a7 bU rfl (aE ae)))
theorem zO {x y:Int}(hx:Sz 200000 x) (hy:Sz 200000 y):Ok Tryz.prog 137 [dI x,dI y] [dI (Int.gcd x y:Int)]:=by
 refine Ok.fn Tryz.func137 54 [.cell 4 33] rfl<|aa<|ab<|al 2<|aC (ai dL rfl) rfl<|ar<|aa<|aR 6 rfl rfl<|bk<|az<|ar<|aa<|aJ<|bD (ι:={p:Int×Int // RG x y p.1 p.2}) (fun i=>⟨54,[(4,.p 4 0),(5,.v (.c (cL i.1.1))),(6,.v (.c (cL i.1.2)))],[(4,33,([.b false]++[.s 0 []]))]⟩) (fun i=>i.1.2.toNat) ⟨((x.natAbs:Int),(y.natAbs:Int)),RG.start hx hy⟩ (aM ⟨rfl,by rw[Is x];rfl,by rw[Is y];rfl,trivial⟩ ⟨rfl,trivial⟩ rfl) ?_
 rintro⟨⟨a,c⟩,hg⟩
 replace hg:RG x y a c:=hg
 have ha:=hg.sa
 have hcc:=hg.sc
 have ha0:=hg.a0
 have hcc0:=hg.c0
 have ha6:Sz 1000000 a:=ha.m_
 show Dw _ _ ⟨54,[(4,.p 4 0),(5,.v (.c (cL a))),(6,.v (.c (cL c)))],[(4,33,([.b false]++[.s 0 []]))]⟩ _
 refine aa<|aa<|ab<|al 3 ?_
 refine cg (bN rfl) (fun c1 hb1=>?_)
 cases c1
 ·refine ag<|aP rfl<|bj<|aa<|aa<|ab<|ag ?_
  refine aw rfl (fun hc2=>?_) (fun hc2=>?_)
  ·refine aa<|ab<|al 1<|ah (am rfl (gO (by assumption)))<|ag<|an ?_
   rw[hg.done (nW hb1)]
   exact aq (a7 bU rfl ae)
  ·exact absurd hc2 (by simp[dZ,nW hb1])
 ·have hne:=nT hb1
  refine al 3 ?_
  refine cg (bN rfl) (fun c3 hb3=>?_)
  cases c3
  ·have hwa:=FS hb3
   refine ag ?_
   refine aw rfl (fun hc4=>?_) (fun hc4=>?_)
   ·refine ao<|aJ<|aa<|ab<|al 2<|ah (am rfl (wK (by assumption) (by assumption) (by assumption)))<|ag<|ab<|ag ?_
    exact⟨⟨(c,(a.natAbs:Int)%c.natAbs),hg.step hne⟩,aM ⟨rfl,rfl,rfl,trivial⟩ ⟨rfl,trivial⟩ rfl,hg.less hne⟩
   ·have hwc:=FS hc4
    refine bj<|aa<|aa<|ab<|ag ?_
    refine aw rfl (fun hc5=>?_) (fun hc5=>?_)
    ·exact absurd hc5 (by simp[dZ,hne])
    ·refine ao<|aa<|ab<|al 1<|ah (am rfl (CA (by assumption)))<|al 1<|ah (am rfl (CA (by assumption)))<|ag<|aa<|aJ<|bD (ι:={p:Int×Int // GInv2 x y p.1 p.2}) (fun i=>⟨54,[(4,.p 4 0),(9,.v (.c (.i .u64 i.1.1))),(10,.v (.c (.i .u64 i.1.2)))],[(4,33,([.b false]++[.s 0 []]))]⟩) (fun i=>i.1.2.toNat) ⟨((a.natAbs:Int),(c.natAbs:Int)),hg.word hwa hwc⟩ (aM ⟨rfl,rfl,rfl,trivial⟩ ⟨rfl,trivial⟩ rfl) ?_
     rintro⟨⟨u,v⟩,hw⟩
     replace hw:GInv2 x y u v:=hw
     have hu0:=hw.u0
     have hu1:=hw.u1
     have hsu:Sz 1000000 u:=Sz.small3 hu0 hu1
     show Dw _ _ ⟨54,[(4,.p 4 0),(9,.v (.c (.i .u64 u))),(10,.v (.c (.i .u64 v)))],[(4,33,([.b false]++[.s 0 []]))]⟩ _
     refine aa<|aa<|ab<|ag ?_
     refine aw rfl (fun hc6=>?_) (fun hc6=>?_)
     ·have hv:v>0:=by simpa using hc6
      have hvn:v≠0:=by omega
      refine ao<|aJ<|aR 6 rfl rfl<|ap 3<|aj (yM rfl rfl (by omega) rfl) ?_
      refine bk<|az<|ar ?_
      exact⟨⟨(v,u.tmod v),hw.step hv⟩,aM ⟨rfl,rfl,rfl,trivial⟩ ⟨rfl,trivial⟩ rfl,hw.less hv⟩
     ·refine bj<|aa<|ab<|al 1<|ah (am rfl (nE (by omega) (by omega)))<|ah (am rfl (gO (by assumption)))<|ag<|an ?_
      rw[hw.fin (by simpa using hc6)]
      exact aq (a7 bU rfl ae)
  ·refine ag<|bg rfl<|ao<|aJ<|aa<|ab<|al 2<|ah (am rfl (wK (by assumption) (by assumption) (by assumption)))<|ag<|ab<|ag ?_
   exact⟨⟨(c,(a.natAbs:Int)%c.natAbs),hg.step hne⟩,aM ⟨rfl,rfl,rfl,trivial⟩ ⟨rfl,trivial⟩ rfl,hg.less hne⟩
theorem Cu {x:Int}(hx:Sz 999999 x):Ok Tryz.prog 272 [dI x] [dI (bP x),.c (.i .i64 (if x<0 then 7 else 0))]:=by
 have h20:(2:Int)≠0:=by decide
 have hl:=fR hx
 have hs2:Sz 1000000 (2:Int):=Sz.small (by omega) (by omega) (by omega)
 refine Ok.fn Tryz.func272 54 [.cell 2 33,.tmp 3] rfl<|aa<|ab<|al 1<|aC (ai dL rfl) rfl<|ag<|aa<|aa<|ab<|ag ?_
 refine aw rfl (fun hc1=>?_) (fun hc1=>?_)
 ·have hn:x<0:=by simpa using hc1
  refine aa<|ab<|ah (aN (us:=([.b false]++[.s 0 []])) DR dL rfl rfl rfl) ?_
  refine ag<|an ?_
  rw[ph hn,if_pos hn,sF]
  exact aq (a7 bU rfl (aE ae))
 ·have hn:0≤x:=by have:=hc1;simp at this;omega
  refine ao<|aa<|aa<|ab<|ag ?_
  refine aw rfl (fun hc2=>?_) (fun hc2=>?_)
  ·have hz:x=0:=by have:=hc2;simp[dZ] at this;omega
   refine aa<|ab<|ah (aN (us:=([.b false]++[.s 0 []])) DR dL rfl rfl rfl) ?_
   refine ag<|an ?_
   rw[hz,yC,sF,if_neg (by omega)]
   exact aq (a7 bU rfl (aE ae))
  ·have hx0:0<x:=by have:=hc2;simp[dZ] at this;omega
   obtain⟨k,hk⟩: ∃k:Nat,((du x.natAbs).length+1)/2=k:=⟨_,rfl⟩
   have hpk:=dJ k
   have hpc:cL (pw k)=cL (pw k):=rfl
   refine ao<|aa<|ab<|al 3<|ah (aK (r:=(((du x.natAbs).length:Int))+1) rfl rfl (aQ (by omega) (by omega)) rfl) ?_
   refine ah (iD (r:=(k:Int)) rfl rfl (by omega) (by rw[Int.tdiv_eq_ediv_of_nonneg (by omega),show(((du x.natAbs).length:Int)+1)/2=(k:Int) from by omega];exact iU (by omega) (by omega)) rfl) ?_
   refine ag<|aa<|ab<|al 1<|jM (kO (n:=k) qZ rfl rfl (by omega) (by omega) rfl) rfl ?_
   refine ah (q8 qZ rfl rfl) ?_
   refine Rv (qF qZ rfl rfl rfl (by omega) rfl) ?_
   refine ah (am rfl (oT))<|aC (ai dL rfl) rfl<|ag<|aa<|ab<|ah (am rfl (kH (by omega) (by omega)))<|aC (ai dL rfl) rfl<|ag<|aJ<|bD (ι:={r:Int // NInv 999999 x r}) (fun i=>⟨54,[(1,.p 1 0),(2,.p 2 0),(3,.v (.c (.i .i64 0))),(5,.p 5 0),(6,.p 6 0)],[(1,33,cI x),(2,33,([.b false]++[.s 0 []])),(5,33,cI i.1),(6,33,cI 2)]⟩) (fun i=>i.1.toNat) ⟨pw k,NInv.start hx0 hx hk (by omega)⟩ (aM ⟨rfl,rfl,rfl,rfl,rfl,trivial⟩ ⟨rfl,rfl,by rw[show sg false (((pw k).natAbs:Nat):Int)=pw k from by rw[dj];have:=dJ k;omega];rfl,rfl,trivial⟩ rfl) ?_
   rintro⟨r,hg⟩
   replace hg:NInv 999999 x r:=hg
   have hsr:=hg.sz
   have hr0:=hg.r0
   have hrn:r≠0:=by omega
   obtain⟨hsq,hsum,hsn⟩:=hg.sum hx hx0
   have a1:Sz 1000000 r:=hsr.m_
   have a2:Sz 1000000 (x.fdiv r):=hsq.m_
   have a3:Sz 1000000 x:=hx.m_
   show Dw _ _ ⟨54,[(1,.p 1 0),(2,.p 2 0),(3,.v (.c (.i .i64 0))),(5,.p 5 0),(6,.p 6 0)],[(1,33,cI x),(2,33,([.b false]++[.s 0 []])),(5,33,cI r),(6,33,cI 2)]⟩ _
   refine aJ<|aa<|ab<|al 2<|ah (am rfl (om (by assumption) (by assumption) (by assumption)))<|al 4<|aC (ai dL rfl) rfl<|aC (ai dL rfl) rfl<|ag<|aa<|bZ 14 [10,11,999999] aU (by kernel_rfl) rfl rfl<|ap 2<|aj (am rfl (uP (by assumption) (by assumption)))<|ap 1 ?_
   refine aj (am rfl (om (by assumption) (by assumption) (by assumption)))<|ap 4<|ba (ai dL rfl) rfl<|ba (ai dL rfl) rfl<|gz (fG bU rfl) rfl rfl rfl rfl<|gz (fG bU rfl) rfl rfl rfl rfl<|bk<|lI<|ar<|aa<|aa<|ab<|al 2<|ah (am rfl (kq)) ?_
   refine ag ?_
   refine aw rfl (fun hc3=>?_) (fun hc3=>?_)
   ·have hst:=yP hc3
    refine aa<|ab<|ag<|an ?_
    rw[hg.done hx0 hst,if_neg (by omega)]
    exact aq (a7 bU rfl (aE ae))
   ·have hlt:=zW hc3
    refine ao<|ab<|ag ?_
    exact⟨⟨(r+x.fdiv r).fdiv 2,hg.next hx0 hlt⟩,aM ⟨rfl,rfl,rfl,rfl,rfl,trivial⟩ ⟨rfl,rfl,rfl,rfl,trivial⟩ rfl,by show((r+x.fdiv r).fdiv 2).toNat<r.toNat;omega⟩
theorem LC {x:Int}(hx:Sz 199999 x):Ok Tryz.prog 218 [dI x] [dI (bP x),.c (.i .i64 (if x<0 then 7 else 0))]:=by
 have h20:(2:Int)≠0:=by decide
 have hl:=fR hx
 have hs2:Sz 200000 (2:Int):=Sz.small (by omega) (by omega) (by omega)
 refine Ok.fn Tryz.func218 52 [.cell 2 33,.tmp 3] rfl<|aa<|ab<|al 1<|aC (ai dL rfl) rfl<|ag<|aa<|aa<|ab<|ag ?_
 refine aw rfl (fun hc1=>?_) (fun hc1=>?_)
 ·have hn:x<0:=by simpa using hc1
  refine aa<|ab<|ah (aN (us:=([.b false]++[.s 0 []])) DR dL rfl rfl rfl) ?_
  refine ag<|an ?_
  rw[ph hn,if_pos hn,sF]
  exact aq (a7 bU rfl (aE ae))
 ·have hn:0≤x:=by have:=hc1;simp at this;omega
  refine ao<|aa<|aa<|ab<|ag ?_
  refine aw rfl (fun hc2=>?_) (fun hc2=>?_)
  ·have hz:x=0:=by have:=hc2;simp[dZ] at this;omega
   refine aa<|ab<|ah (aN (us:=([.b false]++[.s 0 []])) DR dL rfl rfl rfl) ?_
   refine ag<|an ?_
   rw[hz,yC,sF,if_neg (by omega)]
   exact aq (a7 bU rfl (aE ae))
  ·have hx0:0<x:=by have:=hc2;simp[dZ] at this;omega
   obtain⟨k,hk⟩: ∃k:Nat,((du x.natAbs).length+1)/2=k:=⟨_,rfl⟩
   have hpk:=dJ k
   have hpc:cL (pw k)=cL (pw k):=rfl
   refine ao<|aa<|ab<|al 3<|ah (aK (r:=(((du x.natAbs).length:Int))+1) rfl rfl (aQ (by omega) (by omega)) rfl) ?_
   refine ah (iD (r:=(k:Int)) rfl rfl (by omega) (by rw[Int.tdiv_eq_ediv_of_nonneg (by omega),show(((du x.natAbs).length:Int)+1)/2=(k:Int) from by omega];exact iU (by omega) (by omega)) rfl) ?_
   refine jM (kO (n:=k) qZ rfl rfl (by omega) (by omega) rfl) rfl ?_
   refine ah (q8 qZ rfl rfl) ?_
   refine Rv (qF qZ rfl rfl rfl (by omega) rfl) ?_
   refine ah (aN (us:=([.b false]++[cL (pw k)])) DR dL rfl rfl rfl) ?_
   refine aC (ai dL rfl) rfl<|ag<|aa<|ab<|ah (am rfl (nO (by omega) (by omega)))<|aC (ai dL rfl) rfl<|ag<|aJ<|bD (ι:={r:Int // NInv 199999 x r}) (fun i=>⟨52,[(1,.p 1 0),(2,.p 2 0),(3,.v (.c (.i .i64 0))),(4,.p 4 0),(5,.p 5 0)],[(1,33,cI x),(2,33,([.b false]++[.s 0 []])),(4,33,cI i.1),(5,33,cI 2)]⟩) (fun i=>i.1.toNat) ⟨pw k,NInv.start hx0 hx hk (by omega)⟩ (aM ⟨rfl,rfl,rfl,rfl,rfl,trivial⟩ ⟨rfl,rfl,by rw[Te (by have:=dJ k;omega)];rfl,rfl,trivial⟩ rfl) ?_
   rintro⟨r,hg⟩
   replace hg:NInv 199999 x r:=hg
   have hsr:=hg.sz
   have hr0:=hg.r0
   have hrn:r≠0:=by omega
   obtain⟨hsq,hsum,hsn⟩:=hg.sum hx hx0
   have a1:Sz 200000 r:=hsr.m_
   have a2:Sz 900000 (x.fdiv r):=hsq.m_
   have a3:Sz 200000 x:=hx.m_
   have a4:Sz 900000 r:=hsr.m_
   have a5:Sz 1000000 r:=hsr.m_
   have a6:Sz 1000000 ((r+x.fdiv r).fdiv 2):=hsn.m_
   show Dw _ _ ⟨52,[(1,.p 1 0),(2,.p 2 0),(3,.v (.c (.i .i64 0))),(4,.p 4 0),(5,.p 5 0)],[(1,33,cI x),(2,33,([.b false]++[.s 0 []])),(4,33,cI r),(5,33,cI 2)]⟩ _
   refine aJ<|aa<|ab<|al 2<|ah (am rfl (j6 (by assumption) (by assumption) (by assumption)))<|al 4<|aC (ai dL rfl) rfl<|aC (ai dL rfl) rfl<|ag<|aa<|bZ 14 [9,10,999999] aU (by kernel_rfl) rfl rfl<|ap 2<|aj (am rfl (ub (by assumption) (by assumption)))<|ap 1 ?_
   refine aj (am rfl (j6 (by assumption) (by assumption) (by assumption)))<|ap 4<|ba (ai dL rfl) rfl<|ba (ai dL rfl) rfl<|gz (fG bU rfl) rfl rfl rfl rfl<|gz (fG bU rfl) rfl rfl rfl rfl<|bk<|lI<|ar<|aa<|aa<|ab<|al 2<|ah (am rfl (F1 (by assumption) (by assumption))) ?_
   refine ag ?_
   refine aw rfl (fun hc3=>?_) (fun hc3=>?_)
   ·have hst:=yP hc3
    refine aa<|ab<|ag<|an ?_
    rw[hg.done hx0 hst,if_neg (by omega)]
    exact aq (a7 bU rfl (aE ae))
   ·have hlt:=zW hc3
    refine ao<|ab<|ag ?_
    exact⟨⟨(r+x.fdiv r).fdiv 2,hg.next hx0 hlt⟩,aM ⟨rfl,rfl,rfl,rfl,rfl,trivial⟩ ⟨rfl,rfl,rfl,rfl,trivial⟩ rfl,by show((r+x.fdiv r).fdiv 2).toNat<r.toNat;omega⟩
theorem yZ:Ok Tryz.prog 205 [] [dI 1]:=by
 refine Ok.fn Tryz.func205 2 [.cell 0 33] rfl<|aa<|ab<|aC (ai dL rfl) rfl<|ar<|aa<|ab<|ah (am rfl (kH (by omega) (by omega)))<|ag<|an ?_
 exact aq (a7 bU rfl ae)
theorem By {m:Int}:Ok Tryz.prog 277 [.c (.i .i64 m)] [.c (.b false)]:=by
 refine Ok.fn Tryz.func277 6 [.tmp 2] rfl<|aa<|ab<|ag<|aa<|ab<|ag<|an ?_
 exact⟨.inr rfl,by simpa using(aE ae)⟩
theorem yv {m n:Int}:Ok Tryz.prog 222 [.c (.i .i64 m),.c (.i .i64 n)] [.c (.i .i64 (dS m n))]:=by
 refine Ok.fn Tryz.func222 20 [.tmp 4] rfl<|aa<|ab<|ag<|aa<|ab<|al 1<|ah (am rfl (By))<|ag<|aa<|ab<|al 1<|ah (am rfl (By))<|ag ?_
 refine aa<|aa<|ab<|ag<|aP rfl<|ao<|aa<|aa<|ab<|ag<|aP rfl<|ao<|aa<|aa ?_
 refine ab<|ag ?_
 refine aw rfl (fun hc1=>?_) (fun hc1=>?_)
 ·refine aa<|ab<|ag<|an ?_
  rw[ew (by simpa using hc1)]
  exact aq (aE ae)
 ·refine ao<|aa<|aa<|ab<|ag ?_
  refine aw rfl (fun hc2=>?_) (fun hc2=>?_)
  ·refine aa<|ab<|ag<|an ?_
   rw[eA (by simpa using hc2)]
   exact aq (aE ae)
  ·refine ao<|aa<|ab<|ag<|an ?_
   rw[hJ (by have:=hc1;have h2:=hc2;simp at this h2;omega)]
   exact aq (aE ae)
theorem ml {x:Rat}:Ok Tryz.prog 79 [dR x] [.c (.i .i64 (aV x 0))]:=by
 refine Ok.fn Tryz.func79 6 [.tmp 2] rfl<|aa<|ab<|ag<|aa<|ab<|al 1<|ah (aF (cI x.num) bU rfl)<|ah (am rfl (vx))<|ag<|an ?_
 rw[←sn]
 exact aq (aE ae)
theorem dh {x:Rat}:Ok Tryz.prog 79 [dR x] [.c (.i .i64 (aV x 0))]:=ml
theorem GV {n:Int}:Ok Tryz.prog 126 [dI n] [dR (n:Rat)]:=by
 refine Ok.fn Tryz.func126 6 [.cell 2 35] rfl<|aa<|ab<|al 1<|aC (ai bJ rfl) rfl<|ar<|aa<|aR 3 rfl rfl<|ap 1<|aj (am rfl (yZ))<|aj (aN (us:=cQ n 1) qC bJ rfl rfl rfl) ?_
 refine aY<|az<|ag<|an ?_
 rw[LF]
 exact aq (a7 aD rfl ae)
theorem wx {n:Int}(h0: -9223372036854775808≤n) (h1:n≤9223372036854775807):Ok Tryz.prog 58 [.c (.i .i64 n)] [dR (n:Rat)]:=by
 refine Ok.fn Tryz.func58 6 [.cell 2 35] rfl<|aa<|ab<|aC (ai bJ rfl) rfl<|ar<|aa<|ab<|al 1<|ah (am rfl (kH (by omega) (by omega)))<|ah (am rfl (GV))<|ag<|an ?_
 exact aq (a7 aD rfl ae)
theorem iM {n:Int}(h0: -9223372036854775808≤n) (h1:n≤9223372036854775807):Ok Tryz.prog 58 [.c (.i .i64 n)] [dR (n:Rat)]:=wx h0 h1
theorem oD {x y:Int}(hx:Sz 1000000 x) (hy:Sz 1000000 y) (h0:y≠0):Ok Tryz.prog 206 [dI x,dI y] [dI (x.fdiv y)]:=by
 refine Ok.fn Tryz.func206 16 [.cell 4 33] rfl<|aa<|ab<|al 2<|aC (ai dL rfl) rfl<|ar<|aa<|ab<|al 2<|ah (am rfl (om (fm hx) (fm hy) (by assumption)))<|al 4<|aC (ai dL rfl) rfl<|aC (ai dL rfl) rfl<|ag ?_
 refine aa<|ab<|ag<|an ?_
 exact aq (a7 bU rfl ae)
theorem mO {x y:Int}(hx:Sz 199800 x) (hy:Sz 199800 y) (h0:y≠0):Ok Tryz.prog 120 [dI x,dI y] [dR (Rat.divInt x y)]:=by
 have hg:=zF (n:=x) h0
 have hg2:=zF (n:= -x) (d:= -y) (by omega)
 have hgs:=Sz.gcd (x:=x) hy h0
 have hgs2:=Sz.gcd (x:= -x) hy.neg (by omega)
 refine Ok.fn Tryz.func120 29 [.cell 4 35] rfl<|aa<|ab<|al 2<|aC (ai bJ rfl) rfl<|ar<|aa<|aa<|ab<|al 1<|ah (am rfl (vx))<|ag ?_
 refine aw rfl (fun hc1=>?_) (fun hc1=>?_)
 ·have hn:=PU hc1
  refine aR 4 rfl rfl<|ap 1<|aj (am rfl (uQ (fm hx)))<|ap 1<|aj (am rfl (uQ (fm hy)))<|aY<|az<|ag<|aa<|aa<|ab<|al 2<|ah (am rfl (EY (fm (Sz.neg hx)) (fm (Sz.neg hy))))<|aC (ai dL rfl) rfl ?_
  refine ag<|aa<|aR 4 rfl rfl<|ap 1<|aj (am rfl (yZ))<|aj (am rfl (kq))<|bk<|az<|ar ?_
  refine aw rfl (fun hc2=>?_) (fun hc2=>?_)
  ·--region 5
   refine aR 6 rfl rfl<|ap 2 ?_
   refine aj (am rfl (oD (fm (Sz.neg hx)) (JE) (by first|assumption|exact neg_ne (by assumption)|exact gZ (by assumption) (by assumption)))) ?_
   refine ap 2 ?_
   refine aj (am rfl (oD (fm (Sz.neg hy)) (JE) (by first|assumption|exact neg_ne (by assumption)|exact gZ (by assumption) (by assumption)))) ?_
   refine aY<|az<|ag<|aa<|ab<|al 2<|ah (aN (us:=cQ ((-x).fdiv ((Int.gcd (-x) (-y):Int))) ((-y).fdiv ((Int.gcd (-x) (-y):Int)))) qC bJ rfl rfl rfl) ?_
   refine ag<|an ?_
   rw[Dv,ww (by omega)]
   exact aq (a7 aD rfl ae)
  ·refine ao<|aa<|ab<|al 2<|ah (aN (us:=cQ (-x) (-y)) qC bJ rfl rfl rfl) ?_
   refine ag<|an ?_
   rw[Dv,uJ (by omega) (Ty hc2)]
   exact aq (a7 aD rfl ae)
 ·have hn:=QQ hc1
  refine ao<|aa<|aa<|ab<|al 2<|ah (am rfl (EY (fm hx) (fm hy)))<|aC (ai dL rfl) rfl<|ag<|aa<|aR 4 rfl rfl<|ap 1<|aj (am rfl (yZ))<|aj (am rfl (kq))<|bk ?_
  refine az<|ar ?_
  refine aw rfl (fun hc3=>?_) (fun hc3=>?_)
  ·--region 5
   refine aR 6 rfl rfl<|ap 2 ?_
   refine aj (am rfl (oD (fm hx) (JE) (by first|assumption|exact neg_ne (by assumption)|exact gZ (by assumption) (by assumption)))) ?_
   refine ap 2 ?_
   refine aj (am rfl (oD (fm hy) (JE) (by first|assumption|exact neg_ne (by assumption)|exact gZ (by assumption) (by assumption)))) ?_
   refine aY<|az<|ag<|aa<|ab<|al 2<|ah (aN (us:=cQ (x.fdiv (Int.gcd x y:Int)) (y.fdiv (Int.gcd x y:Int))) qC bJ rfl rfl rfl) ?_
   refine ag<|an ?_
   rw[ww (by omega)]
   exact aq (a7 aD rfl ae)
  ·refine ao<|aa<|ab<|al 2<|ah (aN (us:=cQ x y) qC bJ rfl rfl rfl) ?_
   refine ag<|an ?_
   rw[uJ (by omega) (Ty hc3)]
   exact aq (a7 aD rfl ae)
theorem gc {x:Rat}(hx:Rz 60000 x):Ok Tryz.prog 123 [dR x] [dR (-x)]:=by
 refine Ok.fn Tryz.func123 9 [.cell 2 35] rfl<|aa<|ab<|al 1<|aC (ai bJ rfl) rfl<|ar<|aa<|aR 6 rfl rfl<|ap 1<|aj (aF (cI x.num) bU rfl)<|aj (am rfl (uQ (fm (Rz.n hx))))<|ap 1<|aj (aF (cI (x.den:Int)) bU rfl)<|aj (aN (us:=cQ (-x.num) (x.den:Int)) qC bJ rfl rfl rfl) ?_
 refine aY<|az<|ag<|an ?_
 rw[IR (Rat.neg_num x) (congrArg Int.ofNat (Rat.neg_den x))]
 exact aq (a7 aD rfl ae)
theorem kS {x y:Rat}(hx:Rz 60000 x) (hy:Rz 60000 y):Ok Tryz.prog 122 [dR x,dR y] [dR (x+y)]:=by
 have hn:=gZ (jP x) (jP y)
 have hn1:=jP x
 refine Ok.fn Tryz.func122 36 [.cell 4 35] rfl<|aa<|ab<|al 2<|aC (ai bJ rfl) rfl<|ar<|aa<|aa<|ab<|al 1<|ah (aF (cI (x.den:Int)) bU rfl)<|al 1<|ah (aF (cI (y.den:Int)) bU rfl)<|ah (am rfl (kq)) ?_
 refine ag ?_
 refine aw rfl (fun hc1=>?_) (fun hc1=>?_)
 ·refine aa<|aR 8 rfl rfl<|ap 1<|aj (aF (cI x.num) bU rfl)<|ap 1<|aj (aF (cI y.num) bU rfl)<|aj (am rfl (uP (fm (Rz.n hx)) (fm (Rz.n hy))))<|ap 1<|aj (aF (cI (x.den:Int)) bU rfl) ?_
  refine aj (am rfl (mO (fm (Sz.addm (Rz.n hx) (Rz.n hy))) (fm (Rz.d hx)) (by first|assumption|exact neg_ne (by assumption)|exact gZ (by assumption) (by assumption)))) ?_
  refine aY<|az<|ag<|an ?_
  rw[←TJ (PX hc1)]
  exact aq (a7 aD rfl ae)
 ·refine ao<|aa<|aR 17 rfl rfl<|ap 1<|aj (aF (cI x.num) bU rfl)<|ap 1<|aj (aF (cI (y.den:Int)) bU rfl)<|aj (am rfl (iz (fm (Rz.n hx)) (fm (Rz.d hy))))<|ap 1<|aj (aF (cI y.num) bU rfl)<|ap 1<|aj (aF (cI (x.den:Int)) bU rfl)<|aj (am rfl (iz (fm (Rz.n hy)) (fm (Rz.d hx))))<|aj (am rfl (uP (fm (Sz.mul (Rz.n hx) (Rz.d hy))) (fm (Sz.mul (Rz.n hy) (Rz.d hx))))) ?_
  refine ap 1<|aj (aF (cI (x.den:Int)) bU rfl)<|ap 1<|aj (aF (cI (y.den:Int)) bU rfl)<|aj (am rfl (iz (fm (Rz.d hx)) (fm (Rz.d hy)))) ?_
  refine aj (am rfl (mO (fm (Sz.addm (Sz.mul (Rz.n hx) (Rz.d hy)) (Sz.mul (Rz.n hy) (Rz.d hx)))) (fm (Sz.mul (Rz.d hx) (Rz.d hy))) (by first|assumption|exact neg_ne (by assumption)|exact gZ (by assumption) (by assumption)))) ?_
  refine aY<|az<|ag<|an ?_
  rw[←Oz]
  exact aq (a7 aD rfl ae)
theorem fE {x y:Rat}(hx:Rz 60000 x) (hy:Rz 60000 y):Ok Tryz.prog 55 [dR x,dR y] [dR (x-y)]:=by
 refine Ok.fn Tryz.func55 9 [.cell 4 35] rfl<|aa<|ab<|al 2<|aC (ai bJ rfl) rfl<|ar<|aa<|aR 4 rfl rfl<|ap 2<|aj (am rfl (gc (aX hy)))<|aj (am rfl (kS (aX hx) (aX (Rz.neg hy))))<|aY<|az<|ag ?_
 refine an ?_
 rw[Rat.sub_eq_add_neg]
 exact aq (a7 aD rfl ae)
theorem dd {x y:Rat}(hx:Rz 60000 x) (hy:Rz 60000 y):Ok Tryz.prog 56 [dR x,dR y] [dR (x*y)]:=by
 have hn:=gZ (jP x) (jP y)
 refine Ok.fn Tryz.func56 16 [.cell 4 35] rfl<|aa<|ab<|al 2<|aC (ai bJ rfl) rfl<|ar<|aa<|aR 11 rfl rfl<|ap 1<|aj (aF (cI x.num) bU rfl)<|ap 1<|aj (aF (cI y.num) bU rfl)<|aj (am rfl (iz (fm (Rz.n hx)) (fm (Rz.n hy))))<|ap 1 ?_
 refine aj (aF (cI (x.den:Int)) bU rfl)<|ap 1<|aj (aF (cI (y.den:Int)) bU rfl)<|aj (am rfl (iz (fm (Rz.d hx)) (fm (Rz.d hy)))) ?_
 refine aj (am rfl (mO (fm (Sz.mul (Rz.n hx) (Rz.n hy))) (fm (Sz.mul (Rz.d hx) (Rz.d hy))) (by first|assumption|exact neg_ne (by assumption)|exact gZ (by assumption) (by assumption)))) ?_
 refine aY<|az<|ag<|an ?_
 rw[←Rq]
 exact aq (a7 aD rfl ae)
theorem vp {x y:Rat}(hx:Rz 60000 x) (hy:Rz 60000 y) (h0:y≠0):Ok Tryz.prog 54 [dR x,dR y] [dR (x/y),.c (.i .i64 0)]:=by
 have hn:=gZ (jP x) (LW h0)
 refine Ok.fn Tryz.func54 21 [.cell 4 35,.tmp 5] rfl<|aa<|ab<|al 2<|aC (ai bJ rfl) rfl<|ag<|aa<|aa<|ab<|al 1<|ah (am rfl (dh))<|ag ?_
 refine aw rfl (fun hc1=>?_) (fun hc1=>?_)
 ·exact absurd (Gb hc1) h0
 ·refine ao<|aa<|aR 11 rfl rfl<|ap 1<|aj (aF (cI x.num) bU rfl)<|ap 1<|aj (aF (cI (y.den:Int)) bU rfl)<|aj (am rfl (iz (fm (Rz.n hx)) (fm (Rz.d hy))))<|ap 1<|aj (aF (cI (x.den:Int)) bU rfl)<|ap 1<|aj (aF (cI y.num) bU rfl)<|aj (am rfl (iz (fm (Rz.d hx)) (fm (Rz.n hy)))) ?_
  refine aj (am rfl (mO (fm (Sz.mul (Rz.n hx) (Rz.d hy))) (fm (Sz.mul (Rz.d hx) (Rz.n hy))) (by first|assumption|exact neg_ne (by assumption)|exact gZ (by assumption) (by assumption)))) ?_
  refine aY<|az<|ag<|an ?_
  rw[←Rl]
  exact aq (a7 aD rfl (aE ae))
theorem kJ {x y:Rat}(hx:Rz 60000 x) (hy:Rz 60000 y):Ok Tryz.prog 145 [dR x,dR y] [.c (.i .i64 (aV x y))]:=by
 refine Ok.fn Tryz.func145 25 [.tmp 4] rfl<|aa<|ab<|ag<|aa<|aa<|aR 6 rfl rfl<|ap 1<|aj (am rfl (dh))<|ap 1<|aj (am rfl (dh))<|aj (am rfl (yv))<|bk<|az ?_
 refine ar<|aa<|ab<|ag ?_
 refine aw rfl (fun hc1=>?_) (fun hc1=>?_)
 ·refine aa<|ab<|ag<|an ?_
  rw[←DX hc1]
  exact aq (aE ae)
 ·refine ao<|aa<|aR 12 rfl rfl<|ap 1<|aj (aF (cI x.num) bU rfl)<|ap 1<|aj (aF (cI (y.den:Int)) bU rfl)<|aj (am rfl (iz (fm (Rz.n hx)) (fm (Rz.d hy))))<|ap 1<|aj (aF (cI y.num) bU rfl)<|ap 1<|aj (aF (cI (x.den:Int)) bU rfl)<|aj (am rfl (iz (fm (Rz.n hy)) (fm (Rz.d hx))))<|aj (am rfl (kq)) ?_
  refine bk<|az<|ar<|an ?_
  rw[Bn (x:=x) (y:=y)]
  exact aq (aE ae)
theorem NH {x y:Rat}(hx:Rz 300 x) (hy:Rz 300 y):Ok Tryz.prog 145 [dR x,dR y] [.c (.i .i64 (aV x y))]:=kJ (hx.mono (by decide)) (hy.mono (by decide))
theorem vG {x:Rat}(hx:Rz 60000 x):Ok Tryz.prog 281 [dR x] [dI (x.num.fdiv (x.den:Int))]:=by
 have hn1:=jP x
 refine Ok.fn Tryz.func281 16 [.cell 2 33] rfl<|aa<|ab<|al 1<|aC (ai dL rfl) rfl<|ar<|aa<|ab<|al 1<|ah (aF (cI x.num) bU rfl)<|al 1<|ah (aF (cI (x.den:Int)) bU rfl)<|ah (am rfl (om (fm (Rz.n hx)) (fm (Rz.d hx)) (by assumption)))<|al 4 ?_
 refine aC (ai dL rfl) rfl<|aC (ai dL rfl) rfl<|ag<|aa<|ab<|ag<|an ?_
 exact aq (a7 bU rfl ae)
theorem yu {x:Int}(hx:Sz 60000 x):Ok Tryz.prog 210 [dI x] [dI (bP x),.c (.b (xe x))]:=by
 have hs:=Sz.isq hx
 refine Ok.fn Tryz.func210 22 [.cell 2 33,.tmp 3] rfl<|aa<|ab<|al 1<|aC (ai dL rfl) rfl<|ag<|aa<|ab<|al 1<|ah (am rfl (Cu (fm hx)))<|al 3<|aC (ai dL rfl) rfl<|ag<|aa ?_
 refine bZ 13 [2,999999] aU (by kernel_rfl) rfl rfl<|ap 3 ?_
 refine fb (bN rfl) (fun c1 hb1=>?_)
 cases c1
 ·refine ap 7<|gw (fG bU rfl) rfl rfl rfl rfl<|bk<|bl<|ar<|an ?_
  rw[FM (e7 hb1)]
  exact aq (a7 bU rfl (aE ae))
 ·refine ap 2<|aj (am rfl (iz (fm (Sz.isq hx)) (fm (Sz.isq hx))))<|ap 1<|aj (am rfl (kq))<|ap 2<|B8 (fG bU rfl) rfl rfl (by kernel_rfl) rfl<|bk<|bl<|ar<|an ?_
  rw[FC]
  exact aq (a7 bU rfl (aE ae))
theorem xY {x:Rat}(hx:Rz 60000 x):Ok Tryz.prog 124 [dR x] [dQ (if go x then bP x.num else 0) (if go x then bP (x.den:Int) else 0),.c (.b (go x))]:=by
 refine Ok.fn Tryz.func124 26 [.cell 2 35,.tmp 3] rfl<|aa<|ab<|al 1<|aC (ai bJ rfl) rfl<|ag<|aa<|aa<|ab<|al 1<|ah (aF (cI x.num) bU rfl)<|ah (am rfl (yu (fm (Rz.n hx))))<|al 3<|aC (ai dL rfl) rfl ?_
 refine ag<|aa<|ab<|ag ?_
 refine aw rfl (fun hc1=>?_) (fun hc1=>?_)
 ·refine aa<|ab<|al 1<|ah (aF (cI (x.den:Int)) bU rfl)<|ah (am rfl (yu (fm (Rz.d hx))))<|al 3<|aC (ai dL rfl) rfl<|ag<|aa<|ab<|ag ?_
  refine aw rfl (fun hc2=>?_) (fun hc2=>?_)
  ·refine aa<|ab<|al 2<|ah (aN (us:=cQ (bP x.num) (bP (x.den:Int))) qC bJ rfl rfl rfl) ?_
   refine ag<|an ?_
   rw[PE hc1 hc2,if_pos rfl,if_pos rfl]
   exact aq (a7 aD rfl (aE ae))
  ·refine ao<|aa<|ab<|ah (aN (us:=(([.b false]++[.s 0 []])++([.b false]++[.s 0 []]))) qC bJ rfl rfl rfl) ?_
   refine ag<|an ?_
   rw[IQ hc2,if_neg (by decide),if_neg (by decide),rO]
   exact aq (a7 aD rfl (aE ae))
 ·refine ao<|aa<|ab<|ah (aN (us:=(([.b false]++[.s 0 []])++([.b false]++[.s 0 []]))) qC bJ rfl rfl rfl) ?_
  refine ag<|an ?_
  rw[K9 hc1,if_neg (by decide),if_neg (by decide),rO]
  exact aq (a7 aD rfl (aE ae))
end Go.Proofs.YtkmdgigkbhmilaaGreat
