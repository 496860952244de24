/-Plain:the integer square root,and Newton's steps to it;the first root as a slice. -/
import Derived.Test.YtacopbfkmnpfgaaGreatImG
namespace Go.Proofs.YtacopbfkmnpfgaaGreat
open Go Go.RowKit
def isq:Nat→Nat
 |0=>0
 |n+1=>if (isq n+1)*(isq n+1)≤n+1 then isq n+1 else isq n
theorem yH (n:Nat):isq n*isq n≤n∧n<(isq n+1)*(isq n+1):=by
 induction n with
 |zero=>exact⟨by decide,by decide⟩
 |succ n ih=>
  obtain⟨h1,h2⟩:=ih
  unfold isq
  split
  ·rename_i h
   refine⟨h,?_⟩
   have:(isq n+1)*(isq n+1)<(isq n+1+1)*(isq n+1+1):=Nat.mul_lt_mul_of_lt_of_le (by omega) (by omega) (by omega)
   omega
  ·exact⟨by omega,by omega⟩
theorem G8 {a b:Int}(ha:0≤a) (h:a≤b):a*a≤b*b:=Int.mul_le_mul h h ha (by omega)
theorem vw {a b:Int}(hb:0≤b) (h:a*a<b*b):a<b:=by
 by_cases h1:a<b
 ·exact h1
 ·have:=G8 hb (show b≤a by omega);omega
def bD (x:Int):Int:=if x<0 then 0 else(isq x.toNat:Nat)
theorem eE (x:Int):0≤bD x:=by unfold bD;split<;>omega
theorem nQ {x:Int}(h:0≤x):bD x*bD x≤x:=by
 unfold bD;rw[if_neg (by omega)]
 have:=(yH x.toNat).1
 rw[←Int.natCast_mul];omega
theorem rU {x:Int}(h:0≤x):x<(bD x+1)*(bD x+1):=by
 unfold bD;rw[if_neg (by omega)]
 have:=(yH x.toNat).2
 rw[show((isq x.toNat:Nat):Int)+1=((isq x.toNat+1:Nat):Int) from by omega,←Int.natCast_mul];omega
theorem mT {x r:Int}(h:0≤x) (hr:0≤r) (h1:r*r≤x) (h2:x<(r+1)*(r+1)):bD x=r:=by
 have a1:=nQ h
 have a2:=rU h
 have a0:=eE x
 have:=vw (a:=r) (b:=bD x+1) (by omega) (by omega)
 have:=vw (a:=bD x) (b:=r+1) (by omega) (by omega)
 omega
theorem u9:bD 0=0:=by decide
theorem nB {x:Int}(h:x<0):bD x=0:=by unfold bD;rw[if_pos h]
theorem Jk {x:Int}:(bD x).natAbs≤x.natAbs:=by
 have h0:=eE x
 by_cases h:x<0
 ·rw[nB h];omega
 ·have h1:=nQ (show 0≤x by omega)
  by_cases h2:bD x<1
  ·omega
  ·have:=Int.mul_le_mul_of_nonneg_left (show 1≤bD x by omega) h0
   omega
theorem zN (a b:Int):4*(a*b)≤(a+b)*(a+b):=by
 have h:0≤(a-b)*(a-b):=by
  rcases Int.le_total 0 (a-b) with h|h
  ·exact Int.mul_nonneg h h
  ·exact Int.mul_nonneg_of_nonpos_of_nonpos h h
 have e1:(a-b)*(a-b)=a*a-2*(a*b)+b*b:=by rw[Int.sub_mul,Int.mul_sub,Int.mul_sub,Int.mul_comm b a];omega
 have e2:(a+b)*(a+b)=a*a+2*(a*b)+b*b:=by rw[Int.add_mul,Int.mul_add,Int.mul_add,Int.mul_comm b a];omega
 omega
theorem GS {x r:Int}(hx:0<x) (hr:0<r) (_hup:x<(r+1)*(r+1)):
 0≤(r+x.fdiv r).fdiv 2∧x<((r+x.fdiv r).fdiv 2+1)*((r+x.fdiv r).fdiv 2+1)∧0<(r+x.fdiv r).fdiv 2∧0≤x.fdiv r∧x.fdiv r≤x:=by
 rw[Int.fdiv_eq_ediv_of_nonneg _ (by omega:(0:Int)≤r),Int.fdiv_eq_ediv_of_nonneg _ (by omega:(0:Int)≤2)]
 have hq0:0≤x/r:=Int.ediv_nonneg (by omega) (by omega)
 have hq1:x/r≤x:=Int.ediv_le_self _ (by omega)
 have hq2:x<r*(x/r+1):=by have h1:=Int.mul_ediv_add_emod x r;have h2:=Int.emod_lt_of_pos x hr;rw[Int.mul_add];omega
 obtain⟨q,hq⟩: ∃q,x/r=q:=⟨_,rfl⟩
 rw[hq] at hq0 hq1 hq2⊢
 obtain⟨n,hn⟩: ∃n,(r+q)/2=n:=⟨_,rfl⟩
 rw[hn]
 have hn0:0≤n:=by omega
 have h4:=zN r (q+1)
 have h5:(r+(q+1))*(r+(q+1))≤(2*(n+1))*(2*(n+1)):=G8 (by omega) (by omega)
 have h6:(2*(n+1))*(2*(n+1))=4*((n+1)*(n+1)):=by rw[Int.mul_assoc,Int.mul_left_comm (n+1) 2,←Int.mul_assoc];omega
 have hu:x<(n+1)*(n+1):=by omega
 refine⟨hn0,hu,?_,hq0,hq1⟩
 by_cases h:0<n
 ·exact h
 ·rw[show n=0 from by omega] at hu;omega
theorem yg {x r:Int}(_hx:0<x) (hr:0<r) (h:r≤(r+x.fdiv r).fdiv 2):r*r≤x:=by
 rw[Int.fdiv_eq_ediv_of_nonneg _ (by omega:(0:Int)≤r),Int.fdiv_eq_ediv_of_nonneg _ (by omega:(0:Int)≤2)] at h
 have h1:=Int.mul_ediv_add_emod x r
 have h2:=Int.emod_nonneg x (show r≠0 by omega)
 have h3:r≤x/r:=by omega
 have:=Int.mul_le_mul_of_nonneg_left h3 (show 0≤r by omega)
 omega
structure NInv (K:Nat) (x r:Int):Prop where
 r0:0<r
 sz:Sz K r
 up:x<(r+1)*(r+1)
theorem NInv.sum {K:Nat}{x r:Int}(h:NInv K x r) (hs:Sz K x) (hx:0<x):Sz K (x.fdiv r)∧Sz (K+1) (r+x.fdiv r)∧Sz (K+1) ((r+x.fdiv r).fdiv 2):=by
 obtain⟨h1,h2,h3,h4,h5⟩:=GS hx h.r0 h.up
 have h6:Sz K (x.fdiv r):=hs.of_le (by omega)
 have h7:=h.sz.add h6
 refine⟨h6,h7,h7.of_le ?_⟩
 have h8:=h.r0
 rw[Int.fdiv_eq_ediv_of_nonneg _ (by omega:(0:Int)≤2)] at*
 omega
theorem NInv.next {K:Nat}{x r:Int}(h:NInv K x r) (hx:0<x) (hl:(r+x.fdiv r).fdiv 2<r):NInv K x ((r+x.fdiv r).fdiv 2):=by
 obtain⟨h1,h2,h3,h4,h5⟩:=GS hx h.r0 h.up
 exact⟨h3,h.sz.of_le (by omega),h2⟩
theorem NInv.done {K:Nat}{x r:Int}(h:NInv K x r) (hx:0<x) (hl:r≤(r+x.fdiv r).fdiv 2):bD x=r:=
 mT (by omega) (by have:=h.r0;omega) (yg hx h.r0 hl) h.up
theorem p9:dI 0=.a ([.b false]++[.s 0 []]):=by unfold dI cI;rw[show cL 0=.s 0 [] from by unfold cL;rw[show(0:Int).natAbs=0 from rfl,gI];rfl];rfl
theorem RF {v:Int}(h:0≤v):([CellD.b false]++[cL v])=cI v:=by unfold cI;rw[show decide (v<0)=false from by simp;omega];rfl
theorem Rq {x:Int}{n k:Nat}(_h0:0≤x) (h:x<pw n) (hk:n≤2*k):x<(pw k+1)*(pw k+1):=by
 have h1:=jh (n:=n) (m:=2*k) hk
 have h2:pw (2*k)=pw k*pw k:=by rw[show 2*k=k+k from by omega,oW]
 have h3:=dd k
 have h4:(pw k+1)*(pw k+1)=pw k*pw k+2*pw k+1:=by rw[Int.add_mul,Int.mul_add];omega
 omega
theorem NInv.start {K k:Nat}{x:Int}(h0:0<x) (_hs:Sz K x) (hk:((cH x.natAbs).length+1)/2=k) (hK:k<K):NInv K x (pw k):=by
 have hv:=dU (bt x.natAbs)
 rw[bH] at hv
 refine⟨dd k,?_,Rq (n:=(cH x.natAbs).length) (by omega) (by omega) (by omega)⟩
 have h1:Sz (k+1) (pw k):=⟨by have:=dd k;rw[dB];omega,by have:=dd k;have:=dd (k+1);omega⟩
 exact h1.mono (by omega)
theorem N5 (n:Nat):val (List.replicate n 0++[1])=pw n:=by
 induction n with
 |zero=>decide
 |succ n ih=>rw[List.replicate_succ,List.cons_append,dj,ih,dB];omega
theorem RH (n:Nat):cL (pw n)=cM (List.replicate n 0++[1]):=by
 have hL:Lim (List.replicate n 0++[1]):=(Lim.zeros n).append (Lim.nil.cons (by omega) (by omega))
 have hN:Nrm (List.replicate n 0++[1]):=by
  induction n with
  |zero=>exact tN [] 1 (by decide)
  |succ n ih=>exact zx (ih ((Lim.zeros n).append (Lim.nil.cons (by omega) (by omega)))) (by simp)
 rw[MO,←N5]
 have:=AK hN hL
 rw[show(val (List.replicate n 0++[1])).natAbs=(val (List.replicate n 0++[1])).toNat from by have:=bR hL;omega,←this]
variable {P:Program}{ops:Array Oper}{T:TF}{B:BF}
theorem oA {dst:Option Nat}{x y:Operand}{U e:TypeId}{ty:TypeId}{pos:String}{af:Array Edge}{g:Option (Nat×Bool)}{k n:Nat}{z:CellD}
 (hU:oB P U=some (e,1,4,[z])) (hx:cU T x=some (.o k n n)) (hy:cU T y=some (.v (.c (cM [1])))) (hb:B k=some (e,List.replicate n (CellD.i .u32 0))) (hl:n≤10000000)
 (hg:gd ops ⟨dst,.call ⟨.builtin .append,#[x,y],#[U,U]⟩,ty,pos,af,g⟩ T=some true):
 Sem P ops ⟨dst,.call ⟨.builtin .append,#[x,y],#[U,U]⟩,ty,pos,af,g⟩ T B (.c k (.v (.c (cL (pw n))))):=by
 rw[RH]
 have:=qp (us:=(List.replicate n (0:Int)++[1]).map (CellD.i .u32)) hU hx hy hb (by simp) (fY _) (by omega) (by simp) (by omega) (by simp;omega) (by simp;unfold maxLen;omega) (by simp) hg
 rw[show n+[(1:Int)].length=(List.replicate n (0:Int)++[1]).length from by simp] at this
 exact this
theorem pQ {a b:Int}:dx a b=0↔a=b:=by
 rcases Int.lt_trichotomy a b with h|h|h
 ·rw[dL h];constructor<;>intro h2<;>omega
 ·rw[f7 h];constructor<;>intro h2<;>omega
 ·rw[dT h];constructor<;>intro h2<;>omega
theorem tR {a b:Int}:dx a b<0↔a<b:=by
 rcases Int.lt_trichotomy a b with h|h|h
 ·rw[dL h];constructor<;>intro h2<;>omega
 ·rw[f7 h];constructor<;>intro h2<;>omega
 ·rw[dT h];constructor<;>intro h2<;>omega
theorem t8 {a b:Int}:0<dx a b↔b<a:=by
 rcases Int.lt_trichotomy a b with h|h|h
 ·rw[dL h];constructor<;>intro h2<;>omega
 ·rw[f7 h];constructor<;>intro h2<;>omega
 ·rw[dT h];constructor<;>intro h2<;>omega
theorem NK {a b:Int}(h:decide (dx a b<0)=true):a<b:=tR.1 (by simpa using h)
theorem NE {a b:Int}(h:decide (dx a b<0)=false): ¬a<b:=fun e=>by have:=tR.2 e;simp at h;omega
theorem OI {a b:Int}(h:(dx a b==0)=true):a=b:=pQ.1 (by simpa using h)
theorem Tc {a b:Int}(h:(dx a b !=0)=true):a≠b:=fun e=>by have:=pQ.2 e;simp at h;omega
theorem Qk {a b:Int}(h:(dx a b !=0)=false):a=b:=pQ.1 (by simpa using h)
theorem Tu {a b:Int}(h:decide (dx a b>0)=true):b<a:=t8.1 (by simpa using h)
theorem TA {a b:Int}(h:decide (dx a b>0)=false): ¬b<a:=fun e=>by have:=t8.2 e;simp at h;omega
structure Rz (k:Nat) (x:Rat):Prop where
 n:Sz k x.num
 d:Sz k (x.den:Int)
theorem Sz.addm {k l:Nat}{x y:Int}(h:Sz k x) (h':Sz l y):Sz (max k l+1) (x+y):=(h.mono (Nat.le_max_left k l)).add (h'.mono (Nat.le_max_right k l))
theorem Sz.gcd {l:Nat}{x y:Int}(h':Sz l y) (h0:y≠0):Sz l ((Int.gcd x y:Nat):Int):=h'.of_le (by
 have:Int.gcd x y≤y.natAbs:=Nat.le_of_dvd (by omega) (Nat.gcd_dvd_right ..)
 rw[Int.natAbs_natCast];exact this)
theorem Rz.mono {k l:Nat}{x:Rat}(h:Rz k x) (hl:k≤l):Rz l x:=⟨h.n.mono hl,h.d.mono hl⟩
theorem Rz.m_ {k l:Nat}{x:Rat}(h:Rz k x) (hl:k≤l:=by decide):Rz l x:=h.mono hl
theorem aO {k l:Nat}{x:Rat}(h:Rz k x) (hl:k≤l:=by decide):Rz l x:=h.mono hl
theorem Qo {l:Nat}{x:Rat}(h:Rz l x:=by first|assumption|exact Rz.mono (by assumption) (by decide)):Rz l x:=h
theorem den_pos (x:Rat):(0:Int)<(x.den:Int):=by have:=x.den_pos;omega
theorem iA (x:Rat):(x.den:Int)≠0:=by have:=den_pos x;omega
theorem m7 (a b:Int):(a/b).natAbs≤a.natAbs:=Int.natAbs_ediv_le_natAbs a b
theorem Rz.of {k:Nat}{n d:Int}(hn:Sz k n) (hd:Sz k d) (h0:d≠0):Rz k (Rat.divInt n d):=by
 refine⟨hn.of_le ?_,hd.of_le ?_⟩
 ·rw[Rat.num_divInt]
  refine Nat.le_trans (m7 _ _) ?_
  rw[Int.natAbs_mul,Int.natAbs_sign_of_ne_zero h0];omega
 ·rw[Rat.den_divInt,if_neg h0]
  rw[Int.natAbs_natCast]
  exact Nat.div_le_self d.natAbs (Int.gcd d n)
theorem JC {x y:Rat}:Rat.divInt (x.num*(y.den:Int)+y.num*(x.den:Int)) ((x.den:Int)*(y.den:Int))=x+y:=by
 rw[Rat.add_def',←Int.natCast_mul,Rat.divInt_ofNat]
theorem QV {x y:Rat}(h:(x.den:Int)=(y.den:Int)):Rat.divInt (x.num+y.num) (x.den:Int)=x+y:=by
 rw[←JC,←h,←Int.add_mul,Rat.divInt_mul_right (iA x)]
theorem OR {x y:Rat}:Rat.divInt (x.num*y.num) ((x.den:Int)*(y.den:Int))=x*y:=by
 rw[Rat.mul_def',←Int.natCast_mul,Rat.divInt_ofNat]
theorem ON {x y:Rat}:Rat.divInt (x.num*(y.den:Int)) ((x.den:Int)*y.num)=x/y:=by
 rw[Rat.div_def,Rat.inv_def,←Rat.divInt_mul_divInt,Rat.num_divInt_den]
theorem Rz.add {k l:Nat}{x y:Rat}(hx:Rz k x) (hy:Rz l y):Rz (k+l+1) (x+y):=by
 rw[←JC]
 exact Rz.of (((hx.n.mul hy.d).addm (hy.n.mul hx.d)).mono (by omega)) ((hx.d.mul hy.d).mono (by omega)) (by have:=Int.mul_pos (den_pos x) (den_pos y);omega)
theorem Rz.mul {k l:Nat}{x y:Rat}(hx:Rz k x) (hy:Rz l y):Rz (k+l) (x*y):=by
 rw[←OR]
 exact Rz.of (hx.n.mul hy.n) (hx.d.mul hy.d) (by have:=Int.mul_pos (den_pos x) (den_pos y);omega)
theorem Rz.neg {k:Nat}{x:Rat}(hx:Rz k x):Rz k (-x):=⟨by rw[Rat.neg_num];exact hx.n.neg,by rw[Rat.neg_den];exact hx.d⟩
theorem Rz.sub {k l:Nat}{x y:Rat}(hx:Rz k x) (hy:Rz l y):Rz (k+l+1) (x-y):=by rw[Rat.sub_eq_add_neg];exact hx.add hy.neg
theorem Rz.div {k l:Nat}{x y:Rat}(hx:Rz k x) (hy:Rz l y) (h0:y≠0):Rz (k+l) (x/y):=by
 rw[←ON]
 exact Rz.of (hx.n.mul hy.d) (hx.d.mul hy.n) (by
  have h1:y.num≠0:=fun e=>h0 (Rat.num_eq_zero.1 e)
  intro e
  rcases Int.mul_eq_zero.1 e with h|h
  ·exact iA x h
  ·exact h1 h)
theorem Sz.one {k:Nat}(hk:1≤k):Sz k 1:=by
 have:=jh (n:=1) (m:=k) hk
 have h1:pw 1=1000000000:=by decide
 exact⟨by omega,by omega⟩
theorem Rz.int {k:Nat}{n:Int}(h:Sz k n) (hk:1≤k):Rz k (n:Rat):=⟨by rw[Rat.num_intCast];exact h,by rw[Rat.den_intCast];exact Sz.one hk⟩
theorem sV {n d:Int}(hd:0<d):dR (Rat.divInt n d)=dQ (n.fdiv ((Int.gcd n d:Nat):Int)) (d.fdiv ((Int.gcd n d:Nat):Int)):=by
 unfold dR cR
 rw[Rat.num_divInt,Rat.den_divInt,if_neg (by omega),Int.sign_eq_one_of_pos hd,Int.one_mul,Int.gcd_comm d n,Int.fdiv_eq_ediv_of_nonneg _ (by omega),Int.fdiv_eq_ediv_of_nonneg _ (by omega)]
 rw[show((d.natAbs/Int.gcd n d:Nat):Int)=d/((Int.gcd n d:Nat):Int) from by rw[Int.natCast_ediv];rw[show((d.natAbs:Nat):Int)=d from by omega]]
 rfl
theorem r7 {n d:Int}(hd:0<d) (hg:((Int.gcd n d:Nat):Int)=1):dR (Rat.divInt n d)=dQ n d:=by
 rw[sV hd,hg,Int.fdiv_one,Int.fdiv_one]
theorem AF {n d:Int}:dR (Rat.divInt n d)=dR (Rat.divInt (-n) (-d)):=by rw[Rat.neg_divInt_neg]
theorem wh {n d:Int}(h:d≠0):((Int.gcd n d:Nat):Int)≠0:=by
 have:Int.gcd n d≠0:=fun e=>h (Int.gcd_eq_zero_iff.1 e).2
 omega
theorem lF {x y:Rat}:dx (x.num*(y.den:Int)) (y.num*(x.den:Int))=if x<y then-1 else if y<x then 1 else 0:=by
 unfold dx
 simp only[Rat.lt_iff]
def a7 (x y:Rat):Int:=if x<y then-1 else if y<x then 1 else 0
theorem nG {x:Rat}:dx x.num 0=a7 x 0:=by
 unfold a7
 rw[←lF]
 simp
theorem HL {x:Rat}{n d:Int}(h1:x.num=n) (h2:(x.den:Int)=d):dR x=dQ n d:=by unfold dR cR;rw[h1,h2];rfl
theorem Gw {n:Int}:dR (n:Rat)=dQ n 1:=HL (Rat.num_intCast n) (by rw[Rat.den_intCast];rfl)
def rH (x:Int):Bool:=bD x*bD x==x
def iD (x:Rat):Bool:=rH x.num&&rH (x.den:Int)
theorem v9 {x:Int}(h:x<0):rH x=false:=by unfold rH;rw[nB h];simp;omega
theorem fz {a b:Int}(ha:a≠0) (hb:b≠0):a*b≠0:=fun e=>by rcases Int.mul_eq_zero.1 e with h|h<;>contradiction
theorem HM {x:Rat}(h:x≠0):x.num≠0:=fun e=>h (Rat.num_eq_zero.1 e)
theorem Sz.isq {k:Nat}{x:Int}(h:Sz k x):Sz k (bD x):=h.of_le Jk
theorem Cg {x:Rat}(h:(a7 x 0==0)=true):x=0:=by rw[←nG] at h;exact Rat.num_eq_zero.1 (OI h)
theorem li {x y:Rat}:a7 x y=0↔x=y:=by
 unfold a7
 rw[←lF,pQ,Rat.eq_iff_mul_eq_mul]
theorem zp {x y:Rat}:a7 x y<0↔x<y:=by
 unfold a7
 rw[←lF,tR,Rat.lt_iff]
theorem xS {x y:Rat}:0<a7 x y↔y<x:=by
 unfold a7
 rw[←lF,t8,Rat.lt_iff]
theorem uw {x:Rat}:a7 x 0=dx x.num 0:=nG.symm
theorem AT {x y:Rat}(h:(dx (a7 x 0) (a7 y 0) !=0)=true):dx (a7 x 0) (a7 y 0)=a7 x y:=by
 have h1:=Tc h
 rw[uw,uw] at*
 have px:=den_pos x
 have py:=den_pos y
 have e1: ∀ {a b:Int},a<0→0<b→a*b<0:=fun ha hb=>Int.mul_neg_of_neg_of_pos ha hb
 have hr:a7 x y=dx (x.num*(y.den:Int)) (y.num*(x.den:Int)):=by unfold a7;rw[←lF]
 rw[hr]
 rcases Int.lt_trichotomy x.num 0 with hx|hx|hx<;>rcases Int.lt_trichotomy y.num 0 with hy|hy|hy
 ·rw[dL hx,dL hy] at h1;exact absurd rfl h1
 ·rw[dL hx,f7 hy,dL (a:= -1) (by decide),dL]
  rw[hy,Int.zero_mul];exact e1 hx py
 ·rw[dL hx,dT hy,dL (a:= -1) (by decide),dL]
  have:=e1 hx py
  have:=Int.mul_pos hy px
  omega
 ·rw[f7 hx,dL hy,dT (a:=0) (by decide),dT]
  rw[hx,Int.zero_mul];exact e1 hy px
 ·rw[f7 hx,f7 hy] at h1;exact absurd rfl h1
 ·rw[f7 hx,dT hy,dL (a:=0) (by decide),dL]
  rw[hx,Int.zero_mul];exact Int.mul_pos hy px
 ·rw[dT hx,dL hy,dT (a:=1) (by decide),dT]
  have:=e1 hy px
  have:=Int.mul_pos hx py
  omega
 ·rw[dT hx,f7 hy,dT (a:=1) (by decide),dT]
  rw[hy,Int.zero_mul];exact Int.mul_pos hx py
 ·rw[dT hx,dT hy] at h1;exact absurd rfl h1
theorem zZ {x y:Rat}:a7 x y=dx (x.num*(y.den:Int)) (y.num*(x.den:Int)):=by unfold a7;rw[←lF]
theorem e7 {x:Int}(h:((if x<0 then(7:Int) else 0)==0)=false):x<0:=by
 by_cases hx:x<0
 ·exact hx
 ·rw[if_neg hx] at h;cases h
theorem Pu {x y:Rat}(h:(x.num==y.num)=false):decide (x=y)=false:=by
 simp only[beq_eq_false_iff_ne,ne_eq] at h
 rw[decide_eq_false_iff_not]
 exact fun e=>h (by rw[e])
theorem NJ {x y:Rat}(h:(x.num==y.num)=true):decide (x=y)=((x.den:Int)==(y.den:Int)):=by
 simp only[beq_iff_eq] at h
 rw[Bool.eq_iff_iff,decide_eq_true_eq,beq_iff_eq]
 exact⟨fun e=>by rw[e],fun e=>Rat.ext h (by omega)⟩
theorem CM {x:Int}:rH x=(dx (bD x*bD x) x==0):=by
 unfold rH
 rcases Int.lt_trichotomy (bD x*bD x) x with h|h|h
 ·rw[dL h];simp;omega
 ·rw[f7 h];simp;omega
 ·rw[dT h];simp;omega
theorem MP {x:Rat}(h:rH x.num=true) (h2:rH (x.den:Int)=true):iD x=true:=by unfold iD;rw[h,h2];rfl
theorem Iz {x:Rat}(h:rH x.num=false):iD x=false:=by unfold iD;rw[h];rfl
theorem Gg {x:Rat}(h:rH (x.den:Int)=false):iD x=false:=by unfold iD;rw[h];cases rH x.num<;>rfl
theorem rO:dQ 0 0=.a (([.b false]++[.s 0 []])++([.b false]++[.s 0 []])):=by
 have h:cI 0=[.b false]++[.s 0 []]:=by
  have:=p9
  unfold dI at this
  injection this
 unfold dQ cQ
 rw[h]
theorem Sz.fdiv {k:Nat}{x y:Int}(h:Sz k x):Sz k (x.fdiv y):=h.of_le (by
 have h0: ∀a b:Nat,a/b≤a:=fun a b=>Nat.div_le_self a b
 rcases Int.lt_trichotomy y 0 with hy|hy|hy
 ·rw[←Int.neg_fdiv_neg,Int.fdiv_eq_ediv_of_nonneg _ (by omega)]
  have h2:(-x/ -y).natAbs≤(-x).natAbs:=m7 _ _
  omega
 ·subst hy;simp
 ·rw[Int.fdiv_eq_ediv_of_nonneg _ (by omega)]
  exact m7 x y)
section
variable {P:Program}{ops:Array Oper}{T:TF}{B:BF}
theorem ww {dst:Option Nat}{x y:Operand}{t1 t2:TypeId}{ty:TypeId}{pos:String}{af:Array Edge}{g:Option (Nat×Bool)}{k:IntKind}{m n:Int}
 (hx:cU T x=some (.v (.c (.i k m)))) (hy:cU T y=some (.v (.c (.i k n)))) (hg:gd ops ⟨dst,.call ⟨.builtin .max,#[x,y],#[t1,t2]⟩,ty,pos,af,g⟩ T=some true):
 Sem P ops ⟨dst,.call ⟨.builtin .max,#[x,y],#[t1,t2]⟩,ty,pos,af,g⟩ T B (.r (.v (.c (.i k (max m n))))):=
 bP hg (mK rfl) (fun V β a w hs=>by
  have e1:a.eval x=.int k m:=RdC.int_eq (aJ hs (x:=x) (by simp[Op.operands,Call.operands]) hx)
  have e2:a.eval y=.int k n:=RdC.int_eq (aJ hs (x:=y) (by simp[Op.operands,Call.operands]) hy)
  refine⟨.int k (max m n),?_,.i _ _⟩
  simp[execOp,resolve,invoke,builtin,Builtin.max_,Builtin.max2,e1,e2]
  split<;>omega)
theorem Cd {dst:Option Nat}{x y:Operand}{t1 t2:TypeId}{ty:TypeId}{pos:String}{af:Array Edge}{g:Option (Nat×Bool)}{k:IntKind}{m n:Int}
 (hx:cU T x=some (.v (.c (.i k m)))) (hy:cU T y=some (.v (.c (.i k n)))) (hg:gd ops ⟨dst,.call ⟨.builtin .min,#[x,y],#[t1,t2]⟩,ty,pos,af,g⟩ T=some true):
 Sem P ops ⟨dst,.call ⟨.builtin .min,#[x,y],#[t1,t2]⟩,ty,pos,af,g⟩ T B (.r (.v (.c (.i k (min m n))))):=
 bP hg (mK rfl) (fun V β a w hs=>by
  have e1:a.eval x=.int k m:=RdC.int_eq (aJ hs (x:=x) (by simp[Op.operands,Call.operands]) hx)
  have e2:a.eval y=.int k n:=RdC.int_eq (aJ hs (x:=y) (by simp[Op.operands,Call.operands]) hy)
  refine⟨.int k (min m n),?_,.i _ _⟩
  simp[execOp,resolve,invoke,builtin,Builtin.min_,Builtin.min2,e1,e2]
  split<;>omega)
end
theorem df {P:Program}{ops:Array Oper}{T:TF}{B:BF}{dst:Option Nat}{U e:TypeId}{ps:Array (Nat×Operand)}{ty:TypeId}{pos:String}{af:Array Edge}{g:Option (Nat×Bool)}{n m by_:Nat}{zs us:List CellD}{dps:List (Nat×D0)}
 (hU:oB P U=some (e,m,by_,zs)) (hp:mV T ps.toList=some dps) (hf:mC (fun i=>some (i*m,m)) (List.replicate n zs).flatten dps=some us) (hl:us.length=n*m) (hn:n*m≤16777216) (hm:0<n*m)
 (hg:gd ops ⟨dst,.buildSlice U n ps,ty,pos,af,g⟩ T=some true):Sem P ops ⟨dst,.buildSlice U n ps,ty,pos,af,g⟩ T B (.r (.v (.c (.s n us)))):=by
 have h:=kV (B:=B) hU hp hf hn hm hg
 refine⟨mK rfl,fun V β a w hs=>?_⟩
 obtain⟨hw,hg⟩:=h V β a w hs
 refine⟨hw,hg.mono ?_⟩
 rintro v w' ⟨vs,rfl,rfl,hr⟩
 refine⟨?_,(Below.refl _ w).alloc (Nat.le_refl _) _⟩
 have hkeep:=Keep.below (av:=V) ((Below.refl w.heap.size w).alloc (Nat.le_refl _) (.cells vs e))
 have hr2:=hr.keep hkeep
 have hvl:vs.size=n*m:=by have:=hr.1;rw[hl] at this;simpa using this
 have hn0:0<n:=by
  rcases Nat.eq_zero_or_pos n with h0|h0
  ·rw[h0,Nat.zero_mul] at hm;omega
  ·exact h0
 have hm0:0<m:=by
  rcases Nat.eq_zero_or_pos m with h0|h0
  ·rw[h0,Nat.mul_zero] at hm;omega
  ·exact h0
 have hnm:n≤n*m:=Nat.le_mul_of_pos_right n hm0
 refine .s w.heap.size 0 n m n _ (fun j=>vs.getD j undef) hn0 (Nat.le_refl _) (by omega) hl (by simp) (fun h=>by have:=hs.av _ h;omega) (fun j hj=>?_) (fun j u hj=>?_)
 ·rw[Nat.zero_add,bq (heap_alloc_new w (.cells vs e))]
  have:j<vs.size:=by omega
  simp[Array.getD,this]
 ·have hlt:j<n*m:=by have:=(List.getElem?_eq_some_iff.1 hj).1;omega
  refine hr2.2 j _ u ?_ hj
  rw[Array.getElem?_toList]
  have:j<vs.size:=by omega
  simp[Array.getD,this]
theorem dh {P:Program}{ops:Array Oper}{o:Oper}{T:TF}{B:BF}{b c:Bool}(h:Sem P ops o T B (.r (.v (.c (.b b))))) (e:b=c):Sem P ops o T B (.r (.v (.c (.b c)))):=by subst e;exact h
theorem eB {a b:Int}(h0: -9223372036854775808≤a*b) (h1:a*b≤9223372036854775807):ud .mul .i64 a b=some (a*b):=congrArg some (lU h0 h1)
section
variable {P:Program}{f:FuncId}{ds rs:List D0}{x y z u v x' y' z' u' v':Rat}
theorem db (h:Ok P f ds [dR x]) (e:x=x'):Ok P f ds [dR x']:=by subst e;exact h
theorem th (h:Ok P f ds [.a (cR x++cR y++cR z)]) (e1:x=x') (e2:y=y') (e3:z=z'):Ok P f ds [.a (cR x'++cR y'++cR z')]:=by subst e1 e2 e3;exact h
theorem HN {rs:List D0}(h:Ok P f ds (.a (cR x++cR y++cR z++cR u++cR v)::rs)) (e1:x=x') (e2:y=y') (e3:z=z') (e4:u=u') (e5:v=v'):Ok P f ds (.a (cR x'++cR y'++cR z'++cR u'++cR v')::rs):=by subst e1 e2 e3 e4 e5;exact h
theorem Bc {b c:Bool}(h:Ok P f ds [.c (.b b)]) (e:b=c):Ok P f ds [.c (.b c)]:=by subst e;exact h
theorem tS {b c:Int}(h:Ok P f ds [.c (.i .i64 b)]) (e:b=c):Ok P f ds [.c (.i .i64 c)]:=by subst e;exact h
end
theorem Co {x y:Int}(hx:Sz 1000000 x) (hy:Sz 1000000 y):Ok Tryz.prog 241 [dI x,dI y] [dI (Int.gcd x y:Int)]:=by
 refine Ok.fn Tryz.func241 61 [.cell 4 29] rfl<|aa<|ab<|al 2<|aw (ah de rfl) rfl<|aq<|aa<|aM 8 rfl rfl<|an 2<|ai (ak rfl (lE))<|an 2<|ai (ak rfl (lE))<|bh (ah de rfl) rfl<|bh (ah de rfl) rfl ?_
 refine aV<|cS<|ag<|aa<|aX<|cZ (ι:={p:Int×Int // GInv x y p.1 p.2}) (fun i=>⟨61,[(4,.p 4 0),(5,.p 5 0),(6,.p 6 0)],[(4,29,([.b false]++[.s 0 []])),(5,29,cI i.1.1),(6,29,cI i.1.2)]⟩) (fun i=>i.1.2.toNat) ⟨(sg false (x.natAbs:Int),sg false (y.natAbs:Int)),GInv.start hx hy⟩ (aR ⟨rfl,rfl,rfl,trivial⟩ ⟨rfl,rfl,rfl,trivial⟩ rfl) ?_
 rintro⟨⟨a,c⟩,hg⟩
 replace hg:GInv x y a c:=hg
 have ha:=hg.sa
 have hcc:=hg.sc
 show Dw _ _ ⟨61,[(4,.p 4 0),(5,.p 5 0),(6,.p 6 0)],[(4,29,([.b false]++[.s 0 []])),(5,29,cI a),(6,29,cI c)]⟩ _
 refine aa<|aa<|ab<|ag ?_
 refine au rfl (fun hc1=>?_) (fun hc1=>?_)
 ·have hne:=kZ hc1
  refine ap<|aX<|aa<|ab<|al 1<|aj (ak rfl (xM))<|ag<|aa<|ab<|al 1<|aj (ak rfl (xM))<|ag<|aa<|aa ?_
  refine ab<|al 1 ?_
  refine cm (bO rfl) (fun c2 hb2=>?_)
  cases c2
  ·refine ag<|ba rfl<|ap<|aa<|ab<|al 4<|aj (ak rfl (oR (by assumption) (by assumption) (by assumption)))<|ag<|aM 3 rfl rfl<|an 2<|ai (ak rfl (gS))<|aV<|ar<|ag ?_
   exact⟨⟨(c,sg false ((a.natAbs:Int)%c.natAbs)),hg.step hne⟩,aR ⟨rfl,rfl,rfl,trivial⟩ ⟨rfl,rfl,rfl,trivial⟩ rfl,hg.less hne⟩
  ·refine ag ?_
   refine au rfl (fun hc3=>?_) (fun hc3=>?_)
   ·refine aa<|aX<|cZ (ι:={p:Int×Int // GInv2 x y p.1 p.2}) (fun i=>⟨61,[(4,.p 4 0),(7,.v (.c (.i .u64 i.1.1))),(9,.v (.c (.i .u64 i.1.2)))],[(4,29,([.b false]++[.s 0 []]))]⟩) (fun i=>i.1.2.toNat) ⟨(if a.natAbs<1000000000000000000 then(a.natAbs:Int) else 0,if c.natAbs<1000000000000000000 then(c.natAbs:Int) else 0),hg.word hb2 hc3⟩ (aR ⟨rfl,rfl,rfl,trivial⟩ ⟨rfl,trivial⟩ rfl) ?_
    rintro⟨⟨u,v⟩,hw⟩
    replace hw:GInv2 x y u v:=hw
    show Dw _ _ ⟨61,[(4,.p 4 0),(7,.v (.c (.i .u64 u))),(9,.v (.c (.i .u64 v)))],[(4,29,([.b false]++[.s 0 []]))]⟩ _
    refine aa<|aa<|ab<|ag ?_
    refine au rfl (fun hc4=>?_) (fun hc4=>?_)
    ·have hv:v>0:=by simpa using hc4
     refine ap<|aX<|aM 6 rfl rfl<|an 3<|ai (wu rfl rfl (by omega) rfl) ?_
     refine bJ<|ar<|aq ?_
     exact⟨⟨(v,u.tmod v),hw.step hv⟩,aR ⟨rfl,rfl,rfl,trivial⟩ ⟨rfl,trivial⟩ rfl,hw.less hv⟩
    ·refine cq<|aa<|ab<|al 1<|aj (ak rfl (D8 hw.u0 hw.u1))<|aj (ak rfl (gS))<|ag<|am ?_
     rw[hw.done (by simpa using hc4)]
     exact ao (bb bF rfl ae)
   ·refine ap<|aa<|ab<|al 4<|aj (ak rfl (oR (by assumption) (by assumption) (by assumption)))<|ag<|aM 3 rfl rfl<|an 2<|ai (ak rfl (gS))<|aV<|ar<|ag ?_
    exact⟨⟨(c,sg false ((a.natAbs:Int)%c.natAbs)),hg.step hne⟩,aR ⟨rfl,rfl,rfl,trivial⟩ ⟨rfl,rfl,rfl,trivial⟩ rfl,hg.less hne⟩
 ·refine cq<|aa<|ab<|al 2<|aj (FD rfl (by assumption) rfl) ?_
  refine aj (ak rfl (lE))<|ag<|am ?_
  rw[hg.done (lu hc1)]
  exact ao (bb bF rfl ae)
theorem l6 {x y:Int}(hx:Sz 1000000 x) (hy:Sz 1000000 y) (h0:y≠0):Ok Tryz.prog 310 [dI x,dI y] [dI (x.fdiv y),dI (x.fmod y),.c (.i .i64 0)]:=by
 have hq:Sz 1000000 (q0 x y):=hx.q0
 have hr:Sz 1000000 (r0 x y):=hy.r0 h0
 have h1:Sz 1000000 (1:Int):=Sz.small (by omega) (by omega) (by omega)
 refine Ok.fn Tryz.func310 55 [.cell 4 29,.cell 5 29,.tmp 6] rfl<|aa<|ab<|al 2<|aw (ah de rfl) rfl<|aw (ah de rfl) rfl<|ag<|aa<|aa<|ab<|ag ?_
 refine au rfl (fun hc1=>?_) (fun hc1=>?_)
 ·exact absurd hc1 (by simp[dD,h0])
 ·refine ap<|aa<|ab<|al 4<|aj (ak rfl (oR (by assumption) (by assumption) (by assumption)))<|ag<|aa<|aM 13 rfl rfl<|an 4<|ai (dH rfl rfl d9 rfl) ?_
  refine an 1<|ai (ak rfl (gS))<|an 3<|ai (ak rfl (gS))<|bh (ah de rfl) rfl<|bh (ah de rfl) rfl<|aV<|cS<|ag<|aa<|aa<|ab<|al 4 ?_
  refine cm (bO rfl) (fun c2 hb2=>?_)
  cases c2
  ·refine ag<|ba rfl<|ap<|aa<|dr 5 [4,5,999999] bd (by kernel_rfl) rfl rfl<|an 2<|gV (iE bF rfl) rfl rfl rfl rfl<|gV (iE bF rfl) rfl rfl rfl rfl<|bJ<|cS<|aq<|am ?_
   obtain⟨e1,e2⟩:=qo (x:=x) h0 (.inl (lu hb2))
   rw[e1,e2]
   exact ao (bb bF rfl (bb bF rfl (aC ae)))
  ·refine al 4<|aj (dH rfl rfl d9 rfl) ?_
   refine ag ?_
   refine au rfl (fun hc3=>?_) (fun hc3=>?_)
   ·--region 6
    refine aM 6 rfl rfl<|an 1<|ai (ak rfl (ig (by omega) (by omega)))<|ai (ak rfl (JD (by assumption) (by assumption)))<|an 2<|ai (ak rfl (rT (by assumption) (by assumption)))<|aV<|ar<|ag<|aa<|dr 5 [4,5,999999] bd (by kernel_rfl) rfl rfl<|an 2<|gV (iE bF rfl) rfl rfl rfl rfl<|gV (iE bF rfl) rfl rfl rfl rfl ?_
    refine bJ<|cS<|aq<|am ?_
    obtain⟨e1,e2⟩:=ym (x:=x) h0 (kZ hb2) (wi hc3)
    rw[e1,e2]
    exact ao (bb bF rfl (bb bF rfl (aC ae)))
   ·refine ap<|aa<|dr 5 [4,5,999999] bd (by kernel_rfl) rfl rfl<|an 2<|gV (iE bF rfl) rfl rfl rfl rfl<|gV (iE bF rfl) rfl rfl rfl rfl<|bJ<|cS<|aq<|am ?_
    obtain⟨e1,e2⟩:=qo (x:=x) h0 (.inr (wR hc3))
    rw[e1,e2]
    exact ao (bb bF rfl (bb bF rfl (aC ae)))
theorem tg {x:Int}:Ok Tryz.prog 148 [dI x] [.c (.i .i64 (dx x 0))]:=by
 refine Ok.fn Tryz.func148 9 [.tmp 2] rfl<|aa<|ab<|ag<|aa<|aa<|ab<|ag ?_
 refine au rfl (fun hc1=>?_) (fun hc1=>?_)
 ·refine aa<|ab<|ag<|am ?_
  rw[f7 (by have:=hc1;simp[dD] at this;omega)]
  exact ao (aC ae)
 ·refine ap<|aa<|aa<|ab<|ag ?_
  refine au rfl (fun hc2=>?_) (fun hc2=>?_)
  ·refine aa<|ab<|ag<|am ?_
   rw[dL (by simpa using hc2)]
   exact ao (aC ae)
  ·refine ap<|aa<|ab<|ag<|am ?_
   rw[dT (by have:=hc1;have h2:=hc2;simp[dD] at this h2;omega)]
   exact ao (aC ae)
theorem CL {x y:Int}(hx:Sz 1000000 x) (hy:Sz 1000000 y):Ok Tryz.prog 224 [dI x,dI y] [.c (.i .i64 (dx x y))]:=by
 refine Ok.fn Tryz.func224 24 [.tmp 4] rfl<|aa<|ab<|ag<|aa<|aa<|ab<|al 4<|aj (dH rfl rfl d9 rfl) ?_
 refine aq ?_
 refine au rfl (fun hc1=>?_) (fun hc1=>?_)
 ·refine aa<|aa<|ab<|ag ?_
  refine au rfl (fun hc2=>?_) (fun hc2=>?_)
  ·refine aa<|ab<|ag<|am ?_
   rw[dL (by have:=wi hc1;have h2:=hc2;simp only[decide_eq_true_eq] at h2;omega)]
   exact ao (aC ae)
  ·refine ap<|aa<|ab<|ag<|am ?_
   rw[dT (by have:=wi hc1;have h2:=hc2;simp only[decide_eq_false_iff_not] at h2;omega)]
   exact ao (aC ae)
 ·refine ap<|aa<|aa<|ab<|ag ?_
  refine au rfl (fun hc3=>?_) (fun hc3=>?_)
  ·refine aa<|ab<|al 4<|aj (ak rfl (jU (by assumption) (by assumption)))<|ag<|am ?_
   rw[←v6 hc3 (by have:=wR hc1;have h2:=hc3;simp only[decide_eq_true_eq] at h2;omega)]
   exact ao (aC ae)
  ·refine ap<|aa<|ab<|al 4<|aj (ak rfl (jU (by assumption) (by assumption)))<|ag<|am ?_
   rw[←wa hc3 (by have:=wR hc1;have h2:=hc3;simp only[decide_eq_false_iff_not] at h2;omega)]
   exact ao (aC ae)
theorem lA {x:Int}(h0: -9223372036854775808≤x) (h1:x≤9223372036854775807):Ok Tryz.prog 88 [.c (.i .i64 x)] [dI x]:=by
 refine Ok.fn Tryz.func88 14 [.cell 2 29] rfl<|aa<|ab<|aw (ah de rfl) rfl<|aq<|aa<|aa<|ab<|ag ?_
 refine au rfl (fun hc1=>?_) (fun hc1=>?_)
 ·have hn:x<0:=by simpa using hc1
  refine aa<|ab<|al 1<|aj (bN (r:=x+18446744073709551616) uq eo rfl (zy hn h0) rfl) ?_
  refine aj (eI (r:= -x) rfl (u3 hn h0) rfl) ?_
  refine aj (ak rfl (kU (by omega) (by omega)))<|aj (ak rfl (fl (Sz.small3 (by omega) (by omega))))<|ag<|am ?_
  have hfin:dI x=dI (sg true (((-x).natAbs:Nat):Int)):=congrArg dI (by rw[ez];omega)
  rw[hfin]
  exact ao (bb bF rfl ae)
 ·have hn:0≤x:=by have:=hc1;simp at this;omega
  refine ap<|aa<|ab<|al 1<|aj (bN (r:=x) uq eo rfl (fq (by omega) (by omega)) rfl) ?_
  refine aj (ak rfl (kU (by omega) (by omega)))<|aj (ak rfl (fl (Sz.small3 (by omega) (by omega))))<|ag<|am ?_
  have hfin:dI x=dI (sg false ((x.natAbs:Nat):Int)):=congrArg dI (by rw[cd];omega)
  rw[hfin]
  exact ao (bb bF rfl ae)
theorem rL {x:Int}(hx:Sz 1000000 x):Ok Tryz.prog 221 [dI x] [dI (-x)]:=by
 refine Ok.fn Tryz.func221 9 [.cell 2 29] rfl<|aa<|ab<|al 1<|aw (ah de rfl) rfl<|aq<|aa<|ab<|al 5<|aj (ak rfl (fl (by assumption)))<|ag<|am ?_
 rw[←OL (x:=x)]
 exact ao (bb bF rfl ae)
theorem iS {x y:Int}(hx:Sz 400000 x) (hy:Sz 400000 y):Ok Tryz.prog 147 [dI x,dI y] [dI (x*y)]:=by
 have hx6:Sz 1000000 x:=hx.m_
 have hy6:Sz 1000000 y:=hy.m_
 have hp:Sz 1000000 ((x.natAbs:Int)*(y.natAbs:Int)):=((xw hx).mul (xw hy)).m_
 refine Ok.fn Tryz.func147 16 [.cell 4 29] rfl<|aa<|ab<|al 2<|aw (ah de rfl) rfl<|aq<|aa<|aM 11 rfl rfl<|an 4<|ai (dH rfl rfl d9 rfl) ?_
 refine an 4<|ai (ak rfl (Io (by assumption) (by assumption)))<|ai (ak rfl (fl (by assumption)))<|aV<|ar<|ag<|am ?_
 rw[←O4 (x:=x) (y:=y)]
 exact ao (bb bF rfl ae)
theorem sh {x y:Int}(hx:Sz 900000 x) (hy:Sz 900000 y):Ok Tryz.prog 229 [dI x,dI y] [dI (x+y)]:=by
 have hx6:Sz 1000000 x:=hx.m_
 have hy6:Sz 1000000 y:=hy.m_
 have hp:Sz 1000000 ((x.natAbs:Int)+(y.natAbs:Int)):=((xw (hx.mono (l:=999999) (by decide))).add (xw (hy.m_))).m_
 refine Ok.fn Tryz.func229 40 [.cell 4 29] rfl<|aa<|ab<|al 2<|aw (ah de rfl) rfl<|aq<|aa<|aa<|ab<|al 4<|aj (zg rfl rfl d9 rfl) ?_
 refine aq ?_
 refine au rfl (fun hc1=>?_) (fun hc1=>?_)
 ·refine aa<|aM 8 rfl rfl<|an 6<|ai (ak rfl (J5 (by assumption) (by assumption)))<|ai (ak rfl (fl (by assumption)))<|aV<|ar<|ag<|am ?_
  rw[←J1 hc1]
  exact ao (bb bF rfl ae)
 ·refine ap<|aa<|aa<|ab<|al 4<|aj (ak rfl (jU (by assumption) (by assumption)))<|ag ?_
  refine au rfl (fun hc2=>?_) (fun hc2=>?_)
  ·have hge:=wq hc2
   have hq:Sz 1000000 ((x.natAbs:Int)-(y.natAbs:Int)):=hx6.of_le (by omega)
   refine aa<|aM 8 rfl rfl<|an 6<|ai (ak rfl (pV (by assumption) (by omega)))<|ai (ak rfl (fl (by assumption)))<|aV<|ar<|ag<|am ?_
   rw[←PY hc1 (by omega)]
   exact ao (bb bF rfl ae)
  ·have hge:=vV hc2
   have hq:Sz 1000000 ((y.natAbs:Int)-(x.natAbs:Int)):=hy6.of_le (by omega)
   refine ap<|aa<|aM 8 rfl rfl<|an 6<|ai (ak rfl (pV (by assumption) (by omega)))<|ai (ak rfl (fl (by assumption)))<|aV<|ar<|ag<|am ?_
   rw[←R2 hc1 (by omega)]
   exact ao (bb bF rfl ae)
theorem Ld {x y:Int}(hx:Sz 900000 x) (hy:Sz 900000 y):Ok Tryz.prog 300 [dI x,dI y] [dI (x-y)]:=by
 have hx6:Sz 1000000 x:=hx.m_
 have hy6:Sz 1000000 y:=hy.m_
 have hyn:Sz 900000 (-y):=hy.neg
 refine Ok.fn Tryz.func300 9 [.cell 4 29] rfl<|aa<|ab<|al 2<|aw (ah de rfl) rfl<|aq<|aa<|aM 4 rfl rfl<|an 2<|ai (ak rfl (rL (by assumption)))<|ai (ak rfl (sh (by assumption) (by assumption)))<|aV<|ar<|ag ?_
 refine am ?_
 rw[Int.sub_eq_add_neg]
 exact ao (bb bF rfl ae)
theorem sx {x y:Int}(hx:Sz 1000000 x) (hy:Sz 1000000 y):Ok Tryz.prog 135 [dI x,dI y] [.c (.b (x==y))]:=by
 refine Ok.fn Tryz.func135 18 [.tmp 4] rfl<|aa<|ab<|ag<|aa<|ab<|al 4<|aj (zg rfl rfl d9 rfl) ?_
 refine cm (bO rfl) (fun c1 hb1=>?_)
 cases c1
 ·refine ag<|am ?_
  rw[show(x==y)=false from by have:=hb1;simp only[beq_eq_false_iff_ne,ne_eq] at this⊢;intro e;subst e;exact this rfl]
  exact ao (aC ae)
 ·refine al 4<|aj (ak rfl (jU (by assumption) (by assumption)))<|ag<|am ?_
  rw[←I0 hb1]
  exact ao (aC ae)
theorem iO {x y:Int}(hx:Sz 200000 x) (hy:Sz 200000 y) (h0:y≠0):Ok Tryz.prog 223 [dI x,dI y] [dI (x.fdiv y),dI (x.fmod y),.c (.i .i64 0)]:=by
 have hq:Sz 900000 (q0 x y):=hx.q0.m_
 have hr:Sz 900000 (r0 x y):=(hy.r0 h0).m_
 have h1:Sz 900000 (1:Int):=Sz.small (by omega) (by omega) (by omega)
 have hy9:Sz 900000 y:=hy.m_
 have hqq:Sz 1000000 ((x.natAbs:Int)/y.natAbs):=Rf hx
 have hrr:Sz 1000000 ((x.natAbs:Int)%y.natAbs):=Qu hy h0
 refine Ok.fn Tryz.func223 54 [.cell 4 29,.cell 5 29,.tmp 6] rfl<|aa<|ab<|al 2<|aw (ah de rfl) rfl<|aw (ah de rfl) rfl<|ag<|aa<|aa<|ab<|ag ?_
 refine au rfl (fun hc1=>?_) (fun hc1=>?_)
 ·exact absurd hc1 (by simp[dD,h0])
 ·refine ap<|aa<|ab<|al 4<|aj (ak rfl (sT (by assumption) (by assumption) (by assumption)))<|ag<|aa<|aM 13 rfl rfl<|an 4<|ai (dH rfl rfl d9 rfl) ?_
  refine an 1<|ai (ak rfl (AS hqq))<|an 3<|ai (ak rfl (AH h0 hrr))<|bh (ah de rfl) rfl<|bh (ah de rfl) rfl<|aV<|cS<|ag<|aa<|aa<|ab<|al 3 ?_
  refine cm (bO rfl) (fun c2 hb2=>?_)
  cases c2
  ·refine ag<|ba rfl<|ap<|aa<|dr 5 [4,5,999999] bd (by kernel_rfl) rfl rfl<|an 2<|gV (iE bF rfl) rfl rfl rfl rfl<|gV (iE bF rfl) rfl rfl rfl rfl<|bJ<|cS<|aq<|am ?_
   obtain⟨e1,e2⟩:=qo (x:=x) h0 (.inl (Cw.1 (lu hb2)))
   rw[e1,e2]
   exact ao (bb bF rfl (bb bF rfl (aC ae)))
  ·refine al 4<|aj (dH rfl rfl d9 rfl) ?_
   refine ag ?_
   refine au rfl (fun hc3=>?_) (fun hc3=>?_)
   ·--region 6
    refine aM 6 rfl rfl<|an 1<|ai (ak rfl (lA (by omega) (by omega)))<|ai (ak rfl (Ld (by assumption) (by assumption)))<|an 2<|ai (ak rfl (sh (by assumption) (by assumption)))<|aV<|ar<|ag<|aa<|dr 5 [4,5,999999] bd (by kernel_rfl) rfl rfl<|an 2<|gV (iE bF rfl) rfl rfl rfl rfl<|gV (iE bF rfl) rfl rfl rfl rfl ?_
    refine bJ<|cS<|aq<|am ?_
    obtain⟨e1,e2⟩:=ym (x:=x) h0 (fun e=>kZ hb2 (Cw.2 e)) (by rw[CW h0 (kZ hb2)];exact wi hc3)
    rw[e1,e2]
    exact ao (bb bF rfl (bb bF rfl (aC ae)))
   ·refine ap<|aa<|dr 5 [4,5,999999] bd (by kernel_rfl) rfl rfl<|an 2<|gV (iE bF rfl) rfl rfl rfl rfl<|gV (iE bF rfl) rfl rfl rfl rfl<|bJ<|cS<|aq<|am ?_
    obtain⟨e1,e2⟩:=qo (x:=x) h0 (.inr (by rw[CW h0 (kZ hb2)];exact wR hc3))
    rw[e1,e2]
    exact ao (bb bF rfl (bb bF rfl (aC ae)))
theorem CU {x y:Int}(hx:Sz 200000 x) (hy:Sz 200000 y):Ok Tryz.prog 222 [dI x,dI y] [dI (Int.gcd x y:Int)]:=by
 refine Ok.fn Tryz.func222 54 [.cell 4 29] rfl<|aa<|ab<|al 2<|aw (ah de rfl) rfl<|aq<|aa<|aM 6 rfl rfl<|bJ<|ar<|aq<|aa<|aX<|cZ (ι:={p:Int×Int // RG x y p.1 p.2}) (fun i=>⟨54,[(4,.p 4 0),(5,.v (.c (cL i.1.1))),(6,.v (.c (cL i.1.2)))],[(4,29,([.b false]++[.s 0 []]))]⟩) (fun i=>i.1.2.toNat) ⟨((x.natAbs:Int),(y.natAbs:Int)),RG.start hx hy⟩ (aR ⟨rfl,by rw[FW x];rfl,by rw[FW y];rfl,trivial⟩ ⟨rfl,trivial⟩ rfl) ?_
 rintro⟨⟨a,c⟩,hg⟩
 replace hg:RG x y a c:=hg
 have ha:=hg.sa
 have hcc:=hg.sc
 have ha0:=hg.a0
 have hcc0:=hg.c0
 have ha6:Sz 1000000 a:=ha.m_
 show Dw _ _ ⟨54,[(4,.p 4 0),(5,.v (.c (cL a))),(6,.v (.c (cL c)))],[(4,29,([.b false]++[.s 0 []]))]⟩ _
 refine aa<|aa<|ab<|al 3 ?_
 refine cm (bO rfl) (fun c1 hb1=>?_)
 cases c1
 ·refine ag<|ba rfl<|cq<|aa<|aa<|ab<|ag ?_
  refine au rfl (fun hc2=>?_) (fun hc2=>?_)
  ·refine aa<|ab<|al 1<|aj (ak rfl (fl (by assumption)))<|ag<|am ?_
   rw[hg.done (lu hb1)]
   exact ao (bb bF rfl ae)
  ·exact absurd hc2 (by simp[dD,lu hb1])
 ·have hne:=kZ hb1
  refine al 3 ?_
  refine cm (bO rfl) (fun c3 hb3=>?_)
  cases c3
  ·have hwa:=DC hb3
   refine ag ?_
   refine au rfl (fun hc4=>?_) (fun hc4=>?_)
   ·refine ap<|aX<|aa<|ab<|al 2<|aj (ak rfl (sT (by assumption) (by assumption) (by assumption)))<|ag<|ab<|ag ?_
    exact⟨⟨(c,(a.natAbs:Int)%c.natAbs),hg.step hne⟩,aR ⟨rfl,rfl,rfl,trivial⟩ ⟨rfl,trivial⟩ rfl,hg.less hne⟩
   ·have hwc:=DC hc4
    refine cq<|aa<|aa<|ab<|ag ?_
    refine au rfl (fun hc5=>?_) (fun hc5=>?_)
    ·exact absurd hc5 (by simp[dD,hne])
    ·refine ap<|aa<|ab<|al 1<|aj (ak rfl (zL (by assumption)))<|al 1<|aj (ak rfl (zL (by assumption)))<|ag<|aa<|aX<|cZ (ι:={p:Int×Int // GInv2 x y p.1 p.2}) (fun i=>⟨54,[(4,.p 4 0),(9,.v (.c (.i .u64 i.1.1))),(10,.v (.c (.i .u64 i.1.2)))],[(4,29,([.b false]++[.s 0 []]))]⟩) (fun i=>i.1.2.toNat) ⟨((a.natAbs:Int),(c.natAbs:Int)),hg.word hwa hwc⟩ (aR ⟨rfl,rfl,rfl,trivial⟩ ⟨rfl,trivial⟩ rfl) ?_
     rintro⟨⟨u,v⟩,hw⟩
     replace hw:GInv2 x y u v:=hw
     have hu0:=hw.u0
     have hu1:=hw.u1
     have hsu:Sz 1000000 u:=Sz.small3 hu0 hu1
     show Dw _ _ ⟨54,[(4,.p 4 0),(9,.v (.c (.i .u64 u))),(10,.v (.c (.i .u64 v)))],[(4,29,([.b false]++[.s 0 []]))]⟩ _
     refine aa<|aa<|ab<|ag ?_
     refine au rfl (fun hc6=>?_) (fun hc6=>?_)
     ·have hv:v>0:=by simpa using hc6
      have hvn:v≠0:=by omega
      refine ap<|aX<|aM 6 rfl rfl<|an 3<|ai (wu rfl rfl (by omega) rfl) ?_
      refine bJ<|ar<|aq ?_
      exact⟨⟨(v,u.tmod v),hw.step hv⟩,aR ⟨rfl,rfl,rfl,trivial⟩ ⟨rfl,trivial⟩ rfl,hw.less hv⟩
     ·refine cq<|aa<|ab<|al 1<|aj (ak rfl (kU (by omega) (by omega)))<|aj (ak rfl (fl (by assumption)))<|ag<|am ?_
      rw[hw.fin (by simpa using hc6)]
      exact ao (bb bF rfl ae)
  ·refine ag<|bo rfl<|ap<|aX<|aa<|ab<|al 2<|aj (ak rfl (sT (by assumption) (by assumption) (by assumption)))<|ag<|ab<|ag ?_
   exact⟨⟨(c,(a.natAbs:Int)%c.natAbs),hg.step hne⟩,aR ⟨rfl,rfl,rfl,trivial⟩ ⟨rfl,trivial⟩ rfl,hg.less hne⟩
theorem s7 {x:Int}(hx:Sz 999999 x):Ok Tryz.prog 313 [dI x] [dI (bD x),.c (.i .i64 (if x<0 then 7 else 0))]:=by
 have h20:(2:Int)≠0:=by decide
 have hl:=fe hx
 have hs2:Sz 1000000 (2:Int):=Sz.small (by omega) (by omega) (by omega)
 refine Ok.fn Tryz.func313 54 [.cell 2 29,.tmp 3] rfl<|aa<|ab<|al 1<|aw (ah de rfl) rfl<|ag<|aa<|aa<|ab<|ag ?_
 refine au rfl (fun hc1=>?_) (fun hc1=>?_)
 ·have hn:x<0:=by simpa using hc1
  refine aa<|ab<|aj (aD (us:=([.b false]++[.s 0 []])) Bz de rfl rfl rfl) ?_
  refine ag<|am ?_
  rw[nB hn,if_pos hn,p9]
  exact ao (bb bF rfl (aC ae))
 ·have hn:0≤x:=by have:=hc1;simp at this;omega
  refine ap<|aa<|aa<|ab<|ag ?_
  refine au rfl (fun hc2=>?_) (fun hc2=>?_)
  ·have hz:x=0:=by have:=hc2;simp[dD] at this;omega
   refine aa<|ab<|aj (aD (us:=([.b false]++[.s 0 []])) Bz de rfl rfl rfl) ?_
   refine ag<|am ?_
   rw[hz,u9,p9,if_neg (by omega)]
   exact ao (bb bF rfl (aC ae))
  ·have hx0:0<x:=by have:=hc2;simp[dD] at this;omega
   obtain⟨k,hk⟩: ∃k:Nat,((cH x.natAbs).length+1)/2=k:=⟨_,rfl⟩
   have hpk:=dd k
   have hpc:cL (pw k)=cL (pw k):=rfl
   refine ap<|aa<|ab<|al 3<|aj (aG (r:=(((cH x.natAbs).length:Int))+1) rfl rfl (aW (by omega) (by omega)) rfl) ?_
   refine aj (gc (r:=(k:Int)) rfl rfl (by omega) (by rw[Int.tdiv_eq_ediv_of_nonneg (by omega),show(((cH x.natAbs).length:Int)+1)/2=(k:Int) from by omega];exact lU (by omega) (by omega)) rfl) ?_
   refine ag<|aa<|ab<|al 1<|nH (je (n:=k) oK rfl rfl (by omega) (by omega) rfl) rfl ?_
   refine aj (pc oK rfl rfl) ?_
   refine OF (oA oK rfl rfl rfl (by omega) rfl) ?_
   refine aj (ak rfl (lE))<|aw (ah de rfl) rfl<|ag<|aa<|ab<|aj (ak rfl (ig (by omega) (by omega)))<|aw (ah de rfl) rfl<|ag<|aX<|cZ (ι:={r:Int // NInv 999999 x r}) (fun i=>⟨54,[(1,.p 1 0),(2,.p 2 0),(3,.v (.c (.i .i64 0))),(5,.p 5 0),(6,.p 6 0)],[(1,29,cI x),(2,29,([.b false]++[.s 0 []])),(5,29,cI i.1),(6,29,cI 2)]⟩) (fun i=>i.1.toNat) ⟨pw k,NInv.start hx0 hx hk (by omega)⟩ (aR ⟨rfl,rfl,rfl,rfl,rfl,trivial⟩ ⟨rfl,rfl,by rw[show sg false (((pw k).natAbs:Nat):Int)=pw k from by rw[cd];have:=dd k;omega];rfl,rfl,trivial⟩ rfl) ?_
   rintro⟨r,hg⟩
   replace hg:NInv 999999 x r:=hg
   have hsr:=hg.sz
   have hr0:=hg.r0
   have hrn:r≠0:=by omega
   obtain⟨hsq,hsum,hsn⟩:=hg.sum hx hx0
   have a1:Sz 1000000 r:=hsr.m_
   have a2:Sz 1000000 (x.fdiv r):=hsq.m_
   have a3:Sz 1000000 x:=hx.m_
   show Dw _ _ ⟨54,[(1,.p 1 0),(2,.p 2 0),(3,.v (.c (.i .i64 0))),(5,.p 5 0),(6,.p 6 0)],[(1,29,cI x),(2,29,([.b false]++[.s 0 []])),(5,29,cI r),(6,29,cI 2)]⟩ _
   refine aX<|aa<|ab<|al 2<|aj (ak rfl (l6 (by assumption) (by assumption) (by assumption)))<|al 4<|aw (ah de rfl) rfl<|aw (ah de rfl) rfl<|ag<|aa<|dr 14 [10,11,999999] bd (by kernel_rfl) rfl rfl<|an 2<|ai (ak rfl (rT (by assumption) (by assumption)))<|an 1 ?_
   refine ai (ak rfl (l6 (by assumption) (by assumption) (by assumption)))<|an 4<|bh (ah de rfl) rfl<|bh (ah de rfl) rfl<|oD (iE bF rfl) rfl rfl rfl rfl<|oD (iE bF rfl) rfl rfl rfl rfl<|bJ<|jy<|aq<|aa<|aa<|ab<|al 2<|aj (ak rfl (iT)) ?_
   refine ag ?_
   refine au rfl (fun hc3=>?_) (fun hc3=>?_)
   ·have hst:=wq hc3
    refine aa<|ab<|ag<|am ?_
    rw[hg.done hx0 hst,if_neg (by omega)]
    exact ao (bb bF rfl (aC ae))
   ·have hlt:=vV hc3
    refine ap<|ab<|ag ?_
    exact⟨⟨(r+x.fdiv r).fdiv 2,hg.next hx0 hlt⟩,aR ⟨rfl,rfl,rfl,rfl,rfl,trivial⟩ ⟨rfl,rfl,rfl,rfl,trivial⟩ rfl,by show((r+x.fdiv r).fdiv 2).toNat<r.toNat;omega⟩
theorem In {x:Int}(hx:Sz 199999 x):Ok Tryz.prog 321 [dI x] [dI (bD x),.c (.i .i64 (if x<0 then 7 else 0))]:=by
 have h20:(2:Int)≠0:=by decide
 have hl:=fe hx
 have hs2:Sz 200000 (2:Int):=Sz.small (by omega) (by omega) (by omega)
 refine Ok.fn Tryz.func321 52 [.cell 2 29,.tmp 3] rfl<|aa<|ab<|al 1<|aw (ah de rfl) rfl<|ag<|aa<|aa<|ab<|ag ?_
 refine au rfl (fun hc1=>?_) (fun hc1=>?_)
 ·have hn:x<0:=by simpa using hc1
  refine aa<|ab<|aj (aD (us:=([.b false]++[.s 0 []])) Bz de rfl rfl rfl) ?_
  refine ag<|am ?_
  rw[nB hn,if_pos hn,p9]
  exact ao (bb bF rfl (aC ae))
 ·have hn:0≤x:=by have:=hc1;simp at this;omega
  refine ap<|aa<|aa<|ab<|ag ?_
  refine au rfl (fun hc2=>?_) (fun hc2=>?_)
  ·have hz:x=0:=by have:=hc2;simp[dD] at this;omega
   refine aa<|ab<|aj (aD (us:=([.b false]++[.s 0 []])) Bz de rfl rfl rfl) ?_
   refine ag<|am ?_
   rw[hz,u9,p9,if_neg (by omega)]
   exact ao (bb bF rfl (aC ae))
  ·have hx0:0<x:=by have:=hc2;simp[dD] at this;omega
   obtain⟨k,hk⟩: ∃k:Nat,((cH x.natAbs).length+1)/2=k:=⟨_,rfl⟩
   have hpk:=dd k
   have hpc:cL (pw k)=cL (pw k):=rfl
   refine ap<|aa<|ab<|al 3<|aj (aG (r:=(((cH x.natAbs).length:Int))+1) rfl rfl (aW (by omega) (by omega)) rfl) ?_
   refine aj (gc (r:=(k:Int)) rfl rfl (by omega) (by rw[Int.tdiv_eq_ediv_of_nonneg (by omega),show(((cH x.natAbs).length:Int)+1)/2=(k:Int) from by omega];exact lU (by omega) (by omega)) rfl) ?_
   refine nH (je (n:=k) oK rfl rfl (by omega) (by omega) rfl) rfl ?_
   refine aj (pc oK rfl rfl) ?_
   refine OF (oA oK rfl rfl rfl (by omega) rfl) ?_
   refine aj (aD (us:=([.b false]++[cL (pw k)])) Bz de rfl rfl rfl) ?_
   refine aw (ah de rfl) rfl<|ag<|aa<|ab<|aj (ak rfl (lA (by omega) (by omega)))<|aw (ah de rfl) rfl<|ag<|aX<|cZ (ι:={r:Int // NInv 199999 x r}) (fun i=>⟨52,[(1,.p 1 0),(2,.p 2 0),(3,.v (.c (.i .i64 0))),(4,.p 4 0),(5,.p 5 0)],[(1,29,cI x),(2,29,([.b false]++[.s 0 []])),(4,29,cI i.1),(5,29,cI 2)]⟩) (fun i=>i.1.toNat) ⟨pw k,NInv.start hx0 hx hk (by omega)⟩ (aR ⟨rfl,rfl,rfl,rfl,rfl,trivial⟩ ⟨rfl,rfl,by rw[RF (by have:=dd k;omega)];rfl,rfl,trivial⟩ rfl) ?_
   rintro⟨r,hg⟩
   replace hg:NInv 199999 x r:=hg
   have hsr:=hg.sz
   have hr0:=hg.r0
   have hrn:r≠0:=by omega
   obtain⟨hsq,hsum,hsn⟩:=hg.sum hx hx0
   have a1:Sz 200000 r:=hsr.m_
   have a2:Sz 900000 (x.fdiv r):=hsq.m_
   have a3:Sz 200000 x:=hx.m_
   have a4:Sz 900000 r:=hsr.m_
   have a5:Sz 1000000 r:=hsr.m_
   have a6:Sz 1000000 ((r+x.fdiv r).fdiv 2):=hsn.m_
   show Dw _ _ ⟨52,[(1,.p 1 0),(2,.p 2 0),(3,.v (.c (.i .i64 0))),(4,.p 4 0),(5,.p 5 0)],[(1,29,cI x),(2,29,([.b false]++[.s 0 []])),(4,29,cI r),(5,29,cI 2)]⟩ _
   refine aX<|aa<|ab<|al 2<|aj (ak rfl (iO (by assumption) (by assumption) (by assumption)))<|al 4<|aw (ah de rfl) rfl<|aw (ah de rfl) rfl<|ag<|aa<|dr 14 [9,10,999999] bd (by kernel_rfl) rfl rfl<|an 2<|ai (ak rfl (sh (by assumption) (by assumption)))<|an 1 ?_
   refine ai (ak rfl (iO (by assumption) (by assumption) (by assumption)))<|an 4<|bh (ah de rfl) rfl<|bh (ah de rfl) rfl<|oD (iE bF rfl) rfl rfl rfl rfl<|oD (iE bF rfl) rfl rfl rfl rfl<|bJ<|jy<|aq<|aa<|aa<|ab<|al 2<|aj (ak rfl (CL (by assumption) (by assumption))) ?_
   refine ag ?_
   refine au rfl (fun hc3=>?_) (fun hc3=>?_)
   ·have hst:=wq hc3
    refine aa<|ab<|ag<|am ?_
    rw[hg.done hx0 hst,if_neg (by omega)]
    exact ao (bb bF rfl (aC ae))
   ·have hlt:=vV hc3
    refine ap<|ab<|ag ?_
    exact⟨⟨(r+x.fdiv r).fdiv 2,hg.next hx0 hlt⟩,aR ⟨rfl,rfl,rfl,rfl,rfl,trivial⟩ ⟨rfl,rfl,rfl,rfl,trivial⟩ rfl,by show((r+x.fdiv r).fdiv 2).toNat<r.toNat;omega⟩
theorem wl:Ok Tryz.prog 242 [] [dI 1]:=by
 refine Ok.fn Tryz.func242 2 [.cell 0 29] rfl<|aa<|ab<|aw (ah de rfl) rfl<|aq<|aa<|ab<|aj (ak rfl (ig (by omega) (by omega)))<|ag<|am ?_
 exact ao (bb bF rfl ae)
theorem ye {m:Int}:Ok Tryz.prog 279 [.c (.i .i64 m)] [.c (.b false)]:=by
 refine Ok.fn Tryz.func279 6 [.tmp 2] rfl<|aa<|ab<|ag<|aa<|ab<|ag<|am ?_
 exact⟨.inr rfl,by simpa using(aC ae)⟩
theorem Er {m n:Int}:Ok Tryz.prog 210 [.c (.i .i64 m),.c (.i .i64 n)] [.c (.i .i64 (dx m n))]:=by
 refine Ok.fn Tryz.func210 20 [.tmp 4] rfl<|aa<|ab<|ag<|aa<|ab<|al 1<|aj (ak rfl (ye))<|ag<|aa<|ab<|al 1<|aj (ak rfl (ye))<|ag ?_
 refine aa<|aa<|ab<|ag<|ba rfl<|ap<|aa<|aa<|ab<|ag<|ba rfl<|ap<|aa<|aa ?_
 refine ab<|ag ?_
 refine au rfl (fun hc1=>?_) (fun hc1=>?_)
 ·refine aa<|ab<|ag<|am ?_
  rw[dL (by simpa using hc1)]
  exact ao (aC ae)
 ·refine ap<|aa<|aa<|ab<|ag ?_
  refine au rfl (fun hc2=>?_) (fun hc2=>?_)
  ·refine aa<|ab<|ag<|am ?_
   rw[dT (by simpa using hc2)]
   exact ao (aC ae)
  ·refine ap<|aa<|ab<|ag<|am ?_
   rw[f7 (by have:=hc1;have h2:=hc2;simp at this h2;omega)]
   exact ao (aC ae)
theorem iW {x:Rat}:Ok Tryz.prog 93 [dR x] [.c (.i .i64 (a7 x 0))]:=by
 refine Ok.fn Tryz.func93 6 [.tmp 2] rfl<|aa<|ab<|ag<|aa<|ab<|al 1<|aj (aA (cI x.num) bF rfl)<|aj (ak rfl (zW))<|ag<|am ?_
 rw[←nG]
 exact ao (aC ae)
theorem dw {x:Rat}:Ok Tryz.prog 93 [dR x] [.c (.i .i64 (a7 x 0))]:=iW
theorem DS {n:Int}:Ok Tryz.prog 167 [dI n] [dR (n:Rat)]:=by
 refine Ok.fn Tryz.func167 6 [.cell 2 31] rfl<|aa<|ab<|al 1<|aw (ah br rfl) rfl<|aq<|aa<|aM 3 rfl rfl<|an 1<|ai (ak rfl (wl))<|ai (aD (us:=cQ n 1) om br rfl rfl rfl) ?_
 refine aV<|ar<|ag<|am ?_
 rw[Gw]
 exact ao (bb az rfl ae)
theorem po {n:Int}(h0: -9223372036854775808≤n) (h1:n≤9223372036854775807):Ok Tryz.prog 87 [.c (.i .i64 n)] [dR (n:Rat)]:=by
 refine Ok.fn Tryz.func87 6 [.cell 2 31] rfl<|aa<|ab<|aw (ah br rfl) rfl<|aq<|aa<|ab<|al 1<|aj (ak rfl (ig (by omega) (by omega)))<|aj (ak rfl (DS))<|ag<|am ?_
 exact ao (bb az rfl ae)
theorem nL {n:Int}(h0: -9223372036854775808≤n) (h1:n≤9223372036854775807):Ok Tryz.prog 87 [.c (.i .i64 n)] [dR (n:Rat)]:=po h0 h1
theorem lH {x y:Int}(hx:Sz 1000000 x) (hy:Sz 1000000 y) (h0:y≠0):Ok Tryz.prog 243 [dI x,dI y] [dI (x.fdiv y)]:=by
 refine Ok.fn Tryz.func243 16 [.cell 4 29] rfl<|aa<|ab<|al 2<|aw (ah de rfl) rfl<|aq<|aa<|ab<|al 2<|aj (ak rfl (l6 (ep hx) (ep hy) (by assumption)))<|al 4<|aw (ah de rfl) rfl<|aw (ah de rfl) rfl<|ag ?_
 refine aa<|ab<|ag<|am ?_
 exact ao (bb bF rfl ae)
theorem kr {x y:Int}(hx:Sz 199800 x) (hy:Sz 199800 y) (h0:y≠0):Ok Tryz.prog 162 [dI x,dI y] [dR (Rat.divInt x y)]:=by
 have hg:=wh (n:=x) h0
 have hg2:=wh (n:= -x) (d:= -y) (by omega)
 have hgs:=Sz.gcd (x:=x) hy h0
 have hgs2:=Sz.gcd (x:= -x) hy.neg (by omega)
 refine Ok.fn Tryz.func162 29 [.cell 4 31] rfl<|aa<|ab<|al 2<|aw (ah br rfl) rfl<|aq<|aa<|aa<|ab<|al 1<|aj (ak rfl (zW))<|ag ?_
 refine au rfl (fun hc1=>?_) (fun hc1=>?_)
 ·have hn:=NK hc1
  refine aM 4 rfl rfl<|an 1<|ai (ak rfl (qg (ep hx)))<|an 1<|ai (ak rfl (qg (ep hy)))<|aV<|ar<|ag<|aa<|aa<|ab<|al 2<|aj (ak rfl (Co (ep (Sz.neg hx)) (ep (Sz.neg hy))))<|aw (ah de rfl) rfl ?_
  refine ag<|aa<|aM 4 rfl rfl<|an 1<|ai (ak rfl (wl))<|ai (ak rfl (iT))<|bJ<|ar<|aq ?_
  refine au rfl (fun hc2=>?_) (fun hc2=>?_)
  ·--region 5
   refine aM 6 rfl rfl<|an 2 ?_
   refine ai (ak rfl (lH (ep (Sz.neg hx)) (Jt) (by first|assumption|exact neg_ne (by assumption)|exact fz (by assumption) (by assumption)))) ?_
   refine an 2 ?_
   refine ai (ak rfl (lH (ep (Sz.neg hy)) (Jt) (by first|assumption|exact neg_ne (by assumption)|exact fz (by assumption) (by assumption)))) ?_
   refine aV<|ar<|ag<|aa<|ab<|al 2<|aj (aD (us:=cQ ((-x).fdiv ((Int.gcd (-x) (-y):Int))) ((-y).fdiv ((Int.gcd (-x) (-y):Int)))) om br rfl rfl rfl) ?_
   refine ag<|am ?_
   rw[AF,sV (by omega)]
   exact ao (bb az rfl ae)
  ·refine ap<|aa<|ab<|al 2<|aj (aD (us:=cQ (-x) (-y)) om br rfl rfl rfl) ?_
   refine ag<|am ?_
   rw[AF,r7 (by omega) (Qk hc2)]
   exact ao (bb az rfl ae)
 ·have hn:=NE hc1
  refine ap<|aa<|aa<|ab<|al 2<|aj (ak rfl (Co (ep hx) (ep hy)))<|aw (ah de rfl) rfl<|ag<|aa<|aM 4 rfl rfl<|an 1<|ai (ak rfl (wl))<|ai (ak rfl (iT))<|bJ ?_
  refine ar<|aq ?_
  refine au rfl (fun hc3=>?_) (fun hc3=>?_)
  ·--region 5
   refine aM 6 rfl rfl<|an 2 ?_
   refine ai (ak rfl (lH (ep hx) (Jt) (by first|assumption|exact neg_ne (by assumption)|exact fz (by assumption) (by assumption)))) ?_
   refine an 2 ?_
   refine ai (ak rfl (lH (ep hy) (Jt) (by first|assumption|exact neg_ne (by assumption)|exact fz (by assumption) (by assumption)))) ?_
   refine aV<|ar<|ag<|aa<|ab<|al 2<|aj (aD (us:=cQ (x.fdiv (Int.gcd x y:Int)) (y.fdiv (Int.gcd x y:Int))) om br rfl rfl rfl) ?_
   refine ag<|am ?_
   rw[sV (by omega)]
   exact ao (bb az rfl ae)
  ·refine ap<|aa<|ab<|al 2<|aj (aD (us:=cQ x y) om br rfl rfl rfl) ?_
   refine ag<|am ?_
   rw[r7 (by omega) (Qk hc3)]
   exact ao (bb az rfl ae)
theorem jS {x:Rat}(hx:Rz 60000 x):Ok Tryz.prog 102 [dR x] [dR (-x)]:=by
 refine Ok.fn Tryz.func102 9 [.cell 2 31] rfl<|aa<|ab<|al 1<|aw (ah br rfl) rfl<|aq<|aa<|aM 6 rfl rfl<|an 1<|ai (aA (cI x.num) bF rfl)<|ai (ak rfl (qg (ep (Rz.n hx))))<|an 1<|ai (aA (cI (x.den:Int)) bF rfl)<|ai (aD (us:=cQ (-x.num) (x.den:Int)) om br rfl rfl rfl) ?_
 refine aV<|ar<|ag<|am ?_
 rw[HL (Rat.neg_num x) (congrArg Int.ofNat (Rat.neg_den x))]
 exact ao (bb az rfl ae)
theorem JM {x:Rat}(hx:Rz 300 x):Ok Tryz.prog 102 [dR x] [dR (-x)]:=jS (hx.mono (by decide))
theorem nj {x y:Rat}(hx:Rz 60000 x) (hy:Rz 60000 y):Ok Tryz.prog 164 [dR x,dR y] [dR (x+y)]:=by
 have hn:=fz (iA x) (iA y)
 have hn1:=iA x
 refine Ok.fn Tryz.func164 36 [.cell 4 31] rfl<|aa<|ab<|al 2<|aw (ah br rfl) rfl<|aq<|aa<|aa<|ab<|al 1<|aj (aA (cI (x.den:Int)) bF rfl)<|al 1<|aj (aA (cI (y.den:Int)) bF rfl)<|aj (ak rfl (iT)) ?_
 refine ag ?_
 refine au rfl (fun hc1=>?_) (fun hc1=>?_)
 ·refine aa<|aM 8 rfl rfl<|an 1<|ai (aA (cI x.num) bF rfl)<|an 1<|ai (aA (cI y.num) bF rfl)<|ai (ak rfl (rT (ep (Rz.n hx)) (ep (Rz.n hy))))<|an 1<|ai (aA (cI (x.den:Int)) bF rfl) ?_
  refine ai (ak rfl (kr (ep (Sz.addm (Rz.n hx) (Rz.n hy))) (ep (Rz.d hx)) (by first|assumption|exact neg_ne (by assumption)|exact fz (by assumption) (by assumption)))) ?_
  refine aV<|ar<|ag<|am ?_
  rw[←QV (OI hc1)]
  exact ao (bb az rfl ae)
 ·refine ap<|aa<|aM 17 rfl rfl<|an 1<|ai (aA (cI x.num) bF rfl)<|an 1<|ai (aA (cI (y.den:Int)) bF rfl)<|ai (ak rfl (go (ep (Rz.n hx)) (ep (Rz.d hy))))<|an 1<|ai (aA (cI y.num) bF rfl)<|an 1<|ai (aA (cI (x.den:Int)) bF rfl)<|ai (ak rfl (go (ep (Rz.n hy)) (ep (Rz.d hx))))<|ai (ak rfl (rT (ep (Sz.mul (Rz.n hx) (Rz.d hy))) (ep (Sz.mul (Rz.n hy) (Rz.d hx))))) ?_
  refine an 1<|ai (aA (cI (x.den:Int)) bF rfl)<|an 1<|ai (aA (cI (y.den:Int)) bF rfl)<|ai (ak rfl (go (ep (Rz.d hx)) (ep (Rz.d hy)))) ?_
  refine ai (ak rfl (kr (ep (Sz.addm (Sz.mul (Rz.n hx) (Rz.d hy)) (Sz.mul (Rz.n hy) (Rz.d hx)))) (ep (Sz.mul (Rz.d hx) (Rz.d hy))) (by first|assumption|exact neg_ne (by assumption)|exact fz (by assumption) (by assumption)))) ?_
  refine aV<|ar<|ag<|am ?_
  rw[←JC]
  exact ao (bb az rfl ae)
theorem JS {x y:Rat}(hx:Rz 300 x) (hy:Rz 300 y):Ok Tryz.prog 164 [dR x,dR y] [dR (x+y)]:=nj (hx.mono (by decide)) (hy.mono (by decide))
theorem iq {x y:Rat}(hx:Rz 60000 x) (hy:Rz 60000 y):Ok Tryz.prog 84 [dR x,dR y] [dR (x-y)]:=by
 refine Ok.fn Tryz.func84 9 [.cell 4 31] rfl<|aa<|ab<|al 2<|aw (ah br rfl) rfl<|aq<|aa<|aM 4 rfl rfl<|an 2<|ai (ak rfl (jS (aO hy)))<|ai (ak rfl (nj (aO hx) (aO (Rz.neg hy))))<|aV<|ar<|ag ?_
 refine am ?_
 rw[Rat.sub_eq_add_neg]
 exact ao (bb az rfl ae)
theorem LF {x y:Rat}(hx:Rz 300 x) (hy:Rz 300 y):Ok Tryz.prog 84 [dR x,dR y] [dR (x-y)]:=iq (hx.mono (by decide)) (hy.mono (by decide))
theorem ek {x y:Rat}(hx:Rz 60000 x) (hy:Rz 60000 y):Ok Tryz.prog 85 [dR x,dR y] [dR (x*y)]:=by
 have hn:=fz (iA x) (iA y)
 refine Ok.fn Tryz.func85 16 [.cell 4 31] rfl<|aa<|ab<|al 2<|aw (ah br rfl) rfl<|aq<|aa<|aM 11 rfl rfl<|an 1<|ai (aA (cI x.num) bF rfl)<|an 1<|ai (aA (cI y.num) bF rfl)<|ai (ak rfl (go (ep (Rz.n hx)) (ep (Rz.n hy))))<|an 1 ?_
 refine ai (aA (cI (x.den:Int)) bF rfl)<|an 1<|ai (aA (cI (y.den:Int)) bF rfl)<|ai (ak rfl (go (ep (Rz.d hx)) (ep (Rz.d hy)))) ?_
 refine ai (ak rfl (kr (ep (Sz.mul (Rz.n hx) (Rz.n hy))) (ep (Sz.mul (Rz.d hx) (Rz.d hy))) (by first|assumption|exact neg_ne (by assumption)|exact fz (by assumption) (by assumption)))) ?_
 refine aV<|ar<|ag<|am ?_
 rw[←OR]
 exact ao (bb az rfl ae)
theorem Kp {x y:Rat}(hx:Rz 300 x) (hy:Rz 300 y):Ok Tryz.prog 85 [dR x,dR y] [dR (x*y)]:=ek (hx.mono (by decide)) (hy.mono (by decide))
theorem FK {x y:Rat}(hx:Rz 60000 x) (hy:Rz 60000 y) (h0:y≠0):Ok Tryz.prog 83 [dR x,dR y] [dR (x/y),.c (.i .i64 0)]:=by
 have hn:=fz (iA x) (HM h0)
 refine Ok.fn Tryz.func83 21 [.cell 4 31,.tmp 5] rfl<|aa<|ab<|al 2<|aw (ah br rfl) rfl<|ag<|aa<|aa<|ab<|al 1<|aj (ak rfl (dw))<|ag ?_
 refine au rfl (fun hc1=>?_) (fun hc1=>?_)
 ·exact absurd (Cg hc1) h0
 ·refine ap<|aa<|aM 11 rfl rfl<|an 1<|ai (aA (cI x.num) bF rfl)<|an 1<|ai (aA (cI (y.den:Int)) bF rfl)<|ai (ak rfl (go (ep (Rz.n hx)) (ep (Rz.d hy))))<|an 1<|ai (aA (cI (x.den:Int)) bF rfl)<|an 1<|ai (aA (cI y.num) bF rfl)<|ai (ak rfl (go (ep (Rz.d hx)) (ep (Rz.n hy)))) ?_
  refine ai (ak rfl (kr (ep (Sz.mul (Rz.n hx) (Rz.d hy))) (ep (Sz.mul (Rz.d hx) (Rz.n hy))) (by first|assumption|exact neg_ne (by assumption)|exact fz (by assumption) (by assumption)))) ?_
  refine aV<|ar<|ag<|am ?_
  rw[←ON]
  exact ao (bb az rfl (aC ae))
theorem Ka {x y:Rat}(hx:Rz 300 x) (hy:Rz 300 y) (h0:y≠0):Ok Tryz.prog 83 [dR x,dR y] [dR (x/y),.c (.i .i64 0)]:=FK (hx.mono (by decide)) (hy.mono (by decide)) h0
theorem lv {x y:Rat}(hx:Rz 60000 x) (hy:Rz 60000 y):Ok Tryz.prog 120 [dR x,dR y] [.c (.i .i64 (a7 x y))]:=by
 refine Ok.fn Tryz.func120 25 [.tmp 4] rfl<|aa<|ab<|ag<|aa<|aa<|aM 6 rfl rfl<|an 1<|ai (ak rfl (dw))<|an 1<|ai (ak rfl (dw))<|ai (ak rfl (Er))<|bJ<|ar ?_
 refine aq<|aa<|ab<|ag ?_
 refine au rfl (fun hc1=>?_) (fun hc1=>?_)
 ·refine aa<|ab<|ag<|am ?_
  rw[←AT hc1]
  exact ao (aC ae)
 ·refine ap<|aa<|aM 12 rfl rfl<|an 1<|ai (aA (cI x.num) bF rfl)<|an 1<|ai (aA (cI (y.den:Int)) bF rfl)<|ai (ak rfl (go (ep (Rz.n hx)) (ep (Rz.d hy))))<|an 1<|ai (aA (cI y.num) bF rfl)<|an 1<|ai (aA (cI (x.den:Int)) bF rfl)<|ai (ak rfl (go (ep (Rz.n hy)) (ep (Rz.d hx))))<|ai (ak rfl (iT)) ?_
  refine bJ<|ar<|aq<|am ?_
  rw[zZ (x:=x) (y:=y)]
  exact ao (aC ae)
theorem BN {x y:Rat}(hx:Rz 300 x) (hy:Rz 300 y):Ok Tryz.prog 120 [dR x,dR y] [.c (.i .i64 (a7 x y))]:=lv (hx.mono (by decide)) (hy.mono (by decide))
theorem o9 {x:Rat}(hx:Rz 60000 x):Ok Tryz.prog 315 [dR x] [dI (x.num.fdiv (x.den:Int))]:=by
 have hn1:=iA x
 refine Ok.fn Tryz.func315 16 [.cell 2 29] rfl<|aa<|ab<|al 1<|aw (ah de rfl) rfl<|aq<|aa<|ab<|al 1<|aj (aA (cI x.num) bF rfl)<|al 1<|aj (aA (cI (x.den:Int)) bF rfl)<|aj (ak rfl (l6 (ep (Rz.n hx)) (ep (Rz.d hx)) (by assumption)))<|al 4 ?_
 refine aw (ah de rfl) rfl<|aw (ah de rfl) rfl<|ag<|aa<|ab<|ag<|am ?_
 exact ao (bb bF rfl ae)
theorem EA {x:Rat}(hx:Rz 300 x):Ok Tryz.prog 315 [dR x] [dI (x.num.fdiv (x.den:Int))]:=o9 (hx.mono (by decide))
theorem vz {x:Int}(hx:Sz 60000 x):Ok Tryz.prog 247 [dI x] [dI (bD x),.c (.b (rH x))]:=by
 have hs:=Sz.isq hx
 refine Ok.fn Tryz.func247 22 [.cell 2 29,.tmp 3] rfl<|aa<|ab<|al 1<|aw (ah de rfl) rfl<|ag<|aa<|ab<|al 1<|aj (ak rfl (s7 (ep hx)))<|al 3<|aw (ah de rfl) rfl<|ag<|aa ?_
 refine dr 13 [2,999999] bd (by kernel_rfl) rfl rfl<|an 3 ?_
 refine gJ (bO rfl) (fun c1 hb1=>?_)
 cases c1
 ·refine an 7<|gV (iE bF rfl) rfl rfl rfl rfl<|bJ<|bi<|aq<|am ?_
  rw[v9 (e7 hb1)]
  exact ao (bb bF rfl (aC ae))
 ·refine an 2<|ai (ak rfl (go (ep (Sz.isq hx)) (ep (Sz.isq hx))))<|an 1<|ai (ak rfl (iT))<|an 2<|C0 (iE bF rfl) rfl rfl (by kernel_rfl) rfl<|bJ<|bi<|aq<|am ?_
  rw[CM]
  exact ao (bb bF rfl (aC ae))
theorem qL {x:Rat}(hx:Rz 60000 x):Ok Tryz.prog 165 [dR x] [dQ (if iD x then bD x.num else 0) (if iD x then bD (x.den:Int) else 0),.c (.b (iD x))]:=by
 refine Ok.fn Tryz.func165 26 [.cell 2 31,.tmp 3] rfl<|aa<|ab<|al 1<|aw (ah br rfl) rfl<|ag<|aa<|aa<|ab<|al 1<|aj (aA (cI x.num) bF rfl)<|aj (ak rfl (vz (ep (Rz.n hx))))<|al 3<|aw (ah de rfl) rfl ?_
 refine ag<|aa<|ab<|ag ?_
 refine au rfl (fun hc1=>?_) (fun hc1=>?_)
 ·refine aa<|ab<|al 1<|aj (aA (cI (x.den:Int)) bF rfl)<|aj (ak rfl (vz (ep (Rz.d hx))))<|al 3<|aw (ah de rfl) rfl<|ag<|aa<|ab<|ag ?_
  refine au rfl (fun hc2=>?_) (fun hc2=>?_)
  ·refine aa<|ab<|al 2<|aj (aD (us:=cQ (bD x.num) (bD (x.den:Int))) om br rfl rfl rfl) ?_
   refine ag<|am ?_
   rw[MP hc1 hc2,if_pos rfl,if_pos rfl]
   exact ao (bb az rfl (aC ae))
  ·refine ap<|aa<|ab<|aj (aD (us:=(([.b false]++[.s 0 []])++([.b false]++[.s 0 []]))) om br rfl rfl rfl) ?_
   refine ag<|am ?_
   rw[Gg hc2,if_neg (by decide),if_neg (by decide),rO]
   exact ao (bb az rfl (aC ae))
 ·refine ap<|aa<|ab<|aj (aD (us:=(([.b false]++[.s 0 []])++([.b false]++[.s 0 []]))) om br rfl rfl rfl) ?_
  refine ag<|am ?_
  rw[Iz hc1,if_neg (by decide),if_neg (by decide),rO]
  exact ao (bb az rfl (aC ae))
theorem FE {x:Rat}(hx:Rz 300 x):Ok Tryz.prog 165 [dR x] [dQ (if iD x then bD x.num else 0) (if iD x then bD (x.den:Int) else 0),.c (.b (iD x))]:=qL (hx.mono (by decide))
end Go.Proofs.YtacopbfkmnpfgaaGreat
