/-Plain arithmetic of numbers in limbs of base 10^9:what a list of limbs is worth;leading zeros;sizes. No condition. -/
import Derived.WalkKit
import Derived.Below
import Derived.Laws.OwnMore
import Derived.Deep.Draws
import Derived.WalkSmall
import Derived.Lib.Hide
import Derived.Test.YtkmdgigkbhmilaaGreatProg
import Derived.WalkSpells
import Derived.WalkLawsBesides
import Derived.StillTactics
import Derived.Outline
import Derived.Deep.QuietTactic
import Derived.BigQuiet
import Derived.Deep.RegionHeld3
import Derived.Handy
import Derived.RegionTactic
import Derived.ChangeAlike
import Derived.BigRegion
import Derived.Laws.AppendOwnNone
namespace Go.Proofs.YtkmdgigkbhmilaaGreat
def val:List Int→Int
 |[]=>0
 |x::xs=>x+1000000000*val xs
def Lim (xs:List Int):Prop:= ∀x∈xs,0≤x∧x<1000000000
def pw (n:Nat):Int:=1000000000^n
theorem oJ:pw 0=1:=rfl
theorem eh (n:Nat):pw (n+1)=1000000000*pw n:=by unfold pw;rw[Int.pow_succ,Int.mul_comm]
theorem dJ (n:Nat):1≤pw n:=by
 induction n with
 |zero=>exact Int.le_refl _
 |succ n ih=>rw[eh];omega
theorem qQ (n m:Nat):pw (n+m)=pw n*pw m:=by unfold pw;exact Int.pow_add _ _ _
theorem lh {n m:Nat}(h:n≤m):pw n≤pw m:=by
 obtain⟨k,rfl⟩:=Nat.le.dest h
 rw[qQ]
 have h1:=dJ n
 have h2:=dJ k
 have:=Int.mul_le_mul_of_nonneg_left h2 (show 0≤pw n by omega)
 omega
theorem Lz {n m:Nat}(h:pw n<pw m):n<m:=by
 rcases Nat.lt_or_ge n m with h1|h1
 ·exact h1
 ·have:=lh h1;omega
theorem dU (x:Int) (xs:List Int):val (x::xs)=x+1000000000*val xs:=rfl
theorem mB (xs ys:List Int):val (xs++ys)=val xs+pw xs.length*val ys:=by
 induction xs with
 |nil=>simp[val,oJ]
 |cons x xs ih=>
  rw[List.cons_append,dU,ih,dU,List.length_cons,eh,Int.mul_add,Int.mul_assoc];omega
theorem mE (xs:List Int) (x:Int):val (xs++[x])=val xs+pw xs.length*x:=by
 rw[mB,dU];simp[val]
theorem Lim.nil:Lim []:=fun x h=>by cases h
theorem Lim.cons {x:Int}{xs:List Int}(h0:0≤x) (h1:x<1000000000) (h:Lim xs):Lim (x::xs):=by
 intro y hy
 rcases List.mem_cons.1 hy with rfl|hy
 ·exact⟨h0,h1⟩
 ·exact h y hy
theorem Lim.head {x:Int}{xs:List Int}(h:Lim (x::xs)):0≤x∧x<1000000000:=h x (List.mem_cons_self ..)
theorem Lim.tail {x:Int}{xs:List Int}(h:Lim (x::xs)):Lim xs:=fun y hy=>h y (List.mem_cons_of_mem _ hy)
theorem Lim.append {xs ys:List Int}(h:Lim xs) (k:Lim ys):Lim (xs++ys):=by
 intro y hy
 rcases List.mem_append.1 hy with hy|hy
 ·exact h y hy
 ·exact k y hy
theorem Lim.snoc {xs:List Int}{x:Int}(h:Lim xs) (h0:0≤x) (h1:x<1000000000):Lim (xs++[x]):=h.append (Lim.nil.cons h0 h1)
theorem Lim.take {xs:List Int}(h:Lim xs) (n:Nat):Lim (xs.take n):=fun y hy=>h y (List.mem_of_mem_take hy)
theorem Lim.drop {xs:List Int}(h:Lim xs) (n:Nat):Lim (xs.drop n):=fun y hy=>h y (List.mem_of_mem_drop hy)
theorem Lim.at_ {xs:List Int}(h:Lim xs) {i:Nat}{x:Int}(hx:xs[i]? =some x):0≤x∧x<1000000000:=h x (List.mem_of_getElem? hx)
theorem Lim.zeros (n:Nat):Lim (List.replicate n 0):=fun x h=>by rw[(List.mem_replicate.1 h).2];omega
theorem tA (n:Nat):val (List.replicate n 0)=0:=by
 induction n with
 |zero=>rfl
 |succ n ih=>rw[List.replicate_succ,dU,ih];rfl
theorem cK {xs:List Int}(h:Lim xs):0≤val xs:=by
 induction xs with
 |nil=>exact Int.le_refl _
 |cons x xs ih=>
  have:=ih h.tail
  have:=h.head
  rw[dU];omega
theorem eI {xs:List Int}(h:Lim xs):val xs<pw xs.length:=by
 induction xs with
 |nil=>exact Int.one_pos
 |cons x xs ih=>
  have h1:=ih h.tail
  have h2:=h.head
  rw[dU,List.length_cons,eh];omega
theorem jh (xs:List Int) (n:Nat) (h:n≤xs.length):val xs=val (xs.take n)+pw n*val (xs.drop n):=by
 have e:=mB (xs.take n) (xs.drop n)
 rw[List.take_append_drop,List.length_take,Nat.min_eq_left h] at e
 exact e
def trm (xs:List Int):List Int:=(xs.reverse.dropWhile (· ==0)).reverse
theorem ks (xs:List Int):trm (xs++[0])=trm xs:=by simp[trm]
theorem pC (xs:List Int) (x:Int) (h:x≠0):trm (xs++[x])=xs++[x]:=by simp[trm,h]
theorem vk {α:Type}(xs:List α):xs=[]∨ ∃ys y,xs=ys++[y]:=by
 rcases List.eq_nil_or_concat xs with h|⟨ys,y,h⟩
 ·exact .inl h
 ·exact .inr ⟨ys,y,by simpa using h⟩
theorem Fi {p:List Int→Prop}(h0:p []) (h1: ∀xs,p xs→p (xs++[0])) (h2: ∀xs x,x≠0→p (xs++[x])): ∀xs,p xs:=by
 intro xs
 generalize hn:xs.length=n
 induction n generalizing xs with
 |zero=>rw[List.length_eq_zero_iff.1 hn];exact h0
 |succ n ih=>
  rcases vk xs with rfl|⟨ys,y,rfl⟩
  ·exact h0
  ·by_cases hy:y=0
   ·subst hy;exact h1 _ (ih ys (by simpa using hn))
   ·exact h2 _ _ hy
theorem sh (xs:List Int): ∃n,n≤xs.length∧trm xs=xs.take n∧xs=xs.take n++List.replicate (xs.length-n) 0:=by
 refine Fi (p:=fun xs=> ∃n,n≤xs.length∧trm xs=xs.take n∧xs=xs.take n++List.replicate (xs.length-n) 0) ⟨0,Nat.le_refl _,rfl,rfl⟩ ?_ ?_ xs
 ·rintro xs ⟨n,hn,e,e2⟩
  refine⟨n,by simp;omega,by rw[ks,e,List.take_append_of_le_length hn],?_⟩
  rw[List.take_append_of_le_length hn,List.length_append,show xs.length+[(0:Int)].length-n=(xs.length-n)+1 from by simp;omega,List.replicate_succ',←List.append_assoc,←e2]
 ·intro xs x hx
  exact⟨(xs++[x]).length,Nat.le_refl _,by rw[pC _ _ hx,List.take_length],by rw[Nat.sub_self,List.take_length];simp⟩
theorem gD (xs:List Int):val (trm xs)=val xs:=by
 obtain⟨n,hn,e,e2⟩:=sh xs
 rw[e]
 conv=>rhs;rw[e2]
 rw[mB,tA];simp
theorem oH (xs:List Int):(trm xs).length≤xs.length:=by
 obtain⟨n,hn,e,_⟩:=sh xs
 rw[e,List.length_take];omega
theorem Lim.trm {xs:List Int}(h:Lim xs):Lim (trm xs):=by
 obtain⟨n,hn,e,_⟩:=sh xs
 rw[e];exact h.take n
def Nrm (xs:List Int):Prop:=trm xs=xs
theorem Nrm.nil:Nrm []:=rfl
theorem oM (xs:List Int):Nrm (trm xs):=by
 refine Fi (p:=fun xs=>Nrm (trm xs)) rfl ?_ ?_ xs
 ·intro xs h;rw[ks];exact h
 ·intro xs x hx;rw[pC _ _ hx];exact pC _ _ hx
theorem u5 (xs:List Int) (x:Int) (hx:x≠0):Nrm (xs++[x]):=pC xs x hx
theorem Nrm.last {xs:List Int}(h:Nrm xs) (hn:xs≠ []): ∃ys y,xs=ys++[y]∧y≠0:=by
 rcases vk xs with e|⟨ys,y,e⟩
 ·exact absurd e hn
 ·refine⟨ys,y,e,fun hy=>?_⟩
  subst hy
  have h1:trm (ys++[0])=ys++[0]:=by rw[←e];exact h
  rw[ks] at h1
  have h2:=oH ys
  rw[h1] at h2
  simp at h2;omega
theorem Nrm.ge {xs:List Int}(h:Nrm xs) (hl:Lim xs) (hn:xs≠ []):pw (xs.length-1)≤val xs:=by
 obtain⟨ys,y,rfl,hy⟩:=h.last hn
 have h1:=hl y (by simp)
 have h2:=cK (fun z hz=>hl z (by simp[hz]):Lim ys)
 have h3:=dJ ys.length
 rw[mE,show(ys++[y]).length-1=ys.length from by simp]
 have:=Int.mul_le_mul_of_nonneg_left (show 1≤y by omega) (show 0≤pw ys.length by omega)
 omega
theorem EL: ∀ {xs ys:List Int},Lim xs→Lim ys→xs.length=ys.length→val xs=val ys→xs=ys
 |[],[],_,_,_,_=>rfl
 |[],y::ys,_,_,h,_=>by simp at h
 |x::xs,[],_,_,h,_=>by simp at h
 |x::xs,y::ys,hx,hy,hl,hv=>by
  rw[dU,dU] at hv
  have h1:=hx.head
  have h2:=hy.head
  have e1:x=y:=by omega
  have e2:val xs=val ys:=by omega
  rw[e1,EL hx.tail hy.tail (by simpa using hl) e2]
theorem Nrm.len {xs:List Int}(h:Nrm xs) (hl:Lim xs) {k:Nat}(hv:val xs<pw k):xs.length≤k:=by
 rcases Classical.em (xs=[]) with h1|h1
 ·subst h1;exact Nat.zero_le _
 ·have h2:=h.ge hl h1
  have h3:=Lz (show pw (xs.length-1)<pw k by omega)
  have:xs.length≠0:=fun h=>h1 (List.length_eq_zero_iff.1 h)
  omega
theorem Nrm.inj {xs ys:List Int}(hx:Nrm xs) (hy:Nrm ys) (lx:Lim xs) (ly:Lim ys) (h:val xs=val ys):xs=ys:=by
 have h1:=hx.len lx (k:=ys.length) (by rw[h];exact eI ly)
 have h2:=hy.len ly (k:=xs.length) (by rw[←h];exact eI lx)
 exact EL lx ly (by omega) h
def dS (a b:Int):Int:=if a<b then-1 else if b<a then 1 else 0
theorem t8 {xs ys:List Int}(hy:Nrm ys) (lx:Lim xs) (ly:Lim ys) (h:xs.length<ys.length):val xs<val ys:=by
 have h1:=eI lx
 have h2:=hy.ge ly (fun e=>by subst e;simp at h)
 have h3:=lh (show xs.length≤ys.length-1 by omega)
 omega
theorem AD {xs ys:List Int}(lx:Lim xs) (ly:Lim ys) {i:Nat}{x y:Int}(hx:xs[i]? =some x) (hy:ys[i]? =some y) (hd:xs.drop (i+1)=ys.drop (i+1)) (h:x<y):val xs<val ys:=by
 have hix:i<xs.length:=by
  rcases Nat.lt_or_ge i xs.length with h1|h1
  ·exact h1
  ·rw[List.getElem?_eq_none h1] at hx;cases hx
 have hiy:i<ys.length:=by
  rcases Nat.lt_or_ge i ys.length with h1|h1
  ·exact h1
  ·rw[List.getElem?_eq_none h1] at hy;cases hy
 have e1:=jh xs i (by omega)
 have e2:=jh ys i (by omega)
 have d1:xs.drop i=x::xs.drop (i+1):=by
  rw[List.drop_eq_getElem_cons hix];congr;rw[List.getElem?_eq_getElem hix] at hx;simpa using hx
 have d2:ys.drop i=y::ys.drop (i+1):=by
  rw[List.drop_eq_getElem_cons hiy];congr;rw[List.getElem?_eq_getElem hiy] at hy;simpa using hy
 rw[d1,dU] at e1
 rw[d2,dU,←hd] at e2
 have h1:=eI (lx.take i)
 have h2:=cK (ly.take i)
 rw[List.length_take,Nat.min_eq_left (by omega)] at h1
 have h3:=dJ i
 have h4:pw i*(x+1000000000*val (xs.drop (i+1)))+pw i≤pw i*(y+1000000000*val (xs.drop (i+1))):=by
  have:=Int.mul_le_mul_of_nonneg_left (show x+1000000000*val (xs.drop (i+1))+1≤y+1000000000*val (xs.drop (i+1)) by omega) (show 0≤pw i by omega)
  rw[Int.mul_add _ _ 1] at this
  omega
 omega
theorem bh {xs:List Int}{k:Nat}{x:Int}(h:xs[k]? =some x):val (xs.take (k+1))=val (xs.take k)+pw k*x:=by
 have hk:k<xs.length:=by
  rcases Nat.lt_or_ge k xs.length with h1|h1
  ·exact h1
  ·rw[List.getElem?_eq_none h1] at h;cases h
 rw[List.take_add_one,h]
 show val (xs.take k++[x])=_
 rw[mE,List.length_take,Nat.min_eq_left (by omega)]
theorem fc {xs:List Int}{k:Nat}(h:xs.length≤k):val (xs.take (k+1))=val (xs.take k):=by
 rw[List.take_of_length_le (by omega),List.take_of_length_le h]
theorem co {xs:List Int}{k:Nat}(h:xs.length≤k):val (xs.take k)=val xs:=by
 rw[List.take_of_length_le h]
theorem jV {zs:List Int}{k:Nat}{c S t d c':Int}(hl:zs.length=k) (h:val zs+pw k*c=S) (hd:d+1000000000*c'=c+t):val (zs++[d])+pw (k+1)*c'=S+pw k*t:=by
 rw[mE,hl,eh,←h]
 grind
theorem uh {zs:List Int}{k:Nat}{o d:Int}(h:zs[k]? =some o):val (zs.set k d)=val zs+pw k*(d-o):=by
 induction zs generalizing k with
 |nil=>simp at h
 |cons z zs ih=>
  cases k with
  |zero=>
   simp at h
   rw[List.set_cons_zero,dU,dU,oJ];omega
  |succ k=>
   simp at h
   rw[List.set_cons_succ,dU,dU,ih h,eh]
   grind
theorem Lim.set {zs:List Int}(h:Lim zs) {k:Nat}{d:Int}(h0:0≤d) (h1:d<1000000000):Lim (zs.set k d):=by
 intro y hy
 rcases List.mem_or_eq_of_mem_set hy with hy|rfl
 ·exact h y hy
 ·exact⟨h0,h1⟩
theorem jO {zs:List Int}{k m:Nat}{d:Int}(h:zs.length=k):(zs++List.replicate (m+1) 0).set k d=(zs++[d])++List.replicate m 0:=by
 subst h
 rw[List.replicate_succ,List.set_append_right _ _ (Nat.le_refl _)]
 simp
theorem R6 {zs:List Int}{k m:Nat}(h:zs.length=k):(zs++List.replicate (m+1) 0)[k]? =some 0:=by
 subst h
 rw[List.getElem?_append_right (Nat.le_refl _)]
 simp
def Zr (zs:List Int) (k:Nat):Prop:= ∀j z,k≤j→zs[j]? =some z→z=0
theorem Zr.zeros (n k:Nat):Zr (List.replicate n 0) k:=fun j z _ h=>by
 have:=List.mem_of_getElem? h
 exact(List.mem_replicate.1 this).2
theorem Zr.set {zs:List Int}{k i:Nat}{d:Int}(h:Zr zs k) (hi:i<k):Zr (zs.set i d) k:=fun j z hj hz=>by
 rw[List.getElem?_set_ne (by omega)] at hz
 exact h j z hj hz
theorem Zr.set_at {zs:List Int}{k:Nat}{d:Int}(h:Zr zs k):Zr (zs.set k d) (k+1):=fun j z hj hz=>by
 rw[List.getElem?_set_ne (by omega)] at hz
 exact h j z (by omega) hz
theorem lE {zs:List Int}{n k:Nat}(h:zs.length=n) (hk:k<n): ∃x,zs[k]? =some x:=⟨_,List.getElem?_eq_getElem (by omega)⟩
end Go.Proofs.YtkmdgigkbhmilaaGreat
namespace Go.Proofs.YtkmdgigkbhmilaaGreat
open Go.RowKit
theorem Below.drewN' {B:Nat}{a w:World}(h:Below B a w) (n:Nat):Below B a (w.drewN n):=⟨h.os,h.tape,h.output,h.size,h.block⟩
def Rd (w:World) (sz:Nat) (A:Option Addr) (n:Nat) (xs:List Value):Prop:=
 xs.length=n*sz∧(0<n→ ∃b off,A=some ⟨b,off,none⟩∧b<w.heap.size∧ ∀j u,xs[j]? =some u→w.cell? ⟨b,off+j,none⟩=some u)
section
variable {w w':World}{sz n:Nat}{A:Option Addr}{xs:List Value}
theorem Rd.nil:Rd w sz A 0 []:=⟨by simp,fun h=>absurd h (by omega)⟩
theorem Rd.below (h:Rd w sz A n xs) (hb:Below w.heap.size w w'):Rd w' sz A n xs:=
 ⟨h.1,fun hn=>by
  obtain⟨b,off,e,hlt,hc⟩:=h.2 hn
  exact⟨b,off,e,Nat.lt_of_lt_of_le hlt hb.size,fun j u hu=>(hb.cell (p:=⟨b,off+j,none⟩) hlt).trans (hc j u hu)⟩⟩
theorem Rd.own {base:Nat}{e:TypeId}{c:Nat}(h:w.ownsRow base e sz (.slice A n c) n xs):Rd w sz A n xs:=by
 refine⟨h.1,fun hn=>?_⟩
 rcases h.2 with⟨_,h0⟩|⟨g,cap,cur,hv,_,hg,hnc,_,hcs,htake⟩
 ·omega
 ·have hA:A=some ⟨g,0,none⟩:=by injection hv
  subst hA
  have hlt:g<w.heap.size:=by
   rcases Nat.lt_or_ge g w.heap.size with h1|h1
   ·exact h1
   ·rw[Array.getElem?_eq_none h1] at hg;cases hg
  refine⟨g,0,rfl,hlt,fun j u hu=>?_⟩
  rw[Nat.zero_add,cell_of_row w g j cur e (0,0) hg]
  rw[←htake,List.getElem?_take] at hu
  split at hu
  ·simpa using hu
  ·cases hu
theorem Rd.at_ (h:Rd w 1 A n xs) {k:Nat}(hk:k<n): ∃b off u,A=some ⟨b,off,none⟩∧b<w.heap.size∧xs[k]? =some u∧w.cell? ⟨b,off+k,none⟩=some u:=by
 obtain⟨b,off,e,hlt,hc⟩:=h.2 (by omega)
 have hl:k<xs.length:=by have:=h.1;omega
 exact⟨b,off,xs[k],e,hlt,List.getElem?_eq_getElem hl,hc k _ (List.getElem?_eq_getElem hl)⟩
end
theorem DE {w:World}{base sz n:Nat}{e:TypeId}{v:Value}{xs:List Value}(h:w.ownsRow base e sz v n xs): ∀g,v.ownBlock=some g→base≤g:=by
 intro g hg
 rcases h.2 with⟨rfl,_⟩|⟨g',cap,cur,rfl,hb,_⟩
 ·simp[Value.ownBlock] at hg
 ·simp[Value.ownBlock] at hg;omega
theorem sU {w wr:World}{base sz n:Nat}{e:TypeId}{v:Value}{xs:List Value}(h:w.ownsRow base e sz v n xs) (hb:Below w.heap.size w wr):wr.ownsRow base e sz v n xs:=by
 refine⟨h.1,?_⟩
 rcases h.2 with h0|⟨g,cap,cur,hv,hg,hh,r⟩
 ·exact .inl h0
 ·have hlt:g<w.heap.size:=by
   rcases Nat.lt_or_ge g w.heap.size with h1|h1
   ·exact h1
   ·rw[Array.getElem?_eq_none h1] at hh;cases hh
  exact .inr ⟨g,cap,cur,hv,hg,(hb.block g hlt).trans hh,r⟩
theorem g9 {w wr w1:World}{base sz n:Nat}{e:TypeId}{v:Value}{xs:List Value}{o:Obj}(h:wr.ownsRow base e sz v n xs) (hb:Below base w wr) (hz:base≤wr.heap.size)
 (hg:(wr.alloc o).grownBy w1 v.ownBlock):Below base w w1:=
 (hb.alloc hz o).grown hg (by simp;omega) (DE h)
theorem mV (w:World) (base sz:Nat) (e:TypeId):w.ownsRow base e sz (.slice none 0 0) 0 []:=⟨by simp,.inl ⟨rfl,rfl⟩⟩
theorem Hw {w w':World}(hb:Below w.heap.size w w') {a:Addr}{v:Value}(hc:w.cell? a=some v):w'.cell? a=some v:=(hb.cell (World.block_lt_of_cell? w a hc)).trans hc
def Bk (w:World) (g:Nat) (t:TypeId) (cs:Array Value):Prop:=w.heap[g]? =some (.cells cs t (0,0))
section
variable {w w':World}{g:Nat}{t:TypeId}{cs:Array Value}
theorem Bk.lt (h:Bk w g t cs):g<w.heap.size:=by
 rcases Nat.lt_or_ge g w.heap.size with h1|h1
 ·exact h1
 ·unfold Bk at h;rw[Array.getElem?_eq_none h1] at h;cases h
theorem Bk.cell (h:Bk w g t cs) (i:Nat):w.cell? ⟨g,i,none⟩=cs[i]? :=cell_of_row w g i cs t (0,0) h
theorem Bk.frozen (h:Bk w g t cs) (i:Nat):w.frozen? ⟨g,i,none⟩=false:=by unfold Bk at h;simp[World.frozen?,h]
theorem Bk.new (w:World) (t:TypeId) (cs:Array Value):Bk (w.alloc (.cells cs t)) w.heap.size t cs:=heap_alloc_new w _
theorem Bk.alloc (h:Bk w g t cs) (o:Obj):Bk (w.alloc o) g t cs:=(Below.heap_alloc w o g h.lt).trans h
theorem Bk.below (h:Bk w g t cs) (hb:Below w.heap.size w w'):Bk w' g t cs:=(hb.block g h.lt).trans h
theorem Bk.grown {row:Option Nat}(h:Bk w g t cs) (hb:w.grownBy w' row) (hg:some g≠row):Bk w' g t cs:=(hb.block g h.lt hg).trans h
end
def RdI (k:IntKind) (w:World) (A:Option Addr) (n:Nat) (xs:List Int):Prop:=Rd w 1 A n (xs.map (Value.int k))
section
variable {k:IntKind}{w w':World}{n:Nat}{A:Option Addr}{xs:List Int}
theorem RdI.len (h:RdI k w A n xs):xs.length=n:=by have:=h.1;simpa using this
theorem RdI.below (h:RdI k w A n xs) (hb:Below w.heap.size w w'):RdI k w' A n xs:=Rd.below h hb
theorem RdI.at_ (h:RdI k w A n xs) {i:Nat}(hi:i<n): ∃b off x,A=some ⟨b,off,none⟩∧b<w.heap.size∧Hid (xs[i]? =some x)∧w.cell? ⟨b,off+i,none⟩=some (.int k x):=by
 obtain⟨b,off,u,e,hlt,hx,hc⟩:=Rd.at_ h hi
 rw[List.getElem?_map] at hx
 cases hq:xs[i]? with
 |none=>rw[hq] at hx;cases hx
 |some q=>rw[hq] at hx;simp at hx;exact⟨b,off,q,e,hlt,rfl,by rw[hc,hx]⟩
theorem RdI.lit (w:World) (t:TypeId) (k:IntKind) (xs:List Int) (cs:Array Value) (b n:Nat) (hb:w.heap.size=b) (hcs:cs=(xs.map (Value.int k)).toArray) (hn:xs.length=n):RdI k (w.alloc (.cells cs t)) (some ⟨b,0,none⟩) n xs:=by
 subst hb hcs hn
 refine⟨by simp,fun _=>⟨w.heap.size,0,rfl,by simp,fun j u hu=>?_⟩⟩
 rw[Nat.zero_add,(Bk.new w t _).cell j]
 simpa using hu
theorem xc {w:World}{base sz n:Nat}{e:TypeId}{v:Value}{xs:List Value}(h:w.ownsRow base e sz v n xs): ∃A c,v=.slice A n c:=by
 rcases h.2 with⟨rfl,rfl⟩|⟨g,cap,cur,rfl,_⟩
 ·exact⟨none,0,rfl⟩
 ·exact⟨_,cap,rfl⟩
theorem rp {α:Type}{xs:List α}{k:Nat}{x:α}(h:xs[k]? =some x):xs.take (k+1)=xs.take k++[x]:=by
 rw[List.take_add_one,h];rfl
end
def Sl (w:World) (A:Option Addr) (n c:Nat) (xs:List Int):Prop:=RdI .u32 w A n xs∧n≤c∧c≤9223372036854775807∧Lim xs
section
variable {w w':World}{A:Option Addr}{n c:Nat}{xs:List Int}
theorem Sl.below (h:Sl w A n c xs) (hb:Below w.heap.size w w'):Sl w' A n c xs:=⟨h.1.below hb,h.2.1,h.2.2.1,h.2.2.2⟩
theorem Sl.len (h:Sl w A n c xs):xs.length=n:=h.1.len
theorem Sl.take (h:Sl w A n c xs) (k c':Nat) (hk:k≤n) (hc:k≤c') (hm:c'≤9223372036854775807):Sl w A k c' (xs.take k):=by
 refine⟨⟨by have:=h.len;simp;omega,fun h0=>?_⟩,hc,hm,h.2.2.2.take k⟩
 obtain⟨b,off,e,hlt,hcell⟩:=h.1.2 (by omega)
 refine⟨b,off,e,hlt,fun j u hu=>hcell j u ?_⟩
 rw[List.getElem?_map,List.getElem?_take] at hu
 rw[List.getElem?_map]
 split at hu
 ·exact hu
 ·cases hu
theorem Sl.at_ (h:Sl w A n c xs) {i:Nat}(hi:i<n): ∃b off x,A=some ⟨b,off,none⟩∧b<w.heap.size∧Hid (xs[i]? =some x)∧w.cell? ⟨b,off+i,none⟩=some (.int .u32 x)∧0≤x∧x<1000000000:=by
 obtain⟨b,off,x,e,hlt,hx,hc⟩:=h.1.at_ hi
 exact⟨b,off,x,e,hlt,hx,hc,(h.2.2.2.at_ hx.out).1,(h.2.2.2.at_ hx.out).2⟩
end
theorem nu {xs:List Int}{k:Nat}{x:Int}(h:xs[k]? =some x) (hx:x=0):trm (xs.take (k+1))=trm (xs.take k):=by
 rw[rp h,hx,ks]
theorem ns {xs:List Int}{k:Nat}{x:Int}(h:xs[k]? =some x) (hx:x≠0):trm (xs.take (k+1))=xs.take (k+1):=by
 rw[rp h,pC _ _ hx]
theorem BO {xs:List Int}{n:Nat}(h:xs.length=n):trm (xs.take n)=trm xs:=by rw[List.take_of_length_le (by omega)]
set_option maxHeartbeats 400000 in
theorem iJ (neg:Bool) (A:Option Addr) (n c:Nat) (xs:List Int) (w:World) (h:Sl w A n c xs):
 Calls Tryz.prog 207 #[.bool neg,.slice A n c] w fun e w'=>e=.returned (.agg #[.bool (neg&&decide (0<(trm xs).length)),.slice A (trm xs).length (trm xs).length])∧Below w.heap.size w w':=by
 have hlen:=h.len
 obtain⟨_,hnc,hcm,_⟩:=id h
 cases neg
 all_goals
  go_enter Tryz.func207,Tryz.ntmps207
  go_wp2
  go_loopw [5] (fun i wr=> ∃k:Nat,k≤n∧i=.int .i64 k∧Hid (trm (xs.take k)=trm xs)∧wr=w.alloc (.cells #[.bool false,.slice none 0 0] 33)) (fun i _=>(intOf i).toNat)
  case atStart=>exact⟨n,Nat.le_refl _,rfl,BO hlen,rfl⟩
  case round=>
   obtain⟨k,hk,rfl,H,rfl⟩:=hrel
   rcases Nat.eq_zero_or_pos k with h0|h0
   ·subst h0
    have Hm:Hid ((trm xs).length=0):=by show _=_;rw[←H.out];rfl
    go_wp2
    go_returns
    exact⟨by rw[Hm.out];rfl,(Below.refl _ _).alloc (Nat.le_refl _) _⟩
   ·obtain⟨k,rfl⟩: ∃j,k=j+1:=⟨k-1,by omega⟩
    obtain⟨b,off,x,rfl,hb,hx,hc,hx0,hx1⟩:=(h.below ((Below.refl _ _).alloc (Nat.le_refl _) (.cells #[.bool false,.slice none 0 0] 33))).at_ (show k<n by omega)
    by_cases hxz:x=0
    ·have Hs:Hid (trm (xs.take k)=trm xs):=by show _=_;rw[←nu hx.out hxz];exact H.out
     have hxb:(x==0)=true:=by simpa using hxz
     clear hxz H
     go_wp2
     go_roundw
     case rel=>exact⟨k,by omega,by go_num,Hs,by first|trivial|rfl⟩
     case measure=>simp[intOf]<;>omega
    ·have Hs:Hid ((trm xs).length=k+1):=by show _=_;rw[←H.out,ns hx.out hxz,List.length_take];omega
     have hxb:(x==0)=false:=by simpa using hxz
     clear hxz H
     go_wp2
     go_returns
     exact⟨by rw[Hs.out];simp,(Below.refl _ _).alloc (Nat.le_refl _) _⟩
set_option maxHeartbeats 400000 in
theorem L0 (A:Option Addr) (n c:Nat) (xs:List Int) (w:World) (h:Sl w A n c xs):
 Calls Tryz.prog 294 #[.slice A n c] w fun e w'=>e=.returned (.slice A (trm xs).length c)∧w=w':=by
 have hlen:=h.len
 obtain⟨_,hnc,hcm,_⟩:=id h
 go_enter Tryz.func294,Tryz.ntmps294
 go_wp2
 go_loop [0] (fun v=> ∃k:Nat,k≤n∧v=.slice A k c∧Hid (trm (xs.take k)=trm xs)) (fun v=>match v with| .slice _ k _=>k|_=>0)
 case atStart=>exact⟨n,Nat.le_refl _,rfl,BO hlen⟩
 case round=>
  obtain⟨k,hk,rfl,H⟩:=hrel
  rcases Nat.eq_zero_or_pos k with h0|h0
  ·subst h0
   have Hm:Hid ((trm xs).length=0):=by show _=_;rw[←H.out];rfl
   go_wp2
   go_ret
   exact⟨by rw[Hm.out];rfl,rfl⟩
  ·obtain⟨k,rfl⟩: ∃j,k=j+1:=⟨k-1,by omega⟩
   obtain⟨b,off,x,rfl,hb,hx,hc,hx0,hx1⟩:=h.at_ (show k<n by omega)
   by_cases hxz:x=0
   ·have Hs:Hid (trm (xs.take k)=trm xs):=by show _=_;rw[←nu hx.out hxz];exact H.out
    have hxb:(x==0)=true:=by simpa using hxz
    clear hxz H
    go_wp2
    go_round
    case rel=>exact⟨k,by omega,by first|rfl|go_num,Hs⟩
    case measure=>simp<;>omega
   ·have Hs:Hid ((trm xs).length=k+1):=by show _=_;rw[←H.out,ns hx.out hxz,List.length_take];omega
    have hxb:(x==0)=false:=by simpa using hxz
    clear hxz H
    go_wp2
    go_ret
    exact⟨by rw[Hs.out];rfl,rfl⟩
theorem Sl.trm {w:World}{A:Option Addr}{n c:Nat}{xs:List Int}(h:Sl w A n c xs):Sl w A (trm xs).length c (trm xs):=by
 obtain⟨k,hk,e,_⟩:=sh xs
 have hl:=h.len
 have e2:(Go.Proofs.YtkmdgigkbhmilaaGreat.trm xs).length=k:=by rw[e,List.length_take];omega
 rw[e2,e]
 exact h.take k c (by omega) (by have:=h.2.1;omega) h.2.2.1
theorem hJ {a b:Int}(h:a=b):dS a b=0:=by unfold dS;rw[if_neg (by omega),if_neg (by omega)]
theorem ew {a b:Int}(h:a<b):dS a b= -1:=by unfold dS;rw[if_pos h]
theorem eA {a b:Int}(h:b<a):dS a b=1:=by unfold dS;rw[if_neg (by omega),if_pos h]
theorem jQ (A:Option Addr) (n c k:Nat) (xs X:List Int) (w:World) (h:Sl w A n c xs) (hX:Hid (trm xs=X)) (hk:Hid (X.length=k)):
 Calls Tryz.prog 294 #[.slice A n c] w fun e w'=>e=.returned (.slice A k c)∧w=w':=by
 rw[←hk.out,←hX.out];exact L0 A n c xs w h
set_option maxHeartbeats 1000000 in
theorem kG (A B:Option Addr) (n c m d:Nat) (xs ys:List Int) (w:World) (ha:Sl w A n c xs) (hb:Sl w B m d ys):
 Calls Tryz.prog 268 #[.slice A n c,.slice B m d] w fun e w'=>e=.returned (.int .i64 (dS (val xs) (val ys)))∧Below w.heap.size w w':=by
 obtain⟨X,hX⟩: ∃X,trm xs=X:=⟨_,rfl⟩
 obtain⟨Y,hY⟩: ∃Y,trm ys=Y:=⟨_,rfl⟩
 obtain⟨k,hk⟩: ∃k,X.length=k:=⟨_,rfl⟩
 obtain⟨l,hl⟩: ∃l,Y.length=l:=⟨_,rfl⟩
 have ta:=ha.trm
 have tb:=hb.trm
 have na:=oM xs
 have nb:=oM ys
 have hva:=gD xs
 have hvb:=gD ys
 rw[hX] at ta na hva
 rw[hY] at tb nb hvb
 rw[hk] at ta
 rw[hl] at tb
 have hkb:k≤9223372036854775807:=by have:=ta.2.1;have:=ta.2.2.1;omega
 have hlb:l≤9223372036854775807:=by have:=tb.2.1;have:=tb.2.2.1;omega
 rw[←hva,←hvb]
 have HX:=Lib.hid hX
 have HY:=Lib.hid hY
 have Hk:=Lib.hid hk
 have Hl:=Lib.hid hl
 clear hva hvb hX hY hk hl
 by_cases hkl:k=l
 ·subst hkl
  go_enter Tryz.func268,Tryz.ntmps268
  go_wp2_with fail
  refine(jQ A n c k xs X w ha HX Hk).mono ?_
  rintro e w1 ⟨rfl,rfl⟩
  go_wp2_with fail
  refine(jQ B m d k ys Y w hb HY Hl).mono ?_
  rintro e w1 ⟨rfl,rfl⟩
  go_wp2
  go_loopw [5] (fun i wr=> ∃j:Nat,j≤k∧i=.int .i64 ((j:Int)-1)∧Hid (X.drop j=Y.drop j)∧Below w.heap.size w wr) (fun i _=>(intOf i+1).toNat)
  case atStart=>exact⟨k,Nat.le_refl _,rfl,by show _=_;rw[List.drop_eq_nil_of_le (by rw[Hk.out];omega),List.drop_eq_nil_of_le (by rw[Hl.out];omega)],Below.refl _ _⟩
  case round=>
   obtain⟨j,hj,rfl,H,hbel⟩:=hrel
   rcases Nat.eq_zero_or_pos j with h0|h0
   ·subst h0
    have Hc:Hid (dS (val X) (val Y)=0):=by
     show _=_
     have h:=H.out
     simp only[List.drop_zero] at h
     rw[h];exact hJ rfl
    go_wp2
    go_ret
    exact⟨by rw[Hc.out];rfl,hbel⟩
   ·obtain⟨j,rfl⟩: ∃i,j=i+1:=⟨j-1,by omega⟩
    obtain⟨b1,o1,x,rfl,hb1,hx,hc1,hx0,hx1⟩:=(ta.below hbel).at_ (show j<k by omega)
    obtain⟨b2,o2,y,rfl,hb2,hy,hc2,hy0,hy1⟩:=(tb.below hbel).at_ (show j<k by omega)
    have ej:((j+1:Nat):Int)-1=(j:Int):=by omega
    rw[ej]
    clear ej
    by_cases hlt:x<y
    ·have Hc:Hid (dS (val X) (val Y)= -1):=ew (AD ta.2.2.2 tb.2.2.2 hx.out hy.out H.out hlt)
     go_wp2_with fail
     go_quiet (fail)
     go_wp2
     go_ret
     exact⟨by rw[Hc.out];rfl,Below.drewN' hbel _⟩
    ·by_cases hgt:y<x
     ·have Hc:Hid (dS (val X) (val Y)=1):=eA (AD tb.2.2.2 ta.2.2.2 hy.out hx.out H.out.symm hgt)
      go_wp2_with fail
      go_quiet (fail)
      go_wp2_with fail
      go_quiet (fail)
      go_wp2
      go_ret
      exact⟨by rw[Hc.out];rfl,Below.drewN' (Below.drewN' hbel _) _⟩
     ·have Hd:Hid (X.drop j=Y.drop j):=by
       show _=_
       have hjx:j<X.length:=by rw[Hk.out];omega
       have hjy:j<Y.length:=by rw[Hl.out];omega
       rw[List.drop_eq_getElem_cons hjx,List.drop_eq_getElem_cons hjy,H.out]
       have e1:=hx.out
       have e2:=hy.out
       rw[List.getElem?_eq_getElem hjx] at e1
       rw[List.getElem?_eq_getElem hjy] at e2
       simp at e1 e2
       rw[e1,e2,show x=y from by omega]
      go_wp2_with fail
      go_quiet (fail)
      go_wp2_with fail
      go_quiet (fail)
      go_wp2
      go_roundw
      case rel=>exact⟨j,by omega,by first|rfl|go_num,Hd,Below.drewN' hbel _⟩
      case measure=>simp[intOf]<;>omega
 ·have hne:((k:Int) !=(l:Int))=true:=by simp;omega
  by_cases hlt:k<l
  ·have Hc:Hid (dS (val X) (val Y)= -1):=ew (t8 nb ta.2.2.2 tb.2.2.2 (by rw[Hk.out,Hl.out];exact hlt))
   go_enter Tryz.func268,Tryz.ntmps268
   go_wp2_with fail
   refine(jQ A n c k xs X w ha HX Hk).mono ?_
   rintro e w1 ⟨rfl,rfl⟩
   go_wp2_with fail
   refine(jQ B m d l ys Y w hb HY Hl).mono ?_
   rintro e w1 ⟨rfl,rfl⟩
   go_wp2
   go_ret
   exact⟨by rw[Hc.out];rfl,Below.refl _ _⟩
  ·have Hc:Hid (dS (val X) (val Y)=1):=eA (t8 na tb.2.2.2 ta.2.2.2 (by rw[Hk.out,Hl.out];omega))
   go_enter Tryz.func268,Tryz.ntmps268
   go_wp2_with fail
   refine(jQ A n c k xs X w ha HX Hk).mono ?_
   rintro e w1 ⟨rfl,rfl⟩
   go_wp2_with fail
   refine(jQ B m d l ys Y w hb HY Hl).mono ?_
   rintro e w1 ⟨rfl,rfl⟩
   go_wp2
   go_ret
   exact⟨by rw[Hc.out];rfl,Below.refl _ _⟩
theorem kI:(Tryz.prog.info? 192).map (fun i=>(i.zero,i.size,i.bytes))=some (some (.int .u32 0),1,4):=by kernel_rfl
def Ow (w:World) (base:Nat) (v:Value) (n:Nat) (xs:List Int):Prop:=w.ownsRow base 192 1 v n (xs.map (Value.int .u32))∧Lim xs
section
variable {w w':World}{base n c:Nat}{A:Option Addr}{v:Value}{xs:List Int}
theorem Ow.len (h:Ow w base v n xs):xs.length=n:=by have:=h.1.1;simpa using this
theorem Ow.form (h:Ow w base v n xs): ∃A c,v=.slice A n c:=xc h.1
theorem Ow.sl (h:Ow w base (.slice A n c) n xs):Sl w A n c xs:=by
 refine⟨Rd.own h.1,?_,?_,h.2⟩
 ·rcases h.1.2 with⟨h0,h1⟩|⟨g,cap,cur,h0,_,_,h1,_⟩
  ·injection h0 with _ h2 h3;omega
  ·injection h0 with _ h2 h3;omega
 ·rcases h.1.2 with⟨h0,h1⟩|⟨g,cap,cur,h0,_,_,h1,h2,_⟩
  ·injection h0 with _ h2 h3;omega
  ·injection h0 with _ h3 h4;simp[maxLen] at h2;omega
theorem Ow.le {b:Nat}(h:Ow w base v n xs) (hb:b≤base):Ow w b v n xs:=by
 refine⟨⟨h.1.1,?_⟩,h.2⟩
 rcases h.1.2 with h0|⟨g,cap,cur,h0,hg,r⟩
 ·exact .inl h0
 ·exact .inr ⟨g,cap,cur,h0,by omega,r⟩
end
def ym (w:World) (n:Nat) (x:Int) (e:Ending) (w':World):Prop:= ∃A c zs,e=.returned (.slice A n c)∧Ow w' w.heap.size (.slice A n c) n zs∧val zs=x∧Below w.heap.size w w'
theorem s7 (u:Int) (w:World) (h0:0≤u) (h1:u≤18446744073709551615) (_h2:u<1000000000000000000000000000):
 Calls Tryz.prog 211 #[.int .u64 u] w (ym w 3 u):=by
 go_enter Tryz.func211,Tryz.ntmps211
 go_wp2
 go_ret
 refine⟨_,_,[u%1000000000,u/1000000000%1000000000,u/1000000000/1000000000],rfl,⟨World.ownsRow_lit w #[.int .u32 (u%1000000000),.int .u32 (u/1000000000%1000000000),.int .u32 (u/1000000000/1000000000)] 3 (Nat.le_refl _) (by unfold maxLen;omega) rfl,?_⟩,?_,(Below.refl _ _).alloc (Nat.le_refl _) _⟩
 ·exact((Lim.nil.cons (by omega) (by omega)).cons (by omega) (by omega)).cons (by omega) (by omega)
 ·simp only[val];omega
set_option maxHeartbeats 1000000 in
set_option maxRecDepth 10000 in
theorem yH (A B:Option Addr) (n c m d:Nat) (xs ys:List Int) (w:World) (ha:Sl w A n c xs) (hb:Sl w B m d ys) (hn:n≤1000000) (hmn:m≤n):
 Calls Tryz.prog 270 #[.slice A n c,.slice B m d] w (ym w (n+1) (val xs+val ys))∧
 (m<n→Calls Tryz.prog 270 #[.slice B m d,.slice A n c] w (ym w (n+1) (val xs+val ys))):=by
 have hla:=ha.len
 have hlb:=hb.len
 obtain⟨i0,hi0,hz0,hz1,hz2⟩:=info_parts kI
 refine⟨?_,fun hlt=>?_⟩
 all_goals
  go_enter Tryz.func270,Tryz.ntmps270
  go_wp2_with (at_make;go_must (refine wpList_make_own _ rfl _ _ 31 rfl w.heap.size 192 i0 (.int .u32 0) 1 Tryz.underlying31 hi0 hz0 hz1 _ _ _ (n+1) rfl rfl (by omega) (by rw[hz2];omega) (by unfold maxLen;omega) (Nat.le_refl _) ?_);intro w1 hown1 hgrow1)
  go_loopw [22,5,6] (fun i v cy wr=> ∃(k:Nat) (C:Int) (zs:List Int),k≤n∧i=.int .i64 k∧cy=.int .u32 C∧0≤C∧C≤1∧wr.ownsRow w.heap.size 192 1 v k (zs.map (Value.int .u32))∧Below w.heap.size w wr∧Hid (Lim zs∧zs.length=k∧val zs+pw k*C=val (xs.take k)+val (ys.take k)))
   (fun i _ _ _=>n-(intOf i).toNat)
  case atStart=>exact⟨0,0,[],Nat.zero_le _,rfl,rfl,by omega,by omega,hown1,(Below.refl _ _).grown hgrow1 (Nat.le_refl _) (by simp),Lim.nil,rfl,by simp[val]⟩
  case round=>
   clear hown1 hgrow1
   obtain⟨k,C,zs,hk,rfl,rfl,hC0,hC1,hown,hbel,H⟩:=hrel
   have hz:=hbel.size
   by_cases hkn:k<n
   ·obtain⟨b1,o1,x,rfl,hb1,hx,hc1,hx0,hx1⟩:=(ha.below hbel).at_ hkn
    by_cases hkm:k<m
    ·obtain⟨b2,o2,y,rfl,hb2,hy,hc2,hy0,hy1⟩:=(hb.below hbel).at_ hkm
     by_cases hg:1000000000≤x+C+y
     ·have Hs:Hid (Lim (zs++[x+C+y-1000000000])∧(zs++[x+C+y-1000000000]).length=k+1∧val (zs++[x+C+y-1000000000])+pw (k+1)*1=val (xs.take (k+1))+val (ys.take (k+1))):=by
       obtain⟨l1,l2,l3⟩:=H.out
       refine⟨l1.snoc (by omega) (by omega),by simp[l2],?_⟩
       rw[bh hx.out,bh hy.out,jV l2 l3 (d:=x+C+y-1000000000) (c':=1) (t:=x+y) (by omega)]
       grind
      clear H
      go_wp2_with (at_builtin;go_must (refine wpList_append_own _ rfl _ _ 31 rfl w.heap.size 192 i0 (.int .u32 0) 1 4 Tryz.underlying31 hi0 hz0 hz1 hz2 rfl (by decide) _ _ _ rfl (hown.alloc _) ⟨wr.heap.size,0,none⟩ 1 1 [.int .u32 _] rfl rfl (cell_one_new _ _ _) (by simp[Value.oneCell']) (by unfold maxLen;omega) (by omega) (by simp;omega) ?_);intro v' w1 hown' hgrow' _)
      go_roundw
      case rel=>exact⟨k+1,1,_,by omega,by go_num,rfl,by omega,by omega,by simpa using hown',g9 hown hbel hz hgrow',Hs⟩
      case measure=>simp[intOf]<;>omega
     ·have Hs:Hid (Lim (zs++[x+C+y])∧(zs++[x+C+y]).length=k+1∧val (zs++[x+C+y])+pw (k+1)*0=val (xs.take (k+1))+val (ys.take (k+1))):=by
       obtain⟨l1,l2,l3⟩:=H.out
       refine⟨l1.snoc (by omega) (by omega),by simp[l2],?_⟩
       rw[bh hx.out,bh hy.out,jV l2 l3 (d:=x+C+y) (c':=0) (t:=x+y) (by omega)]
       grind
      clear H
      go_wp2_with (at_builtin;go_must (refine wpList_append_own _ rfl _ _ 31 rfl w.heap.size 192 i0 (.int .u32 0) 1 4 Tryz.underlying31 hi0 hz0 hz1 hz2 rfl (by decide) _ _ _ rfl (hown.alloc _) ⟨wr.heap.size,0,none⟩ 1 1 [.int .u32 _] rfl rfl (cell_one_new _ _ _) (by simp[Value.oneCell']) (by unfold maxLen;omega) (by omega) (by simp;omega) ?_);intro v' w1 hown' hgrow' _)
      go_roundw
      case rel=>exact⟨k+1,0,_,by omega,by go_num,rfl,by omega,by omega,by simpa using hown',g9 hown hbel hz hgrow',Hs⟩
      case measure=>simp[intOf]<;>omega
    ·by_cases hg:1000000000≤x+C
     ·have Hs:Hid (Lim (zs++[x+C-1000000000])∧(zs++[x+C-1000000000]).length=k+1∧val (zs++[x+C-1000000000])+pw (k+1)*1=val (xs.take (k+1))+val (ys.take (k+1))):=by
       obtain⟨l1,l2,l3⟩:=H.out
       refine⟨l1.snoc (by omega) (by omega),by simp[l2],?_⟩
       rw[bh hx.out,fc (by omega),jV l2 l3 (d:=x+C-1000000000) (c':=1) (t:=x) (by omega)]
       grind
      clear H
      go_wp2_with (at_builtin;go_must (refine wpList_append_own _ rfl _ _ 31 rfl w.heap.size 192 i0 (.int .u32 0) 1 4 Tryz.underlying31 hi0 hz0 hz1 hz2 rfl (by decide) _ _ _ rfl (hown.alloc _) ⟨wr.heap.size,0,none⟩ 1 1 [.int .u32 _] rfl rfl (cell_one_new _ _ _) (by simp[Value.oneCell']) (by unfold maxLen;omega) (by omega) (by simp;omega) ?_);intro v' w1 hown' hgrow' _)
      go_roundw
      case rel=>exact⟨k+1,1,_,by omega,by go_num,rfl,by omega,by omega,by simpa using hown',g9 hown hbel hz hgrow',Hs⟩
      case measure=>simp[intOf]<;>omega
     ·have Hs:Hid (Lim (zs++[x+C])∧(zs++[x+C]).length=k+1∧val (zs++[x+C])+pw (k+1)*0=val (xs.take (k+1))+val (ys.take (k+1))):=by
       obtain⟨l1,l2,l3⟩:=H.out
       refine⟨l1.snoc (by omega) (by omega),by simp[l2],?_⟩
       rw[bh hx.out,fc (by omega),jV l2 l3 (d:=x+C) (c':=0) (t:=x) (by omega)]
       grind
      clear H
      go_wp2_with (at_builtin;go_must (refine wpList_append_own _ rfl _ _ 31 rfl w.heap.size 192 i0 (.int .u32 0) 1 4 Tryz.underlying31 hi0 hz0 hz1 hz2 rfl (by decide) _ _ _ rfl (hown.alloc _) ⟨wr.heap.size,0,none⟩ 1 1 [.int .u32 _] rfl rfl (cell_one_new _ _ _) (by simp[Value.oneCell']) (by unfold maxLen;omega) (by omega) (by simp;omega) ?_);intro v' w1 hown' hgrow' _)
      go_roundw
      case rel=>exact⟨k+1,0,_,by omega,by go_num,rfl,by omega,by omega,by simpa using hown',g9 hown hbel hz hgrow',Hs⟩
      case measure=>simp[intOf]<;>omega
   ·obtain rfl:k=n:=by omega
    go_wp2_with (at_builtin;go_must (refine wpList_append_own _ rfl _ _ 31 rfl w.heap.size 192 i0 (.int .u32 0) 1 4 Tryz.underlying31 hi0 hz0 hz1 hz2 rfl (by decide) _ _ _ rfl (hown.alloc _) ⟨wr.heap.size,0,none⟩ 1 1 [.int .u32 C] rfl rfl (cell_one_new _ _ _) (by simp[Value.oneCell']) (by unfold maxLen;omega) (by omega) (by simp;omega) ?_);intro v' w1 hown' hgrow' _)
    obtain⟨A',c',rfl⟩:=xc hown'
    go_ret
    obtain⟨l1,l2,l3⟩:=H.out
    refine⟨A',c',zs++[C],rfl,⟨by simpa using hown',l1.snoc hC0 (by omega)⟩,?_,g9 hown hbel hz hgrow'⟩
    rw[mE,l2,l3,co (by omega),co (by omega)]
theorem mp {wr:World}{base g n c k:Nat}{xs:List Int}(h:wr.ownsRow base 192 1 (.slice (some ⟨g,0,none⟩) n c) n (xs.map (Value.int .u32))) {o:Int}(hx:xs[k]? =some o):
 wr.cell? ⟨g,k,none⟩=some (.int .u32 o)∧wr.frozen? ⟨g,k,none⟩=false∧ ∀d,(wr.setCell ⟨g,k,none⟩ (.int .u32 d)).ownsRow base 192 1 (.slice (some ⟨g,0,none⟩) n c) n ((xs.set k d).map (Value.int .u32))∧wr.grownBy (wr.setCell ⟨g,k,none⟩ (.int .u32 d)) (some g):=by
 have hl:xs.length=n:=by have:=h.1;simpa using this
 have hk:k<xs.length:=by
  rcases Nat.lt_or_ge k xs.length with h1|h1
  ·exact h1
  ·rw[List.getElem?_eq_none h1] at hx;cases hx
 refine⟨?_,h.frozenAt k,fun d=>?_⟩
 ·rw[h.cellAt k (by omega),List.getElem?_map,hx];rfl
 ·have:=h.stored k (.int .u32 d)
  rwa [←List.map_set] at this
theorem oQ (n:Nat):(madeCells (Value.int .u32 0).cells (n*1)).toList=(List.replicate n (0:Int)).map (Value.int .u32):=by
 rw[Nat.mul_one];exact(toList_madeCells_one _ n).trans (by simp)
theorem pt {ys:List Int}(h:Lim ys) {n:Nat}(hv:val ys<pw n):val (ys.take n)=val ys:=by
 rcases Nat.lt_or_ge ys.length n with h1|h1
 ·exact co (by omega)
 ·have e:=jh ys n h1
  have h2:=cK (h.take n)
  have h3:=cK (h.drop n)
  have h4:=dJ n
  rcases Int.lt_or_le 0 (val (ys.drop n)) with h5|h5
  ·have:=Int.mul_le_mul_of_nonneg_left (show 1≤val (ys.drop n) by omega) (show 0≤pw n by omega)
   omega
  ·have h6:val (ys.drop n)=0:=by omega
   rw[h6] at e;omega
theorem GS {zs xs ys:List Int}{n:Nat}{C:Int}(hz:Lim zs) (hl:zs.length=n) (hc:0≤C) (h:val zs+pw n* -C=val xs-val ys) (hv:val ys≤val xs):val zs=val xs-val ys:=by
 have h1:=eI hz
 rw[hl] at h1
 have h4:=dJ n
 rcases Int.lt_or_le 0 C with h5|h5
 ·have:=Int.mul_le_mul_of_nonneg_left (show 1≤C by omega) (show 0≤pw n by omega)
  rw[Int.mul_neg] at h
  omega
 ·have h6:C=0:=by omega
  subst h6;simp at h;exact h
set_option maxHeartbeats 1000000 in
set_option maxRecDepth 10000 in
theorem yf (A B:Option Addr) (n c m d:Nat) (xs ys:List Int) (w:World) (ha:Sl w A n c xs) (hb:Sl w B m d ys) (hn:n≤1000000) (hv:val ys≤val xs):
 Calls Tryz.prog 271 #[.slice A n c,.slice B m d] w (ym w n (val xs-val ys)):=by
 have hla:=ha.len
 have hlb:=hb.len
 have Hv:Hid (val (ys.take n)=val ys∧val ys≤val xs):=⟨pt hb.2.2.2 (by have:=eI ha.2.2.2;rw[hla] at this;omega),hv⟩
 clear hv
 obtain⟨i0,hi0,hz0,hz1,hz2⟩:=info_parts kI
 go_enter Tryz.func271,Tryz.ntmps271
 go_wp2_with (at_make;go_must (refine wpList_make_full _ rfl _ _ 31 rfl w.heap.size 192 i0 (.int .u32 0) 1 Tryz.underlying31 hi0 hz0 hz1 _ _ _ _ n rfl rfl rfl rfl (by rw[hz2];omega) (by unfold maxLen;omega) (Nat.le_refl _) ?_);intro w1 hown1 hgrow1)
 rw[oQ] at hown1
 go_loopw [15,6] (fun i cy wr=> ∃(k:Nat) (C:Int) (zs:List Int),k≤n∧i=.int .i64 k∧cy=.int .u32 C∧0≤C∧C≤1∧wr.ownsRow w.heap.size 192 1 (.slice (some ⟨w.heap.size,0,none⟩) n n) n ((zs++List.replicate (n-k) 0).map (Value.int .u32))∧Below w.heap.size w wr∧Hid (Lim zs∧zs.length=k∧val zs+pw k* -C=val (xs.take k)-val (ys.take k)))
  (fun i _ _=>n-(intOf i).toNat)
 case atStart=>exact⟨0,0,[],Nat.zero_le _,rfl,rfl,by omega,by omega,hown1,(Below.refl _ _).grown hgrow1 (Nat.le_refl _) (by simp),Lim.nil,rfl,by simp[val]⟩
 case round=>
  clear hown1 hgrow1
  obtain⟨k,C,zs,hk,rfl,rfl,hC0,hC1,hown,hbel,H⟩:=hrel
  have hz:=hbel.size
  by_cases hkn:k<n
  ·obtain⟨j,hj⟩: ∃j,n-k=j+1:=⟨n-k-1,by omega⟩
   have hj2:n-(k+1)=j:=by omega
   rw[hj] at hown
   obtain⟨hcell,hfz,hst⟩:=mp hown (R6 H.out.2.1)
   have Hst:Hid (∀d,(wr.setCell ⟨w.heap.size,k,none⟩ (.int .u32 d)).ownsRow w.heap.size 192 1 (.slice (some ⟨w.heap.size,0,none⟩) n n) n (((zs++[d])++List.replicate (n-(k+1)) 0).map (Value.int .u32))∧Below w.heap.size w (wr.setCell ⟨w.heap.size,k,none⟩ (.int .u32 d))):=by
    intro d
    have h1:=hst d
    rw[jO H.out.2.1,←hj2] at h1
    exact⟨h1.1,hbel.grown h1.2 hz (by simp)⟩
   clear hst hown
   obtain⟨b1,o1,x,rfl,hb1,hx,hc1,hx0,hx1⟩:=(ha.below hbel).at_ hkn
   by_cases hkm:k<m
   ·obtain⟨b2,o2,y,rfl,hb2,hy,hc2,hy0,hy1⟩:=(hb.below hbel).at_ hkm
    by_cases hg:x<C+y
    ·have Hs:Hid (Lim (zs++[x+1000000000-(C+y)])∧(zs++[x+1000000000-(C+y)]).length=k+1∧val (zs++[x+1000000000-(C+y)])+pw (k+1)* -1=val (xs.take (k+1))-val (ys.take (k+1))):=by
      obtain⟨l1,l2,l3⟩:=H.out
      refine⟨l1.snoc (by omega) (by omega),by simp[l2],?_⟩
      rw[bh hx.out,bh hy.out,jV l2 l3 (d:=x+1000000000-(C+y)) (c':= -1) (t:=x-y) (by omega)]
      grind
     clear H
     go_wp2
     go_roundw
     case rel=>exact⟨k+1,1,_,by omega,by go_num,rfl,by omega,by omega,(Hst.out _).1,(Hst.out _).2,Hs⟩
     case measure=>simp[intOf]<;>omega
    ·have Hs:Hid (Lim (zs++[x-(C+y)])∧(zs++[x-(C+y)]).length=k+1∧val (zs++[x-(C+y)])+pw (k+1)* -0=val (xs.take (k+1))-val (ys.take (k+1))):=by
      obtain⟨l1,l2,l3⟩:=H.out
      refine⟨l1.snoc (by omega) (by omega),by simp[l2],?_⟩
      rw[bh hx.out,bh hy.out,jV l2 l3 (d:=x-(C+y)) (c':= -0) (t:=x-y) (by omega)]
      grind
     clear H
     go_wp2
     go_roundw
     case rel=>exact⟨k+1,0,_,by omega,by go_num,rfl,by omega,by omega,(Hst.out _).1,(Hst.out _).2,Hs⟩
     case measure=>simp[intOf]<;>omega
   ·by_cases hg:x<C
    ·have Hs:Hid (Lim (zs++[x+1000000000-C])∧(zs++[x+1000000000-C]).length=k+1∧val (zs++[x+1000000000-C])+pw (k+1)* -1=val (xs.take (k+1))-val (ys.take (k+1))):=by
      obtain⟨l1,l2,l3⟩:=H.out
      refine⟨l1.snoc (by omega) (by omega),by simp[l2],?_⟩
      rw[bh hx.out,fc (by omega),jV l2 l3 (d:=x+1000000000-C) (c':= -1) (t:=x) (by omega)]
      grind
     clear H
     go_wp2
     go_roundw
     case rel=>exact⟨k+1,1,_,by omega,by go_num,rfl,by omega,by omega,(Hst.out _).1,(Hst.out _).2,Hs⟩
     case measure=>simp[intOf]<;>omega
    ·have Hs:Hid (Lim (zs++[x-C])∧(zs++[x-C]).length=k+1∧val (zs++[x-C])+pw (k+1)* -0=val (xs.take (k+1))-val (ys.take (k+1))):=by
      obtain⟨l1,l2,l3⟩:=H.out
      refine⟨l1.snoc (by omega) (by omega),by simp[l2],?_⟩
      rw[bh hx.out,fc (by omega),jV l2 l3 (d:=x-C) (c':= -0) (t:=x) (by omega)]
      grind
     clear H
     go_wp2
     go_roundw
     case rel=>exact⟨k+1,0,_,by omega,by go_num,rfl,by omega,by omega,(Hst.out _).1,(Hst.out _).2,Hs⟩
     case measure=>simp[intOf]<;>omega
  ·obtain rfl:k=n:=by omega
   rw[Nat.sub_self,List.replicate_zero,List.append_nil] at hown
   go_wp2
   go_ret
   obtain⟨l1,l2,l3⟩:=H.out
   refine⟨_,_,zs,rfl,⟨hown,l1⟩,?_,hbel⟩
   rw[co (by omega),Hv.out.1] at l3
   exact GS l1 l2 hC0 l3 Hv.out.2
theorem we {x y:Int}(hx0:0≤x) (hx1:x<1000000000) (hy0:0≤y) (hy1:y<1000000000):0≤x*y∧x*y≤999999998000000001:=by
 refine⟨Int.mul_nonneg hx0 hy0,?_⟩
 have h1:=Int.mul_le_mul (show x≤999999999 by omega) (show y≤999999999 by omega) hy0 (by omega)
 omega
theorem H4 {os ys:List Int}{k j:Nat}{o x y C S:Int}(ho:os[k+j]? =some o) (hy:ys[j]? =some y) (h:val os+pw (k+j)*C=S+pw k*(x*val (ys.take j))):
 val (os.set (k+j) ((o+x*y+C)%1000000000))+pw (k+(j+1))*((o+x*y+C)/1000000000)=S+pw k*(x*val (ys.take (j+1))):=by
 rw[uh ho,bh hy,←Nat.add_assoc,eh,qQ]
 rw[qQ] at h
 have e:=Int.emod_add_mul_ediv (o+x*y+C) 1000000000
 generalize (o+x*y+C)%1000000000=d at*
 generalize (o+x*y+C)/1000000000=c at*
 have:d=o+x*y+C-1000000000*c:=by omega
 subst this
 grind
theorem G5 {os xs ys:List Int}{k m:Nat}{x C:Int}(hx:xs[k]? =some x) (hm:ys.length=m) (ho:os[k+m]? =some 0) (h:val os+pw (k+m)*C=val (xs.take k)*val ys+pw k*(x*val (ys.take m))):
 val (os.set (k+m) C)=val (xs.take (k+1))*val ys:=by
 rw[uh ho,bh hx]
 rw[co (xs:=ys) (by omega)] at h
 grind
set_option maxHeartbeats 1000000 in
set_option maxRecDepth 10000 in
theorem s9 (A B:Option Addr) (n c m d:Nat) (xs ys:List Int) (w:World) (ha:Sl w A n c xs) (hb:Sl w B m d ys) (hn:n≤1000000) (hm:m≤1000000):
 Calls Tryz.prog 208 #[.slice A n c,.slice B m d] w (ym w (n+m) (val xs*val ys)):=by
 have hla:=ha.len
 have hlb:=hb.len
 obtain⟨i0,hi0,hz0,hz1,hz2⟩:=info_parts kI
 go_enter Tryz.func208,Tryz.ntmps208
 go_wp2_with (at_make;go_must (refine wpList_make_full _ rfl _ _ 31 rfl w.heap.size 192 i0 (.int .u32 0) 1 Tryz.underlying31 hi0 hz0 hz1 _ _ _ _ (n+m) rfl rfl (by omega) (by omega) (by rw[hz2];omega) (by unfold maxLen;omega) (Nat.le_refl _) ?_);intro w1 hown1 hgrow1)
 rw[oQ] at hown1
 go_loopw [20] (fun i wr=> ∃(k:Nat) (os:List Int),k≤n∧i=.int .i64 k∧wr.ownsRow w.heap.size 192 1 (.slice (some ⟨w.heap.size,0,none⟩) (n+m) (n+m)) (n+m) (os.map (Value.int .u32))∧Below w.heap.size w wr∧Hid (Lim os∧os.length=n+m∧Zr os (k+m)∧val os=val (xs.take k)*val ys))
  (fun i _=>n-(intOf i).toNat)
 case atStart=>exact⟨0,_,Nat.zero_le _,rfl,hown1,(Below.refl _ _).grown hgrow1 (Nat.le_refl _) (by simp),Lim.zeros _,by simp,Zr.zeros _ _,by simp[val,tA]⟩
 case round=>
  clear hown1 hgrow1
  obtain⟨k,os,hk,rfl,hown,hbel,H⟩:=hrel
  by_cases hkn:k<n
  ·obtain⟨b1,o1,x,rfl,hb1,hx,hc1,hx0,hx1⟩:=(ha.below hbel).at_ hkn
   go_wp2
   go_loopw [27,8] (fun i cy w2=> ∃(j:Nat) (C:Int) (ps:List Int),j≤m∧i=.int .i64 j∧cy=.int .u64 C∧0≤C∧C<1000000000∧w2.ownsRow w.heap.size 192 1 (.slice (some ⟨w.heap.size,0,none⟩) (n+m) (n+m)) (n+m) (ps.map (Value.int .u32))∧Below w.heap.size w w2∧Hid (Lim ps∧ps.length=n+m∧Zr ps (k+m)∧val ps+pw (k+j)*C=val (xs.take k)*val ys+pw k*(x*val (ys.take j))))
    (fun i _ _=>m-(intOf i).toNat)
   case atStart=>
    obtain⟨l1,l2,l3,l4⟩:=H.out
    exact⟨0,0,os,Nat.zero_le _,rfl,rfl,by omega,by omega,hown,hbel,l1,l2,l3,by simp[val,l4]⟩
   case round=>
    clear hown hbel H hb1 hc1
    obtain⟨j,C,ps,hj,rfl,rfl,hC0,hC1,hown,hbel,H⟩:=hrel
    have hz:=hbel.size
    by_cases hjm:j<m
    ·obtain⟨b2,o2,y,rfl,hb2,hy,hc2,hy0,hy1⟩:=(hb.below hbel).at_ hjm
     obtain⟨o,ho⟩:=lE H.out.2.1 (show k+j<n+m by omega)
     obtain⟨hcell,hfz,hst⟩:=mp hown ho
     have ho0:=H.out.1.at_ ho
     have Hs:Hid (Lim (ps.set (k+j) ((o+x*y+C)%1000000000))∧(ps.set (k+j) ((o+x*y+C)%1000000000)).length=n+m∧Zr (ps.set (k+j) ((o+x*y+C)%1000000000)) (k+m)∧val (ps.set (k+j) ((o+x*y+C)%1000000000))+pw (k+(j+1))*((o+x*y+C)/1000000000)=val (xs.take k)*val ys+pw k*(x*val (ys.take (j+1)))):=by
      obtain⟨l1,l2,l3,l4⟩:=H.out
      exact⟨l1.set (by omega) (by omega),by simp[l2],l3.set (by omega),H4 ho hy.out l4⟩
     have Hst:Hid (∀d,(wr.setCell ⟨w.heap.size,k+j,none⟩ (.int .u32 d)).ownsRow w.heap.size 192 1 (.slice (some ⟨w.heap.size,0,none⟩) (n+m) (n+m)) (n+m) ((ps.set (k+j) d).map (Value.int .u32))∧Below w.heap.size w (wr.setCell ⟨w.heap.size,k+j,none⟩ (.int .u32 d))):=by
      intro d
      exact⟨(hst d).1,hbel.grown (hst d).2 hz (by simp)⟩
     clear hst hown H ho
     obtain⟨hp0,hp1⟩:=we hx0 hx1 hy0 hy1
     go_wp2
     go_roundw
     case rel=>exact⟨j+1,_,_,by omega,by go_num,rfl,by omega,by omega,(Hst.out _).1,(Hst.out _).2,Hs⟩
     case measure=>simp[intOf]<;>omega
    ·obtain rfl:j=m:=by omega
     obtain⟨o,ho⟩:=lE H.out.2.1 (show k+j<n+j by omega)
     obtain rfl:o=0:=H.out.2.2.1 _ _ (Nat.le_refl _) ho
     obtain⟨hcell,hfz,hst⟩:=mp hown ho
     have Hs:Hid (Lim (ps.set (k+j) C)∧(ps.set (k+j) C).length=n+j∧Zr (ps.set (k+j) C) (k+1+j)∧val (ps.set (k+j) C)=val (xs.take (k+1))*val ys):=by
      obtain⟨l1,l2,l3,l4⟩:=H.out
      exact⟨l1.set (by omega) (by omega),by simp[l2],by have:=l3.set_at (d:=C);rwa [show k+j+1=k+1+j from by omega] at this,G5 hx.out hlb ho l4⟩
     have Hst:Hid ((wr.setCell ⟨w.heap.size,k+j,none⟩ (.int .u32 C)).ownsRow w.heap.size 192 1 (.slice (some ⟨w.heap.size,0,none⟩) (n+j) (n+j)) (n+j) ((ps.set (k+j) C).map (Value.int .u32))∧Below w.heap.size w (wr.setCell ⟨w.heap.size,k+j,none⟩ (.int .u32 C))):=
      ⟨(hst C).1,hbel.grown (hst C).2 hz (by simp)⟩
     clear hst hown H ho
     go_wp2
     go_roundw
     case rel=>exact⟨k+1,_,by omega,by go_num,Hst.out.1,Hst.out.2,Hs⟩
     case measure=>simp[intOf]<;>omega
  ·obtain rfl:k=n:=by omega
   go_wp2
   go_ret
   obtain⟨l1,l2,l3,l4⟩:=H.out
   refine⟨_,_,os,rfl,⟨hown,l1⟩,?_,hbel⟩
   rw[l4,co (xs:=xs) (by omega)]
theorem pI {w a b:World}{row:Option Nat}(h:w.grownBy a row) (k:a.grownBy b row):w.grownBy b row:=
 ⟨k.os.trans h.os,k.tape.trans h.tape,k.output.trans h.output,Nat.le_trans h.size k.size,fun j hj hr=>(k.block j (Nat.lt_of_lt_of_le hj h.size) hr).trans (h.block j hj hr)⟩
theorem Sl.grown {w w':World}{row:Option Nat}{A:Option Addr}{n c:Nat}{xs:List Int}(h:Sl w A n c xs) (hg:w.grownBy w' row) (hne: ∀b off,A=some ⟨b,off,none⟩→some b≠row):Sl w' A n c xs:=by
 refine⟨⟨h.1.1,fun hn=>?_⟩,h.2⟩
 obtain⟨b,off,e,hlt,hc⟩:=h.1.2 hn
 exact⟨b,off,e,Nat.lt_of_lt_of_le hlt hg.size,fun j u hu=>hg.cell (hc j u hu) (hne b off e)⟩
theorem JK {us zs:List Int}{k i:Nat}{u:Int}(hk:k≤us.length) (hz:zs.length=i) (h:us[k+i]? =some u):(us.take k++zs++us.drop (k+i))[k+i]? =some u:=by
 subst hz
 rw[List.getElem?_append_right (by simp;omega),List.getElem?_drop,←h]
 congr 1
 simp;omega
theorem Fb {us zs:List Int}{k i:Nat}{u d:Int}(hk:k≤us.length) (hz:zs.length=i) (h:us[k+i]? =some u):(us.take k++zs++us.drop (k+i)).set (k+i) d=us.take k++(zs++[d])++us.drop (k+(i+1)):=by
 subst hz
 have hlt:k+zs.length<us.length:=by
  rcases Nat.lt_or_ge (k+zs.length) us.length with h1|h1
  ·exact h1
  ·rw[List.getElem?_eq_none h1] at h;cases h
 rw[List.drop_eq_getElem_cons hlt,List.set_append_right _ _ (by simp;omega)]
 rw[show k+zs.length-(us.take k++zs).length=0 from by simp;omega,List.set_cons_zero,←Nat.add_assoc]
 simp
theorem lN {us:List Int}{k i:Nat}{u:Int}(h:us[k+i]? =some u):(us.drop k)[i]? =some u:=by
 rw[List.getElem?_drop];exact h
def DN (w w':World) (base g N cN k m:Nat) (us:List Int) (S:Int) (zs:List Int) (C:Int):Prop:=
 zs.length=m+1∧Lim zs∧0≤C∧val zs+pw (m+1)* -C=S∧w'.ownsRow base 192 1 (.slice (some ⟨g,0,none⟩) N cN) N ((us.take k++zs++us.drop (k+(m+1))).map (Value.int .u32))∧w.grownBy w' (some g)
set_option maxHeartbeats 1000000 in
set_option maxRecDepth 10000 in
theorem yK (base g N cN k cs m d:Nat) (B:Option Addr) (us ys:List Int) (by_:Int) (w:World) (hu:w.ownsRow base 192 1 (.slice (some ⟨g,0,none⟩) N cN) N (us.map (Value.int .u32))) (hul:Lim us)
 (hk:k+m+1≤N) (hN:N≤100000000) (hb:Sl w B m d ys) (hne: ∀b off,B=some ⟨b,off,none⟩→some b≠some g) (h0:0≤by_) (h1:by_<1000000000) (_hcs:m+1≤cs):
 Calls Tryz.prog 296 #[.slice (some ⟨g,k,none⟩) (m+1:Nat) cs,.slice B m d,.int .u64 by_] w fun e w'=> ∃zs C,e=.returned (.bool (decide (0<C)))∧DN w w' base g N cN k m us (val ((us.drop k).take (m+1))-by_*val ys) zs C:=by
 have hlu:us.length=N:=by have:=hu.1;simpa using this
 have hlb:=hb.len
 go_enter Tryz.func296,Tryz.ntmps296
 go_wp2
 go_loopw [15,7,8] (fun i cy bw wr=> ∃(j:Nat) (C D:Int) (zs:List Int),j≤m+1∧i=.int .i64 j∧cy=.int .u64 C∧0≤C∧C<1000000000∧bw=.int .u64 D∧0≤D∧D≤1∧wr.ownsRow base 192 1 (.slice (some ⟨g,0,none⟩) N cN) N ((us.take k++zs++us.drop (k+j)).map (Value.int .u32))∧w.grownBy wr (some g)∧Hid (Lim zs∧zs.length=j∧val zs+pw j* -(C+D)=val ((us.drop k).take j)-by_*val (ys.take j)))
  (fun i _ _ _=>m+1-(intOf i).toNat)
 case atStart=>exact⟨0,0,0,[],Nat.zero_le _,rfl,rfl,by omega,by omega,rfl,by omega,by omega,by simpa using hu,World.grownBy.refl _ _,Lim.nil,rfl,by simp[val]⟩
 case round=>
  obtain⟨j,C,D,zs,hj,rfl,rfl,hC0,hC1,rfl,hD0,hD1,hown,hgr,H⟩:=hrel
  by_cases hjn:j<m+1
  ·obtain⟨u,hu'⟩:=lE hlu (show k+j<N by omega)
   have hu01:=hul.at_ hu'
   obtain⟨hcell,hfz,hst⟩:=mp hown (JK (by omega) H.out.2.1 hu')
   have Hst:Hid (∀d,(wr.setCell ⟨g,k+j,none⟩ (.int .u32 d)).ownsRow base 192 1 (.slice (some ⟨g,0,none⟩) N cN) N ((us.take k++(zs++[d])++us.drop (k+(j+1))).map (Value.int .u32))∧w.grownBy (wr.setCell ⟨g,k+j,none⟩ (.int .u32 d)) (some g)):=by
    intro d
    have h1:=hst d
    rw[Fb (by omega) H.out.2.1 hu'] at h1
    exact⟨h1.1,pI hgr h1.2⟩
   have Hu:=Lib.hid hu'
   clear hst hown hu'
   by_cases hjm:j<m
   ·obtain⟨b2,o2,y,rfl,hb2,hy,hc2,hy0,hy1⟩:=(hb.grown hgr hne).at_ hjm
    obtain⟨hp0,hp1⟩:=we hy0 hy1 h0 h1
    by_cases hg:u<(C+y*by_)%1000000000+D
    ·have Hs:Hid (Lim (zs++[u+1000000000-((C+y*by_)%1000000000+D)])∧(zs++[u+1000000000-((C+y*by_)%1000000000+D)]).length=j+1∧val (zs++[u+1000000000-((C+y*by_)%1000000000+D)])+pw (j+1)* -((C+y*by_)/1000000000+1)=val ((us.drop k).take (j+1))-by_*val (ys.take (j+1))):=by
      obtain⟨l1,l2,l3⟩:=H.out
      refine⟨l1.snoc (by omega) (by omega),by simp[l2],?_⟩
      rw[bh (lN Hu.out),bh hy.out,jV l2 l3 (d:=u+1000000000-((C+y*by_)%1000000000+D)) (c':= -((C+y*by_)/1000000000+1)) (t:=u-y*by_) (by omega)]
      grind
     clear H
     go_wp2
     go_roundw
     case rel=>exact⟨j+1,_,1,_,by omega,by go_num,rfl,by omega,by omega,rfl,by omega,by omega,(Hst.out _).1,(Hst.out _).2,Hs⟩
     case measure=>simp[intOf]<;>omega
    ·have Hs:Hid (Lim (zs++[u-((C+y*by_)%1000000000+D)])∧(zs++[u-((C+y*by_)%1000000000+D)]).length=j+1∧val (zs++[u-((C+y*by_)%1000000000+D)])+pw (j+1)* -((C+y*by_)/1000000000+0)=val ((us.drop k).take (j+1))-by_*val (ys.take (j+1))):=by
      obtain⟨l1,l2,l3⟩:=H.out
      refine⟨l1.snoc (by omega) (by omega),by simp[l2],?_⟩
      rw[bh (lN Hu.out),bh hy.out,jV l2 l3 (d:=u-((C+y*by_)%1000000000+D)) (c':= -((C+y*by_)/1000000000+0)) (t:=u-y*by_) (by omega)]
      grind
     clear H
     go_wp2
     go_roundw
     case rel=>exact⟨j+1,_,0,_,by omega,by go_num,rfl,by omega,by omega,rfl,by omega,by omega,(Hst.out _).1,(Hst.out _).2,Hs⟩
     case measure=>simp[intOf]<;>omega
   ·have hCC:C/1000000000=0∧C%1000000000=C:=by omega
    by_cases hg:u<C+D
    ·have Hs:Hid (Lim (zs++[u+1000000000-(C+D)])∧(zs++[u+1000000000-(C+D)]).length=j+1∧val (zs++[u+1000000000-(C+D)])+pw (j+1)* -(0+1)=val ((us.drop k).take (j+1))-by_*val (ys.take (j+1))):=by
      obtain⟨l1,l2,l3⟩:=H.out
      refine⟨l1.snoc (by omega) (by omega),by simp[l2],?_⟩
      rw[bh (lN Hu.out),fc (xs:=ys) (by omega),jV l2 l3 (d:=u+1000000000-(C+D)) (c':= -(0+1)) (t:=u) (by omega)]
      grind
     clear H
     go_wp2
     go_roundw
     case rel=>exact⟨j+1,0,1,_,by omega,by go_num,by first|rfl|go_num,by omega,by omega,rfl,by omega,by omega,(Hst.out _).1,(Hst.out _).2,Hs⟩
     case measure=>simp[intOf]<;>omega
    ·have Hs:Hid (Lim (zs++[u-(C+D)])∧(zs++[u-(C+D)]).length=j+1∧val (zs++[u-(C+D)])+pw (j+1)* -(0+0)=val ((us.drop k).take (j+1))-by_*val (ys.take (j+1))):=by
      obtain⟨l1,l2,l3⟩:=H.out
      refine⟨l1.snoc (by omega) (by omega),by simp[l2],?_⟩
      rw[bh (lN Hu.out),fc (xs:=ys) (by omega),jV l2 l3 (d:=u-(C+D)) (c':= -(0+0)) (t:=u) (by omega)]
      grind
     clear H
     go_wp2
     go_roundw
     case rel=>exact⟨j+1,0,0,_,by omega,by go_num,by first|rfl|go_num,by omega,by omega,rfl,by omega,by omega,(Hst.out _).1,(Hst.out _).2,Hs⟩
     case measure=>simp[intOf]<;>omega
  ·obtain rfl:j=m+1:=by omega
   have hfin: ∀t:Bool,t=decide (0<C+D)→ ∃zs C',Ending.returned (.bool t)=.returned (.bool (decide (0<C')))∧DN w wr base g N cN k m us (val ((us.drop k).take (m+1))-by_*val ys) zs C':=by
    rintro t rfl
    obtain⟨l1,l2,l3⟩:=H.out
    rw[co (xs:=ys) (by omega)] at l3
    exact⟨zs,C+D,rfl,l2,l1,by omega,l3,hown,hgr⟩
   have Hf:=Lib.hid hfin
   clear hfin H hown
   by_cases hD:0<D
   ·go_wp2
    go_ret
    exact Hf.out _ (by simp;omega)
   ·go_wp2
    go_ret
    exact Hf.out _ (by first|(simp;omega)|(have:D=0:=by omega);subst this;simp)
set_option maxHeartbeats 1000000 in
set_option maxRecDepth 10000 in
theorem Bw (base g N cN k cs m d:Nat) (B:Option Addr) (us ys:List Int) (w:World) (hu:w.ownsRow base 192 1 (.slice (some ⟨g,0,none⟩) N cN) N (us.map (Value.int .u32))) (hul:Lim us)
 (hk:k+m+1≤N) (hN:N≤100000000) (hb:Sl w B m d ys) (hne: ∀b off,B=some ⟨b,off,none⟩→some b≠some g) (_hcs:m+1≤cs):
 Calls Tryz.prog 297 #[.slice (some ⟨g,k,none⟩) (m+1:Nat) cs,.slice B m d] w fun e w'=> ∃zs C,e=.returned (.tuple #[])∧0≤C∧zs.length=m+1∧Lim zs∧val zs+pw (m+1)*C=val ((us.drop k).take (m+1))+val ys∧w'.ownsRow base 192 1 (.slice (some ⟨g,0,none⟩) N cN) N ((us.take k++zs++us.drop (k+(m+1))).map (Value.int .u32))∧w.grownBy w' (some g):=by
 have hlu:us.length=N:=by have:=hu.1;simpa using this
 have hlb:=hb.len
 go_enter Tryz.func297,Tryz.ntmps297
 go_wp2
 go_loopw [9,4] (fun i cy wr=> ∃(j:Nat) (C:Int) (zs:List Int),j≤m+1∧i=.int .i64 j∧cy=.int .u32 C∧0≤C∧C≤1∧wr.ownsRow base 192 1 (.slice (some ⟨g,0,none⟩) N cN) N ((us.take k++zs++us.drop (k+j)).map (Value.int .u32))∧w.grownBy wr (some g)∧Hid (Lim zs∧zs.length=j∧val zs+pw j*C=val ((us.drop k).take j)+val (ys.take j)))
  (fun i _ _=>m+1-(intOf i).toNat)
 case atStart=>exact⟨0,0,[],Nat.zero_le _,rfl,rfl,by omega,by omega,by simpa using hu,World.grownBy.refl _ _,Lim.nil,rfl,by simp[val]⟩
 case round=>
  obtain⟨j,C,zs,hj,rfl,rfl,hC0,hC1,hown,hgr,H⟩:=hrel
  by_cases hjn:j<m+1
  ·obtain⟨u,hu'⟩:=lE hlu (show k+j<N by omega)
   have hu01:=hul.at_ hu'
   obtain⟨hcell,hfz,hst⟩:=mp hown (JK (by omega) H.out.2.1 hu')
   have Hst:Hid (∀d,(wr.setCell ⟨g,k+j,none⟩ (.int .u32 d)).ownsRow base 192 1 (.slice (some ⟨g,0,none⟩) N cN) N ((us.take k++(zs++[d])++us.drop (k+(j+1))).map (Value.int .u32))∧w.grownBy (wr.setCell ⟨g,k+j,none⟩ (.int .u32 d)) (some g)):=by
    intro d
    have h1:=hst d
    rw[Fb (by omega) H.out.2.1 hu'] at h1
    exact⟨h1.1,pI hgr h1.2⟩
   have Hu:=Lib.hid hu'
   clear hst hown hu'
   by_cases hjm:j<m
   ·obtain⟨b2,o2,y,rfl,hb2,hy,hc2,hy0,hy1⟩:=(hb.grown hgr hne).at_ hjm
    by_cases hg:1000000000≤u+C+y
    ·have Hs:Hid (Lim (zs++[u+C+y-1000000000])∧(zs++[u+C+y-1000000000]).length=j+1∧val (zs++[u+C+y-1000000000])+pw (j+1)*1=val ((us.drop k).take (j+1))+val (ys.take (j+1))):=by
      obtain⟨l1,l2,l3⟩:=H.out
      refine⟨l1.snoc (by omega) (by omega),by simp[l2],?_⟩
      rw[bh (lN Hu.out),bh hy.out,jV l2 l3 (d:=u+C+y-1000000000) (c':=1) (t:=u+y) (by omega)]
      grind
     clear H
     go_wp2
     go_roundw
     case rel=>exact⟨j+1,1,_,by omega,by go_num,rfl,by omega,by omega,(Hst.out _).1,(Hst.out _).2,Hs⟩
     case measure=>simp[intOf]<;>omega
    ·have Hs:Hid (Lim (zs++[u+C+y])∧(zs++[u+C+y]).length=j+1∧val (zs++[u+C+y])+pw (j+1)*0=val ((us.drop k).take (j+1))+val (ys.take (j+1))):=by
      obtain⟨l1,l2,l3⟩:=H.out
      refine⟨l1.snoc (by omega) (by omega),by simp[l2],?_⟩
      rw[bh (lN Hu.out),bh hy.out,jV l2 l3 (d:=u+C+y) (c':=0) (t:=u+y) (by omega)]
      grind
     clear H
     go_wp2
     go_roundw
     case rel=>exact⟨j+1,0,_,by omega,by go_num,rfl,by omega,by omega,(Hst.out _).1,(Hst.out _).2,Hs⟩
     case measure=>simp[intOf]<;>omega
   ·by_cases hg:1000000000≤u+C
    ·have Hs:Hid (Lim (zs++[u+C-1000000000])∧(zs++[u+C-1000000000]).length=j+1∧val (zs++[u+C-1000000000])+pw (j+1)*1=val ((us.drop k).take (j+1))+val (ys.take (j+1))):=by
      obtain⟨l1,l2,l3⟩:=H.out
      refine⟨l1.snoc (by omega) (by omega),by simp[l2],?_⟩
      rw[bh (lN Hu.out),fc (xs:=ys) (by omega),jV l2 l3 (d:=u+C-1000000000) (c':=1) (t:=u) (by omega)]
      grind
     clear H
     go_wp2
     go_roundw
     case rel=>exact⟨j+1,1,_,by omega,by go_num,rfl,by omega,by omega,(Hst.out _).1,(Hst.out _).2,Hs⟩
     case measure=>simp[intOf]<;>omega
    ·have Hs:Hid (Lim (zs++[u+C])∧(zs++[u+C]).length=j+1∧val (zs++[u+C])+pw (j+1)*0=val ((us.drop k).take (j+1))+val (ys.take (j+1))):=by
      obtain⟨l1,l2,l3⟩:=H.out
      refine⟨l1.snoc (by omega) (by omega),by simp[l2],?_⟩
      rw[bh (lN Hu.out),fc (xs:=ys) (by omega),jV l2 l3 (d:=u+C) (c':=0) (t:=u) (by omega)]
      grind
     clear H
     go_wp2
     go_roundw
     case rel=>exact⟨j+1,0,_,by omega,by go_num,rfl,by omega,by omega,(Hst.out _).1,(Hst.out _).2,Hs⟩
     case measure=>simp[intOf]<;>omega
  ·obtain rfl:j=m+1:=by omega
   go_wp2
   go_returns
   obtain⟨l1,l2,l3⟩:=H.out
   rw[co (xs:=ys) (by omega)] at l3
   exact⟨zs,C,rfl,hC0,l2,l1,l3,hown,hgr⟩
def u9 (w:World) (q r:Int) (e:Ending) (w':World):Prop:= ∃A n c zs B m d ys,e=.returned (.tuple #[.slice A n c,.slice B m d])∧Ow w' w.heap.size (.slice A n c) n zs∧val zs=q∧Ow w' w.heap.size (.slice B m d) m ys∧val ys=r∧Below w.heap.size w w'
theorem BV {xs os:List Int}{i:Nat}{x o b R:Int}(hx:xs[i]? =some x) (ho:os[i]? =some o) (h:val (os.drop (i+1))*b+R=val (xs.drop (i+1))):
 val ((os.set i ((R*1000000000+x)/b)).drop i)*b+(R*1000000000+x)%b=val (xs.drop i):=by
 have d1:xs.drop i=x::xs.drop (i+1):=by
  have hi:i<xs.length:=by
   rcases Nat.lt_or_ge i xs.length with h1|h1
   ·exact h1
   ·rw[List.getElem?_eq_none h1] at hx;cases hx
  rw[List.drop_eq_getElem_cons hi];congr;rw[List.getElem?_eq_getElem hi] at hx;simpa using hx
 have d2: ∀d,(os.set i d).drop i=d::os.drop (i+1):=by
  intro d
  have hi:i<os.length:=by
   rcases Nat.lt_or_ge i os.length with h1|h1
   ·exact h1
   ·rw[List.getElem?_eq_none h1] at ho;cases ho
  rw[List.drop_eq_getElem_cons (by simpa using hi),List.getElem_set_self,List.drop_set_of_lt (by omega)]
 rw[d1,d2,dU,dU]
 have e:=Int.emod_add_mul_ediv (R*1000000000+x) b
 generalize (R*1000000000+x)/b=q at*
 generalize (R*1000000000+x)%b=r at*
 grind
set_option maxHeartbeats 1000000 in
set_option maxRecDepth 10000 in
theorem wq (A:Option Addr) (n c:Nat) (xs:List Int) (b:Int) (w:World) (ha:Sl w A n c xs) (hn:n≤10000000) (h0:0<b) (h1:b<1000000000):
 Calls Tryz.prog 295 #[.slice A n c,.int .u32 b] w (u9 w (val xs/b) (val xs%b)):=by
 have hla:=ha.len
 obtain⟨i0,hi0,hz0,hz1,hz2⟩:=info_parts kI
 go_enter Tryz.func295,Tryz.ntmps295
 go_wp2_with (at_make;go_must (refine wpList_make_full _ rfl _ _ 31 rfl w.heap.size 192 i0 (.int .u32 0) 1 Tryz.underlying31 hi0 hz0 hz1 _ _ _ _ n rfl rfl rfl rfl (by rw[hz2];omega) (by unfold maxLen;omega) (Nat.le_refl _) ?_);intro w1 hown1 hgrow1)
 rw[oQ] at hown1
 go_loopw [8,7] (fun i cy wr=> ∃(j:Nat) (R:Int) (os:List Int),j≤n∧i=.int .i64 ((j:Int)-1)∧cy=.int .u64 R∧0≤R∧R<b∧wr.ownsRow w.heap.size 192 1 (.slice (some ⟨w.heap.size,0,none⟩) n n) n (os.map (Value.int .u32))∧Below w.heap.size w wr∧Hid (Lim os∧os.length=n∧val (os.drop j)*b+R=val (xs.drop j)))
  (fun i _ _=>(intOf i+1).toNat)
 case atStart=>exact⟨n,0,_,Nat.le_refl _,rfl,rfl,by omega,by omega,hown1,(Below.refl _ _).grown hgrow1 (Nat.le_refl _) (by simp),Lim.zeros _,by simp,by rw[List.drop_eq_nil_of_le (by simp),List.drop_eq_nil_of_le (by omega)];simp[val]⟩
 case round=>
  clear hown1 hgrow1
  obtain⟨j,R,os,hj,rfl,rfl,hR0,hR1,hown,hbel,H⟩:=hrel
  have hz:=hbel.size
  rcases Nat.eq_zero_or_pos j with hj0|hj0
  ·subst hj0
   go_wp2
   go_ret2
   obtain⟨l1,l2,l3⟩:=H.out
   simp only[List.drop_zero] at l3
   have e1:val os=val xs/b:=by rw[←l3,Int.add_comm,Int.add_mul_ediv_right _ _ (by omega),Int.ediv_eq_zero_of_lt hR0 hR1];omega
   have e2:R=val xs%b:=by rw[←l3,Int.add_comm,Int.add_mul_emod_self_right,Int.emod_eq_of_lt hR0 hR1]
   refine⟨_,_,_,os,_,1,_,[R],rfl,⟨hown.alloc _,l1⟩,e1,⟨World.ownsRow_lit _ #[.int .u32 R] 1 hz (by unfold maxLen;omega) rfl,Lim.nil.cons hR0 (by omega)⟩,by simp[val];exact e2,hbel.alloc hz _⟩
  ·obtain⟨j,rfl⟩: ∃i,j=i+1:=⟨j-1,by omega⟩
   have ej:((j+1:Nat):Int)-1=(j:Int):=by omega
   rw[ej]
   clear ej
   obtain⟨b1,o1,x,rfl,hb1,hx,hc1,hx0,hx1⟩:=(ha.below hbel).at_ (show j<n by omega)
   obtain⟨o,ho⟩:=lE H.out.2.1 (show j<n by omega)
   obtain⟨hcell,hfz,hst⟩:=mp hown ho
   obtain⟨T,hT⟩: ∃T,R*1000000000+x=T:=⟨_,rfl⟩
   have hq0:0≤T/b:=Int.ediv_nonneg (by omega) (by omega)
   have hq1:T/b<1000000000:=Int.ediv_lt_of_lt_mul h0 (by omega)
   have hm0:0≤T%b:=Int.emod_nonneg _ (by omega)
   have hm1:T%b<b:=Int.emod_lt_of_pos _ h0
   have Hs:Hid (Lim (os.set j (T/b))∧(os.set j (T/b)).length=n∧val ((os.set j (T/b)).drop j)*b+T%b=val (xs.drop j)):=by
    obtain⟨l1,l2,l3⟩:=H.out
    have e:=BV hx.out ho l3
    rw[hT] at e
    exact⟨l1.set hq0 hq1,by simp[l2],e⟩
   have Hst:Hid (∀d,(wr.setCell ⟨w.heap.size,j,none⟩ (.int .u32 d)).ownsRow w.heap.size 192 1 (.slice (some ⟨w.heap.size,0,none⟩) n n) n ((os.set j d).map (Value.int .u32))∧Below w.heap.size w (wr.setCell ⟨w.heap.size,j,none⟩ (.int .u32 d)).drew):=
    fun d=>⟨(hst d).1,Below.drewN' (hbel.grown (hst d).2 hz (by simp)) 1⟩
   clear hst hown H ho
   go_wp2_with fail
   go_region
   go_wp2
   go_roundw
   case rel=>exact⟨j,_,_,by omega,by go_num,rfl,hm0,hm1,(Hst.out _).1,(Hst.out _).2,Hs⟩
   case measure=>simp[intOf]<;>omega
end Go.Proofs.YtkmdgigkbhmilaaGreat
namespace Go.Proofs.YtkmdgigkbhmilaaGreat
theorem eg {a b c:Int}(h:b≤c) (ha:0≤a):a*b≤a*c:=Int.mul_le_mul_of_nonneg_left h ha
theorem pU {a b c:Int}(h:a≤b) (hc:0≤c):a*c≤b*c:=Int.mul_le_mul_of_nonneg_right h hc
structure Est (P U V t u2 v1 v2:Int):Prop where
 p:1≤P
 u: ∃r,0≤r∧r<P∧U=r+P*(t*1000000000+u2)
 v: ∃s,0≤s∧s<P∧V=s+P*(v1*1000000000+v2)
 t0:0≤t
 u20:0≤u2
 u21:u2<1000000000
 v10:1≤v1
 v20:0≤v2
 v21:v2<1000000000
 lt:U<1000000000*V
section
variable {P U V t u2 v1 v2 G R:Int}
theorem Est.top (h:Est P U V t u2 v1 v2):t≤v1*1000000000+999999999:=by
 obtain⟨p,⟨r,r0,r1,eU⟩,⟨s,s0,s1,eV⟩,t0,u20,u21,v10,v20,v21,lt⟩:=h
 rcases Int.lt_or_le (v1*1000000000+999999999) t with h1|h1
 ·exfalso
  have h2:P*((v1*1000000000+1000000000)*1000000000)≤P*(t*1000000000+u2):=eg (by omega) (by omega)
  have h3:P*(v1*1000000000+v2)≤P*(v1*1000000000+999999999):=eg (by omega) (by omega)
  have e1:P*((v1*1000000000+1000000000)*1000000000)=1000000000*(P*(v1*1000000000+999999999))+1000000000*P:=by grind
  omega
 ·exact h1
theorem Est.first (h:Est P U V t u2 v1 v2):U<(t/v1+1)*V:=by
 obtain⟨p,⟨r,r0,r1,eU⟩,⟨s,s0,s1,eV⟩,t0,u20,u21,v10,v20,v21,lt⟩:=h
 have e:=Int.emod_add_mul_ediv t v1
 have e2:=Int.emod_lt_of_pos t (show 0<v1 by omega)
 have hG:0≤t/v1:=Int.ediv_nonneg t0 (by omega)
 generalize t/v1=G at*
 have h1:t+1≤(G+1)*v1:=by grind
 have h2:P*((t+1)*1000000000)≤P*((G+1)*v1*1000000000):=eg (by omega) (by omega)
 have h3:0≤(G+1)*s:=Int.mul_nonneg (by omega) s0
 have h4:0≤(G+1)*(P*v2):=Int.mul_nonneg (by omega) (Int.mul_nonneg (by omega) v20)
 have h5:P*(t*1000000000+u2)+P≤P*((t+1)*1000000000):=by
  have:=eg (a:=P) (show t*1000000000+u2+1≤(t+1)*1000000000 by omega) (by omega)
  grind
 have e3:(G+1)*V=(G+1)*s+P*((G+1)*v1*1000000000)+(G+1)*(P*v2):=by rw[eV];grind
 omega
theorem Est.v0 (h:Est P U V t u2 v1 v2):0<V:=by
 obtain⟨p,⟨r,r0,r1,eU⟩,⟨s,s0,s1,eV⟩,t0,u20,u21,v10,v20,v21,lt⟩:=h
 have h2:P*1≤P*(v1*1000000000+v2):=eg (by omega) (by omega)
 omega
theorem Est.u0 (h:Est P U V t u2 v1 v2):0≤U:=by
 obtain⟨p,⟨r,r0,r1,eU⟩,⟨s,s0,s1,eV⟩,t0,u20,u21,v10,v20,v21,lt⟩:=h
 have h2:P*0≤P*(t*1000000000+u2):=eg (by omega) (by omega)
 omega
theorem Est.big (h:Est P U V t u2 v1 v2) (hG:1000000000≤G):U<(G-1+1)*V:=by
 have h1:=pU (c:=V) hG (Int.le_of_lt h.v0)
 have h2:=h.lt
 rw[show G-1+1=G from by omega]
 omega
theorem Est.test (h:Est P U V t u2 v1 v2) (hG:0≤G) (hR:R=t-G*v1) (ht:R*1000000000+u2<G*v2):U<(G-1+1)*V:=by
 obtain⟨p,⟨r,r0,r1,eU⟩,⟨s,s0,s1,eV⟩,t0,u20,u21,v10,v20,v21,lt⟩:=h
 rw[show G-1+1=G from by omega]
 have h1:t*1000000000+u2+1≤G*(v1*1000000000+v2):=by
  have e:G*(v1*1000000000+v2)=G*v1*1000000000+G*v2:=by grind
  omega
 have h2:=eg (a:=P) h1 (by omega)
 have h3:0≤G*s:=Int.mul_nonneg hG s0
 have e3:G*V=G*s+P*(G*(v1*1000000000+v2)):=by rw[eV];grind
 have e4:P*(t*1000000000+u2+1)=P*(t*1000000000+u2)+P:=by grind
 omega
theorem Est.done (h:Est P U V t u2 v1 v2) (hG:0≤G) (hG1:G<1000000000) (hR:R=t-G*v1) (ht:G*v2≤R*1000000000+u2):(G-1)*V≤U:=by
 have hv0:=h.v0
 have hu0:=h.u0
 obtain⟨p,⟨r,r0,r1,eU⟩,⟨s,s0,s1,eV⟩,t0,u20,u21,v10,v20,v21,lt⟩:=h
 rcases Int.lt_or_le G 1 with hg|hg
 ·have:G=0:=by omega
  subst this
  omega
 ·have h1:G*(v1*1000000000+v2)≤t*1000000000+u2:=by
   have e:G*(v1*1000000000+v2)=G*v1*1000000000+G*v2:=by grind
   omega
  have h2:=eg (a:=P) h1 (by omega)
  have h3:(G-1)*s≤(G-1)*P:=eg (by omega) (by omega)
  have h4:P*(G-1)≤P*(v1*1000000000+v2):=eg (by omega) (by omega)
  have e3:(G-1)*V=(G-1)*s+P*(G*(v1*1000000000+v2))-P*(v1*1000000000+v2):=by rw[eV];grind
  have e4:(G-1)*P=P*(G-1):=Int.mul_comm _ _
  omega
theorem Est.off (h:Est P U V t u2 v1 v2) (hG:0≤G) (hR:R=t-G*v1) (hb:1000000000≤R):G<1000000000∧G*v2≤R*1000000000+u2:=by
 have ht:=h.top
 obtain⟨p,_,_,t0,u20,u21,v10,v20,v21,lt⟩:=h
 have h1:G<1000000000:=by
  rcases Int.lt_or_le G 1000000000 with h1|h1
  ·exact h1
  ·exfalso
   have:=pU (c:=v1) h1 (by omega)
   omega
 have h2:G*v2≤999999999*999999999:=Int.mul_le_mul (by omega) (by omega) v20 (by omega)
 exact⟨h1,by omega⟩
theorem Est.small (h:Est P U V t u2 v1 v2):t/v1≤2000000000∧0≤t/v1:=by
 have ht:=h.top
 have:=h.v10
 have:=h.t0
 refine⟨?_,Int.ediv_nonneg (by omega) (by omega)⟩
 have h1:t/v1<2000000001:=Int.ediv_lt_of_lt_mul (by omega) (by omega)
 omega
end
theorem Lk {us:List Int}{n k N:Nat}{V:Int}(hl:Lim us) (hN:us.length=N) (hk:k+n<N) (hlt:val (us.drop (k+1))<V) (hV:V<pw n):
 val ((us.drop k).take (n+1))=val (us.drop k)∧val (us.drop (k+(n+1)))=0∧val (us.drop k)<1000000000*V:=by
 have d1:us.drop k=us[k]::us.drop (k+1):=List.drop_eq_getElem_cons (by omega)
 have h0:=hl us[k] (List.getElem_mem _)
 have e1:val (us.drop k)=us[k]+1000000000*val (us.drop (k+1)):=by rw[d1,dU]
 have h1:val (us.drop k)<1000000000*V:=by omega
 have h2:val (us.drop k)<pw (n+1):=by rw[eh];omega
 have e2:=jh (us.drop k) (n+1) (by rw[List.length_drop];omega)
 rw[List.drop_drop] at e2
 have h3:=cK ((hl.drop k).take (n+1))
 have h4:=cK (hl.drop (k+(n+1)))
 have h5:=dJ (n+1)
 have h6:val (us.drop (k+(n+1)))=0:=by
  rcases Int.lt_or_le 0 (val (us.drop (k+(n+1)))) with h7|h7
  ·have:=eg (a:=pw (n+1)) (show 1≤val (us.drop (k+(n+1))) by omega) (by omega)
   omega
  ·omega
 rw[h6] at e2
 exact⟨by omega,h6,h1⟩
theorem Ve {xs:List Int}{m:Nat}{a b c:Int}(hl:Lim xs) (h0:xs[m]? =some a) (h1:xs[m+1]? =some b) (h2:xs[m+2]? =some c):
 ∃r,0≤r∧r<pw m∧val (xs.take (m+3))=r+pw m*((c*1000000000+b)*1000000000+a):=by
 refine⟨val (xs.take m),cK (hl.take m),?_,?_⟩
 ·have:=eI (hl.take m)
  have hm:m<xs.length:=by
   rcases Nat.lt_or_ge m xs.length with h3|h3
   ·exact h3
   ·rw[List.getElem?_eq_none h3] at h0;cases h0
  rwa [List.length_take,Nat.min_eq_left (by omega)] at this
 ·have e:pw (m+2)=1000000000*pw (m+1):=eh (m+1)
  rw[bh h2,bh h1,bh h0,e,eh]
  grind
theorem US {xs:List Int}{m:Nat}{a b:Int}(hl:Lim xs) (h0:xs[m]? =some a) (h1:xs[m+1]? =some b) (hn:xs.length=m+2):
 ∃r,0≤r∧r<pw m∧val xs=r+pw m*(b*1000000000+a):=by
 refine⟨val (xs.take m),cK (hl.take m),?_,?_⟩
 ·have:=eI (hl.take m)
  rwa [List.length_take,Nat.min_eq_left (by omega)] at this
 ·have e:val xs=val (xs.take (m+2)):=by rw[co (by omega)]
  rw[e,bh h1,bh h0,eh]
  grind
structure Kd (us qs V:List Int) (T:Int) (N n k:Nat):Prop where
 ul:Lim us
 un:us.length=N
 ql:Lim qs
 qn:qs.length=N-n
 lt:val (us.drop k)<val V
 eq:val us+val V*(pw k*val (qs.drop k))=T
theorem Kd.step {us qs V zs:List Int}{T Q:Int}{N n k:Nat}(h:Kd us qs V T N n (k+1)) (hn:V.length=n) (hk:k+n<N) (_hV:Lim V) (hz:Lim zs) (hzn:zs.length=n+1) (h0:0≤Q) (h1:Q<1000000000)
 (hv:val zs=val (us.drop k)-Q*val V) (hlt:val zs<val V) (hzero:val (us.drop (k+(n+1)))=0):Kd (us.take k++zs++us.drop (k+(n+1))) (qs.set k Q) V T N n k:=by
 have hu:=h.un
 have hq:=h.qn
 have hkl:(us.take k).length=k:=by rw[List.length_take];omega
 have e1:(us.take k++zs++us.drop (k+(n+1))).drop k=zs++us.drop (k+(n+1)):=by
  rw[List.append_assoc,List.drop_append_of_le_length (by omega),List.drop_eq_nil_of_le (by omega),List.nil_append]
 have e2:val (zs++us.drop (k+(n+1)))=val zs:=by rw[mB,hzero];simp
 have e3:val (us.take k++zs++us.drop (k+(n+1)))=val (us.take k)+pw k*val zs:=by
  rw[List.append_assoc,mB,hkl,e2]
 have e4:val us=val (us.take k)+pw k*val (us.drop k):=jh us k (by omega)
 have e5:(qs.set k Q).drop k=Q::qs.drop (k+1):=by
  rw[List.drop_eq_getElem_cons (by simp;omega),List.getElem_set_self,List.drop_set_of_lt (by omega)]
 refine⟨((h.ul.take k).append hz).append (h.ul.drop _),by simp;omega,h.ql.set h0 h1,by simp[hq],by rw[e1,e2];exact hlt,?_⟩
 rw[e3,e5,dU,hv]
 have:=h.eq
 rw[e4,eh] at this
 grind
theorem M3 {zs:List Int}{P U F V C:Int}(h:val zs+P* -C=U-F*V) (h0:0≤C) (hC: ¬0<C) (hU:U<(F+1)*V):val zs=U-F*V∧val zs<V:=by
 have:C=0:=by omega
 subst this
 rw[Int.add_mul] at hU
 simp at h
 omega
theorem MO {zs ys:List Int}{n:Nat}{U F V C E:Int}(lz:Lim zs) (hz:zs.length=n+1) (ly:Lim ys) (hy:ys.length=n+1) (h:val zs+pw (n+1)* -C=U-F*V) (hC:0<C) (hU:(F-1)*V≤U) (hU0:0≤U) (hF:0≤F) (hV:V<pw n) (hV0:0<V)
 (h2:val ys+pw (n+1)*E=val zs+V):val ys=U-(F-1)*V∧val ys<V∧0≤F-1:=by
 have z0:=cK lz
 have z1:=eI lz
 have y0:=cK ly
 have y1:=eI ly
 rw[hz] at z1
 rw[hy] at y1
 have hp:=eh n
 have hp0:=dJ n
 have e1:(F-1)*V=F*V-V:=by rw[Int.sub_mul];omega
 have hc1:=eg (a:=pw (n+1)) (show 1≤C by omega) (by omega)
 rw[Int.mul_neg] at h
 have hneg:U-F*V<0:=by omega
 have hE:E=C:=by
  rcases Int.lt_or_le E C with h3|h3
  ·have:=eg (a:=pw (n+1)) (show E+1≤C by omega) (by omega)
   rw[Int.mul_add] at this
   omega
  ·rcases Int.lt_or_le C E with h4|h4
   ·have:=eg (a:=pw (n+1)) (show C+1≤E by omega) (by omega)
    rw[Int.mul_add] at this
    omega
   ·omega
 subst hE
 refine⟨by omega,by omega,?_⟩
 rcases Int.lt_or_le 0 F with h3|h3
 ·omega
 ·have:F=0:=by omega
  subst this;omega
theorem KK {us zs:List Int}{k m:Nat}(hk:k≤us.length) (hz:zs.length=m) (rest:List Int):((us.take k++zs++rest).drop k).take m=zs:=by
 rw[List.append_assoc,List.drop_append_of_le_length (by simp;omega),List.drop_eq_nil_of_le (by simp;omega),List.nil_append,List.take_append_of_le_length (by omega),List.take_of_length_le (by omega)]
theorem GH {us zs ys:List Int}{k m:Nat}(hk:k≤us.length) (hz:zs.length=m):
 (us.take k++zs++us.drop (k+m)).take k++ys++(us.take k++zs++us.drop (k+m)).drop (k+m)=us.take k++ys++us.drop (k+m):=by
 have h1:(us.take k).length=k:=by simp;omega
 congr 1
 ·congr 1
  rw[List.append_assoc,List.take_append_of_le_length (by omega),List.take_of_length_le (by omega)]
 ·rw[List.drop_append_of_le_length (by simp;omega),List.drop_eq_nil_of_le (by simp;omega),List.nil_append]
theorem Kd.fin {us qs V X Y:List Int}{S:Int}{N n:Nat}(h:Kd us qs V (val X*S) N n 0) (hV:val V=val Y*S) (hS:1≤S) (_hp:0<val V) (_hX:Lim X):val qs=val X/val Y∧val us/S=val X%val Y:=by
 have h1:=h.lt
 have h2:=h.eq
 simp only[List.drop_zero,oJ,Int.one_mul] at h1 h2
 have h0:=cK h.ul
 rw[hV] at h1 h2 _hp
 have hy:0<val Y:=by
  rcases Int.lt_or_le 0 (val Y) with h3|h3
  ·exact h3
  ·have:=pU (c:=S) h3 (by omega)
   omega
 have e1:=Int.emod_add_mul_ediv (val us) S
 have e2:=Int.emod_lt_of_pos (val us) (show 0<S by omega)
 have e3:=Int.emod_nonneg (val us) (show S≠0 by omega)
 have e4:(val us%S)=S*(val X-val Y*val qs-val us/S):=by grind
 have e5:val X-val Y*val qs-val us/S=0:=by
  generalize val X-val Y*val qs-val us/S=z at*
  rcases Int.lt_or_le 0 z with h3|h3
  ·have:=eg (a:=S) (show 1≤z by omega) (by omega)
   omega
  ·rcases Int.lt_or_le z 0 with h4|h4
   ·have:=eg (a:=S) (show z≤ -1 by omega) (by omega)
    omega
   ·omega
 have hr0:0≤val us/S:=Int.ediv_nonneg h0 (by omega)
 have hr1:val us/S<val Y:=Int.ediv_lt_of_lt_mul (by omega) h1
 generalize val us/S=r at*
 have e6:val X=r+val Y*val qs:=by omega
 rw[e6,Int.add_mul_ediv_left _ _ (by omega),Int.ediv_eq_zero_of_lt hr0 hr1,Int.add_mul_emod_self_left,Int.emod_eq_of_lt hr0 hr1]
 exact⟨by omega,rfl⟩
end Go.Proofs.YtkmdgigkbhmilaaGreat
namespace Go.Proofs.YtkmdgigkbhmilaaGreat
open Go.RowKit
theorem mF {P:Program}(w:World) (base:Nat) (t ty e:TypeId) (i:TypeInfo) (size c:Nat) (ht:P.underlying t=some (.slice e)) (hi:P.info? e=some i)
 (v:Value) (n:Nat) (xs:List Value) (hown:w.ownsRow base e size v n xs):
 (Builtin.append_ #[t,t] ty #[v,.slice none 0 c]).run P w=.ok v w:=by
 rcases hown.2 with⟨rfl,rfl⟩|⟨g,cap,cur,rfl,_,_,hnc,_⟩
 ·simp[Builtin.append_,run_underlying ht,sizeOf,typeInfo,hi,Builtin.lenOf,Builtin.firstCells]
 ·simp[Builtin.append_,run_underlying ht,sizeOf,typeInfo,hi,Builtin.lenOf,Builtin.firstCells,hnc,storeCells]
set_option maxRecDepth 10000 in
theorem BR {w:World}{ops:Array Oper}{rest:List Oper}{o:Oper}{a:Act}{Q:Exit→Act→World→Prop}(hgd:o.guard=none) (s x:Operand)
 (ho:o.op=.call {callee:=.builtin .append,args:= #[s,x],argTypes:= #[31,31]})
 (A:Option Addr) (n c:Nat) (xs:List Int) (hs:a.eval s=.slice none 0 0) (hx:a.eval x=.slice A n c) (ha:Sl w A n c xs) (hn:n≤10000000)
 (h: ∀v' w',Ow w' w.heap.size v' n xs→w.grownBy w' none→wpList Tryz.prog ops Q rest (a.put o.dst v') w'):wpList Tryz.prog ops Q (o::rest) a w:=by
 obtain⟨i0,hi0,hz0,hz1,hz2⟩:=info_parts kI
 have hla:=ha.len
 cases A with
 |none=>
  have h0:n=0:=by
   rcases Nat.eq_zero_or_pos n with h0|h0
   ·exact h0
   ·obtain⟨b,off,e,_⟩:=ha.1.2 h0;cases e
  subst h0
  obtain rfl:=List.length_eq_zero_iff.1 hla
  refine wpList_plain hgd fun K hK=>?_
  have hrun:=mF (P:=Tryz.prog) w w.heap.size 31 o.type 192 i0 1 c Tryz.underlying31 hi0 (.slice none 0 0) 0 [] (mV _ _ _ _)
  unfold Oper.wp
  simp[execOp,ho,resolve,invoke,builtin,hs,hx,hrun,Result.andThen]
  exact hK _ _ (h _ _ ⟨mV _ _ _ _,Lim.nil⟩ (World.grownBy.refl _ _))
 |some ad=>
  refine wpList_append_own w hgd s x 31 ho w.heap.size 192 i0 (.int .u32 0) 1 4 Tryz.underlying31 hi0 hz0 hz1 hz2 rfl (by decide) (.slice none 0 0) 0 [] hs (mV _ _ _ _) ad n c (xs.map (Value.int .u32)) hx (by simp[hla]) ?_ (by intro u hu;simp at hu;obtain⟨z,_,rfl⟩:=hu;simp[Value.oneCell']) (by unfold maxLen;omega) (by omega) (Nat.le_refl _) ?_
  ·intro j u hu
   have hj:0<n:=by
    rcases Nat.eq_zero_or_pos n with h0|h0
    ·subst h0
     obtain rfl:=List.length_eq_zero_iff.1 hla
     simp at hu
    ·exact h0
   obtain⟨b,off,e,hlt,hc⟩:=ha.1.2 hj
   injection e with e
   subst e
   have:=hc j u hu
   unfold Addr.add
   split
   ·rename_i h0;subst h0;exact this
   ·exact this
  ·intro v' w' hown hgr _
   refine h v' w' ⟨by simpa using hown,ha.2.2.2⟩ ?_
   simpa [Value.ownBlock] using hgr
theorem Ml {ys:List Int}{y:Int}(h:trm ys=[y]):val ys=y:=by
 rw[←gD,h];simp[val]
set_option maxHeartbeats 1000000 in
set_option maxRecDepth 10000 in
theorem Ee (A B:Option Addr) (n c m d:Nat) (xs ys:List Int) (w:World) (ha:Sl w A n c xs) (hb:Sl w B m d ys) (hn:n≤1000000) (h1:(trm ys).length=1):
 Calls Tryz.prog 267 #[.slice A n c,.slice B m d] w (u9 w (val xs/val ys) (val xs%val ys)):=by
 obtain⟨X,hX⟩: ∃X,trm xs=X:=⟨_,rfl⟩
 obtain⟨Y,hY⟩: ∃Y,trm ys=Y:=⟨_,rfl⟩
 obtain⟨k,hk⟩: ∃k,X.length=k:=⟨_,rfl⟩
 have ta:=ha.trm
 have tb:=hb.trm
 have nb:=oM ys
 have hva:=gD xs
 rw[hX] at ta hva
 have hkn:k≤n:=by have:=oH xs;rw[hX,hk,ha.len] at this;exact this
 rw[h1] at tb
 rw[hY] at tb h1 nb
 rw[hk] at ta
 obtain⟨b1,o1,y,e1,hb1,hy,hc1,hy0,hy1⟩:=tb.at_ (show 0<1 by omega)
 rw[Nat.add_zero] at hc1
 have hYy:Y=[y]:=by
  cases Y with
  |nil=>simp at h1
  |cons z zs=>
   simp at h1
   subst h1
   have:=hy.out
   simp at this
   rw[this]
 have hvy:val ys=y:=Ml (by rw[hY,hYy])
 have hyp:0<y:=by
  rw[hYy] at nb
  rcases Int.lt_or_le 0 y with h2|h2
  ·exact h2
  ·have:y=0:=by omega
   subst this
   cases nb
 subst e1
 rw[hvy,←hva]
 have HX:=Lib.hid hX
 have HY:=Lib.hid hY
 have Hk:=Lib.hid hk
 have Hl:=Lib.hid h1
 clear hX hY hk h1 hva nb hYy hvy
 go_enter Tryz.func267,Tryz.ntmps267
 go_wp2_with fail
 refine(jQ A n c k xs X w ha HX Hk).mono ?_
 rintro e w1 ⟨rfl,rfl⟩
 go_wp2_with fail
 refine(jQ _ m d 1 ys Y w hb HY Hl).mono ?_
 rintro e w1 ⟨rfl,rfl⟩
 go_wp2_with fail
 refine(wq A k c X y w ta (by omega) hyp hy1).mono ?_
 rintro e w' ⟨A1,n1,c1,zs,B1,m1,d1,rs,rfl,h2,h3,h4,h5,h6⟩
 go_wp2
 go_ret2
 exact⟨A1,n1,c1,zs,B1,m1,d1,rs,rfl,h2,h3,h4,h5,h6⟩
set_option maxHeartbeats 1000000 in
set_option maxRecDepth 10000 in
theorem CB (A B:Option Addr) (n c m d:Nat) (xs ys:List Int) (w:World) (ha:Sl w A n c xs) (hb:Sl w B m d ys) (hn:n≤1000000) (h1:(trm ys).length≠1) (hlt:val xs<val ys):
 Calls Tryz.prog 267 #[.slice A n c,.slice B m d] w (u9 w (val xs/val ys) (val xs%val ys)):=by
 obtain⟨X,hX⟩: ∃X,trm xs=X:=⟨_,rfl⟩
 obtain⟨Y,hY⟩: ∃Y,trm ys=Y:=⟨_,rfl⟩
 obtain⟨k,hk⟩: ∃k,X.length=k:=⟨_,rfl⟩
 obtain⟨l,hl⟩: ∃l,Y.length=l:=⟨_,rfl⟩
 have ta:=ha.trm
 have tb:=hb.trm
 have hva:=gD xs
 have hvb:=gD ys
 rw[hX] at ta hva
 rw[hY] at tb h1 hvb
 have hkn:k≤n:=by have:=oH xs;rw[hX,hk,ha.len] at this;exact this
 rw[hk] at ta
 rw[hl] at tb h1
 have hlb:l≤9223372036854775807:=by have:=tb.2.1;have:=tb.2.2.1;omega
 have hq:val xs/val ys=0:=Int.ediv_eq_zero_of_lt (cK ha.2.2.2) hlt
 have hr:val xs%val ys=val xs:=Int.emod_eq_of_lt (cK ha.2.2.2) hlt
 rw[hq,hr,←hva]
 have Hc:Hid (dS (val X) (val Y)= -1):=by show _=_;rw[hva,hvb];exact ew hlt
 have HX:=Lib.hid hX
 have HY:=Lib.hid hY
 have Hk:=Lib.hid hk
 have Hl:=Lib.hid hl
 have hne:((l:Int)==1)=false:=by simp;omega
 clear hX hY hk hl hva hvb hq hr hlt h1
 go_enter Tryz.func267,Tryz.ntmps267
 go_wp2_with fail
 refine(jQ A n c k xs X w ha HX Hk).mono ?_
 rintro e w1 ⟨rfl,rfl⟩
 go_wp2_with fail
 refine(jQ _ m d l ys Y w hb HY Hl).mono ?_
 rintro e w1 ⟨rfl,rfl⟩
 go_wp2_with fail
 refine(kG A B k c l d X Y w ta tb).mono ?_
 rintro e w1 ⟨rfl,hb1⟩
 rw[Hc.out]
 go_wp2_with (at_builtin;go_must (refine BR rfl _ _ rfl A k c X rfl rfl (ta.below hb1) (by omega) ?_);intro v' w2 hown hgr)
 obtain⟨A',c',rfl⟩:=hown.form
 go_ret2
 exact⟨none,0,0,[],A',k,c',X,rfl,⟨mV _ _ _ _,Lim.nil⟩,rfl,hown.le hb1.size,rfl,hb1.grown hgr hb1.size (by simp)⟩
end Go.Proofs.YtkmdgigkbhmilaaGreat
