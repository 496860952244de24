/-Plain arithmetic of numbers in limbs of base 10^9:what a list of limbs is worth;leading zeros;sizes. No condition. -/
import Derived.WalkKit
import Derived.Below
import Derived.Laws.OwnMore
import Derived.Deep.Draws
import Derived.WalkSmall
import Derived.Lib.Hide
import Derived.Test.YtegpmhlfjkhjmaaGreatProg
import Derived.WalkSpells
import Derived.WalkLawsBesides
import Derived.StillTactics
import Derived.Outline
import Derived.Deep.QuietTactic
import Derived.BigQuiet
import Derived.Deep.RegionHeld3
import Derived.Handy
import Derived.RegionTactic
import Derived.ChangeAlike
import Derived.BigRegion
import Derived.Laws.AppendOwnNone
namespace Go.Proofs.YtegpmhlfjkhjmaaGreat
variable {d x:Int}{xs ys zs:List Int}{i k m n:Nat}
theorem ck:type_of% @Nat.le_refl:=@Nat.le_refl
theorem d6:type_of% @List.length_append:=@List.length_append
theorem fJ:type_of% @Go.RowKit.Below.refl:=@Go.RowKit.Below.refl
theorem d8:type_of% @List.mem_cons:=@List.mem_cons
theorem fU:type_of% @Int.mul_nonneg:=@Int.mul_nonneg
theorem gE:type_of% @List.getElem?_eq_getElem:=@List.getElem?_eq_getElem
theorem gX:type_of% @List.length_take:=@List.length_take
theorem io:type_of% @List.mem_cons_self:=@List.mem_cons_self
theorem ix:type_of% @Go.Lib.hid:=@Go.Lib.hid
theorem iV:type_of% @Nat.zero_add:=@Nat.zero_add
theorem iW:type_of% @Nat.zero_le:=@Nat.zero_le
theorem jd:type_of% @List.mem_cons_of_mem:=@List.mem_cons_of_mem
theorem js:type_of% @Int.one_mul:=@Int.one_mul
theorem jY:type_of% @Nat.lt_or_ge:=@Nat.lt_or_ge
theorem kZ:type_of% @List.take_of_length_le:=@List.take_of_length_le
theorem li:type_of% @Nat.eq_zero_or_pos:=@Nat.eq_zero_or_pos
theorem lZ:type_of% @List.length_drop:=@List.length_drop
theorem m8:type_of% @Int.mul_le_mul_of_nonneg_left:=@Int.mul_le_mul_of_nonneg_left
theorem nj:type_of% @Int.lt_or_le:=@Int.lt_or_le
theorem m9:type_of% @List.append_nil:=@List.append_nil
theorem nJ:type_of% @List.length_eq_zero_iff:=@List.length_eq_zero_iff
theorem nI:type_of% @List.drop_eq_getElem_cons:=@List.drop_eq_getElem_cons
theorem nF:type_of% @Nat.le_trans:=@Nat.le_trans
theorem oO:type_of% @Nat.lt_of_lt_of_le:=@Nat.lt_of_lt_of_le
theorem oJ:type_of% @Int.emod_lt_of_pos:=@Int.emod_lt_of_pos
theorem o9:type_of% @Int.le_refl:=@Int.le_refl
theorem pj:type_of% @List.mem_append:=@List.mem_append
theorem pi:type_of% @Go.Proofs.Tryz.underlying34:=@Go.Proofs.Tryz.underlying34
theorem po:type_of% @Int.emod_nonneg:=@Int.emod_nonneg
theorem qh:type_of% @List.take_length:=@List.take_length
theorem qI:type_of% @List.drop_eq_nil_of_le:=@List.drop_eq_nil_of_le
theorem qw:type_of% @Int.le_of_lt:=@Int.le_of_lt
theorem rA:type_of% @Int.mul_comm:=@Int.mul_comm
theorem q5:type_of% @Nat.min_eq_left:=@Nat.min_eq_left
theorem qS:type_of% @Int.mul_le_mul:=@Int.mul_le_mul
theorem tF:type_of% @List.nil_append:=@List.nil_append
theorem wx:type_of% @List.append_assoc:=@List.append_assoc
theorem wC:type_of% @List.drop_zero:=@List.drop_zero
theorem r8:type_of% @List.getElem?_map:=@List.getElem?_map
theorem rT:type_of% @List.getElem?_eq_none:=@List.getElem?_eq_none
theorem rZ:type_of% @Nat.add_zero:=@Nat.add_zero
theorem uC:type_of% @Int.ediv_nonneg:=@Int.ediv_nonneg
theorem vv:type_of% @Int.mul_le_mul_of_nonneg_right:=@Int.mul_le_mul_of_nonneg_right
theorem wv:type_of% @List.getElem_mem:=@List.getElem_mem
theorem yJ:type_of% @Go.RowKit.Below.heap_alloc:=@Go.RowKit.Below.heap_alloc
theorem yc:type_of% @Int.emod_add_mul_ediv:=@Int.emod_add_mul_ediv
theorem A9:type_of% @List.length_cons:=@List.length_cons
theorem Cq:type_of% @List.take_append_drop:=@List.take_append_drop
theorem CJ:type_of% @List.take_append_of_le_length:=@List.take_append_of_le_length
theorem Dv:type_of% @List.drop_set_of_lt:=@List.drop_set_of_lt
theorem GU:type_of% @List.drop_append_of_le_length:=@List.drop_append_of_le_length
def val:List Int→Int
 |[]=>0
 |x::xs=>x+1000000000*val xs
def Lim (xs:List Int):Prop:= ∀x∈xs,0≤x∧x<1000000000
def pw (n:Nat):Int:=1000000000^n
theorem uJ:pw 0=1:=rfl
theorem dT (n:Nat):pw (n+1)=1000000000*pw n:=by unfold pw;rw[Int.pow_succ,rA]
theorem cU (n:Nat):1≤pw n:=by
 induction n with
 |zero=>exact o9 _
 |succ n ih=>rw[dT];omega
theorem qv (n m:Nat):pw (n+m)=pw n*pw m:=by unfold pw;exact Int.pow_add _ _ _
theorem mv (h:n≤m):pw n≤pw m:=by
 obtain⟨k,rfl⟩:=Nat.le.dest h
 rw[qv]
 have h1:=cU n
 have h2:=cU k
 have:=m8 h2 (show 0≤pw n by omega)
 omega
theorem Ql (h:pw n<pw m):n<m:=by
 rcases jY n m with h1|h1
 ·exact h1
 ·have:=mv h1;omega
theorem ed (x:Int) (xs:List Int):val (x::xs)=x+1000000000*val xs:=rfl
theorem qC (xs ys:List Int):val (xs++ys)=val xs+pw xs.length*val ys:=by
 induction xs with
 |nil=>simp[val,uJ]
 |cons x xs ih=>
  rw[List.cons_append,ed,ih,ed,A9,dT,Int.mul_add,Int.mul_assoc];omega
theorem qt (xs:List Int) (x:Int):val (xs++[x])=val xs+pw xs.length*x:=by
 rw[qC,ed];simp[val]
theorem Lim.nil:Lim []:=fun x h=>by cases h
theorem Lim.cons (h0:0≤x) (h1:x<1000000000) (h:Lim xs):Lim (x::xs):=by
 intro y hy
 rcases d8.1 hy with rfl|hy
 ·grind
 ·exact h y hy
theorem Lim.head (h:Lim (x::xs)):0≤x∧x<1000000000:=h x (io ..)
theorem Lim.tail (h:Lim (x::xs)):Lim xs:=fun y hy=>h y (jd _ hy)
theorem Lim.append (h:Lim xs) (k:Lim ys):Lim (xs++ys):=by
 intro y hy
 rcases pj.1 hy with hy|hy
 ·exact h y hy
 ·exact k y hy
theorem Lim.snoc (h:Lim xs) (h0:0≤x) (h1:x<1000000000):Lim (xs++[x]):=h.append (Lim.nil.cons h0 h1)
theorem Lim.take (h:Lim xs) (n:Nat):Lim (xs.take n):=fun y hy=>h y (List.mem_of_mem_take hy)
theorem Lim.drop (h:Lim xs) (n:Nat):Lim (xs.drop n):=fun y hy=>h y (List.mem_of_mem_drop hy)
theorem Lim.at_ (h:Lim xs) (hx:xs[i]? =some x):0≤x∧x<1000000000:=h x (List.mem_of_getElem? hx)
theorem Lim.zeros (n:Nat):Lim (List.replicate n 0):=fun x h=>by rw[(List.mem_replicate.1 h).2];omega
theorem AE (n:Nat):val (List.replicate n 0)=0:=by
 induction n with
 |zero=>rfl
 |succ n ih=>rw[List.replicate_succ,ed,ih];rfl
theorem cS (h:Lim xs):0≤val xs:=by
 induction xs with
 |nil=>exact o9 _
 |cons x xs ih=>
  have:=ih h.tail
  have:=h.head
  rw[ed];omega
theorem fR (h:Lim xs):val xs<pw xs.length:=by
 induction xs with
 |nil=>exact Int.one_pos
 |cons x xs ih=>
  have h1:=ih h.tail
  have h2:=h.head
  rw[ed,A9,dT];omega
theorem lE (xs:List Int) (n:Nat) (h:n≤xs.length):val xs=val (xs.take n)+pw n*val (xs.drop n):=by
 have e:=qC (xs.take n) (xs.drop n)
 rw[Cq,gX,q5 h] at e
 grind
def trm (xs:List Int):List Int:=(xs.reverse.dropWhile (· ==0)).reverse
theorem n9 (xs:List Int):trm (xs++[0])=trm xs:=by simp[trm]
theorem vL (xs:List Int) (x:Int) (h:x≠0):trm (xs++[x])=xs++[x]:=by simp[trm,h]
theorem Da {α:Type}(xs:List α):xs=[]∨ ∃ys y,xs=ys++[y]:=by
 rcases List.eq_nil_or_concat xs with h|⟨ys,y,h⟩
 ·grind
 grind
theorem Ls {p:List Int→Prop}(h0:p []) (h1: ∀xs,p xs→p (xs++[0])) (h2: ∀xs x,x≠0→p (xs++[x])): ∀xs,p xs:=by
 intro xs
 generalize hn:xs.length=n
 induction n generalizing xs with
 |zero=>rw[nJ.1 hn];exact h0
 |succ n ih=>
  rcases Da xs with rfl|⟨ys,y,rfl⟩
  ·grind
  grind
theorem zZ (xs:List Int): ∃n,n≤xs.length∧trm xs=xs.take n∧xs=xs.take n++List.replicate (xs.length-n) 0:=by
 refine Ls (p:=fun xs=> ∃n,n≤xs.length∧trm xs=xs.take n∧xs=xs.take n++List.replicate (xs.length-n) 0) ⟨0,ck _,rfl,rfl⟩ ?_ ?_ xs
 ·rintro xs ⟨n,hn,e,e2⟩
  refine⟨n,by simp;omega,by rw[n9,e,CJ hn],?_⟩
  rw[CJ hn,d6,show xs.length+[(0:Int)].length-n=(xs.length-n)+1 from by simp;omega,List.replicate_succ',←wx,←e2]
 ·intro xs x hx
  exact⟨(xs++[x]).length,ck _,by rw[vL _ _ hx,qh],by rw[Nat.sub_self,qh];simp⟩
theorem ja (xs:List Int):val (trm xs)=val xs:=by
 obtain⟨n,hn,e,e2⟩:=zZ xs
 rw[e]
 conv=>rhs;rw[e2]
 rw[qC,AE];simp
theorem uo (xs:List Int):(trm xs).length≤xs.length:=by
 obtain⟨n,hn,e,_⟩:=zZ xs
 rw[e,gX];omega
theorem Lim.trm (h:Lim xs):Lim (trm xs):=by
 obtain⟨n,hn,e,_⟩:=zZ xs
 rw[e];exact h.take n
def Nrm (xs:List Int):Prop:=trm xs=xs
theorem Nrm.nil:Nrm []:=rfl
theorem uz (xs:List Int):Nrm (trm xs):=by
 refine Ls (p:=fun xs=>Nrm (trm xs)) rfl ?_ ?_ xs
 ·intro xs h;rw[n9];exact h
 ·intro xs x hx;rw[vL _ _ hx];exact vL _ _ hx
theorem DB (xs:List Int) (x:Int) (hx:x≠0):Nrm (xs++[x]):=vL xs x hx
theorem Nrm.last (h:Nrm xs) (hn:xs≠ []): ∃ys y,xs=ys++[y]∧y≠0:=by
 rcases Da xs with e|⟨ys,y,e⟩
 ·grind
 ·refine⟨ys,y,e,fun hy=>?_⟩
  subst hy
  have h1:trm (ys++[0])=ys++[0]:=by rw[←e];exact h
  rw[n9] at h1
  have h2:=uo ys
  grind
theorem Nrm.ge (h:Nrm xs) (hl:Lim xs) (hn:xs≠ []):pw (xs.length-1)≤val xs:=by
 obtain⟨ys,y,rfl,hy⟩:=h.last hn
 have h1:=hl y (by simp)
 have h2:=cS (fun z hz=>hl z (by simp[hz]):Lim ys)
 have h3:=cU ys.length
 rw[qt,show(ys++[y]).length-1=ys.length from by simp]
 have:=m8 (show 1≤y by omega) (show 0≤pw ys.length by omega)
 omega
theorem Mu: ∀ {xs ys:List Int},Lim xs→Lim ys→xs.length=ys.length→val xs=val ys→xs=ys
 |[],[],_,_,_,_=>rfl
 |[],y::ys,_,_,h,_=>by simp at h
 |x::xs,[],_,_,h,_=>by simp at h
 |x::xs,y::ys,hx,hy,hl,hv=>by
  rw[ed,ed] at hv
  have h1:=hx.head
  have h2:=hy.head
  have e1:x=y:=by omega
  have e2:val xs=val ys:=by omega
  rw[e1,Mu hx.tail hy.tail (by simpa using hl) e2]
theorem Nrm.len (h:Nrm xs) (hl:Lim xs) (hv:val xs<pw k):xs.length≤k:=by
 rcases Classical.em (xs=[]) with h1|h1
 ·grind
 ·have h2:=h.ge hl h1
  have h3:=Ql (show pw (xs.length-1)<pw k by omega)
  grind
theorem Nrm.inj (hx:Nrm xs) (hy:Nrm ys) (lx:Lim xs) (ly:Lim ys) (h:val xs=val ys):xs=ys:=by
 have h1:=hx.len lx (k:=ys.length) (by rw[h];exact fR ly)
 have h2:=hy.len ly (k:=xs.length) (by rw[←h];exact fR lx)
 exact Mu lx ly (by omega) h
def fk (a b:Int):Int:=if a<b then-1 else if b<a then 1 else 0
theorem BO (hy:Nrm ys) (lx:Lim xs) (ly:Lim ys) (h:xs.length<ys.length):val xs<val ys:=by
 have h1:=fR lx
 have h2:=hy.ge ly (fun e=>by subst e;simp at h)
 have h3:=mv (show xs.length≤ys.length-1 by omega)
 omega
theorem G5 (lx:Lim xs) (ly:Lim ys) {y:Int}(hx:xs[i]? =some x) (hy:ys[i]? =some y) (hd:xs.drop (i+1)=ys.drop (i+1)) (h:x<y):val xs<val ys:=by
 have hix:i<xs.length:=by grind
 have hiy:i<ys.length:=by grind
 have e1:=lE xs i (by omega)
 have e2:=lE ys i (by omega)
 have d1:xs.drop i=x::xs.drop (i+1):=by
  rw[nI hix];congr;rw[gE hix] at hx;simpa using hx
 have d2:ys.drop i=y::ys.drop (i+1):=by
  rw[nI hiy];congr;rw[gE hiy] at hy;simpa using hy
 rw[d1,ed] at e1
 rw[d2,ed,←hd] at e2
 have h1:=fR (lx.take i)
 have h2:=cS (ly.take i)
 rw[gX,q5 (by omega)] at h1
 have h3:=cU i
 have h4:pw i*(x+1000000000*val (xs.drop (i+1)))+pw i≤pw i*(y+1000000000*val (xs.drop (i+1))):=by
  have:=m8 (show x+1000000000*val (xs.drop (i+1))+1≤y+1000000000*val (xs.drop (i+1)) by omega) (show 0≤pw i by omega)
  grind
 omega
theorem bm (h:xs[k]? =some x):val (xs.take (k+1))=val (xs.take k)+pw k*x:=by
 have hk:k<xs.length:=by grind
 rw[List.take_add_one,h]
 show val (xs.take k++[x])=_
 rw[qt,gX,q5 (by omega)]
theorem f9 (h:xs.length≤k):val (xs.take (k+1))=val (xs.take k):=by
 rw[kZ (by omega),kZ h]
theorem de (h:xs.length≤k):val (xs.take k)=val xs:=by
 rw[kZ h]
theorem nD {c S t c':Int}(hl:zs.length=k) (h:val zs+pw k*c=S) (hd:d+1000000000*c'=c+t):val (zs++[d])+pw (k+1)*c'=S+pw k*t:=by
 rw[qt,hl,dT,←h]
 grind
theorem Cl {o:Int}(h:zs[k]? =some o):val (zs.set k d)=val zs+pw k*(d-o):=by
 induction zs generalizing k with
 |nil=>simp at h
 |cons z zs ih=>
  cases k with
  |zero=>
   simp at h
   rw[List.set_cons_zero,ed,ed,uJ];omega
  |succ k=>
   rw[List.set_cons_succ,ed,ed,ih h,dT]
   grind
theorem Lim.set (h:Lim zs) (h0:0≤d) (h1:d<1000000000):Lim (zs.set k d):=by
 intro y hy
 rcases List.mem_or_eq_of_mem_set hy with hy|rfl
 ·exact h y hy
 grind
theorem nk (h:zs.length=k):(zs++List.replicate (m+1) 0).set k d=(zs++[d])++List.replicate m 0:=by
 subst h
 grind
theorem X7 (h:zs.length=k):(zs++List.replicate (m+1) 0)[k]? =some 0:=by grind
def Zr (zs:List Int) (k:Nat):Prop:= ∀j z,k≤j→zs[j]? =some z→z=0
theorem Zr.zeros (n k:Nat):Zr (List.replicate n 0) k:=fun j z _ h=>by
 have:=List.mem_of_getElem? h
 exact(List.mem_replicate.1 this).2
theorem Zr.set (h:Zr zs k) (hi:i<k):Zr (zs.set i d) k:=fun j z hj hz=>by
 rw[List.getElem?_set_ne (by omega)] at hz
 exact h j z hj hz
theorem Zr.set_at (h:Zr zs k):Zr (zs.set k d) (k+1):=fun j z hj hz=>by
 rw[List.getElem?_set_ne (by omega)] at hz
 exact h j z (by omega) hz
theorem pu (h:zs.length=n) (hk:k<n): ∃x,zs[k]? =some x:=by simp_all
end Go.Proofs.YtegpmhlfjkhjmaaGreat
namespace Go.Proofs.YtegpmhlfjkhjmaaGreat
open Go.RowKit
variable {C a b o u x y:Int}{os us xs ys zs:List Int}{B base c i k n sz:Nat}{A:Option Addr}{row:Option Nat}{e:TypeId}{v:Value}{w w' wr:World}
theorem Below.drewN' {a:World}(h:Below B a w) (n:Nat):Below B a (w.drewN n):=⟨h.os,h.tape,h.output,h.size,h.block⟩
def Rd (w:World) (sz:Nat) (A:Option Addr) (n:Nat) (xs:List Value):Prop:=
 xs.length=n*sz∧(0<n→ ∃b off,A=some ⟨b,off,none⟩∧b<w.heap.size∧ ∀j u,xs[j]? =some u→w.cell? ⟨b,off+j,none⟩=some u)
section
variable {w w':World}{sz n:Nat}{A:Option Addr}{xs:List Value}
theorem Rd.nil:Rd w sz A 0 []:=⟨by simp,fun h=>absurd h (by omega)⟩
theorem Rd.below (h:Rd w sz A n xs) (hb:Below w.heap.size w w'):Rd w' sz A n xs:=
 ⟨h.1,fun hn=>by
  obtain⟨b,off,e,hlt,hc⟩:=h.2 hn
  exact⟨b,off,e,oO hlt hb.size,fun j u hu=>(hb.cell (p:=⟨b,off+j,none⟩) hlt).trans (hc j u hu)⟩⟩
theorem Rd.own (h:w.ownsRow base e sz (.slice A n c) n xs):Rd w sz A n xs:=by
 refine⟨h.1,fun hn=>?_⟩
 rcases h.2 with⟨_,h0⟩|⟨g,cap,cur,hv,_,hg,hnc,_,hcs,htake⟩
 ·omega
 ·have hA:A=some ⟨g,0,none⟩:=by injection hv
  subst hA
  have hlt:g<w.heap.size:=by grind
  refine⟨g,0,rfl,hlt,fun j u hu=>?_⟩
  rw[iV,cell_of_row w g j cur e (0,0) hg]
  grind
theorem Rd.at_ (h:Rd w 1 A n xs) (hk:k<n): ∃b off u,A=some ⟨b,off,none⟩∧b<w.heap.size∧xs[k]? =some u∧w.cell? ⟨b,off+k,none⟩=some u:=by
 obtain⟨b,off,e,hlt,hc⟩:=h.2 (by omega)
 have hl:k<xs.length:=by have:=h.1;omega
 exact⟨b,off,xs[k],e,hlt,gE hl,hc k _ (gE hl)⟩
end
theorem KM {xs:List Value}(h:w.ownsRow base e sz v n xs): ∀g,v.ownBlock=some g→base≤g:=by
 intro g hg
 rcases h.2 with⟨rfl,_⟩|⟨g',cap,cur,rfl,hb,_⟩
 ·simp[Value.ownBlock] at hg
 ·simp[Value.ownBlock] at hg;omega
theorem AP {xs:List Value}(h:w.ownsRow base e sz v n xs) (hb:Below w.heap.size w wr):wr.ownsRow base e sz v n xs:=by
 refine⟨h.1,?_⟩
 rcases h.2 with h0|⟨g,cap,cur,hv,hg,hh,r⟩
 ·grind
 ·have hlt:g<w.heap.size:=by
   rcases jY g w.heap.size with h1|h1
   ·grind
   grind
  exact .inr ⟨g,cap,cur,hv,hg,(hb.block g hlt).trans hh,r⟩
theorem jy {w1:World}{xs:List Value}{o:Obj}(h:wr.ownsRow base e sz v n xs) (hb:Below base w wr) (hz:base≤wr.heap.size)
 (hg:(wr.alloc o).grownBy w1 v.ownBlock):Below base w w1:=
 (hb.alloc hz o).grown hg (by simp;omega) (KM h)
theorem ra (w:World) (base sz:Nat) (e:TypeId):w.ownsRow base e sz (.slice none 0 0) 0 []:=⟨by simp,.inl ⟨rfl,rfl⟩⟩
theorem NU (hb:Below w.heap.size w w') {a:Addr}(hc:w.cell? a=some v):w'.cell? a=some v:=(hb.cell (World.block_lt_of_cell? w a hc)).trans hc
def Bk (w:World) (g:Nat) (t:TypeId) (cs:Array Value):Prop:=w.heap[g]? =some (.cells cs t (0,0))
section
variable {w w':World}{g:Nat}{t:TypeId}{cs:Array Value}
theorem Bk.lt (h:Bk w g t cs):g<w.heap.size:=by
 rcases jY g w.heap.size with h1|h1
 ·grind
 ·unfold Bk at h;rw[Array.getElem?_eq_none h1] at h;cases h
theorem Bk.cell (h:Bk w g t cs) (i:Nat):w.cell? ⟨g,i,none⟩=cs[i]? :=cell_of_row w g i cs t (0,0) h
theorem Bk.frozen (h:Bk w g t cs) (i:Nat):w.frozen? ⟨g,i,none⟩=false:=by unfold Bk at h;simp[World.frozen?,h]
theorem Bk.new (w:World) (t:TypeId) (cs:Array Value):Bk (w.alloc (.cells cs t)) w.heap.size t cs:=heap_alloc_new w _
theorem Bk.alloc (h:Bk w g t cs) (o:Obj):Bk (w.alloc o) g t cs:=(yJ w o g h.lt).trans h
theorem Bk.below (h:Bk w g t cs) (hb:Below w.heap.size w w'):Bk w' g t cs:=(hb.block g h.lt).trans h
theorem Bk.grown (h:Bk w g t cs) (hb:w.grownBy w' row) (hg:some g≠row):Bk w' g t cs:=(hb.block g h.lt hg).trans h
end
def RdI (k:IntKind) (w:World) (A:Option Addr) (n:Nat) (xs:List Int):Prop:=Rd w 1 A n (xs.map (Value.int k))
section
variable {k:IntKind}{w w':World}{n:Nat}{A:Option Addr}{xs:List Int}
theorem RdI.len (h:RdI k w A n xs):xs.length=n:=by have:=h.1;simpa using this
theorem RdI.below (h:RdI k w A n xs) (hb:Below w.heap.size w w'):RdI k w' A n xs:=Rd.below h hb
theorem RdI.at_ (h:RdI k w A n xs) (hi:i<n): ∃b off x,A=some ⟨b,off,none⟩∧b<w.heap.size∧Hid (xs[i]? =some x)∧w.cell? ⟨b,off+i,none⟩=some (.int k x):=by
 obtain⟨b,off,u,e,hlt,hx,hc⟩:=Rd.at_ h hi
 rw[r8] at hx
 cases hq:xs[i]? with
 |none=>rw[hq] at hx;cases hx
 |some q=>rw[hq] at hx;simp at hx;exact⟨b,off,q,e,hlt,rfl,by rw[hc,hx]⟩
theorem RdI.lit (w:World) (t:TypeId) (k:IntKind) (xs:List Int) (cs:Array Value) (b n:Nat) (hb:w.heap.size=b) (hcs:cs=(xs.map (Value.int k)).toArray) (hn:xs.length=n):RdI k (w.alloc (.cells cs t)) (some ⟨b,0,none⟩) n xs:=by
 subst hb hcs hn
 refine⟨by simp,fun _=>⟨w.heap.size,0,rfl,by simp,fun j u hu=>?_⟩⟩
 rw[iV,(Bk.new w t _).cell j]
 grind
theorem DX {w:World}{n:Nat}{xs:List Value}(h:w.ownsRow base e sz v n xs): ∃A c,v=.slice A n c:=by
 rcases h.2 with⟨rfl,rfl⟩|⟨g,cap,cur,rfl,_⟩
 ·grind
 grind
theorem yZ {α:Type}{xs:List α}{k:Nat}{x:α}(h:xs[k]? =some x):xs.take (k+1)=xs.take k++[x]:=by
 rw[List.take_add_one,h];rfl
end
def Sl (w:World) (A:Option Addr) (n c:Nat) (xs:List Int):Prop:=RdI .u32 w A n xs∧n≤c∧c≤9223372036854775807∧Lim xs
section
variable {w w':World}{A:Option Addr}{n c:Nat}{xs:List Int}
theorem Sl.below (h:Sl w A n c xs) (hb:Below w.heap.size w w'):Sl w' A n c xs:=⟨h.1.below hb,h.2.1,h.2.2.1,h.2.2.2⟩
theorem Sl.len (h:Sl w A n c xs):xs.length=n:=h.1.len
theorem Sl.take (h:Sl w A n c xs) (k c':Nat) (hk:k≤n) (hc:k≤c') (hm:c'≤9223372036854775807):Sl w A k c' (xs.take k):=by
 refine⟨⟨by have:=h.len;simp;omega,fun h0=>?_⟩,hc,hm,h.2.2.2.take k⟩
 obtain⟨b,off,e,hlt,hcell⟩:=h.1.2 (by omega)
 grind
theorem Sl.at_ (h:Sl w A n c xs) (hi:i<n): ∃b off x,A=some ⟨b,off,none⟩∧b<w.heap.size∧Hid (xs[i]? =some x)∧w.cell? ⟨b,off+i,none⟩=some (.int .u32 x)∧0≤x∧x<1000000000:=by
 obtain⟨b,off,x,e,hlt,hx,hc⟩:=h.1.at_ hi
 exact⟨b,off,x,e,hlt,hx,hc,(h.2.2.2.at_ hx.out).1,(h.2.2.2.at_ hx.out).2⟩
end
theorem sE (h:xs[k]? =some x) (hx:x=0):trm (xs.take (k+1))=trm (xs.take k):=by
 rw[yZ h,hx,n9]
theorem rM (h:xs[k]? =some x) (hx:x≠0):trm (xs.take (k+1))=xs.take (k+1):=by
 rw[yZ h,vL _ _ hx]
theorem Id (h:xs.length=n):trm (xs.take n)=trm xs:=by rw[kZ (by omega)]
set_option maxHeartbeats 400000 in
theorem kh (neg:Bool) (A:Option Addr) (n c:Nat) (xs:List Int) (w:World) (h:Sl w A n c xs):
 Calls Tryz.prog 277 #[.bool neg,.slice A n c] w fun e w'=>e=.returned (.agg #[.bool (neg&&decide (0<(trm xs).length)),.slice A (trm xs).length (trm xs).length])∧Below w.heap.size w w':=by
 have hlen:=h.len
 obtain⟨_,hnc,hcm,_⟩:=id h
 cases neg
 all_goals
  go_enter Tryz.func277,Tryz.ntmps277
  go_wp2
  go_loopw [5] (fun i wr=> ∃k:Nat,k≤n∧i=.int .i64 k∧Hid (trm (xs.take k)=trm xs)∧wr=w.alloc (.cells #[.bool false,.slice none 0 0] 36)) (fun i _=>(intOf i).toNat)
  case atStart=>exact⟨n,ck _,rfl,Id hlen,rfl⟩
  case round=>
   obtain⟨k,hk,rfl,H,rfl⟩:=hrel
   rcases li k with h0|h0
   ·subst h0
    have Hm:Hid ((trm xs).length=0):=by show _=_;rw[←H.out];rfl
    go_wp2
    go_returns
    exact⟨by rw[Hm.out];rfl,(fJ _ _).alloc (ck _) _⟩
   ·obtain⟨k,rfl⟩: ∃j,k=j+1:=⟨k-1,by omega⟩
    obtain⟨b,off,x,rfl,hb,hx,hc,hx0,hx1⟩:=(h.below ((fJ _ _).alloc (ck _) (.cells #[.bool false,.slice none 0 0] 36))).at_ (show k<n by omega)
    by_cases hxz:x=0
    ·have Hs:Hid (trm (xs.take k)=trm xs):=by show _=_;rw[←sE hx.out hxz];exact H.out
     have hxb:(x==0)=true:=by simpa using hxz
     clear hxz H
     go_wp2
     go_roundw
     case rel=>exact⟨k,by omega,by go_num,Hs,by first|trivial|rfl⟩
     case measure=>simp[intOf]<;>omega
    ·have Hs:Hid ((trm xs).length=k+1):=by show _=_;rw[←H.out,rM hx.out hxz,gX];omega
     have hxb:(x==0)=false:=by simpa using hxz
     clear hxz H
     go_wp2
     go_returns
     exact⟨by rw[Hs.out];simp,(fJ _ _).alloc (ck _) _⟩
set_option maxHeartbeats 400000 in
theorem Rq (A:Option Addr) (n c:Nat) (xs:List Int) (w:World) (h:Sl w A n c xs):
 Calls Tryz.prog 343 #[.slice A n c] w fun e w'=>e=.returned (.slice A (trm xs).length c)∧w=w':=by
 have hlen:=h.len
 obtain⟨_,hnc,hcm,_⟩:=id h
 go_enter Tryz.func343,Tryz.ntmps343
 go_wp2
 go_loop [0] (fun v=> ∃k:Nat,k≤n∧v=.slice A k c∧Hid (trm (xs.take k)=trm xs)) (fun v=>match v with| .slice _ k _=>k|_=>0)
 case atStart=>exact⟨n,ck _,rfl,Id hlen⟩
 case round=>
  obtain⟨k,hk,rfl,H⟩:=hrel
  rcases li k with h0|h0
  ·subst h0
   have Hm:Hid ((trm xs).length=0):=by show _=_;rw[←H.out];rfl
   go_wp2
   go_ret
   exact⟨by rw[Hm.out];rfl,rfl⟩
  ·obtain⟨k,rfl⟩: ∃j,k=j+1:=⟨k-1,by omega⟩
   obtain⟨b,off,x,rfl,hb,hx,hc,hx0,hx1⟩:=h.at_ (show k<n by omega)
   by_cases hxz:x=0
   ·have Hs:Hid (trm (xs.take k)=trm xs):=by show _=_;rw[←sE hx.out hxz];exact H.out
    have hxb:(x==0)=true:=by simpa using hxz
    clear hxz H
    go_wp2
    go_round
    case rel=>exact⟨k,by omega,by first|rfl|go_num,Hs⟩
    case measure=>simp<;>omega
   ·have Hs:Hid ((trm xs).length=k+1):=by show _=_;rw[←H.out,rM hx.out hxz,gX];omega
    have hxb:(x==0)=false:=by simpa using hxz
    clear hxz H
    go_wp2
    go_ret
    exact⟨by rw[Hs.out];rfl,rfl⟩
theorem Sl.trm (h:Sl w A n c xs):Sl w A (trm xs).length c (trm xs):=by
 obtain⟨k,hk,e,_⟩:=zZ xs
 have hl:=h.len
 have e2:(Go.Proofs.YtegpmhlfjkhjmaaGreat.trm xs).length=k:=by rw[e,gX];omega
 rw[e2,e]
 exact h.take k c (by omega) (by have:=h.2.1;omega) h.2.2.1
theorem mm (h:a=b):fk a b=0:=by unfold fk;rw[if_neg (by omega),if_neg (by omega)]
theorem fK (h:a<b):fk a b= -1:=by unfold fk;rw[if_pos h]
theorem fQ (h:b<a):fk a b=1:=by unfold fk;rw[if_neg (by omega),if_pos h]
theorem ns (A:Option Addr) (n c k:Nat) (xs X:List Int) (w:World) (h:Sl w A n c xs) (hX:Hid (trm xs=X)) (hk:Hid (X.length=k)):
 Calls Tryz.prog 343 #[.slice A n c] w fun e w'=>e=.returned (.slice A k c)∧w=w':=by
 rw[←hk.out,←hX.out];exact Rq A n c xs w h
set_option maxHeartbeats 1000000 in
theorem oI (A B:Option Addr) (n c m d:Nat) (xs ys:List Int) (w:World) (ha:Sl w A n c xs) (hb:Sl w B m d ys):
 Calls Tryz.prog 280 #[.slice A n c,.slice B m d] w fun e w'=>e=.returned (.int .i64 (fk (val xs) (val ys)))∧Below w.heap.size w w':=by
 obtain⟨X,hX⟩: ∃X,trm xs=X:=⟨_,rfl⟩
 obtain⟨Y,hY⟩: ∃Y,trm ys=Y:=⟨_,rfl⟩
 obtain⟨k,hk⟩: ∃k,X.length=k:=⟨_,rfl⟩
 obtain⟨l,hl⟩: ∃l,Y.length=l:=⟨_,rfl⟩
 have ta:=ha.trm
 have tb:=hb.trm
 have na:=uz xs
 have nb:=uz ys
 have hva:=ja xs
 have hvb:=ja ys
 rw[hX] at ta na hva
 rw[hY] at tb nb hvb
 rw[hk] at ta
 rw[hl] at tb
 have hkb:k≤9223372036854775807:=by have:=ta.2.1;have:=ta.2.2.1;omega
 have hlb:l≤9223372036854775807:=by have:=tb.2.1;have:=tb.2.2.1;omega
 rw[←hva,←hvb]
 have HX:=ix hX
 have HY:=ix hY
 have Hk:=ix hk
 have Hl:=ix hl
 clear hva hvb hX hY hk hl
 by_cases hkl:k=l
 ·subst hkl
  go_enter Tryz.func280,Tryz.ntmps280
  go_wp2_with fail
  refine(ns A n c k xs X w ha HX Hk).mono ?_
  rintro e w1 ⟨rfl,rfl⟩
  go_wp2_with fail
  refine(ns B m d k ys Y w hb HY Hl).mono ?_
  rintro e w1 ⟨rfl,rfl⟩
  go_wp2
  go_loopw [5] (fun i wr=> ∃j:Nat,j≤k∧i=.int .i64 ((j:Int)-1)∧Hid (X.drop j=Y.drop j)∧Below w.heap.size w wr) (fun i _=>(intOf i+1).toNat)
  case atStart=>exact⟨k,ck _,rfl,by show _=_;rw[qI (by rw[Hk.out];omega),qI (by rw[Hl.out];omega)],fJ _ _⟩
  case round=>
   obtain⟨j,hj,rfl,H,hbel⟩:=hrel
   rcases li j with h0|h0
   ·subst h0
    have Hc:Hid (fk (val X) (val Y)=0):=by
     show _=_
     have h:=H.out
     simp only[wC] at h
     rw[h];exact mm rfl
    go_wp2
    go_ret
    exact⟨by rw[Hc.out];rfl,hbel⟩
   ·obtain⟨j,rfl⟩: ∃i,j=i+1:=⟨j-1,by omega⟩
    obtain⟨b1,o1,x,rfl,hb1,hx,hc1,hx0,hx1⟩:=(ta.below hbel).at_ (show j<k by omega)
    obtain⟨b2,o2,y,rfl,hb2,hy,hc2,hy0,hy1⟩:=(tb.below hbel).at_ (show j<k by omega)
    have ej:((j+1:Nat):Int)-1=(j:Int):=by omega
    rw[ej]
    clear ej
    by_cases hlt:x<y
    ·have Hc:Hid (fk (val X) (val Y)= -1):=fK (G5 ta.2.2.2 tb.2.2.2 hx.out hy.out H.out hlt)
     go_wp2_with fail
     go_quiet (fail)
     go_wp2
     go_ret
     exact⟨by rw[Hc.out];rfl,Below.drewN' hbel _⟩
    ·by_cases hgt:y<x
     ·have Hc:Hid (fk (val X) (val Y)=1):=fQ (G5 tb.2.2.2 ta.2.2.2 hy.out hx.out H.out.symm hgt)
      go_wp2_with fail
      go_quiet (fail)
      go_wp2_with fail
      go_quiet (fail)
      go_wp2
      go_ret
      exact⟨by rw[Hc.out];rfl,Below.drewN' (Below.drewN' hbel _) _⟩
     ·have Hd:Hid (X.drop j=Y.drop j):=by
       show _=_
       have hjx:j<X.length:=by rw[Hk.out];omega
       have hjy:j<Y.length:=by rw[Hl.out];omega
       rw[nI hjx,nI hjy,H.out]
       have e1:=hx.out
       have e2:=hy.out
       rw[gE hjx] at e1
       rw[gE hjy] at e2
       simp at e1 e2
       rw[e1,e2,show x=y from by omega]
      go_wp2_with fail
      go_quiet (fail)
      go_wp2_with fail
      go_quiet (fail)
      go_wp2
      go_roundw
      case rel=>exact⟨j,by omega,by first|rfl|go_num,Hd,Below.drewN' hbel _⟩
      case measure=>simp[intOf]<;>omega
 ·have hne:((k:Int) !=(l:Int))=true:=by simp;omega
  by_cases hlt:k<l
  ·have Hc:Hid (fk (val X) (val Y)= -1):=fK (BO nb ta.2.2.2 tb.2.2.2 (by rw[Hk.out,Hl.out];exact hlt))
   go_enter Tryz.func280,Tryz.ntmps280
   go_wp2_with fail
   refine(ns A n c k xs X w ha HX Hk).mono ?_
   rintro e w1 ⟨rfl,rfl⟩
   go_wp2_with fail
   refine(ns B m d l ys Y w hb HY Hl).mono ?_
   rintro e w1 ⟨rfl,rfl⟩
   go_wp2
   go_ret
   exact⟨by rw[Hc.out];rfl,fJ _ _⟩
  ·have Hc:Hid (fk (val X) (val Y)=1):=fQ (BO na tb.2.2.2 ta.2.2.2 (by rw[Hk.out,Hl.out];omega))
   go_enter Tryz.func280,Tryz.ntmps280
   go_wp2_with fail
   refine(ns A n c k xs X w ha HX Hk).mono ?_
   rintro e w1 ⟨rfl,rfl⟩
   go_wp2_with fail
   refine(ns B m d l ys Y w hb HY Hl).mono ?_
   rintro e w1 ⟨rfl,rfl⟩
   go_wp2
   go_ret
   exact⟨by rw[Hc.out];rfl,fJ _ _⟩
theorem oH:(Tryz.prog.info? 194).map (fun i=>(i.zero,i.size,i.bytes))=some (some (.int .u32 0),1,4):=by kernel_rfl
def Ow (w:World) (base:Nat) (v:Value) (n:Nat) (xs:List Int):Prop:=w.ownsRow base 194 1 v n (xs.map (Value.int .u32))∧Lim xs
section
variable {w w':World}{base n c:Nat}{A:Option Addr}{v:Value}{xs:List Int}
theorem Ow.len (h:Ow w base v n xs):xs.length=n:=by have:=h.1.1;simpa using this
theorem Ow.form (h:Ow w base v n xs): ∃A c,v=.slice A n c:=DX h.1
theorem Ow.sl (h:Ow w base (.slice A n c) n xs):Sl w A n c xs:=by
 refine⟨Rd.own h.1,?_,?_,h.2⟩
 ·rcases h.1.2 with⟨h0,h1⟩|⟨g,cap,cur,h0,_,_,h1,_⟩
  ·injection h0 with _ h2 h3;omega
  ·injection h0 with _ h2 h3;omega
 ·rcases h.1.2 with⟨h0,h1⟩|⟨g,cap,cur,h0,_,_,h1,h2,_⟩
  ·injection h0 with _ h2 h3;omega
  ·injection h0 with _ h3 h4;simp[maxLen] at h2;omega
theorem Ow.le {b:Nat}(h:Ow w base v n xs) (hb:b≤base):Ow w b v n xs:=by
 refine⟨⟨h.1.1,?_⟩,h.2⟩
 rcases h.1.2 with h0|⟨g,cap,cur,h0,hg,r⟩
 ·exact .inl h0
 ·exact .inr ⟨g,cap,cur,h0,by omega,r⟩
end
def Et (w:World) (n:Nat) (x:Int) (e:Ending) (w':World):Prop:= ∃A c zs,e=.returned (.slice A n c)∧Ow w' w.heap.size (.slice A n c) n zs∧val zs=x∧Below w.heap.size w w'
theorem A5 (u:Int) (w:World) (h0:0≤u) (h1:u≤18446744073709551615) (_h2:u<1000000000000000000000000000):
 Calls Tryz.prog 278 #[.int .u64 u] w (Et w 3 u):=by
 go_enter Tryz.func278,Tryz.ntmps278
 go_wp2
 go_ret
 refine⟨_,_,[u%1000000000,u/1000000000%1000000000,u/1000000000/1000000000],rfl,⟨World.ownsRow_lit w #[.int .u32 (u%1000000000),.int .u32 (u/1000000000%1000000000),.int .u32 (u/1000000000/1000000000)] 3 (ck _) (by unfold maxLen;omega) rfl,?_⟩,?_,(fJ _ _).alloc (ck _) _⟩
 ·exact((Lim.nil.cons (by omega) (by omega)).cons (by omega) (by omega)).cons (by omega) (by omega)
 ·simp only[val];omega
set_option maxHeartbeats 1000000 in
set_option maxRecDepth 10000 in
theorem EE (A B:Option Addr) (n c m d:Nat) (xs ys:List Int) (w:World) (ha:Sl w A n c xs) (hb:Sl w B m d ys) (hn:n≤100000000) (hmn:m≤n):
 Calls Tryz.prog 345 #[.slice A n c,.slice B m d] w (Et w (n+1) (val xs+val ys))∧
 (m<n→Calls Tryz.prog 345 #[.slice B m d,.slice A n c] w (Et w (n+1) (val xs+val ys))):=by
 have hla:=ha.len
 have hlb:=hb.len
 obtain⟨i0,hi0,hz0,hz1,hz2⟩:=info_parts oH
 refine⟨?_,fun hlt=>?_⟩
 all_goals
  go_enter Tryz.func345,Tryz.ntmps345
  go_wp2_with (at_make;go_must (refine wpList_make_own _ rfl _ _ 34 rfl w.heap.size 194 i0 (.int .u32 0) 1 pi hi0 hz0 hz1 _ _ _ (n+1) rfl rfl (by omega) (by rw[hz2];omega) (by unfold maxLen;omega) (ck _) ?_);intro w1 hown1 hgrow1)
  go_loopw [22,5,6] (fun i v cy wr=> ∃(k:Nat) (C:Int) (zs:List Int),k≤n∧i=.int .i64 k∧cy=.int .u32 C∧0≤C∧C≤1∧wr.ownsRow w.heap.size 194 1 v k (zs.map (Value.int .u32))∧Below w.heap.size w wr∧Hid (Lim zs∧zs.length=k∧val zs+pw k*C=val (xs.take k)+val (ys.take k)))
   (fun i _ _ _=>n-(intOf i).toNat)
  case atStart=>exact⟨0,0,[],iW _,rfl,rfl,by omega,by omega,hown1,(fJ _ _).grown hgrow1 (ck _) (by simp),Lim.nil,rfl,by simp[val]⟩
  case round=>
   clear hown1 hgrow1
   obtain⟨k,C,zs,hk,rfl,rfl,hC0,hC1,hown,hbel,H⟩:=hrel
   have hz:=hbel.size
   by_cases hkn:k<n
   ·obtain⟨b1,o1,x,rfl,hb1,hx,hc1,hx0,hx1⟩:=(ha.below hbel).at_ hkn
    by_cases hkm:k<m
    ·obtain⟨b2,o2,y,rfl,hb2,hy,hc2,hy0,hy1⟩:=(hb.below hbel).at_ hkm
     by_cases hg:1000000000≤x+C+y
     ·have Hs:Hid (Lim (zs++[x+C+y-1000000000])∧(zs++[x+C+y-1000000000]).length=k+1∧val (zs++[x+C+y-1000000000])+pw (k+1)*1=val (xs.take (k+1))+val (ys.take (k+1))):=by
       obtain⟨l1,l2,l3⟩:=H.out
       refine⟨l1.snoc (by omega) (by omega),by simp[l2],?_⟩
       rw[bm hx.out,bm hy.out,nD l2 l3 (d:=x+C+y-1000000000) (c':=1) (t:=x+y) (by omega)]
       grind
      clear H
      go_wp2_with (at_builtin;go_must (refine wpList_append_own _ rfl _ _ 34 rfl w.heap.size 194 i0 (.int .u32 0) 1 4 pi hi0 hz0 hz1 hz2 rfl (by decide) _ _ _ rfl (hown.alloc _) ⟨wr.heap.size,0,none⟩ 1 1 [.int .u32 _] rfl rfl (cell_one_new _ _ _) (by simp[Value.oneCell']) (by unfold maxLen;omega) (by omega) (by simp;omega) ?_);intro v' w1 hown' hgrow' _)
      go_roundw
      case rel=>exact⟨k+1,1,_,by omega,by go_num,rfl,by omega,by omega,by simpa using hown',jy hown hbel hz hgrow',Hs⟩
      case measure=>simp[intOf]<;>omega
     ·have Hs:Hid (Lim (zs++[x+C+y])∧(zs++[x+C+y]).length=k+1∧val (zs++[x+C+y])+pw (k+1)*0=val (xs.take (k+1))+val (ys.take (k+1))):=by
       obtain⟨l1,l2,l3⟩:=H.out
       refine⟨l1.snoc (by omega) (by omega),by simp[l2],?_⟩
       rw[bm hx.out,bm hy.out,nD l2 l3 (d:=x+C+y) (c':=0) (t:=x+y) (by omega)]
       grind
      clear H
      go_wp2_with (at_builtin;go_must (refine wpList_append_own _ rfl _ _ 34 rfl w.heap.size 194 i0 (.int .u32 0) 1 4 pi hi0 hz0 hz1 hz2 rfl (by decide) _ _ _ rfl (hown.alloc _) ⟨wr.heap.size,0,none⟩ 1 1 [.int .u32 _] rfl rfl (cell_one_new _ _ _) (by simp[Value.oneCell']) (by unfold maxLen;omega) (by omega) (by simp;omega) ?_);intro v' w1 hown' hgrow' _)
      go_roundw
      case rel=>exact⟨k+1,0,_,by omega,by go_num,rfl,by omega,by omega,by simpa using hown',jy hown hbel hz hgrow',Hs⟩
      case measure=>simp[intOf]<;>omega
    ·by_cases hg:1000000000≤x+C
     ·have Hs:Hid (Lim (zs++[x+C-1000000000])∧(zs++[x+C-1000000000]).length=k+1∧val (zs++[x+C-1000000000])+pw (k+1)*1=val (xs.take (k+1))+val (ys.take (k+1))):=by
       obtain⟨l1,l2,l3⟩:=H.out
       refine⟨l1.snoc (by omega) (by omega),by simp[l2],?_⟩
       rw[bm hx.out,f9 (by omega),nD l2 l3 (d:=x+C-1000000000) (c':=1) (t:=x) (by omega)]
       grind
      clear H
      go_wp2_with (at_builtin;go_must (refine wpList_append_own _ rfl _ _ 34 rfl w.heap.size 194 i0 (.int .u32 0) 1 4 pi hi0 hz0 hz1 hz2 rfl (by decide) _ _ _ rfl (hown.alloc _) ⟨wr.heap.size,0,none⟩ 1 1 [.int .u32 _] rfl rfl (cell_one_new _ _ _) (by simp[Value.oneCell']) (by unfold maxLen;omega) (by omega) (by simp;omega) ?_);intro v' w1 hown' hgrow' _)
      go_roundw
      case rel=>exact⟨k+1,1,_,by omega,by go_num,rfl,by omega,by omega,by simpa using hown',jy hown hbel hz hgrow',Hs⟩
      case measure=>simp[intOf]<;>omega
     ·have Hs:Hid (Lim (zs++[x+C])∧(zs++[x+C]).length=k+1∧val (zs++[x+C])+pw (k+1)*0=val (xs.take (k+1))+val (ys.take (k+1))):=by
       obtain⟨l1,l2,l3⟩:=H.out
       refine⟨l1.snoc (by omega) (by omega),by simp[l2],?_⟩
       rw[bm hx.out,f9 (by omega),nD l2 l3 (d:=x+C) (c':=0) (t:=x) (by omega)]
       grind
      clear H
      go_wp2_with (at_builtin;go_must (refine wpList_append_own _ rfl _ _ 34 rfl w.heap.size 194 i0 (.int .u32 0) 1 4 pi hi0 hz0 hz1 hz2 rfl (by decide) _ _ _ rfl (hown.alloc _) ⟨wr.heap.size,0,none⟩ 1 1 [.int .u32 _] rfl rfl (cell_one_new _ _ _) (by simp[Value.oneCell']) (by unfold maxLen;omega) (by omega) (by simp;omega) ?_);intro v' w1 hown' hgrow' _)
      go_roundw
      case rel=>exact⟨k+1,0,_,by omega,by go_num,rfl,by omega,by omega,by simpa using hown',jy hown hbel hz hgrow',Hs⟩
      case measure=>simp[intOf]<;>omega
   ·obtain rfl:k=n:=by omega
    go_wp2_with (at_builtin;go_must (refine wpList_append_own _ rfl _ _ 34 rfl w.heap.size 194 i0 (.int .u32 0) 1 4 pi hi0 hz0 hz1 hz2 rfl (by decide) _ _ _ rfl (hown.alloc _) ⟨wr.heap.size,0,none⟩ 1 1 [.int .u32 C] rfl rfl (cell_one_new _ _ _) (by simp[Value.oneCell']) (by unfold maxLen;omega) (by omega) (by simp;omega) ?_);intro v' w1 hown' hgrow' _)
    obtain⟨A',c',rfl⟩:=DX hown'
    go_ret
    obtain⟨l1,l2,l3⟩:=H.out
    refine⟨A',c',zs++[C],rfl,⟨by simpa using hown',l1.snoc hC0 (by omega)⟩,?_,jy hown hbel hz hgrow'⟩
    rw[qt,l2,l3,de (by omega),de (by omega)]
theorem qj {g:Nat}(h:wr.ownsRow base 194 1 (.slice (some ⟨g,0,none⟩) n c) n (xs.map (Value.int .u32))) (hx:xs[k]? =some o):
 wr.cell? ⟨g,k,none⟩=some (.int .u32 o)∧wr.frozen? ⟨g,k,none⟩=false∧ ∀d,(wr.setCell ⟨g,k,none⟩ (.int .u32 d)).ownsRow base 194 1 (.slice (some ⟨g,0,none⟩) n c) n ((xs.set k d).map (Value.int .u32))∧wr.grownBy (wr.setCell ⟨g,k,none⟩ (.int .u32 d)) (some g):=by
 have hl:xs.length=n:=by have:=h.1;simpa using this
 have hk:k<xs.length:=by
  rcases jY k xs.length with h1|h1
  ·exact h1
  ·rw[rT h1] at hx;cases hx
 refine⟨?_,h.frozenAt k,fun d=>?_⟩
 ·rw[h.cellAt k (by omega),r8,hx];rfl
 ·have:=h.stored k (.int .u32 d)
  rwa [←List.map_set] at this
theorem ua (n:Nat):(madeCells (Value.int .u32 0).cells (n*1)).toList=(List.replicate n (0:Int)).map (Value.int .u32):=by
 rw[Nat.mul_one];exact(toList_madeCells_one _ n).trans (by simp)
theorem vF (h:Lim ys) (hv:val ys<pw n):val (ys.take n)=val ys:=by
 rcases jY ys.length n with h1|h1
 ·exact de (by omega)
 ·have e:=lE ys n h1
  have h2:=cS (h.take n)
  have h3:=cS (h.drop n)
  have h4:=cU n
  rcases nj 0 (val (ys.drop n)) with h5|h5
  ·have:=m8 (show 1≤val (ys.drop n) by omega) (show 0≤pw n by omega)
   omega
  grind
theorem NA (hz:Lim zs) (hl:zs.length=n) (hc:0≤C) (h:val zs+pw n* -C=val xs-val ys) (hv:val ys≤val xs):val zs=val xs-val ys:=by
 have h1:=fR hz
 have h4:=cU n
 rcases nj 0 C with h5|h5
 ·have:=m8 (show 1≤C by omega) (show 0≤pw n by omega)
  grind
 grind
set_option maxHeartbeats 1000000 in
set_option maxRecDepth 10000 in
theorem EO (A B:Option Addr) (n c m d:Nat) (xs ys:List Int) (w:World) (ha:Sl w A n c xs) (hb:Sl w B m d ys) (hn:n≤100000000) (hv:val ys≤val xs):
 Calls Tryz.prog 346 #[.slice A n c,.slice B m d] w (Et w n (val xs-val ys)):=by
 have hla:=ha.len
 have hlb:=hb.len
 have Hv:Hid (val (ys.take n)=val ys∧val ys≤val xs):=⟨vF hb.2.2.2 (by have:=fR ha.2.2.2;rw[hla] at this;omega),hv⟩
 clear hv
 obtain⟨i0,hi0,hz0,hz1,hz2⟩:=info_parts oH
 go_enter Tryz.func346,Tryz.ntmps346
 go_wp2_with (at_make;go_must (refine wpList_make_full _ rfl _ _ 34 rfl w.heap.size 194 i0 (.int .u32 0) 1 pi hi0 hz0 hz1 _ _ _ _ n rfl rfl rfl rfl (by rw[hz2];omega) (by unfold maxLen;omega) (ck _) ?_);intro w1 hown1 hgrow1)
 rw[ua] at hown1
 go_loopw [15,6] (fun i cy wr=> ∃(k:Nat) (C:Int) (zs:List Int),k≤n∧i=.int .i64 k∧cy=.int .u32 C∧0≤C∧C≤1∧wr.ownsRow w.heap.size 194 1 (.slice (some ⟨w.heap.size,0,none⟩) n n) n ((zs++List.replicate (n-k) 0).map (Value.int .u32))∧Below w.heap.size w wr∧Hid (Lim zs∧zs.length=k∧val zs+pw k* -C=val (xs.take k)-val (ys.take k)))
  (fun i _ _=>n-(intOf i).toNat)
 case atStart=>exact⟨0,0,[],iW _,rfl,rfl,by omega,by omega,hown1,(fJ _ _).grown hgrow1 (ck _) (by simp),Lim.nil,rfl,by simp[val]⟩
 case round=>
  clear hown1 hgrow1
  obtain⟨k,C,zs,hk,rfl,rfl,hC0,hC1,hown,hbel,H⟩:=hrel
  have hz:=hbel.size
  by_cases hkn:k<n
  ·obtain⟨j,hj⟩: ∃j,n-k=j+1:=⟨n-k-1,by omega⟩
   have hj2:n-(k+1)=j:=by omega
   rw[hj] at hown
   obtain⟨hcell,hfz,hst⟩:=qj hown (X7 H.out.2.1)
   have Hst:Hid (∀d,(wr.setCell ⟨w.heap.size,k,none⟩ (.int .u32 d)).ownsRow w.heap.size 194 1 (.slice (some ⟨w.heap.size,0,none⟩) n n) n (((zs++[d])++List.replicate (n-(k+1)) 0).map (Value.int .u32))∧Below w.heap.size w (wr.setCell ⟨w.heap.size,k,none⟩ (.int .u32 d))):=by
    intro d
    have h1:=hst d
    rw[nk H.out.2.1,←hj2] at h1
    exact⟨h1.1,hbel.grown h1.2 hz (by simp)⟩
   clear hst hown
   obtain⟨b1,o1,x,rfl,hb1,hx,hc1,hx0,hx1⟩:=(ha.below hbel).at_ hkn
   by_cases hkm:k<m
   ·obtain⟨b2,o2,y,rfl,hb2,hy,hc2,hy0,hy1⟩:=(hb.below hbel).at_ hkm
    by_cases hg:x<C+y
    ·have Hs:Hid (Lim (zs++[x+1000000000-(C+y)])∧(zs++[x+1000000000-(C+y)]).length=k+1∧val (zs++[x+1000000000-(C+y)])+pw (k+1)* -1=val (xs.take (k+1))-val (ys.take (k+1))):=by
      obtain⟨l1,l2,l3⟩:=H.out
      refine⟨l1.snoc (by omega) (by omega),by simp[l2],?_⟩
      rw[bm hx.out,bm hy.out,nD l2 l3 (d:=x+1000000000-(C+y)) (c':= -1) (t:=x-y) (by omega)]
      grind
     clear H
     go_wp2
     go_roundw
     case rel=>exact⟨k+1,1,_,by omega,by go_num,rfl,by omega,by omega,(Hst.out _).1,(Hst.out _).2,Hs⟩
     case measure=>simp[intOf]<;>omega
    ·have Hs:Hid (Lim (zs++[x-(C+y)])∧(zs++[x-(C+y)]).length=k+1∧val (zs++[x-(C+y)])+pw (k+1)* -0=val (xs.take (k+1))-val (ys.take (k+1))):=by
      obtain⟨l1,l2,l3⟩:=H.out
      refine⟨l1.snoc (by omega) (by omega),by simp[l2],?_⟩
      rw[bm hx.out,bm hy.out,nD l2 l3 (d:=x-(C+y)) (c':= -0) (t:=x-y) (by omega)]
      grind
     clear H
     go_wp2
     go_roundw
     case rel=>exact⟨k+1,0,_,by omega,by go_num,rfl,by omega,by omega,(Hst.out _).1,(Hst.out _).2,Hs⟩
     case measure=>simp[intOf]<;>omega
   ·by_cases hg:x<C
    ·have Hs:Hid (Lim (zs++[x+1000000000-C])∧(zs++[x+1000000000-C]).length=k+1∧val (zs++[x+1000000000-C])+pw (k+1)* -1=val (xs.take (k+1))-val (ys.take (k+1))):=by
      obtain⟨l1,l2,l3⟩:=H.out
      refine⟨l1.snoc (by omega) (by omega),by simp[l2],?_⟩
      rw[bm hx.out,f9 (by omega),nD l2 l3 (d:=x+1000000000-C) (c':= -1) (t:=x) (by omega)]
      grind
     clear H
     go_wp2
     go_roundw
     case rel=>exact⟨k+1,1,_,by omega,by go_num,rfl,by omega,by omega,(Hst.out _).1,(Hst.out _).2,Hs⟩
     case measure=>simp[intOf]<;>omega
    ·have Hs:Hid (Lim (zs++[x-C])∧(zs++[x-C]).length=k+1∧val (zs++[x-C])+pw (k+1)* -0=val (xs.take (k+1))-val (ys.take (k+1))):=by
      obtain⟨l1,l2,l3⟩:=H.out
      refine⟨l1.snoc (by omega) (by omega),by simp[l2],?_⟩
      rw[bm hx.out,f9 (by omega),nD l2 l3 (d:=x-C) (c':= -0) (t:=x) (by omega)]
      grind
     clear H
     go_wp2
     go_roundw
     case rel=>exact⟨k+1,0,_,by omega,by go_num,rfl,by omega,by omega,(Hst.out _).1,(Hst.out _).2,Hs⟩
     case measure=>simp[intOf]<;>omega
  ·obtain rfl:k=n:=by omega
   rw[Nat.sub_self,List.replicate_zero,m9] at hown
   go_wp2
   go_ret
   obtain⟨l1,l2,l3⟩:=H.out
   refine⟨_,_,zs,rfl,⟨hown,l1⟩,?_,hbel⟩
   rw[de (by omega),Hv.out.1] at l3
   exact NA l1 l2 hC0 l3 Hv.out.2
theorem Cp (hx0:0≤x) (hx1:x<1000000000) (hy0:0≤y) (hy1:y<1000000000):0≤x*y∧x*y≤999999998000000001:=by
 refine⟨Int.mul_nonneg hx0 hy0,?_⟩
 have h1:=qS (show x≤999999999 by omega) (show y≤999999999 by omega) hy0 (by omega)
 omega
theorem R4 {j:Nat}{S:Int}(ho:os[k+j]? =some o) (hy:ys[j]? =some y) (h:val os+pw (k+j)*C=S+pw k*(x*val (ys.take j))):
 val (os.set (k+j) ((o+x*y+C)%1000000000))+pw (k+(j+1))*((o+x*y+C)/1000000000)=S+pw k*(x*val (ys.take (j+1))):=by
 rw[Cl ho,bm hy,←Nat.add_assoc,dT,qv]
 rw[qv] at h
 have e:=yc (o+x*y+C) 1000000000
 generalize (o+x*y+C)%1000000000=d at*
 generalize (o+x*y+C)/1000000000=c at*
 have:d=o+x*y+C-1000000000*c:=by omega
 subst this
 grind
theorem N3 {m:Nat}(hx:xs[k]? =some x) (hm:ys.length=m) (ho:os[k+m]? =some 0) (h:val os+pw (k+m)*C=val (xs.take k)*val ys+pw k*(x*val (ys.take m))):
 val (os.set (k+m) C)=val (xs.take (k+1))*val ys:=by
 rw[Cl ho,bm hx]
 rw[de (xs:=ys) (by omega)] at h
 grind
set_option maxHeartbeats 1000000 in
set_option maxRecDepth 10000 in
theorem Bg (A B:Option Addr) (n c m d:Nat) (xs ys:List Int) (w:World) (ha:Sl w A n c xs) (hb:Sl w B m d ys) (hn:n≤100000000) (hm:m≤100000000):
 Calls Tryz.prog 281 #[.slice A n c,.slice B m d] w (Et w (n+m) (val xs*val ys)):=by
 have hla:=ha.len
 have hlb:=hb.len
 obtain⟨i0,hi0,hz0,hz1,hz2⟩:=info_parts oH
 go_enter Tryz.func281,Tryz.ntmps281
 go_wp2_with (at_make;go_must (refine wpList_make_full _ rfl _ _ 34 rfl w.heap.size 194 i0 (.int .u32 0) 1 pi hi0 hz0 hz1 _ _ _ _ (n+m) rfl rfl (by omega) (by omega) (by rw[hz2];omega) (by unfold maxLen;omega) (ck _) ?_);intro w1 hown1 hgrow1)
 rw[ua] at hown1
 go_loopw [20] (fun i wr=> ∃(k:Nat) (os:List Int),k≤n∧i=.int .i64 k∧wr.ownsRow w.heap.size 194 1 (.slice (some ⟨w.heap.size,0,none⟩) (n+m) (n+m)) (n+m) (os.map (Value.int .u32))∧Below w.heap.size w wr∧Hid (Lim os∧os.length=n+m∧Zr os (k+m)∧val os=val (xs.take k)*val ys))
  (fun i _=>n-(intOf i).toNat)
 case atStart=>exact⟨0,_,iW _,rfl,hown1,(fJ _ _).grown hgrow1 (ck _) (by simp),Lim.zeros _,by simp,Zr.zeros _ _,by simp[val,AE]⟩
 case round=>
  clear hown1 hgrow1
  obtain⟨k,os,hk,rfl,hown,hbel,H⟩:=hrel
  by_cases hkn:k<n
  ·obtain⟨b1,o1,x,rfl,hb1,hx,hc1,hx0,hx1⟩:=(ha.below hbel).at_ hkn
   go_wp2
   go_loopw [27,8] (fun i cy w2=> ∃(j:Nat) (C:Int) (ps:List Int),j≤m∧i=.int .i64 j∧cy=.int .u64 C∧0≤C∧C<1000000000∧w2.ownsRow w.heap.size 194 1 (.slice (some ⟨w.heap.size,0,none⟩) (n+m) (n+m)) (n+m) (ps.map (Value.int .u32))∧Below w.heap.size w w2∧Hid (Lim ps∧ps.length=n+m∧Zr ps (k+m)∧val ps+pw (k+j)*C=val (xs.take k)*val ys+pw k*(x*val (ys.take j))))
    (fun i _ _=>m-(intOf i).toNat)
   case atStart=>
    obtain⟨l1,l2,l3,l4⟩:=H.out
    exact⟨0,0,os,iW _,rfl,rfl,by omega,by omega,hown,hbel,l1,l2,l3,by simp[val,l4]⟩
   case round=>
    clear hown hbel H hb1 hc1
    obtain⟨j,C,ps,hj,rfl,rfl,hC0,hC1,hown,hbel,H⟩:=hrel
    have hz:=hbel.size
    by_cases hjm:j<m
    ·obtain⟨b2,o2,y,rfl,hb2,hy,hc2,hy0,hy1⟩:=(hb.below hbel).at_ hjm
     obtain⟨o,ho⟩:=pu H.out.2.1 (show k+j<n+m by omega)
     obtain⟨hcell,hfz,hst⟩:=qj hown ho
     have ho0:=H.out.1.at_ ho
     have Hs:Hid (Lim (ps.set (k+j) ((o+x*y+C)%1000000000))∧(ps.set (k+j) ((o+x*y+C)%1000000000)).length=n+m∧Zr (ps.set (k+j) ((o+x*y+C)%1000000000)) (k+m)∧val (ps.set (k+j) ((o+x*y+C)%1000000000))+pw (k+(j+1))*((o+x*y+C)/1000000000)=val (xs.take k)*val ys+pw k*(x*val (ys.take (j+1)))):=by
      obtain⟨l1,l2,l3,l4⟩:=H.out
      exact⟨l1.set (by omega) (by omega),by simp[l2],l3.set (by omega),R4 ho hy.out l4⟩
     have Hst:Hid (∀d,(wr.setCell ⟨w.heap.size,k+j,none⟩ (.int .u32 d)).ownsRow w.heap.size 194 1 (.slice (some ⟨w.heap.size,0,none⟩) (n+m) (n+m)) (n+m) ((ps.set (k+j) d).map (Value.int .u32))∧Below w.heap.size w (wr.setCell ⟨w.heap.size,k+j,none⟩ (.int .u32 d))):=by
      intro d
      exact⟨(hst d).1,hbel.grown (hst d).2 hz (by simp)⟩
     clear hst hown H ho
     obtain⟨hp0,hp1⟩:=Cp hx0 hx1 hy0 hy1
     go_wp2
     go_roundw
     case rel=>exact⟨j+1,_,_,by omega,by go_num,rfl,by omega,by omega,(Hst.out _).1,(Hst.out _).2,Hs⟩
     case measure=>simp[intOf]<;>omega
    ·obtain rfl:j=m:=by omega
     obtain⟨o,ho⟩:=pu H.out.2.1 (show k+j<n+j by omega)
     obtain rfl:o=0:=H.out.2.2.1 _ _ (ck _) ho
     obtain⟨hcell,hfz,hst⟩:=qj hown ho
     have Hs:Hid (Lim (ps.set (k+j) C)∧(ps.set (k+j) C).length=n+j∧Zr (ps.set (k+j) C) (k+1+j)∧val (ps.set (k+j) C)=val (xs.take (k+1))*val ys):=by
      obtain⟨l1,l2,l3,l4⟩:=H.out
      exact⟨l1.set (by omega) (by omega),by simp[l2],by have:=l3.set_at (d:=C);rwa [show k+j+1=k+1+j from by omega] at this,N3 hx.out hlb ho l4⟩
     have Hst:Hid ((wr.setCell ⟨w.heap.size,k+j,none⟩ (.int .u32 C)).ownsRow w.heap.size 194 1 (.slice (some ⟨w.heap.size,0,none⟩) (n+j) (n+j)) (n+j) ((ps.set (k+j) C).map (Value.int .u32))∧Below w.heap.size w (wr.setCell ⟨w.heap.size,k+j,none⟩ (.int .u32 C))):=
      ⟨(hst C).1,hbel.grown (hst C).2 hz (by simp)⟩
     clear hst hown H ho
     go_wp2
     go_roundw
     case rel=>exact⟨k+1,_,by omega,by go_num,Hst.out.1,Hst.out.2,Hs⟩
     case measure=>simp[intOf]<;>omega
  ·obtain rfl:k=n:=by omega
   go_wp2
   go_ret
   obtain⟨l1,l2,l3,l4⟩:=H.out
   refine⟨_,_,os,rfl,⟨hown,l1⟩,?_,hbel⟩
   rw[l4,de (xs:=xs) (by omega)]
theorem vW {a b:World}(h:w.grownBy a row) (k:a.grownBy b row):w.grownBy b row:=
 ⟨k.os.trans h.os,k.tape.trans h.tape,k.output.trans h.output,nF h.size k.size,fun j hj hr=>(k.block j (oO hj h.size) hr).trans (h.block j hj hr)⟩
theorem Sl.grown (h:Sl w A n c xs) (hg:w.grownBy w' row) (hne: ∀b off,A=some ⟨b,off,none⟩→some b≠row):Sl w' A n c xs:=by
 refine⟨⟨h.1.1,fun hn=>?_⟩,h.2⟩
 obtain⟨b,off,e,hlt,hc⟩:=h.1.2 hn
 exact⟨b,off,e,oO hlt hg.size,fun j u hu=>hg.cell (hc j u hu) (hne b off e)⟩
theorem S8 (hk:k≤us.length) (hz:zs.length=i) (h:us[k+i]? =some u):(us.take k++zs++us.drop (k+i))[k+i]? =some u:=by grind
theorem K1 {d:Int}(hk:k≤us.length) (hz:zs.length=i) (h:us[k+i]? =some u):(us.take k++zs++us.drop (k+i)).set (k+i) d=us.take k++(zs++[d])++us.drop (k+(i+1)):=by
 subst hz
 have hlt:k+zs.length<us.length:=by grind
 rw[nI hlt,List.set_append_right _ _ (by simp;omega)]
 rw[show k+zs.length-(us.take k++zs).length=0 from by simp;omega,List.set_cons_zero,←Nat.add_assoc]
 simp
theorem qk (h:us[k+i]? =some u):(us.drop k)[i]? =some u:=by grind
def JN (w w':World) (base g N cN k m:Nat) (us:List Int) (S:Int) (zs:List Int) (C:Int):Prop:=
 zs.length=m+1∧Lim zs∧0≤C∧val zs+pw (m+1)* -C=S∧w'.ownsRow base 194 1 (.slice (some ⟨g,0,none⟩) N cN) N ((us.take k++zs++us.drop (k+(m+1))).map (Value.int .u32))∧w.grownBy w' (some g)
set_option maxHeartbeats 1000000 in
set_option maxRecDepth 10000 in
theorem FV (base g N cN k cs m d:Nat) (B:Option Addr) (us ys:List Int) (by_:Int) (w:World) (hu:w.ownsRow base 194 1 (.slice (some ⟨g,0,none⟩) N cN) N (us.map (Value.int .u32))) (hul:Lim us)
 (hk:k+m+1≤N) (hN:N≤10000000000) (hb:Sl w B m d ys) (hne: ∀b off,B=some ⟨b,off,none⟩→some b≠some g) (h0:0≤by_) (h1:by_<1000000000) (_hcs:m+1≤cs):
 Calls Tryz.prog 374 #[.slice (some ⟨g,k,none⟩) (m+1:Nat) cs,.slice B m d,.int .u64 by_] w fun e w'=> ∃zs C,e=.returned (.bool (decide (0<C)))∧JN w w' base g N cN k m us (val ((us.drop k).take (m+1))-by_*val ys) zs C:=by
 have hlu:us.length=N:=by have:=hu.1;simpa using this
 have hlb:=hb.len
 go_enter Tryz.func374,Tryz.ntmps374
 go_wp2
 go_loopw [15,7,8] (fun i cy bw wr=> ∃(j:Nat) (C D:Int) (zs:List Int),j≤m+1∧i=.int .i64 j∧cy=.int .u64 C∧0≤C∧C<1000000000∧bw=.int .u64 D∧0≤D∧D≤1∧wr.ownsRow base 194 1 (.slice (some ⟨g,0,none⟩) N cN) N ((us.take k++zs++us.drop (k+j)).map (Value.int .u32))∧w.grownBy wr (some g)∧Hid (Lim zs∧zs.length=j∧val zs+pw j* -(C+D)=val ((us.drop k).take j)-by_*val (ys.take j)))
  (fun i _ _ _=>m+1-(intOf i).toNat)
 case atStart=>exact⟨0,0,0,[],iW _,rfl,rfl,by omega,by omega,rfl,by omega,by omega,by simpa using hu,World.grownBy.refl _ _,Lim.nil,rfl,by simp[val]⟩
 case round=>
  obtain⟨j,C,D,zs,hj,rfl,rfl,hC0,hC1,rfl,hD0,hD1,hown,hgr,H⟩:=hrel
  by_cases hjn:j<m+1
  ·obtain⟨u,hu'⟩:=pu hlu (show k+j<N by omega)
   have hu01:=hul.at_ hu'
   obtain⟨hcell,hfz,hst⟩:=qj hown (S8 (by omega) H.out.2.1 hu')
   have Hst:Hid (∀d,(wr.setCell ⟨g,k+j,none⟩ (.int .u32 d)).ownsRow base 194 1 (.slice (some ⟨g,0,none⟩) N cN) N ((us.take k++(zs++[d])++us.drop (k+(j+1))).map (Value.int .u32))∧w.grownBy (wr.setCell ⟨g,k+j,none⟩ (.int .u32 d)) (some g)):=by
    intro d
    have h1:=hst d
    rw[K1 (by omega) H.out.2.1 hu'] at h1
    exact⟨h1.1,vW hgr h1.2⟩
   have Hu:=ix hu'
   clear hst hown hu'
   by_cases hjm:j<m
   ·obtain⟨b2,o2,y,rfl,hb2,hy,hc2,hy0,hy1⟩:=(hb.grown hgr hne).at_ hjm
    obtain⟨hp0,hp1⟩:=Cp hy0 hy1 h0 h1
    by_cases hg:u<(C+y*by_)%1000000000+D
    ·have Hs:Hid (Lim (zs++[u+1000000000-((C+y*by_)%1000000000+D)])∧(zs++[u+1000000000-((C+y*by_)%1000000000+D)]).length=j+1∧val (zs++[u+1000000000-((C+y*by_)%1000000000+D)])+pw (j+1)* -((C+y*by_)/1000000000+1)=val ((us.drop k).take (j+1))-by_*val (ys.take (j+1))):=by
      obtain⟨l1,l2,l3⟩:=H.out
      refine⟨l1.snoc (by omega) (by omega),by simp[l2],?_⟩
      rw[bm (qk Hu.out),bm hy.out,nD l2 l3 (d:=u+1000000000-((C+y*by_)%1000000000+D)) (c':= -((C+y*by_)/1000000000+1)) (t:=u-y*by_) (by omega)]
      grind
     clear H
     go_wp2
     go_roundw
     case rel=>exact⟨j+1,_,1,_,by omega,by go_num,rfl,by omega,by omega,rfl,by omega,by omega,(Hst.out _).1,(Hst.out _).2,Hs⟩
     case measure=>simp[intOf]<;>omega
    ·have Hs:Hid (Lim (zs++[u-((C+y*by_)%1000000000+D)])∧(zs++[u-((C+y*by_)%1000000000+D)]).length=j+1∧val (zs++[u-((C+y*by_)%1000000000+D)])+pw (j+1)* -((C+y*by_)/1000000000+0)=val ((us.drop k).take (j+1))-by_*val (ys.take (j+1))):=by
      obtain⟨l1,l2,l3⟩:=H.out
      refine⟨l1.snoc (by omega) (by omega),by simp[l2],?_⟩
      rw[bm (qk Hu.out),bm hy.out,nD l2 l3 (d:=u-((C+y*by_)%1000000000+D)) (c':= -((C+y*by_)/1000000000+0)) (t:=u-y*by_) (by omega)]
      grind
     clear H
     go_wp2
     go_roundw
     case rel=>exact⟨j+1,_,0,_,by omega,by go_num,rfl,by omega,by omega,rfl,by omega,by omega,(Hst.out _).1,(Hst.out _).2,Hs⟩
     case measure=>simp[intOf]<;>omega
   ·have hCC:C/1000000000=0∧C%1000000000=C:=by omega
    by_cases hg:u<C+D
    ·have Hs:Hid (Lim (zs++[u+1000000000-(C+D)])∧(zs++[u+1000000000-(C+D)]).length=j+1∧val (zs++[u+1000000000-(C+D)])+pw (j+1)* -(0+1)=val ((us.drop k).take (j+1))-by_*val (ys.take (j+1))):=by
      obtain⟨l1,l2,l3⟩:=H.out
      refine⟨l1.snoc (by omega) (by omega),by simp[l2],?_⟩
      rw[bm (qk Hu.out),f9 (xs:=ys) (by omega),nD l2 l3 (d:=u+1000000000-(C+D)) (c':= -(0+1)) (t:=u) (by omega)]
      grind
     clear H
     go_wp2
     go_roundw
     case rel=>exact⟨j+1,0,1,_,by omega,by go_num,by first|rfl|go_num,by omega,by omega,rfl,by omega,by omega,(Hst.out _).1,(Hst.out _).2,Hs⟩
     case measure=>simp[intOf]<;>omega
    ·have Hs:Hid (Lim (zs++[u-(C+D)])∧(zs++[u-(C+D)]).length=j+1∧val (zs++[u-(C+D)])+pw (j+1)* -(0+0)=val ((us.drop k).take (j+1))-by_*val (ys.take (j+1))):=by
      obtain⟨l1,l2,l3⟩:=H.out
      refine⟨l1.snoc (by omega) (by omega),by simp[l2],?_⟩
      rw[bm (qk Hu.out),f9 (xs:=ys) (by omega),nD l2 l3 (d:=u-(C+D)) (c':= -(0+0)) (t:=u) (by omega)]
      grind
     clear H
     go_wp2
     go_roundw
     case rel=>exact⟨j+1,0,0,_,by omega,by go_num,by first|rfl|go_num,by omega,by omega,rfl,by omega,by omega,(Hst.out _).1,(Hst.out _).2,Hs⟩
     case measure=>simp[intOf]<;>omega
  ·obtain rfl:j=m+1:=by omega
   have hfin: ∀t:Bool,t=decide (0<C+D)→ ∃zs C',Ending.returned (.bool t)=.returned (.bool (decide (0<C')))∧JN w wr base g N cN k m us (val ((us.drop k).take (m+1))-by_*val ys) zs C':=by
    rintro t rfl
    obtain⟨l1,l2,l3⟩:=H.out
    rw[de (xs:=ys) (by omega)] at l3
    exact⟨zs,C+D,rfl,l2,l1,by omega,l3,hown,hgr⟩
   have Hf:=ix hfin
   clear hfin H hown
   by_cases hD:0<D
   ·go_wp2
    go_ret
    exact Hf.out _ (by simp;omega)
   ·go_wp2
    go_ret
    exact Hf.out _ (by first|(simp;omega)|(have:D=0:=by omega);subst this;simp)
set_option maxHeartbeats 1000000 in
set_option maxRecDepth 10000 in
theorem Ie (base g N cN k cs m d:Nat) (B:Option Addr) (us ys:List Int) (w:World) (hu:w.ownsRow base 194 1 (.slice (some ⟨g,0,none⟩) N cN) N (us.map (Value.int .u32))) (hul:Lim us)
 (hk:k+m+1≤N) (hN:N≤10000000000) (hb:Sl w B m d ys) (hne: ∀b off,B=some ⟨b,off,none⟩→some b≠some g) (_hcs:m+1≤cs):
 Calls Tryz.prog 375 #[.slice (some ⟨g,k,none⟩) (m+1:Nat) cs,.slice B m d] w fun e w'=> ∃zs C,e=.returned (.tuple #[])∧0≤C∧zs.length=m+1∧Lim zs∧val zs+pw (m+1)*C=val ((us.drop k).take (m+1))+val ys∧w'.ownsRow base 194 1 (.slice (some ⟨g,0,none⟩) N cN) N ((us.take k++zs++us.drop (k+(m+1))).map (Value.int .u32))∧w.grownBy w' (some g):=by
 have hlu:us.length=N:=by have:=hu.1;simpa using this
 have hlb:=hb.len
 go_enter Tryz.func375,Tryz.ntmps375
 go_wp2
 go_loopw [9,4] (fun i cy wr=> ∃(j:Nat) (C:Int) (zs:List Int),j≤m+1∧i=.int .i64 j∧cy=.int .u32 C∧0≤C∧C≤1∧wr.ownsRow base 194 1 (.slice (some ⟨g,0,none⟩) N cN) N ((us.take k++zs++us.drop (k+j)).map (Value.int .u32))∧w.grownBy wr (some g)∧Hid (Lim zs∧zs.length=j∧val zs+pw j*C=val ((us.drop k).take j)+val (ys.take j)))
  (fun i _ _=>m+1-(intOf i).toNat)
 case atStart=>exact⟨0,0,[],iW _,rfl,rfl,by omega,by omega,by simpa using hu,World.grownBy.refl _ _,Lim.nil,rfl,by simp[val]⟩
 case round=>
  obtain⟨j,C,zs,hj,rfl,rfl,hC0,hC1,hown,hgr,H⟩:=hrel
  by_cases hjn:j<m+1
  ·obtain⟨u,hu'⟩:=pu hlu (show k+j<N by omega)
   have hu01:=hul.at_ hu'
   obtain⟨hcell,hfz,hst⟩:=qj hown (S8 (by omega) H.out.2.1 hu')
   have Hst:Hid (∀d,(wr.setCell ⟨g,k+j,none⟩ (.int .u32 d)).ownsRow base 194 1 (.slice (some ⟨g,0,none⟩) N cN) N ((us.take k++(zs++[d])++us.drop (k+(j+1))).map (Value.int .u32))∧w.grownBy (wr.setCell ⟨g,k+j,none⟩ (.int .u32 d)) (some g)):=by
    intro d
    have h1:=hst d
    rw[K1 (by omega) H.out.2.1 hu'] at h1
    exact⟨h1.1,vW hgr h1.2⟩
   have Hu:=ix hu'
   clear hst hown hu'
   by_cases hjm:j<m
   ·obtain⟨b2,o2,y,rfl,hb2,hy,hc2,hy0,hy1⟩:=(hb.grown hgr hne).at_ hjm
    by_cases hg:1000000000≤u+C+y
    ·have Hs:Hid (Lim (zs++[u+C+y-1000000000])∧(zs++[u+C+y-1000000000]).length=j+1∧val (zs++[u+C+y-1000000000])+pw (j+1)*1=val ((us.drop k).take (j+1))+val (ys.take (j+1))):=by
      obtain⟨l1,l2,l3⟩:=H.out
      refine⟨l1.snoc (by omega) (by omega),by simp[l2],?_⟩
      rw[bm (qk Hu.out),bm hy.out,nD l2 l3 (d:=u+C+y-1000000000) (c':=1) (t:=u+y) (by omega)]
      grind
     clear H
     go_wp2
     go_roundw
     case rel=>exact⟨j+1,1,_,by omega,by go_num,rfl,by omega,by omega,(Hst.out _).1,(Hst.out _).2,Hs⟩
     case measure=>simp[intOf]<;>omega
    ·have Hs:Hid (Lim (zs++[u+C+y])∧(zs++[u+C+y]).length=j+1∧val (zs++[u+C+y])+pw (j+1)*0=val ((us.drop k).take (j+1))+val (ys.take (j+1))):=by
      obtain⟨l1,l2,l3⟩:=H.out
      refine⟨l1.snoc (by omega) (by omega),by simp[l2],?_⟩
      rw[bm (qk Hu.out),bm hy.out,nD l2 l3 (d:=u+C+y) (c':=0) (t:=u+y) (by omega)]
      grind
     clear H
     go_wp2
     go_roundw
     case rel=>exact⟨j+1,0,_,by omega,by go_num,rfl,by omega,by omega,(Hst.out _).1,(Hst.out _).2,Hs⟩
     case measure=>simp[intOf]<;>omega
   ·by_cases hg:1000000000≤u+C
    ·have Hs:Hid (Lim (zs++[u+C-1000000000])∧(zs++[u+C-1000000000]).length=j+1∧val (zs++[u+C-1000000000])+pw (j+1)*1=val ((us.drop k).take (j+1))+val (ys.take (j+1))):=by
      obtain⟨l1,l2,l3⟩:=H.out
      refine⟨l1.snoc (by omega) (by omega),by simp[l2],?_⟩
      rw[bm (qk Hu.out),f9 (xs:=ys) (by omega),nD l2 l3 (d:=u+C-1000000000) (c':=1) (t:=u) (by omega)]
      grind
     clear H
     go_wp2
     go_roundw
     case rel=>exact⟨j+1,1,_,by omega,by go_num,rfl,by omega,by omega,(Hst.out _).1,(Hst.out _).2,Hs⟩
     case measure=>simp[intOf]<;>omega
    ·have Hs:Hid (Lim (zs++[u+C])∧(zs++[u+C]).length=j+1∧val (zs++[u+C])+pw (j+1)*0=val ((us.drop k).take (j+1))+val (ys.take (j+1))):=by
      obtain⟨l1,l2,l3⟩:=H.out
      refine⟨l1.snoc (by omega) (by omega),by simp[l2],?_⟩
      rw[bm (qk Hu.out),f9 (xs:=ys) (by omega),nD l2 l3 (d:=u+C) (c':=0) (t:=u) (by omega)]
      grind
     clear H
     go_wp2
     go_roundw
     case rel=>exact⟨j+1,0,_,by omega,by go_num,rfl,by omega,by omega,(Hst.out _).1,(Hst.out _).2,Hs⟩
     case measure=>simp[intOf]<;>omega
  ·obtain rfl:j=m+1:=by omega
   go_wp2
   go_returns
   obtain⟨l1,l2,l3⟩:=H.out
   rw[de (xs:=ys) (by omega)] at l3
   exact⟨zs,C,rfl,hC0,l2,l1,l3,hown,hgr⟩
def D2 (w:World) (q r:Int) (e:Ending) (w':World):Prop:= ∃A n c zs B m d ys,e=.returned (.tuple #[.slice A n c,.slice B m d])∧Ow w' w.heap.size (.slice A n c) n zs∧val zs=q∧Ow w' w.heap.size (.slice B m d) m ys∧val ys=r∧Below w.heap.size w w'
theorem IN {R:Int}(hx:xs[i]? =some x) (ho:os[i]? =some o) (h:val (os.drop (i+1))*b+R=val (xs.drop (i+1))):
 val ((os.set i ((R*1000000000+x)/b)).drop i)*b+(R*1000000000+x)%b=val (xs.drop i):=by
 have d1:xs.drop i=x::xs.drop (i+1):=by
  have hi:i<xs.length:=by
   rcases jY i xs.length with h1|h1
   ·exact h1
   ·rw[rT h1] at hx;cases hx
  rw[nI hi];congr;rw[gE hi] at hx;simpa using hx
 have d2: ∀d,(os.set i d).drop i=d::os.drop (i+1):=by
  intro d
  have hi:i<os.length:=by
   rcases jY i os.length with h1|h1
   ·exact h1
   ·rw[rT h1] at ho;cases ho
  rw[nI (by simpa using hi),List.getElem_set_self,Dv (by omega)]
 rw[d1,d2,ed,ed]
 have e:=yc (R*1000000000+x) b
 generalize (R*1000000000+x)/b=q at*
 generalize (R*1000000000+x)%b=r at*
 grind
set_option maxHeartbeats 1000000 in
set_option maxRecDepth 10000 in
theorem DP (A:Option Addr) (n c:Nat) (xs:List Int) (b:Int) (w:World) (ha:Sl w A n c xs) (hn:n≤1000000000) (h0:0<b) (h1:b<1000000000):
 Calls Tryz.prog 373 #[.slice A n c,.int .u32 b] w (D2 w (val xs/b) (val xs%b)):=by
 have hla:=ha.len
 obtain⟨i0,hi0,hz0,hz1,hz2⟩:=info_parts oH
 go_enter Tryz.func373,Tryz.ntmps373
 go_wp2_with (at_make;go_must (refine wpList_make_full _ rfl _ _ 34 rfl w.heap.size 194 i0 (.int .u32 0) 1 pi hi0 hz0 hz1 _ _ _ _ n rfl rfl rfl rfl (by rw[hz2];omega) (by unfold maxLen;omega) (ck _) ?_);intro w1 hown1 hgrow1)
 rw[ua] at hown1
 go_loopw [8,7] (fun i cy wr=> ∃(j:Nat) (R:Int) (os:List Int),j≤n∧i=.int .i64 ((j:Int)-1)∧cy=.int .u64 R∧0≤R∧R<b∧wr.ownsRow w.heap.size 194 1 (.slice (some ⟨w.heap.size,0,none⟩) n n) n (os.map (Value.int .u32))∧Below w.heap.size w wr∧Hid (Lim os∧os.length=n∧val (os.drop j)*b+R=val (xs.drop j)))
  (fun i _ _=>(intOf i+1).toNat)
 case atStart=>exact⟨n,0,_,ck _,rfl,rfl,by omega,by omega,hown1,(fJ _ _).grown hgrow1 (ck _) (by simp),Lim.zeros _,by simp,by rw[qI (by simp),qI (by omega)];simp[val]⟩
 case round=>
  clear hown1 hgrow1
  obtain⟨j,R,os,hj,rfl,rfl,hR0,hR1,hown,hbel,H⟩:=hrel
  have hz:=hbel.size
  rcases li j with hj0|hj0
  ·subst hj0
   go_wp2
   go_ret2
   obtain⟨l1,l2,l3⟩:=H.out
   simp only[wC] at l3
   have e1:val os=val xs/b:=by rw[←l3,Int.add_comm,Int.add_mul_ediv_right _ _ (by omega),Int.ediv_eq_zero_of_lt hR0 hR1];omega
   have e2:R=val xs%b:=by rw[←l3,Int.add_comm,Int.add_mul_emod_self_right,Int.emod_eq_of_lt hR0 hR1]
   refine⟨_,_,_,os,_,1,_,[R],rfl,⟨hown.alloc _,l1⟩,e1,⟨World.ownsRow_lit _ #[.int .u32 R] 1 hz (by unfold maxLen;omega) rfl,Lim.nil.cons hR0 (by omega)⟩,by simp[val];exact e2,hbel.alloc hz _⟩
  ·obtain⟨j,rfl⟩: ∃i,j=i+1:=⟨j-1,by omega⟩
   have ej:((j+1:Nat):Int)-1=(j:Int):=by omega
   rw[ej]
   clear ej
   obtain⟨b1,o1,x,rfl,hb1,hx,hc1,hx0,hx1⟩:=(ha.below hbel).at_ (show j<n by omega)
   obtain⟨o,ho⟩:=pu H.out.2.1 (show j<n by omega)
   obtain⟨hcell,hfz,hst⟩:=qj hown ho
   obtain⟨T,hT⟩: ∃T,R*1000000000+x=T:=⟨_,rfl⟩
   have hq0:0≤T/b:=uC (by omega) (by omega)
   have hq1:T/b<1000000000:=Int.ediv_lt_of_lt_mul h0 (by omega)
   have hm0:0≤T%b:=po _ (by omega)
   have hm1:T%b<b:=oJ _ h0
   have Hs:Hid (Lim (os.set j (T/b))∧(os.set j (T/b)).length=n∧val ((os.set j (T/b)).drop j)*b+T%b=val (xs.drop j)):=by
    obtain⟨l1,l2,l3⟩:=H.out
    have e:=IN hx.out ho l3
    rw[hT] at e
    exact⟨l1.set hq0 hq1,by simp[l2],e⟩
   have Hst:Hid (∀d,(wr.setCell ⟨w.heap.size,j,none⟩ (.int .u32 d)).ownsRow w.heap.size 194 1 (.slice (some ⟨w.heap.size,0,none⟩) n n) n ((os.set j d).map (Value.int .u32))∧Below w.heap.size w (wr.setCell ⟨w.heap.size,j,none⟩ (.int .u32 d)).drew):=
    fun d=>⟨(hst d).1,Below.drewN' (hbel.grown (hst d).2 hz (by simp)) 1⟩
   clear hst hown H ho
   go_wp2_with fail
   go_region
   go_wp2
   go_roundw
   case rel=>exact⟨j,_,_,by omega,by go_num,rfl,hm0,hm1,(Hst.out _).1,(Hst.out _).2,Hs⟩
   case measure=>simp[intOf]<;>omega
end Go.Proofs.YtegpmhlfjkhjmaaGreat
namespace Go.Proofs.YtegpmhlfjkhjmaaGreat
variable {C F S U V a b c:Int}{qs us xs ys zs:List Int}{N k m n:Nat}
theorem ez (h:b≤c) (ha:0≤a):a*b≤a*c:=m8 h ha
theorem yT (h:a≤b) (hc:0≤c):a*c≤b*c:=vv h hc
structure Est (P U V t u2 v1 v2:Int):Prop where
 p:1≤P
 u: ∃r,0≤r∧r<P∧U=r+P*(t*1000000000+u2)
 v: ∃s,0≤s∧s<P∧V=s+P*(v1*1000000000+v2)
 t0:0≤t
 u20:0≤u2
 u21:u2<1000000000
 v10:1≤v1
 v20:0≤v2
 v21:v2<1000000000
 lt:U<1000000000*V
section
variable {P U V t u2 v1 v2 G R:Int}
theorem Est.top (h:Est P U V t u2 v1 v2):t≤v1*1000000000+999999999:=by
 obtain⟨p,⟨r,r0,r1,eU⟩,⟨s,s0,s1,eV⟩,t0,u20,u21,v10,v20,v21,lt⟩:=h
 rcases nj (v1*1000000000+999999999) t with h1|h1
 ·exfalso
  have h2:P*((v1*1000000000+1000000000)*1000000000)≤P*(t*1000000000+u2):=ez (by omega) (by omega)
  have h3:P*(v1*1000000000+v2)≤P*(v1*1000000000+999999999):=ez (by omega) (by omega)
  grind
 grind
theorem Est.first (h:Est P U V t u2 v1 v2):U<(t/v1+1)*V:=by
 obtain⟨p,⟨r,r0,r1,eU⟩,⟨s,s0,s1,eV⟩,t0,u20,u21,v10,v20,v21,lt⟩:=h
 have e:=yc t v1
 have e2:=oJ t (show 0<v1 by omega)
 have hG:0≤t/v1:=uC t0 (by omega)
 generalize t/v1=G at*
 have h1:t+1≤(G+1)*v1:=by grind
 have h2:P*((t+1)*1000000000)≤P*((G+1)*v1*1000000000):=ez (by omega) (by omega)
 have h3:0≤(G+1)*s:=fU (by omega) s0
 have h4:0≤(G+1)*(P*v2):=fU (by omega) (fU (by omega) v20)
 have h5:P*(t*1000000000+u2)+P≤P*((t+1)*1000000000):=by
  have:=ez (a:=P) (show t*1000000000+u2+1≤(t+1)*1000000000 by omega) (by omega)
  grind
 have e3:(G+1)*V=(G+1)*s+P*((G+1)*v1*1000000000)+(G+1)*(P*v2):=by grind
 omega
theorem Est.v0 (h:Est P U V t u2 v1 v2):0<V:=by
 obtain⟨p,⟨r,r0,r1,eU⟩,⟨s,s0,s1,eV⟩,t0,u20,u21,v10,v20,v21,lt⟩:=h
 have h2:P*1≤P*(v1*1000000000+v2):=ez (by omega) (by omega)
 omega
theorem Est.u0 (h:Est P U V t u2 v1 v2):0≤U:=by
 obtain⟨p,⟨r,r0,r1,eU⟩,⟨s,s0,s1,eV⟩,t0,u20,u21,v10,v20,v21,lt⟩:=h
 have h2:P*0≤P*(t*1000000000+u2):=ez (by omega) (by omega)
 omega
theorem Est.big (h:Est P U V t u2 v1 v2) (hG:1000000000≤G):U<(G-1+1)*V:=by
 have h1:=yT (c:=V) hG (qw h.v0)
 have h2:=h.lt
 grind
theorem Est.test (h:Est P U V t u2 v1 v2) (hG:0≤G) (hR:R=t-G*v1) (ht:R*1000000000+u2<G*v2):U<(G-1+1)*V:=by
 obtain⟨p,⟨r,r0,r1,eU⟩,⟨s,s0,s1,eV⟩,t0,u20,u21,v10,v20,v21,lt⟩:=h
 have h1:t*1000000000+u2+1≤G*(v1*1000000000+v2):=by grind
 have h2:=ez (a:=P) h1 (by omega)
 have h3:0≤G*s:=fU hG s0
 have e3:G*V=G*s+P*(G*(v1*1000000000+v2)):=by grind
 grind
theorem Est.done (h:Est P U V t u2 v1 v2) (hG:0≤G) (hG1:G<1000000000) (hR:R=t-G*v1) (ht:G*v2≤R*1000000000+u2):(G-1)*V≤U:=by
 have hu0:=h.u0
 obtain⟨p,⟨r,r0,r1,eU⟩,⟨s,s0,s1,eV⟩,t0,u20,u21,v10,v20,v21,lt⟩:=h
 rcases nj G 1 with hg|hg
 ·grind
 ·have h1:G*(v1*1000000000+v2)≤t*1000000000+u2:=by
   have e:G*(v1*1000000000+v2)=G*v1*1000000000+G*v2:=by grind
   omega
  have h2:=ez (a:=P) h1 (by omega)
  have h3:(G-1)*s≤(G-1)*P:=ez (by omega) (by omega)
  have h4:P*(G-1)≤P*(v1*1000000000+v2):=ez (by omega) (by omega)
  have e3:(G-1)*V=(G-1)*s+P*(G*(v1*1000000000+v2))-P*(v1*1000000000+v2):=by grind
  have e4:(G-1)*P=P*(G-1):=by grind
  omega
theorem Est.off (h:Est P U V t u2 v1 v2) (hG:0≤G) (hR:R=t-G*v1) (hb:1000000000≤R):G<1000000000∧G*v2≤R*1000000000+u2:=by
 have ht:=h.top
 obtain⟨p,_,_,t0,u20,u21,v10,v20,v21,lt⟩:=h
 have h1:G<1000000000:=by
  rcases nj G 1000000000 with h1|h1
  ·grind
  ·exfalso
   have:=yT (c:=v1) h1 (by omega)
   omega
 have h2:G*v2≤999999999*999999999:=qS (by omega) (by omega) v20 (by omega)
 grind
theorem Est.small (h:Est P U V t u2 v1 v2):t/v1≤2000000000∧0≤t/v1:=by
 have ht:=h.top
 have:=h.v10
 have:=h.t0
 refine⟨?_,uC (by omega) (by omega)⟩
 have h1:t/v1<2000000001:=Int.ediv_lt_of_lt_mul (by omega) (by omega)
 omega
end
theorem P5 (hl:Lim us) (hN:us.length=N) (hk:k+n<N) (hlt:val (us.drop (k+1))<V) (hV:V<pw n):
 val ((us.drop k).take (n+1))=val (us.drop k)∧val (us.drop (k+(n+1)))=0∧val (us.drop k)<1000000000*V:=by
 have d1:us.drop k=us[k]::us.drop (k+1):=nI (by omega)
 have h0:=hl us[k] (wv _)
 have e1:val (us.drop k)=us[k]+1000000000*val (us.drop (k+1)):=by rw[d1,ed]
 have h2:val (us.drop k)<pw (n+1):=by rw[dT];omega
 have e2:=lE (us.drop k) (n+1) (by rw[lZ];omega)
 rw[List.drop_drop] at e2
 have h3:=cS ((hl.drop k).take (n+1))
 have h4:=cS (hl.drop (k+(n+1)))
 have h5:=cU (n+1)
 have h6:val (us.drop (k+(n+1)))=0:=by
  rcases nj 0 (val (us.drop (k+(n+1)))) with h7|h7
  ·have:=ez (a:=pw (n+1)) (show 1≤val (us.drop (k+(n+1))) by omega) (by omega)
   omega
  grind
 grind
theorem adU (hl:Lim xs) (h0:xs[m]? =some a) (h1:xs[m+1]? =some b) (h2:xs[m+2]? =some c):
 ∃r,0≤r∧r<pw m∧val (xs.take (m+3))=r+pw m*((c*1000000000+b)*1000000000+a):=by
 refine⟨val (xs.take m),cS (hl.take m),?_,?_⟩
 ·have:=fR (hl.take m)
  grind
 ·have e:pw (m+2)=1000000000*pw (m+1):=dT (m+1)
  rw[bm h2,bm h1,bm h0,e,dT]
  grind
theorem ad9 (hl:Lim xs) (h0:xs[m]? =some a) (h1:xs[m+1]? =some b) (hn:xs.length=m+2):
 ∃r,0≤r∧r<pw m∧val xs=r+pw m*(b*1000000000+a):=by
 refine⟨val (xs.take m),cS (hl.take m),?_,?_⟩
 ·have:=fR (hl.take m)
  rwa [gX,q5 (by omega)] at this
 ·have e:val xs=val (xs.take (m+2)):=by rw[de (by omega)]
  rw[e,bm h1,bm h0,dT]
  grind
structure Kd (us qs V:List Int) (T:Int) (N n k:Nat):Prop where
 ul:Lim us
 un:us.length=N
 ql:Lim qs
 qn:qs.length=N-n
 lt:val (us.drop k)<val V
 eq:val us+val V*(pw k*val (qs.drop k))=T
theorem Kd.step {V:List Int}{T Q:Int}(h:Kd us qs V T N n (k+1)) (hn:V.length=n) (hk:k+n<N) (_hV:Lim V) (hz:Lim zs) (hzn:zs.length=n+1) (h0:0≤Q) (h1:Q<1000000000)
 (hv:val zs=val (us.drop k)-Q*val V) (hlt:val zs<val V) (hzero:val (us.drop (k+(n+1)))=0):Kd (us.take k++zs++us.drop (k+(n+1))) (qs.set k Q) V T N n k:=by
 have hu:=h.un
 have hq:=h.qn
 have hkl:(us.take k).length=k:=by grind
 have e1:(us.take k++zs++us.drop (k+(n+1))).drop k=zs++us.drop (k+(n+1)):=by grind
 have e2:val (zs++us.drop (k+(n+1)))=val zs:=by rw[qC,hzero];simp
 have e3:val (us.take k++zs++us.drop (k+(n+1)))=val (us.take k)+pw k*val zs:=by
  rw[wx,qC,hkl,e2]
 have e4:val us=val (us.take k)+pw k*val (us.drop k):=lE us k (by omega)
 have e5:(qs.set k Q).drop k=Q::qs.drop (k+1):=by
  rw[nI (by simp;omega),List.getElem_set_self,Dv (by omega)]
 refine⟨((h.ul.take k).append hz).append (h.ul.drop _),by simp;omega,h.ql.set h0 h1,by simp[hq],by rw[e1,e2];exact hlt,?_⟩
 rw[e3,e5,ed,hv]
 have:=h.eq
 rw[e4,dT] at this
 grind
theorem VW {P:Int}(h:val zs+P* -C=U-F*V) (h0:0≤C) (hC: ¬0<C) (hU:U<(F+1)*V):val zs=U-F*V∧val zs<V:=by grind
theorem UU {E:Int}(lz:Lim zs) (hz:zs.length=n+1) (ly:Lim ys) (hy:ys.length=n+1) (h:val zs+pw (n+1)* -C=U-F*V) (hC:0<C) (hU:(F-1)*V≤U) (hU0:0≤U) (hF:0≤F) (hV:V<pw n) (hV0:0<V)
 (h2:val ys+pw (n+1)*E=val zs+V):val ys=U-(F-1)*V∧val ys<V∧0≤F-1:=by
 have z1:=fR lz
 have y0:=cS ly
 have y1:=fR ly
 have hp:=dT n
 have hc1:=ez (a:=pw (n+1)) (show 1≤C by omega) (by omega)
 have hE:E=C:=by
  rcases nj E C with h3|h3
  ·have:=ez (a:=pw (n+1)) (show E+1≤C by omega) (by omega)
   grind
  ·rcases nj C E with h4|h4
   ·have:=ez (a:=pw (n+1)) (show C+1≤E by omega) (by omega)
    grind
   grind
 grind
theorem Si (hk:k≤us.length) (hz:zs.length=m) (rest:List Int):((us.take k++zs++rest).drop k).take m=zs:=by grind
theorem NI (hk:k≤us.length) (hz:zs.length=m):
 (us.take k++zs++us.drop (k+m)).take k++ys++(us.take k++zs++us.drop (k+m)).drop (k+m)=us.take k++ys++us.drop (k+m):=by
 congr 1
 ·grind
 ·rw[GU (by simp;omega),qI (by simp;omega),tF]
theorem Kd.fin {V X Y:List Int}(h:Kd us qs V (val X*S) N n 0) (hV:val V=val Y*S) (hS:1≤S) (_hp:0<val V) (_hX:Lim X):val qs=val X/val Y∧val us/S=val X%val Y:=by
 have h1:=h.lt
 have h2:=h.eq
 simp only[wC,uJ,js] at h1 h2
 have h0:=cS h.ul
 rw[hV] at h1 h2 _hp
 have e1:=yc (val us) S
 have e2:=oJ (val us) (show 0<S by omega)
 have e3:=po (val us) (show S≠0 by omega)
 have e4:(val us%S)=S*(val X-val Y*val qs-val us/S):=by grind
 have e5:val X-val Y*val qs-val us/S=0:=by
  generalize val X-val Y*val qs-val us/S=z at*
  rcases nj 0 z with h3|h3
  ·have:=ez (a:=S) (show 1≤z by omega) (by omega)
   omega
  ·rcases nj z 0 with h4|h4
   ·have:=ez (a:=S) (show z≤ -1 by omega) (by omega)
    omega
   grind
 have hr0:0≤val us/S:=uC h0 (by omega)
 have hr1:val us/S<val Y:=Int.ediv_lt_of_lt_mul (by omega) h1
 generalize val us/S=r at*
 have e6:val X=r+val Y*val qs:=by omega
 rw[e6,Int.add_mul_ediv_left _ _ (by omega),Int.ediv_eq_zero_of_lt hr0 hr1,Int.add_mul_emod_self_left,Int.emod_eq_of_lt hr0 hr1]
 grind
end Go.Proofs.YtegpmhlfjkhjmaaGreat
namespace Go.Proofs.YtegpmhlfjkhjmaaGreat
open Go.RowKit
theorem qF {P:Program}(w:World) (base:Nat) (t ty e:TypeId) (i:TypeInfo) (size c:Nat) (ht:P.underlying t=some (.slice e)) (hi:P.info? e=some i)
 (v:Value) (n:Nat) (xs:List Value) (hown:w.ownsRow base e size v n xs):
 (Builtin.append_ #[t,t] ty #[v,.slice none 0 c]).run P w=.ok v w:=by
 rcases hown.2 with⟨rfl,rfl⟩|⟨g,cap,cur,rfl,_,_,hnc,_⟩
 ·simp[Builtin.append_,run_underlying ht,sizeOf,typeInfo,hi,Builtin.lenOf,Builtin.firstCells]
 ·simp[Builtin.append_,run_underlying ht,sizeOf,typeInfo,hi,Builtin.lenOf,Builtin.firstCells,hnc,storeCells]
set_option maxRecDepth 10000 in
theorem HE {w:World}{ops:Array Oper}{rest:List Oper}{o:Oper}{a:Act}{Q:Exit→Act→World→Prop}(hgd:o.guard=none) (s x:Operand)
 (ho:o.op=.call {callee:=.builtin .append,args:= #[s,x],argTypes:= #[34,34]})
 (A:Option Addr) (n c:Nat) (xs:List Int) (hs:a.eval s=.slice none 0 0) (hx:a.eval x=.slice A n c) (ha:Sl w A n c xs) (hn:n≤1000000000)
 (h: ∀v' w',Ow w' w.heap.size v' n xs→w.grownBy w' none→wpList Tryz.prog ops Q rest (a.put o.dst v') w'):wpList Tryz.prog ops Q (o::rest) a w:=by
 obtain⟨i0,hi0,hz0,hz1,hz2⟩:=info_parts oH
 have hla:=ha.len
 cases A with
 |none=>
  have h0:n=0:=by
   rcases li n with h0|h0
   ·exact h0
   ·obtain⟨b,off,e,_⟩:=ha.1.2 h0;cases e
  subst h0
  obtain rfl:=nJ.1 hla
  refine wpList_plain hgd fun K hK=>?_
  have hrun:=qF (P:=Tryz.prog) w w.heap.size 34 o.type 194 i0 1 c pi hi0 (.slice none 0 0) 0 [] (ra _ _ _ _)
  unfold Oper.wp
  simp[execOp,ho,resolve,invoke,builtin,hs,hx,hrun,Result.andThen]
  exact hK _ _ (h _ _ ⟨ra _ _ _ _,Lim.nil⟩ (World.grownBy.refl _ _))
 |some ad=>
  refine wpList_append_own w hgd s x 34 ho w.heap.size 194 i0 (.int .u32 0) 1 4 pi hi0 hz0 hz1 hz2 rfl (by decide) (.slice none 0 0) 0 [] hs (ra _ _ _ _) ad n c (xs.map (Value.int .u32)) hx (by simp[hla]) ?_ (by intro u hu;simp at hu;obtain⟨z,_,rfl⟩:=hu;simp[Value.oneCell']) (by unfold maxLen;omega) (by omega) (ck _) ?_
  ·intro j u hu
   have hj:0<n:=by
    rcases li n with h0|h0
    ·subst h0
     obtain rfl:=nJ.1 hla
     simp at hu
    ·exact h0
   obtain⟨b,off,e,hlt,hc⟩:=ha.1.2 hj
   injection e with e
   subst e
   have:=hc j u hu
   unfold Addr.add
   split
   ·rename_i h0;subst h0;exact this
   ·exact this
  ·intro v' w' hown hgr _
   refine h v' w' ⟨by simpa using hown,ha.2.2.2⟩ ?_
   simpa [Value.ownBlock] using hgr
theorem Ux {ys:List Int}{y:Int}(h:trm ys=[y]):val ys=y:=by
 rw[←ja,h];simp[val]
set_option maxHeartbeats 1000000 in
set_option maxRecDepth 10000 in
theorem Ki (A B:Option Addr) (n c m d:Nat) (xs ys:List Int) (w:World) (ha:Sl w A n c xs) (hb:Sl w B m d ys) (hn:n≤100000000) (h1:(trm ys).length=1):
 Calls Tryz.prog 348 #[.slice A n c,.slice B m d] w (D2 w (val xs/val ys) (val xs%val ys)):=by
 obtain⟨X,hX⟩: ∃X,trm xs=X:=⟨_,rfl⟩
 obtain⟨Y,hY⟩: ∃Y,trm ys=Y:=⟨_,rfl⟩
 obtain⟨k,hk⟩: ∃k,X.length=k:=⟨_,rfl⟩
 have ta:=ha.trm
 have tb:=hb.trm
 have nb:=uz ys
 have hva:=ja xs
 rw[hX] at ta hva
 have hkn:k≤n:=by have:=uo xs;rw[hX,hk,ha.len] at this;exact this
 rw[h1] at tb
 rw[hY] at tb h1 nb
 rw[hk] at ta
 obtain⟨b1,o1,y,e1,hb1,hy,hc1,hy0,hy1⟩:=tb.at_ (show 0<1 by omega)
 rw[rZ] at hc1
 have hYy:Y=[y]:=by
  cases Y with
  |nil=>simp at h1
  |cons z zs=>
   simp at h1
   subst h1
   have:=hy.out
   simp at this
   rw[this]
 have hvy:val ys=y:=Ux (by rw[hY,hYy])
 have hyp:0<y:=by
  rw[hYy] at nb
  rcases nj 0 y with h2|h2
  ·exact h2
  ·have:y=0:=by omega
   subst this
   cases nb
 subst e1
 rw[hvy,←hva]
 have HX:=ix hX
 have HY:=ix hY
 have Hk:=ix hk
 have Hl:=ix h1
 clear hX hY hk h1 hva nb hYy hvy
 go_enter Tryz.func348,Tryz.ntmps348
 go_wp2_with fail
 refine(ns A n c k xs X w ha HX Hk).mono ?_
 rintro e w1 ⟨rfl,rfl⟩
 go_wp2_with fail
 refine(ns _ m d 1 ys Y w hb HY Hl).mono ?_
 rintro e w1 ⟨rfl,rfl⟩
 go_wp2_with fail
 refine(DP A k c X y w ta (by omega) hyp hy1).mono ?_
 rintro e w' ⟨A1,n1,c1,zs,B1,m1,d1,rs,rfl,h2,h3,h4,h5,h6⟩
 go_wp2
 go_ret2
 exact⟨A1,n1,c1,zs,B1,m1,d1,rs,rfl,h2,h3,h4,h5,h6⟩
set_option maxHeartbeats 1000000 in
set_option maxRecDepth 10000 in
theorem Ig (A B:Option Addr) (n c m d:Nat) (xs ys:List Int) (w:World) (ha:Sl w A n c xs) (hb:Sl w B m d ys) (hn:n≤100000000) (h1:(trm ys).length≠1) (hlt:val xs<val ys):
 Calls Tryz.prog 348 #[.slice A n c,.slice B m d] w (D2 w (val xs/val ys) (val xs%val ys)):=by
 obtain⟨X,hX⟩: ∃X,trm xs=X:=⟨_,rfl⟩
 obtain⟨Y,hY⟩: ∃Y,trm ys=Y:=⟨_,rfl⟩
 obtain⟨k,hk⟩: ∃k,X.length=k:=⟨_,rfl⟩
 obtain⟨l,hl⟩: ∃l,Y.length=l:=⟨_,rfl⟩
 have ta:=ha.trm
 have tb:=hb.trm
 have hva:=ja xs
 have hvb:=ja ys
 rw[hX] at ta hva
 rw[hY] at tb h1 hvb
 have hkn:k≤n:=by have:=uo xs;rw[hX,hk,ha.len] at this;exact this
 rw[hk] at ta
 rw[hl] at tb h1
 have hlb:l≤9223372036854775807:=by have:=tb.2.1;have:=tb.2.2.1;omega
 have hq:val xs/val ys=0:=Int.ediv_eq_zero_of_lt (cS ha.2.2.2) hlt
 have hr:val xs%val ys=val xs:=Int.emod_eq_of_lt (cS ha.2.2.2) hlt
 rw[hq,hr,←hva]
 have Hc:Hid (fk (val X) (val Y)= -1):=by show _=_;rw[hva,hvb];exact fK hlt
 have HX:=ix hX
 have HY:=ix hY
 have Hk:=ix hk
 have Hl:=ix hl
 have hne:((l:Int)==1)=false:=by simp;omega
 clear hX hY hk hl hva hvb hq hr hlt h1
 go_enter Tryz.func348,Tryz.ntmps348
 go_wp2_with fail
 refine(ns A n c k xs X w ha HX Hk).mono ?_
 rintro e w1 ⟨rfl,rfl⟩
 go_wp2_with fail
 refine(ns _ m d l ys Y w hb HY Hl).mono ?_
 rintro e w1 ⟨rfl,rfl⟩
 go_wp2_with fail
 refine(oI A B k c l d X Y w ta tb).mono ?_
 rintro e w1 ⟨rfl,hb1⟩
 rw[Hc.out]
 go_wp2_with (at_builtin;go_must (refine HE rfl _ _ rfl A k c X rfl rfl (ta.below hb1) (by omega) ?_);intro v' w2 hown hgr)
 obtain⟨A',c',rfl⟩:=hown.form
 go_ret2
 exact⟨none,0,0,[],A',k,c',X,rfl,⟨ra _ _ _ _,Lim.nil⟩,rfl,hown.le hb1.size,rfl,hb1.grown hgr hb1.size (by simp)⟩
end Go.Proofs.YtegpmhlfjkhjmaaGreat
