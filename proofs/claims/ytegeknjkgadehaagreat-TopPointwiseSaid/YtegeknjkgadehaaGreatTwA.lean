/-Plain arithmetic of numbers in limbs of base 10^9:what a list of limbs is worth;leading zeros;sizes. No condition. -/
import Derived.WalkKit
import Derived.Below
import Derived.Laws.OwnMore
import Derived.Deep.Draws
import Derived.WalkSmall
import Derived.Lib.Hide
import Derived.Test.YtegeknjkgadehaaGreatProg
import Derived.WalkSpells
import Derived.WalkLawsBesides
import Derived.StillTactics
import Derived.Outline
import Derived.Deep.QuietTactic
import Derived.BigQuiet
import Derived.Deep.RegionHeld3
import Derived.Handy
import Derived.RegionTactic
import Derived.ChangeAlike
import Derived.BigRegion
import Derived.Laws.AppendOwnNone
namespace Go.Proofs.YtegeknjkgadehaaGreat
variable {d x:Int}{xs ys zs:List Int}{i k m n:Nat}
theorem bd:type_of% @Nat.le_refl:=@Nat.le_refl
theorem dc:type_of% @List.length_append:=@List.length_append
theorem ef:type_of% @Go.RowKit.Below.refl:=@Go.RowKit.Below.refl
theorem eu:type_of% @List.length_take:=@List.length_take
theorem dt:type_of% @Nat.zero_add:=@Nat.zero_add
theorem dK:type_of% @Nat.min_eq_left:=@Nat.min_eq_left
theorem dO:type_of% @List.mem_cons:=@List.mem_cons
theorem dY:type_of% @List.getElem?_eq_getElem:=@List.getElem?_eq_getElem
theorem eo:type_of% @Nat.zero_le:=@Nat.zero_le
theorem eP:type_of% @List.length_drop:=@List.length_drop
theorem fw:type_of% @Nat.le_trans:=@Nat.le_trans
theorem f7:type_of% @List.mem_cons_self:=@List.mem_cons_self
theorem f9:type_of% @List.take_of_length_le:=@List.take_of_length_le
theorem gw:type_of% @Go.Lib.hid:=@Go.Lib.hid
theorem gF:type_of% @List.mem_cons_of_mem:=@List.mem_cons_of_mem
theorem iv:type_of% @List.length_eq_zero_iff:=@List.length_eq_zero_iff
theorem iN:type_of% @List.mem_append:=@List.mem_append
theorem iS:type_of% @Nat.eq_zero_or_pos:=@Nat.eq_zero_or_pos
theorem kE:type_of% @Nat.lt_of_lt_of_le:=@Nat.lt_of_lt_of_le
theorem kr:type_of% @Int.lt_or_le:=@Int.lt_or_le
theorem lu:type_of% @List.getElem?_map:=@List.getElem?_map
theorem lE:type_of% @List.drop_zero:=@List.drop_zero
theorem mh:type_of% @Int.mul_nonneg:=@Int.mul_nonneg
theorem nR:type_of% @Nat.lt_or_ge:=@Nat.lt_or_ge
theorem nL:type_of% @Go.Proofs.Tryz.underlying36:=@Go.Proofs.Tryz.underlying36
theorem oG:type_of% @List.drop_eq_getElem_cons:=@List.drop_eq_getElem_cons
theorem pg:type_of% @Int.emod_lt_of_pos:=@Int.emod_lt_of_pos
theorem p7:type_of% @Int.le_refl:=@Int.le_refl
theorem pv:type_of% @Int.mul_le_mul_of_nonneg_left:=@Int.mul_le_mul_of_nonneg_left
theorem pG:type_of% @List.drop_eq_nil_of_le:=@List.drop_eq_nil_of_le
theorem pI:type_of% @List.append_nil:=@List.append_nil
theorem p5:type_of% @Int.emod_nonneg:=@Int.emod_nonneg
theorem ro:type_of% @List.append_assoc:=@List.append_assoc
theorem qR:type_of% @Int.mul_le_mul:=@Int.mul_le_mul
theorem sU:type_of% @Int.mul_comm:=@Int.mul_comm
theorem ud:type_of% @List.take_length:=@List.take_length
theorem um:type_of% @Nat.add_zero:=@Nat.add_zero
theorem vN:type_of% @Go.RowKit.Below.heap_alloc:=@Go.RowKit.Below.heap_alloc
theorem sC:type_of% @List.mem_of_getElem? :=@List.mem_of_getElem?
theorem sM:type_of% @List.take_append_of_le_length:=@List.take_append_of_le_length
theorem sK:type_of% @List.getElem?_eq_none:=@List.getElem?_eq_none
theorem rH:type_of% @Int.ediv_nonneg:=@Int.ediv_nonneg
theorem rI:type_of% @List.nil_append:=@List.nil_append
theorem ui:type_of% @List.drop_append_of_le_length:=@List.drop_append_of_le_length
theorem v5:type_of% @List.length_cons:=@List.length_cons
theorem wn:type_of% @List.mem_of_mem_take:=@List.mem_of_mem_take
theorem v8:type_of% @List.take_append_drop:=@List.take_append_drop
theorem wg:type_of% @Int.emod_add_mul_ediv:=@Int.emod_add_mul_ediv
theorem y8:type_of% @List.getElem_mem:=@List.getElem_mem
def val:List Int->Int
 |[]=>0
 |x::xs=>x+1000000000*val xs
def Lim (xs:List Int):Prop:= ∀x∈xs,0<=x/\x<1000000000
def pw (n:Nat):Int:=1000000000^n
theorem su:pw 0=1:=rfl
theorem d5 (n:Nat):pw (n+1)=1000000000*pw n:=by unfold pw;rw[Int.pow_succ,sU]
theorem dP (n:Nat):1<=pw n:=by
 induction n with
 |zero=>exact p7 _
 |succ n h=>rw[d5];omega
theorem wq (n m:Nat):pw (n+m)=pw n*pw m:=by unfold pw;exact Int.pow_add _ _ _
theorem nN (h:n<=m):pw n<=pw m:=by obtain⟨k,rfl⟩:=Nat.le.dest h;rw[wq];have D:=dP n;have j:=dP k;have:=pv j (show 0<=pw n by omega);omega
theorem Tz (h:pw n<pw m):n<m:=by
 rcases nR n m with j|j;·exact j
 ·have:=nN j;omega
theorem dG (x:Int) (xs:List Int):val (x::xs)=x+1000000000*val xs:=rfl
theorem oK (xs ys:List Int):val (xs++ys)=val xs+pw xs.length*val ys:=by
 induction xs with
 |nil=>simp[val,su]
 |cons x xs h=>
  rw[List.cons_append,dG,h,dG,v5,d5,Int.mul_add,Int.mul_assoc];omega
theorem pi (xs:List Int) (x:Int):val (xs++[x])=val xs+pw xs.length*x:=by rw[oK,dG];simp[val]
theorem Lim.nil:Lim []:=fun x h=>by cases h
theorem Lim.cons (E:0<=x) (D:x<1000000000) (h:Lim xs):Lim (x::xs):=by
 intro y j;rcases dO.1 j with rfl|j;·grind
 ·exact h y j
theorem Lim.head (h:Lim (x::xs)):0<=x/\x<1000000000:=h x (f7 ..)
theorem Lim.tail (h:Lim (x::xs)):Lim xs:=fun y j=>h y (gF _ j)
theorem Lim.append (h:Lim xs) (k:Lim ys):Lim (xs++ys):=by
 intro y j;rcases iN.1 j with j|j;·exact h y j
 ·exact k y j
theorem Lim.snoc (h:Lim xs) (j:0<=x) (D:x<1000000000):Lim (xs++[x]):=h.append (Lim.nil.cons j D)
theorem Lim.take (h:Lim xs) (n:Nat):Lim (xs.take n):=fun y j=>h y (wn j)
theorem Lim.drop (h:Lim xs) (n:Nat):Lim (xs.drop n):=fun y j=>h y (List.mem_of_mem_drop j)
theorem Lim.at_ (h:Lim xs) (j:xs[i]? =some x):0<=x/\x<1000000000:=h x (sC j)
theorem Lim.zeros (n:Nat):Lim (List.replicate n 0):=fun x h=>by rw[(List.mem_replicate.1 h).2];omega
theorem yu (n:Nat):val (List.replicate n 0)=0:=by
 induction n with
 |zero=>rfl
 |succ n h=>rw[List.replicate_succ,dG,h];rfl
theorem cm (h:Lim xs):0<=val xs:=by
 induction xs with
 |nil=>exact p7 _
 |cons x xs j=>
  have:=j h.tail;have:=h.head;rw[dG];omega
theorem eK (h:Lim xs):val xs<pw xs.length:=by
 induction xs with
 |nil=>exact Int.one_pos
 |cons x xs j=>
  have D:=j h.tail;have E:=h.head;rw[dG,v5,d5];omega
theorem kK (xs:List Int) (n:Nat) (h:n<=xs.length):val xs=val (xs.take n)+pw n*val (xs.drop n):=by have e:=oK (xs.take n) (xs.drop n);rw[v8,eu,dK h] at e;grind
def trm (xs:List Int):List Int:=(xs.reverse.dropWhile (· ==0)).reverse
theorem m7 (xs:List Int):trm (xs++[0])=trm xs:=by simp[trm]
theorem t9 (xs:List Int) (x:Int) (h:x≠0):trm (xs++[x])=xs++[x]:=by simp[trm,h]
theorem C3 {j:Type}(xs:List j):xs=[]\/ ∃ys y,xs=ys++[y]:=by
 rcases List.eq_nil_or_concat xs with h|⟨ys,y,h⟩;·grind
 grind
theorem L9 {p:List Int->Prop}(j:p []) (D: ∀xs,p xs->p (xs++[0])) (H: ∀xs x,x≠0->p (xs++[x])): ∀xs,p xs:=by
 intro xs;generalize h:xs.length=n;induction n generalizing xs with
 |zero=>rw[iv.1 h];exact j
 |succ n E=>
  rcases C3 xs with rfl|⟨ys,y,rfl⟩;·grind
  grind
theorem yh (xs:List Int): ∃n,n<=xs.length/\trm xs=xs.take n/\xs=xs.take n++List.replicate (xs.length-n) 0:=by
 refine L9 (p:=fun xs=> ∃n,n<=xs.length/\trm xs=xs.take n/\xs=xs.take n++List.replicate (xs.length-n) 0) ⟨0,bd _,rfl,rfl⟩ ?_ ?_ xs
 ·rintro xs ⟨n,h,e,D⟩;refine⟨n,by simp;omega,by rw[m7,e,sM h],?_⟩;rw[sM h,dc,show xs.length+[(0:Int)].length-n=(xs.length-n)+1 from by simp;omega,List.replicate_succ',<-ro,<-D]
 ·intro xs x j;exact⟨(xs++[x]).length,bd _,by rw[t9 _ _ j,ud],by rw[Nat.sub_self,ud];simp⟩
theorem ip (xs:List Int):val (trm xs)=val xs:=by
 obtain⟨n,j,e,h⟩:=yh xs;rw[e];conv=>rhs;rw[h]
 rw[oK,yu];simp
theorem sA (xs:List Int):(trm xs).length<=xs.length:=by obtain⟨n,h,e,_⟩:=yh xs;rw[e,eu];omega
theorem Lim.trm (h:Lim xs):Lim (trm xs):=by obtain⟨n,j,e,_⟩:=yh xs;rw[e];exact h.take n
def Nrm (xs:List Int):Prop:=trm xs=xs
theorem Nrm.nil:Nrm []:=rfl
theorem sf (xs:List Int):Nrm (trm xs):=by
 refine L9 (p:=fun xs=>Nrm (trm xs)) rfl ?_ ?_ xs;·intro xs h;rw[m7];exact h
 ·intro xs x j;rw[t9 _ _ j];exact t9 _ _ j
theorem Cw (xs:List Int) (x:Int) (h:x≠0):Nrm (xs++[x]):=t9 xs x h
theorem Nrm.last (h:Nrm xs) (E:xs≠ []): ∃ys y,xs=ys++[y]/\y≠0:=by
 rcases C3 xs with e|⟨ys,y,e⟩;·grind
 ·refine⟨ys,y,e,fun D=>?_⟩;subst D;have j:trm (ys++[0])=ys++[0]:=by rw[<-e];exact h
  rw[m7] at j;have H:=sA ys;grind
theorem Nrm.ge (h:Nrm xs) (hl:Lim xs) (D:xs≠ []):pw (xs.length-1)<=val xs:=by obtain⟨ys,y,rfl,H⟩:=h.last D;have I:=hl y (by simp);have J:=cm (fun z j=>hl z (by simp[j]):Lim ys);have E:=dP ys.length;rw[pi,show(ys++[y]).length-1=ys.length from by simp];have:=pv (show 1<=y by omega) (show 0<=pw ys.length by omega);omega
theorem LE: ∀ {xs ys:List Int},Lim xs->Lim ys->xs.length=ys.length->val xs=val ys->xs=ys
 |[],[],_,_,_,_=>rfl
 |[],y::ys,_,_,h,_=>by simp at h
 |x::xs,[],_,_,h,_=>by simp at h
 |x::xs,y::ys,hx,hy,hl,hv=>by
  rw[dG,dG] at hv;have E:=hx.head;have H:=hy.head;have D:x=y:=by omega
  have j:val xs=val ys:=by omega
  rw[D,LE hx.tail hy.tail (by simpa using hl) j]
theorem Nrm.len (h:Nrm xs) (hl:Lim xs) (D:val xs<pw k):xs.length<=k:=by
 rcases Classical.em (xs=[]) with j|j;·grind
 ·have H:=h.ge hl j;have E:=Tz (show pw (xs.length-1)<pw k by omega);grind
theorem Nrm.inj (E:Nrm xs) (H:Nrm ys) (D:Lim xs) (j:Lim ys) (h:val xs=val ys):xs=ys:=by have I:=E.len D (k:=ys.length) (by rw[h];exact eK j);have J:=H.len j (k:=xs.length) (by rw[<-h];exact eK D);exact LE D j (by omega) h
def dC (a b:Int):Int:=if a<b then-1 else if b<a then 1 else 0
theorem AK (j:Nrm ys) (E:Lim xs) (D:Lim ys) (h:xs.length<ys.length):val xs<val ys:=by have I:=eK E;have J:=j.ge D (fun e=>by subst e;simp at h);have H:=nN (show xs.length<=ys.length-1 by omega);omega
theorem Fg (lx:Lim xs) (ly:Lim ys) {y:Int}(E:xs[i]? =some x) (H:ys[i]? =some y) (I:xs.drop (i+1)=ys.drop (i+1)) (h:x<y):val xs<val ys:=by
 have D:i<xs.length:=by grind
 have j:i<ys.length:=by grind
 have e1:=kK xs i (by omega);have e2:=kK ys i (by omega);have J:xs.drop i=x::xs.drop (i+1):=by rw[oG D];congr;rw[dY D] at E;simpa using E
 have K:ys.drop i=y::ys.drop (i+1):=by rw[oG j];congr;rw[dY j] at H;simpa using H
 rw[J,dG] at e1;rw[K,dG,<-I] at e2;have W:=eK (lx.take i);have h2:=cm (ly.take i);rw[eu,dK (by omega)] at W;have h3:=dP i;have h4:pw i*(x+1000000000*val (xs.drop (i+1)))+pw i<=pw i*(y+1000000000*val (xs.drop (i+1))):=by have:=pv (show x+1000000000*val (xs.drop (i+1))+1<=y+1000000000*val (xs.drop (i+1)) by omega) (show 0<=pw i by omega);grind
 omega
theorem aN (h:xs[k]? =some x):val (xs.take (k+1))=val (xs.take k)+pw k*x:=by
 have j:k<xs.length:=by grind
 rw[List.take_add_one,h];show val (xs.take k++[x])=_;rw[pi,eu,dK (by omega)]
theorem fr (h:xs.length<=k):val (xs.take (k+1))=val (xs.take k):=by rw[f9 (by omega),f9 h]
theorem cz (h:xs.length<=k):val (xs.take k)=val xs:=by rw[f9 h]
theorem mH {c S t c':Int}(hl:zs.length=k) (h:val zs+pw k*c=S) (j:d+1000000000*c'=c+t):val (zs++[d])+pw (k+1)*c'=S+pw k*t:=by rw[pi,hl,d5,<-h];grind
theorem AN {o:Int}(h:zs[k]? =some o):val (zs.set k d)=val zs+pw k*(d-o):=by
 induction zs generalizing k with
 |nil=>simp at h
 |cons z zs j=>
  cases k with
  |zero=>
   simp at h;rw[List.set_cons_zero,dG,dG,su];omega
  |succ k=>
   rw[List.set_cons_succ,dG,dG,j h,d5];grind
theorem Lim.set (h:Lim zs) (E:0<=d) (D:d<1000000000):Lim (zs.set k d):=by
 intro y j;rcases List.mem_or_eq_of_mem_set j with j|rfl;·exact h y j
 grind
theorem lF (h:zs.length=k):(zs++List.replicate (m+1) 0).set k d=(zs++[d])++List.replicate m 0:=by subst h;grind
theorem abh (h:zs.length=k):(zs++List.replicate (m+1) 0)[k]? =some 0:=by grind
def Zr (zs:List Int) (k:Nat):Prop:= ∀j z,k<=j->zs[j]? =some z->z=0
theorem Zr.zeros (n k:Nat):Zr (List.replicate n 0) k:=fun j z _ h=>by have:=sC h;exact(List.mem_replicate.1 this).2
theorem Zr.set (h:Zr zs k) (hi:i<k):Zr (zs.set i d) k:=fun j z E D=>by rw[List.getElem?_set_ne (by omega)] at D;exact h j z E D
theorem Zr.set_at (h:Zr zs k):Zr (zs.set k d) (k+1):=fun j z E D=>by rw[List.getElem?_set_ne (by omega)] at D;exact h j z (by omega) D
theorem oa (h:zs.length=n) (j:k<n): ∃x,zs[k]? =some x:=by simp_all
end Go.Proofs.YtegeknjkgadehaaGreat
namespace Go.Proofs.YtegeknjkgadehaaGreat
open Go.RowKit
variable {C a b o u x y:Int}{os us xs ys zs:List Int}{B base c i k n sz:Nat}{A:Option Addr}{row:Option Nat}{e:TypeId}{v:Value}{w w' wr:World}
theorem Below.drewN' {a:World}(h:Below B a w) (n:Nat):Below B a (w.drewN n):=⟨h.os,h.tape,h.output,h.size,h.block⟩
def Rd (w:World) (sz:Nat) (A:Option Addr) (n:Nat) (xs:List Value):Prop:=
 xs.length=n*sz/\(0<n-> ∃b off,A=some ⟨b,off,none⟩/\b<w.heap.size/\ ∀j u,xs[j]? =some u->w.cell? ⟨b,off+j,none⟩=some u)
section
variable {w w':World}{sz n:Nat}{A:Option Addr}{xs:List Value}
theorem Rd.nil:Rd w sz A 0 []:=⟨by simp,fun h=>absurd h (by omega)⟩
theorem Rd.below (h:Rd w sz A n xs) (E:Below w.heap.size w w'):Rd w' sz A n xs:=
 ⟨h.1,fun H=>by obtain⟨b,off,e,D,I⟩:=h.2 H;exact⟨b,off,e,kE D E.size,fun j u J=>(E.cell (p:=⟨b,off+j,none⟩) D).trans (I j u J)⟩⟩
theorem Rd.own (h:w.ownsRow base e sz (.slice A n c) n xs):Rd w sz A n xs:=by
 refine⟨h.1,fun hn=>?_⟩;rcases h.2 with⟨_,h0⟩|⟨g,cap,E,I,_,hg,W,_,J,D⟩;·omega
 ·have K:A=some ⟨g,0,none⟩:=by injection I
  subst K;have H:g<w.heap.size:=by grind
  refine⟨g,0,rfl,H,fun j u hu=>?_⟩;rw[dt,cell_of_row w g j E e (0,0) hg];grind
theorem Rd.at_ (h:Rd w 1 A n xs) (E:k<n): ∃b off u,A=some ⟨b,off,none⟩/\b<w.heap.size/\xs[k]? =some u/\w.cell? ⟨b,off+k,none⟩=some u:=by
 obtain⟨b,off,e,j,D⟩:=h.2 (by omega);have hl:k<xs.length:=by have:=h.1;omega
 exact⟨b,off,xs[k],e,j,dY hl,D k _ (dY hl)⟩
end
theorem KA {xs:List Value}(h:w.ownsRow base e sz v n xs): ∀g,v.ownBlock=some g->base<=g:=by
 intro g j;rcases h.2 with⟨rfl,_⟩|⟨H,cap,D,rfl,E,_⟩;·simp[Value.ownBlock] at j
 ·simp[Value.ownBlock] at j;omega
theorem yF {xs:List Value}(h:w.ownsRow base e sz v n xs) (I:Below w.heap.size w wr):wr.ownsRow base e sz v n xs:=by
 refine⟨h.1,?_⟩;rcases h.2 with W|⟨g,cap,D,E,H,J,r⟩;·grind
 ·have j:g<w.heap.size:=by
   rcases nR g w.heap.size with K|K;·grind
   grind
  exact .inr ⟨g,cap,D,E,H,(I.block g j).trans J,r⟩
theorem iY {w1:World}{xs:List Value}{o:Obj}(h:wr.ownsRow base e sz v n xs) (E:Below base w wr) (j:base<=wr.heap.size)
 (D:(wr.alloc o).grownBy w1 v.ownBlock):Below base w w1:=
 (E.alloc j o).grown D (by simp;omega) (KA h)
theorem pB (w:World) (base sz:Nat) (e:TypeId):w.ownsRow base e sz (.slice none 0 0) 0 []:=⟨by simp,.inl ⟨rfl,rfl⟩⟩
theorem Oh (j:Below w.heap.size w w') {a:Addr}(h:w.cell? a=some v):w'.cell? a=some v:=(j.cell (World.block_lt_of_cell? w a h)).trans h
def Bk (w:World) (g:Nat) (t:TypeId) (cs:Array Value):Prop:=w.heap[g]? =some (.cells cs t (0,0))
section
variable {w w':World}{g:Nat}{t:TypeId}{cs:Array Value}
theorem Bk.lt (h:Bk w g t cs):g<w.heap.size:=by
 rcases nR g w.heap.size with j|j;·grind
 ·unfold Bk at h;rw[Array.getElem?_eq_none j] at h;cases h
theorem Bk.cell (h:Bk w g t cs) (i:Nat):w.cell? ⟨g,i,none⟩=cs[i]? :=cell_of_row w g i cs t (0,0) h
theorem Bk.frozen (h:Bk w g t cs) (i:Nat):w.frozen? ⟨g,i,none⟩=false:=by unfold Bk at h;simp[World.frozen?,h]
theorem Bk.new (w:World) (t:TypeId) (cs:Array Value):Bk (w.alloc (.cells cs t)) w.heap.size t cs:=heap_alloc_new w _
theorem Bk.alloc (h:Bk w g t cs) (o:Obj):Bk (w.alloc o) g t cs:=(vN w o g h.lt).trans h
theorem Bk.below (h:Bk w g t cs) (j:Below w.heap.size w w'):Bk w' g t cs:=(j.block g h.lt).trans h
theorem Bk.grown (h:Bk w g t cs) (D:w.grownBy w' row) (j:some g≠row):Bk w' g t cs:=(D.block g h.lt j).trans h
end
def RdI (k:IntKind) (w:World) (A:Option Addr) (n:Nat) (xs:List Int):Prop:=Rd w 1 A n (xs.map (Value.int k))
section
variable {k:IntKind}{w w':World}{n:Nat}{A:Option Addr}{xs:List Int}
theorem RdI.len (h:RdI k w A n xs):xs.length=n:=by have:=h.1;simpa using this
theorem RdI.below (h:RdI k w A n xs) (j:Below w.heap.size w w'):RdI k w' A n xs:=Rd.below h j
theorem RdI.at_ (h:RdI k w A n xs) (hi:i<n): ∃b off x,A=some ⟨b,off,none⟩/\b<w.heap.size/\Hid (xs[i]? =some x)/\w.cell? ⟨b,off+i,none⟩=some (.int k x):=by
 obtain⟨b,off,u,e,D,j,H⟩:=Rd.at_ h hi;rw[lu] at j;cases E:xs[i]? with
 |none=>rw[E] at j;cases j
 |some q=>rw[E] at j;simp at j;exact⟨b,off,q,e,D,rfl,by rw[H,j]⟩
theorem RdI.lit (w:World) (t:TypeId) (k:IntKind) (xs:List Int) (cs:Array Value) (b n:Nat) (D:w.heap.size=b) (h:cs=(xs.map (Value.int k)).toArray) (E:xs.length=n):RdI k (w.alloc (.cells cs t)) (some ⟨b,0,none⟩) n xs:=by subst D h E;refine⟨by simp,fun _=>⟨w.heap.size,0,rfl,by simp,fun j u H=>?_⟩⟩;rw[dt,(Bk.new w t _).cell j];grind
theorem BU {w:World}{n:Nat}{xs:List Value}(h:w.ownsRow base e sz v n xs): ∃A c,v=.slice A n c:=by
 rcases h.2 with⟨rfl,rfl⟩|⟨g,cap,j,rfl,_⟩;·grind
 grind
theorem xJ {j:Type}{xs:List j}{k:Nat}{x:j}(h:xs[k]? =some x):xs.take (k+1)=xs.take k++[x]:=by rw[List.take_add_one,h];rfl
end
def Sl (w:World) (A:Option Addr) (n c:Nat) (xs:List Int):Prop:=RdI .u32 w A n xs/\n<=c/\c<=9223372036854775807/\Lim xs
section
variable {w w':World}{A:Option Addr}{n c:Nat}{xs:List Int}
theorem Sl.below (h:Sl w A n c xs) (j:Below w.heap.size w w'):Sl w' A n c xs:=⟨h.1.below j,h.2.1,h.2.2.1,h.2.2.2⟩
theorem Sl.len (h:Sl w A n c xs):xs.length=n:=h.1.len
theorem Sl.take (h:Sl w A n c xs) (k c':Nat) (J:k<=n) (H:k<=c') (D:c'<=9223372036854775807):Sl w A k c' (xs.take k):=by refine⟨⟨by have:=h.len;simp;omega,fun I=>?_⟩,H,D,h.2.2.2.take k⟩;obtain⟨b,off,e,E,j⟩:=h.1.2 (by omega);grind
theorem Sl.at_ (h:Sl w A n c xs) (hi:i<n): ∃b off x,A=some ⟨b,off,none⟩/\b<w.heap.size/\Hid (xs[i]? =some x)/\w.cell? ⟨b,off+i,none⟩=some (.int .u32 x)/\0<=x/\x<1000000000:=by obtain⟨b,off,x,e,D,j,E⟩:=h.1.at_ hi;exact⟨b,off,x,e,D,j,E,(h.2.2.2.at_ j.out).1,(h.2.2.2.at_ j.out).2⟩
end
theorem qv (h:xs[k]? =some x) (j:x=0):trm (xs.take (k+1))=trm (xs.take k):=by rw[xJ h,j,m7]
theorem qg (h:xs[k]? =some x) (j:x≠0):trm (xs.take (k+1))=xs.take (k+1):=by rw[xJ h,t9 _ _ j]
theorem Ji (h:xs.length=n):trm (xs.take n)=trm xs:=by rw[f9 (by omega)]
set_option maxHeartbeats 400000 in
theorem jO (neg:Bool) (A:Option Addr) (n c:Nat) (xs:List Int) (w:World) (h:Sl w A n c xs):
 Calls Tryz.prog 190 #[.bool neg,.slice A n c] w fun e w'=>e=.returned (.agg #[.bool (neg&&decide (0<(trm xs).length)),.slice A (trm xs).length (trm xs).length])/\Below w.heap.size w w':=by
 have E:=h.len
 obtain⟨_,a1,a2,_⟩:=id h
 cases neg
 all_goals
  go_enter Tryz.func190,Tryz.ntmps190
  go_wp2
  go_loopw [5] (fun i wr=> ∃k:Nat,k<=n/\i=.int .i64 k/\Hid (trm (xs.take k)=trm xs)/\wr=w.alloc (.cells #[.bool false,.slice none 0 0] 38)) (fun i _=>(intOf i).toNat)
  case atStart=>exact⟨n,bd _,rfl,Ji E,rfl⟩
  case round=>
   obtain⟨k,hk,rfl,H,rfl⟩:=hrel
   rcases iS k with W|W
   ·subst W
    have Hm:Hid ((trm xs).length=0):=by show _=_;rw[<-H.out];rfl
    go_wp2
    go_returns
    exact⟨by rw[Hm.out];rfl,(ef _ _).alloc (bd _) _⟩
   ·obtain⟨k,rfl⟩: ∃j,k=j+1:=⟨k-1,by omega⟩
    obtain⟨b,off,x,rfl,hb,K,hc,a0,a3⟩:=(h.below ((ef _ _).alloc (bd _) (.cells #[.bool false,.slice none 0 0] 38))).at_ (show k<n by omega)
    by_cases D:x=0
    ·have I:Hid (trm (xs.take k)=trm xs):=by show _=_;rw[<-qv K.out D];exact H.out
     have J:(x==0)=true:=by simpa using D
     clear D H
     go_wp2
     go_roundw
     case rel=>exact⟨k,by omega,by go_num,I,by first|trivial|rfl⟩
     case measure=>simp[intOf]<;>omega
    ·have I:Hid ((trm xs).length=k+1):=by show _=_;rw[<-H.out,qg K.out D,eu];omega
     have J:(x==0)=false:=by simpa using D
     clear D H
     go_wp2
     go_returns
     exact⟨by rw[I.out];simp,(ef _ _).alloc (bd _) _⟩
set_option maxHeartbeats 400000 in
theorem RN (A:Option Addr) (n c:Nat) (xs:List Int) (w:World) (h:Sl w A n c xs):
 Calls Tryz.prog 261 #[.slice A n c] w fun e w'=>e=.returned (.slice A (trm xs).length c)/\w=w':=by
 have E:=h.len
 obtain⟨_,a1,a2,_⟩:=id h
 go_enter Tryz.func261,Tryz.ntmps261
 go_wp2
 go_loop [0] (fun v=> ∃k:Nat,k<=n/\v=.slice A k c/\Hid (trm (xs.take k)=trm xs)) (fun v=>match v with| .slice _ k _=>k|_=>0)
 case atStart=>exact⟨n,bd _,rfl,Ji E⟩
 case round=>
  obtain⟨k,hk,rfl,H⟩:=hrel
  rcases iS k with W|W
  ·subst W
   have Hm:Hid ((trm xs).length=0):=by show _=_;rw[<-H.out];rfl
   go_wp2
   go_ret
   exact⟨by rw[Hm.out];rfl,rfl⟩
  ·obtain⟨k,rfl⟩: ∃j,k=j+1:=⟨k-1,by omega⟩
   obtain⟨b,off,x,rfl,hb,K,hc,a0,a3⟩:=h.at_ (show k<n by omega)
   by_cases D:x=0
   ·have I:Hid (trm (xs.take k)=trm xs):=by show _=_;rw[<-qv K.out D];exact H.out
    have J:(x==0)=true:=by simpa using D
    clear D H
    go_wp2
    go_round
    case rel=>exact⟨k,by omega,by first|rfl|go_num,I⟩
    case measure=>simp<;>omega
   ·have I:Hid ((trm xs).length=k+1):=by show _=_;rw[<-H.out,qg K.out D,eu];omega
    have J:(x==0)=false:=by simpa using D
    clear D H
    go_wp2
    go_ret
    exact⟨by rw[I.out];rfl,rfl⟩
theorem Sl.trm (h:Sl w A n c xs):Sl w A (trm xs).length c (trm xs):=by
 obtain⟨k,D,e,_⟩:=yh xs;have hl:=h.len;have j:(Go.Proofs.YtegeknjkgadehaaGreat.trm xs).length=k:=by rw[e,eu];omega
 rw[j,e];exact h.take k c (by omega) (by have:=h.2.1;omega) h.2.2.1
theorem jN (h:a=b):dC a b=0:=by unfold dC;rw[if_neg (by omega),if_neg (by omega)]
theorem eg (h:a<b):dC a b= -1:=by unfold dC;rw[if_pos h]
theorem eA (h:b<a):dC a b=1:=by unfold dC;rw[if_neg (by omega),if_pos h]
theorem lN (A:Option Addr) (n c k:Nat) (xs X:List Int) (w:World) (h:Sl w A n c xs) (D:Hid (trm xs=X)) (j:Hid (X.length=k)):
 Calls Tryz.prog 261 #[.slice A n c] w fun e w'=>e=.returned (.slice A k c)/\w=w':=by
 rw[<-j.out,<-D.out];exact RN A n c xs w h
set_option maxHeartbeats 1000000 in
theorem nn (A B:Option Addr) (n c m d:Nat) (xs ys:List Int) (w:World) (ha:Sl w A n c xs) (hb:Sl w B m d ys):
 Calls Tryz.prog 189 #[.slice A n c,.slice B m d] w fun e w'=>e=.returned (.int .i64 (dC (val xs) (val ys)))/\Below w.heap.size w w':=by
 obtain⟨X,hX⟩: ∃X,trm xs=X:=⟨_,rfl⟩
 obtain⟨Y,hY⟩: ∃Y,trm ys=Y:=⟨_,rfl⟩
 obtain⟨k,hk⟩: ∃k,X.length=k:=⟨_,rfl⟩
 obtain⟨l,hl⟩: ∃l,Y.length=l:=⟨_,rfl⟩
 have E:=ha.trm
 have tb:=hb.trm
 have na:=sf xs
 have nb:=sf ys
 have a0:=ip xs
 have J:=ip ys
 rw[hX] at E na a0
 rw[hY] at tb nb J
 rw[hk] at E
 rw[hl] at tb
 have b0:k<=9223372036854775807:=by have:=E.2.1;have:=E.2.2.1;omega
 have b5:l<=9223372036854775807:=by have:=tb.2.1;have:=tb.2.2.1;omega
 rw[<-a0,<-J]
 have HX:=gw hX
 have HY:=gw hY
 have Hk:=gw hk
 have W:=gw hl
 clear a0 J hX hY hk hl
 by_cases a4:k=l
 ·subst a4
  go_enter Tryz.func189,Tryz.ntmps189
  go_wp2_with fail
  refine(lN A n c k xs X w ha HX Hk).mono ?_
  rintro e w1 ⟨rfl,rfl⟩
  go_wp2_with fail
  refine(lN B m d k ys Y w hb HY W).mono ?_
  rintro e w1 ⟨rfl,rfl⟩
  go_wp2
  go_loopw [5] (fun i wr=> ∃j:Nat,j<=k/\i=.int .i64 ((j:Int)-1)/\Hid (X.drop j=Y.drop j)/\Below w.heap.size w wr) (fun i _=>(intOf i+1).toNat)
  case atStart=>exact⟨k,bd _,rfl,by show _=_;rw[pG (by rw[Hk.out];omega),pG (by rw[W.out];omega)],ef _ _⟩
  case round=>
   obtain⟨j,hj,rfl,H,D⟩:=hrel
   rcases iS j with h0|h0
   ·subst h0
    have I:Hid (dC (val X) (val Y)=0):=by show _=_;have h:=H.out;simp only[lE] at h;rw[h];exact jN rfl
    go_wp2
    go_ret
    exact⟨by rw[I.out];rfl,D⟩
   ·obtain⟨j,rfl⟩: ∃i,j=i+1:=⟨j-1,by omega⟩
    obtain⟨b1,o1,x,rfl,b3,hx,c1,a5,b6⟩:=(E.below D).at_ (show j<k by omega)
    obtain⟨b2,o2,y,rfl,c0,hy,b8,a9,b4⟩:=(tb.below D).at_ (show j<k by omega)
    have ej:((j+1:Nat):Int)-1=(j:Int):=by omega
    rw[ej]
    clear ej
    by_cases K:x<y
    ·have I:Hid (dC (val X) (val Y)= -1):=eg (Fg E.2.2.2 tb.2.2.2 hx.out hy.out H.out K)
     go_wp2_with fail
     go_quiet (fail)
     go_wp2
     go_ret
     exact⟨by rw[I.out];rfl,Below.drewN' D _⟩
    ·by_cases a3:y<x
     ·have I:Hid (dC (val X) (val Y)=1):=eA (Fg tb.2.2.2 E.2.2.2 hy.out hx.out H.out.symm a3)
      go_wp2_with fail
      go_quiet (fail)
      go_wp2_with fail
      go_quiet (fail)
      go_wp2
      go_ret
      exact⟨by rw[I.out];rfl,Below.drewN' (Below.drewN' D _) _⟩
     ·have Hd:Hid (X.drop j=Y.drop j):=by
       show _=_;have a1:j<X.length:=by rw[Hk.out];omega
       have a2:j<Y.length:=by rw[W.out];omega
       rw[oG a1,oG a2,H.out];have e1:=hx.out;have e2:=hy.out;rw[dY a1] at e1;rw[dY a2] at e2;simp at e1 e2;rw[e1,e2,show x=y from by omega]
      go_wp2_with fail
      go_quiet (fail)
      go_wp2_with fail
      go_quiet (fail)
      go_wp2
      go_roundw
      case rel=>exact⟨j,by omega,by first|rfl|go_num,Hd,Below.drewN' D _⟩
      case measure=>simp[intOf]<;>omega
 ·have a6:((k:Int) !=(l:Int))=true:=by simp;omega
  by_cases K:k<l
  ·have I:Hid (dC (val X) (val Y)= -1):=eg (AK nb E.2.2.2 tb.2.2.2 (by rw[Hk.out,W.out];exact K))
   go_enter Tryz.func189,Tryz.ntmps189
   go_wp2_with fail
   refine(lN A n c k xs X w ha HX Hk).mono ?_
   rintro e w1 ⟨rfl,rfl⟩
   go_wp2_with fail
   refine(lN B m d l ys Y w hb HY W).mono ?_
   rintro e w1 ⟨rfl,rfl⟩
   go_wp2
   go_ret
   exact⟨by rw[I.out];rfl,ef _ _⟩
  ·have I:Hid (dC (val X) (val Y)=1):=eA (AK na tb.2.2.2 E.2.2.2 (by rw[Hk.out,W.out];omega))
   go_enter Tryz.func189,Tryz.ntmps189
   go_wp2_with fail
   refine(lN A n c k xs X w ha HX Hk).mono ?_
   rintro e w1 ⟨rfl,rfl⟩
   go_wp2_with fail
   refine(lN B m d l ys Y w hb HY W).mono ?_
   rintro e w1 ⟨rfl,rfl⟩
   go_wp2
   go_ret
   exact⟨by rw[I.out];rfl,ef _ _⟩
theorem nj:(Tryz.prog.info? 255).map (fun i=>(i.zero,i.size,i.bytes))=some (some (.int .u32 0),1,4):=by kernel_rfl
def Ow (w:World) (base:Nat) (v:Value) (n:Nat) (xs:List Int):Prop:=w.ownsRow base 255 1 v n (xs.map (Value.int .u32))/\Lim xs
section
variable {w w':World}{base n c:Nat}{A:Option Addr}{v:Value}{xs:List Int}
theorem Ow.len (h:Ow w base v n xs):xs.length=n:=by have:=h.1.1;simpa using this
theorem Ow.form (h:Ow w base v n xs): ∃A c,v=.slice A n c:=BU h.1
theorem Ow.sl (h:Ow w base (.slice A n c) n xs):Sl w A n c xs:=by
 refine⟨Rd.own h.1,?_,?_,h.2⟩
 ·rcases h.1.2 with⟨j,I⟩|⟨g,cap,H,j,_,_,I,_⟩;·injection j with _ D E;omega
  ·injection j with _ D E;omega
 ·rcases h.1.2 with⟨j,I⟩|⟨g,cap,H,j,_,_,I,D,_⟩;·injection j with _ D E;omega
  ·injection j with _ E J;simp[maxLen] at D;omega
theorem Ow.le {b:Nat}(h:Ow w base v n xs) (H:b<=base):Ow w b v n xs:=by
 refine⟨⟨h.1.1,?_⟩,h.2⟩;rcases h.1.2 with j|⟨g,cap,D,j,E,r⟩;·exact .inl j
 ·exact .inr ⟨g,cap,D,j,by omega,r⟩
end
def Ec (w:World) (n:Nat) (x:Int) (e:Ending) (w':World):Prop:= ∃A c zs,e=.returned (.slice A n c)/\Ow w' w.heap.size (.slice A n c) n zs/\val zs=x/\Below w.heap.size w w'
theorem ze (u:Int) (w:World) (D:0<=u) (j:u<=18446744073709551615) (_h:u<1000000000000000000000000000):
 Calls Tryz.prog 250 #[.int .u64 u] w (Ec w 3 u):=by
 go_enter Tryz.func250,Tryz.ntmps250
 go_wp2
 go_ret
 refine⟨_,_,[u%1000000000,u/1000000000%1000000000,u/1000000000/1000000000],rfl,⟨World.ownsRow_lit w #[.int .u32 (u%1000000000),.int .u32 (u/1000000000%1000000000),.int .u32 (u/1000000000/1000000000)] 3 (bd _) (by unfold maxLen;omega) rfl,?_⟩,?_,(ef _ _).alloc (bd _) _⟩
 ·exact((Lim.nil.cons (by omega) (by omega)).cons (by omega) (by omega)).cons (by omega) (by omega)
 ·simp only[val];omega
set_option maxHeartbeats 1000000 in
set_option maxRecDepth 10000 in
theorem ER (A B:Option Addr) (n c m d:Nat) (xs ys:List Int) (w:World) (ha:Sl w A n c xs) (hb:Sl w B m d ys) (hn:n<=100000000) (b3:m<=n):
 Calls Tryz.prog 196 #[.slice A n c,.slice B m d] w (Ec w (n+1) (val xs+val ys))/\
 (m<n->Calls Tryz.prog 196 #[.slice B m d,.slice A n c] w (Ec w (n+1) (val xs+val ys))):=by
 have c5:=ha.len
 have b6:=hb.len
 obtain⟨i0,J,a0,W,K⟩:=info_parts nj
 refine⟨?_,fun b0=>?_⟩
 all_goals
  go_enter Tryz.func196,Tryz.ntmps196
  go_wp2_with (at_make;go_must (refine wpList_make_own _ rfl _ _ 36 rfl w.heap.size 255 i0 (.int .u32 0) 1 nL J a0 W _ _ _ (n+1) rfl rfl (by omega) (by rw[K];omega) (by unfold maxLen;omega) (bd _) ?_);intro w1 a1 I)
  go_loopw [22,5,6] (fun i v cy wr=> ∃(k:Nat) (C:Int) (zs:List Int),k<=n/\i=.int .i64 k/\cy=.int .u32 C/\0<=C/\C<=1/\wr.ownsRow w.heap.size 255 1 v k (zs.map (Value.int .u32))/\Below w.heap.size w wr/\Hid (Lim zs/\zs.length=k/\val zs+pw k*C=val (xs.take k)+val (ys.take k)))
   (fun i _ _ _=>n-(intOf i).toNat)
  case atStart=>exact⟨0,0,[],eo _,rfl,rfl,by omega,by omega,a1,(ef _ _).grown I (bd _) (by simp),Lim.nil,rfl,by simp[val]⟩
  case round=>
   clear a1 I
   obtain⟨k,C,zs,hk,rfl,rfl,a2,b8,D,E,H⟩:=hrel
   have hz:=E.size
   by_cases a4:k<n
   ·obtain⟨b1,o1,x,rfl,a9,hx,c3,a5,c0⟩:=(ha.below E).at_ a4
    by_cases a3:k<m
    ·obtain⟨b2,o2,y,rfl,c1,hy,b5,a6,b4⟩:=(hb.below E).at_ a3
     by_cases hg:1000000000<=x+C+y
     ·have Hs:Hid (Lim (zs++[x+C+y-1000000000])/\(zs++[x+C+y-1000000000]).length=k+1/\val (zs++[x+C+y-1000000000])+pw (k+1)*1=val (xs.take (k+1))+val (ys.take (k+1))):=by obtain⟨l1,l2,l3⟩:=H.out;refine⟨l1.snoc (by omega) (by omega),by simp[l2],?_⟩;rw[aN hx.out,aN hy.out,mH l2 l3 (d:=x+C+y-1000000000) (c':=1) (t:=x+y) (by omega)];grind
      clear H
      go_wp2_with (at_builtin;go_must (refine wpList_append_own _ rfl _ _ 36 rfl w.heap.size 255 i0 (.int .u32 0) 1 4 nL J a0 W K rfl (by decide) _ _ _ rfl (D.alloc _) ⟨wr.heap.size,0,none⟩ 1 1 [.int .u32 _] rfl rfl (cell_one_new _ _ _) (by simp[Value.oneCell']) (by unfold maxLen;omega) (by omega) (by simp;omega) ?_);intro v' w1 j h _)
      go_roundw
      case rel=>exact⟨k+1,1,_,by omega,by go_num,rfl,by omega,by omega,by simpa using j,iY D E hz h,Hs⟩
      case measure=>simp[intOf]<;>omega
     ·have Hs:Hid (Lim (zs++[x+C+y])/\(zs++[x+C+y]).length=k+1/\val (zs++[x+C+y])+pw (k+1)*0=val (xs.take (k+1))+val (ys.take (k+1))):=by obtain⟨l1,l2,l3⟩:=H.out;refine⟨l1.snoc (by omega) (by omega),by simp[l2],?_⟩;rw[aN hx.out,aN hy.out,mH l2 l3 (d:=x+C+y) (c':=0) (t:=x+y) (by omega)];grind
      clear H
      go_wp2_with (at_builtin;go_must (refine wpList_append_own _ rfl _ _ 36 rfl w.heap.size 255 i0 (.int .u32 0) 1 4 nL J a0 W K rfl (by decide) _ _ _ rfl (D.alloc _) ⟨wr.heap.size,0,none⟩ 1 1 [.int .u32 _] rfl rfl (cell_one_new _ _ _) (by simp[Value.oneCell']) (by unfold maxLen;omega) (by omega) (by simp;omega) ?_);intro v' w1 j h _)
      go_roundw
      case rel=>exact⟨k+1,0,_,by omega,by go_num,rfl,by omega,by omega,by simpa using j,iY D E hz h,Hs⟩
      case measure=>simp[intOf]<;>omega
    ·by_cases hg:1000000000<=x+C
     ·have Hs:Hid (Lim (zs++[x+C-1000000000])/\(zs++[x+C-1000000000]).length=k+1/\val (zs++[x+C-1000000000])+pw (k+1)*1=val (xs.take (k+1))+val (ys.take (k+1))):=by obtain⟨l1,l2,l3⟩:=H.out;refine⟨l1.snoc (by omega) (by omega),by simp[l2],?_⟩;rw[aN hx.out,fr (by omega),mH l2 l3 (d:=x+C-1000000000) (c':=1) (t:=x) (by omega)];grind
      clear H
      go_wp2_with (at_builtin;go_must (refine wpList_append_own _ rfl _ _ 36 rfl w.heap.size 255 i0 (.int .u32 0) 1 4 nL J a0 W K rfl (by decide) _ _ _ rfl (D.alloc _) ⟨wr.heap.size,0,none⟩ 1 1 [.int .u32 _] rfl rfl (cell_one_new _ _ _) (by simp[Value.oneCell']) (by unfold maxLen;omega) (by omega) (by simp;omega) ?_);intro v' w1 j h _)
      go_roundw
      case rel=>exact⟨k+1,1,_,by omega,by go_num,rfl,by omega,by omega,by simpa using j,iY D E hz h,Hs⟩
      case measure=>simp[intOf]<;>omega
     ·have Hs:Hid (Lim (zs++[x+C])/\(zs++[x+C]).length=k+1/\val (zs++[x+C])+pw (k+1)*0=val (xs.take (k+1))+val (ys.take (k+1))):=by obtain⟨l1,l2,l3⟩:=H.out;refine⟨l1.snoc (by omega) (by omega),by simp[l2],?_⟩;rw[aN hx.out,fr (by omega),mH l2 l3 (d:=x+C) (c':=0) (t:=x) (by omega)];grind
      clear H
      go_wp2_with (at_builtin;go_must (refine wpList_append_own _ rfl _ _ 36 rfl w.heap.size 255 i0 (.int .u32 0) 1 4 nL J a0 W K rfl (by decide) _ _ _ rfl (D.alloc _) ⟨wr.heap.size,0,none⟩ 1 1 [.int .u32 _] rfl rfl (cell_one_new _ _ _) (by simp[Value.oneCell']) (by unfold maxLen;omega) (by omega) (by simp;omega) ?_);intro v' w1 j h _)
      go_roundw
      case rel=>exact⟨k+1,0,_,by omega,by go_num,rfl,by omega,by omega,by simpa using j,iY D E hz h,Hs⟩
      case measure=>simp[intOf]<;>omega
   ·obtain rfl:k=n:=by omega
    go_wp2_with (at_builtin;go_must (refine wpList_append_own _ rfl _ _ 36 rfl w.heap.size 255 i0 (.int .u32 0) 1 4 nL J a0 W K rfl (by decide) _ _ _ rfl (D.alloc _) ⟨wr.heap.size,0,none⟩ 1 1 [.int .u32 C] rfl rfl (cell_one_new _ _ _) (by simp[Value.oneCell']) (by unfold maxLen;omega) (by omega) (by simp;omega) ?_);intro v' w1 j h _)
    obtain⟨A',c',rfl⟩:=BU j
    go_ret
    obtain⟨l1,l2,l3⟩:=H.out
    refine⟨A',c',zs++[C],rfl,⟨by simpa using j,l1.snoc a2 (by omega)⟩,?_,iY D E hz h⟩
    rw[pi,l2,l3,cz (by omega),cz (by omega)]
theorem o9 {g:Nat}(h:wr.ownsRow base 255 1 (.slice (some ⟨g,0,none⟩) n c) n (xs.map (Value.int .u32))) (D:xs[k]? =some o):
 wr.cell? ⟨g,k,none⟩=some (.int .u32 o)/\wr.frozen? ⟨g,k,none⟩=false/\ ∀d,(wr.setCell ⟨g,k,none⟩ (.int .u32 d)).ownsRow base 255 1 (.slice (some ⟨g,0,none⟩) n c) n ((xs.set k d).map (Value.int .u32))/\wr.grownBy (wr.setCell ⟨g,k,none⟩ (.int .u32 d)) (some g):=by
 have hl:xs.length=n:=by have:=h.1;simpa using this
 have E:k<xs.length:=by
  rcases nR k xs.length with j|j;·exact j
  ·rw[sK j] at D;cases D
 refine⟨?_,h.frozenAt k,fun d=>?_⟩
 ·rw[h.cellAt k (by omega),lu,D];rfl
 ·have:=h.stored k (.int .u32 d)
  rwa [<-List.map_set] at this
theorem rE (n:Nat):(madeCells (Value.int .u32 0).cells (n*1)).toList=(List.replicate n (0:Int)).map (Value.int .u32):=by rw[Nat.mul_one];exact(toList_madeCells_one _ n).trans (by simp)
theorem tT (h:Lim ys) (H:val ys<pw n):val (ys.take n)=val ys:=by
 rcases nR ys.length n with j|j;·exact cz (by omega)
 ·have e:=kK ys n j;have J:=cm (h.take n);have I:=cm (h.drop n);have E:=dP n;rcases kr 0 (val (ys.drop n)) with D|D
  ·have:=pv (show 1<=val (ys.drop n) by omega) (show 0<=pw n by omega);omega
  grind
theorem NJ (j:Lim zs) (hl:zs.length=n) (I:0<=C) (h:val zs+pw n* -C=val xs-val ys) (E:val ys<=val xs):val zs=val xs-val ys:=by
 have H:=eK j;have J:=dP n;rcases kr 0 C with D|D
 ·have:=pv (show 1<=C by omega) (show 0<=pw n by omega);grind
 grind
set_option maxHeartbeats 1000000 in
set_option maxRecDepth 10000 in
theorem Ex (A B:Option Addr) (n c m d:Nat) (xs ys:List Int) (w:World) (ha:Sl w A n c xs) (hb:Sl w B m d ys) (hn:n<=100000000) (hv:val ys<=val xs):
 Calls Tryz.prog 197 #[.slice A n c,.slice B m d] w (Ec w n (val xs-val ys)):=by
 have b3:=ha.len
 have c3:=hb.len
 have Hv:Hid (val (ys.take n)=val ys/\val ys<=val xs):=⟨tT hb.2.2.2 (by have:=eK ha.2.2.2;rw[b3] at this;omega),hv⟩
 clear hv
 obtain⟨i0,a0,b0,a9,a5⟩:=info_parts nj
 go_enter Tryz.func197,Tryz.ntmps197
 go_wp2_with (at_make;go_must (refine wpList_make_full _ rfl _ _ 36 rfl w.heap.size 255 i0 (.int .u32 0) 1 nL a0 b0 a9 _ _ _ _ n rfl rfl rfl rfl (by rw[a5];omega) (by unfold maxLen;omega) (bd _) ?_);intro w1 E I)
 rw[rE] at E
 go_loopw [15,6] (fun i cy wr=> ∃(k:Nat) (C:Int) (zs:List Int),k<=n/\i=.int .i64 k/\cy=.int .u32 C/\0<=C/\C<=1/\wr.ownsRow w.heap.size 255 1 (.slice (some ⟨w.heap.size,0,none⟩) n n) n ((zs++List.replicate (n-k) 0).map (Value.int .u32))/\Below w.heap.size w wr/\Hid (Lim zs/\zs.length=k/\val zs+pw k* -C=val (xs.take k)-val (ys.take k)))
  (fun i _ _=>n-(intOf i).toNat)
 case atStart=>exact⟨0,0,[],eo _,rfl,rfl,by omega,by omega,E,(ef _ _).grown I (bd _) (by simp),Lim.nil,rfl,by simp[val]⟩
 case round=>
  clear E I
  obtain⟨k,C,zs,hk,rfl,rfl,a1,c5,h,D,H⟩:=hrel
  have hz:=D.size
  by_cases a6:k<n
  ·obtain⟨j,hj⟩: ∃j,n-k=j+1:=⟨n-k-1,by omega⟩
   have a3:n-(k+1)=j:=by omega
   rw[hj] at h
   obtain⟨a4,b4,W⟩:=o9 h (abh H.out.2.1)
   have Hst:Hid (∀d,(wr.setCell ⟨w.heap.size,k,none⟩ (.int .u32 d)).ownsRow w.heap.size 255 1 (.slice (some ⟨w.heap.size,0,none⟩) n n) n (((zs++[d])++List.replicate (n-(k+1)) 0).map (Value.int .u32))/\Below w.heap.size w (wr.setCell ⟨w.heap.size,k,none⟩ (.int .u32 d))):=by intro d;have h1:=W d;rw[lF H.out.2.1,<-a3] at h1;exact⟨h1.1,D.grown h1.2 hz (by simp)⟩
   clear W h
   obtain⟨b1,o1,x,rfl,b8,hx,c8,b5,c6⟩:=(ha.below D).at_ a6
   by_cases a2:k<m
   ·obtain⟨b2,o2,y,rfl,c7,hy,c1,b6,c0⟩:=(hb.below D).at_ a2
    by_cases hg:x<C+y
    ·have K:Hid (Lim (zs++[x+1000000000-(C+y)])/\(zs++[x+1000000000-(C+y)]).length=k+1/\val (zs++[x+1000000000-(C+y)])+pw (k+1)* -1=val (xs.take (k+1))-val (ys.take (k+1))):=by obtain⟨l1,l2,J⟩:=H.out;refine⟨l1.snoc (by omega) (by omega),by simp[l2],?_⟩;rw[aN hx.out,aN hy.out,mH l2 J (d:=x+1000000000-(C+y)) (c':= -1) (t:=x-y) (by omega)];grind
     clear H
     go_wp2
     go_roundw
     case rel=>exact⟨k+1,1,_,by omega,by go_num,rfl,by omega,by omega,(Hst.out _).1,(Hst.out _).2,K⟩
     case measure=>simp[intOf]<;>omega
    ·have K:Hid (Lim (zs++[x-(C+y)])/\(zs++[x-(C+y)]).length=k+1/\val (zs++[x-(C+y)])+pw (k+1)* -0=val (xs.take (k+1))-val (ys.take (k+1))):=by obtain⟨l1,l2,J⟩:=H.out;refine⟨l1.snoc (by omega) (by omega),by simp[l2],?_⟩;rw[aN hx.out,aN hy.out,mH l2 J (d:=x-(C+y)) (c':= -0) (t:=x-y) (by omega)];grind
     clear H
     go_wp2
     go_roundw
     case rel=>exact⟨k+1,0,_,by omega,by go_num,rfl,by omega,by omega,(Hst.out _).1,(Hst.out _).2,K⟩
     case measure=>simp[intOf]<;>omega
   ·by_cases hg:x<C
    ·have K:Hid (Lim (zs++[x+1000000000-C])/\(zs++[x+1000000000-C]).length=k+1/\val (zs++[x+1000000000-C])+pw (k+1)* -1=val (xs.take (k+1))-val (ys.take (k+1))):=by obtain⟨l1,l2,J⟩:=H.out;refine⟨l1.snoc (by omega) (by omega),by simp[l2],?_⟩;rw[aN hx.out,fr (by omega),mH l2 J (d:=x+1000000000-C) (c':= -1) (t:=x) (by omega)];grind
     clear H
     go_wp2
     go_roundw
     case rel=>exact⟨k+1,1,_,by omega,by go_num,rfl,by omega,by omega,(Hst.out _).1,(Hst.out _).2,K⟩
     case measure=>simp[intOf]<;>omega
    ·have K:Hid (Lim (zs++[x-C])/\(zs++[x-C]).length=k+1/\val (zs++[x-C])+pw (k+1)* -0=val (xs.take (k+1))-val (ys.take (k+1))):=by obtain⟨l1,l2,J⟩:=H.out;refine⟨l1.snoc (by omega) (by omega),by simp[l2],?_⟩;rw[aN hx.out,fr (by omega),mH l2 J (d:=x-C) (c':= -0) (t:=x) (by omega)];grind
     clear H
     go_wp2
     go_roundw
     case rel=>exact⟨k+1,0,_,by omega,by go_num,rfl,by omega,by omega,(Hst.out _).1,(Hst.out _).2,K⟩
     case measure=>simp[intOf]<;>omega
  ·obtain rfl:k=n:=by omega
   rw[Nat.sub_self,List.replicate_zero,pI] at h
   go_wp2
   go_ret
   obtain⟨l1,l2,J⟩:=H.out
   refine⟨_,_,zs,rfl,⟨h,l1⟩,?_,D⟩
   rw[cz (by omega),Hv.out.1] at J
   exact NJ l1 l2 a1 J Hv.out.2
theorem Bb (j:0<=x) (E:x<1000000000) (h:0<=y) (D:y<1000000000):0<=x*y/\x*y<=999999998000000001:=by refine⟨Int.mul_nonneg j h,?_⟩;have H:=qR (show x<=999999999 by omega) (show y<=999999999 by omega) h (by omega);omega
theorem O6 {j:Nat}{S:Int}(D:os[k+j]? =some o) (E:ys[j]? =some y) (h:val os+pw (k+j)*C=S+pw k*(x*val (ys.take j))):
 val (os.set (k+j) ((o+x*y+C)%1000000000))+pw (k+(j+1))*((o+x*y+C)/1000000000)=S+pw k*(x*val (ys.take (j+1))):=by
 rw[AN D,aN E,<-Nat.add_assoc,d5,wq]
 rw[wq] at h
 have e:=wg (o+x*y+C) 1000000000
 generalize (o+x*y+C)%1000000000=d at*
 generalize (o+x*y+C)/1000000000=c at*
 have:d=o+x*y+C-1000000000*c:=by omega
 subst this
 grind
theorem N7 {m:Nat}(D:xs[k]? =some x) (E:ys.length=m) (j:os[k+m]? =some 0) (h:val os+pw (k+m)*C=val (xs.take k)*val ys+pw k*(x*val (ys.take m))):
 val (os.set (k+m) C)=val (xs.take (k+1))*val ys:=by
 rw[AN j,aN D]
 rw[cz (xs:=ys) (by omega)] at h
 grind
set_option maxHeartbeats 1000000 in
set_option maxRecDepth 10000 in
theorem yK (A B:Option Addr) (n c m d:Nat) (xs ys:List Int) (w:World) (ha:Sl w A n c xs) (hb:Sl w B m d ys) (hn:n<=100000000) (hm:m<=100000000):
 Calls Tryz.prog 191 #[.slice A n c,.slice B m d] w (Ec w (n+m) (val xs*val ys)):=by
 have c8:=ha.len
 have b5:=hb.len
 obtain⟨i0,b3,b0,a9,b6⟩:=info_parts nj
 go_enter Tryz.func191,Tryz.ntmps191
 go_wp2_with (at_make;go_must (refine wpList_make_full _ rfl _ _ 36 rfl w.heap.size 255 i0 (.int .u32 0) 1 nL b3 b0 a9 _ _ _ _ (n+m) rfl rfl (by omega) (by omega) (by rw[b6];omega) (by unfold maxLen;omega) (bd _) ?_);intro w1 I J)
 rw[rE] at I
 go_loopw [20] (fun i wr=> ∃(k:Nat) (os:List Int),k<=n/\i=.int .i64 k/\wr.ownsRow w.heap.size 255 1 (.slice (some ⟨w.heap.size,0,none⟩) (n+m) (n+m)) (n+m) (os.map (Value.int .u32))/\Below w.heap.size w wr/\Hid (Lim os/\os.length=n+m/\Zr os (k+m)/\val os=val (xs.take k)*val ys))
  (fun i _=>n-(intOf i).toNat)
 case atStart=>exact⟨0,_,eo _,rfl,I,(ef _ _).grown J (bd _) (by simp),Lim.zeros _,by simp,Zr.zeros _ _,by simp[val,yu]⟩
 case round=>
  clear I J
  obtain⟨k,os,hk,rfl,D,h,H⟩:=hrel
  by_cases a5:k<n
  ·obtain⟨b1,o1,x,rfl,a3,hx,b8,a1,a4⟩:=(ha.below h).at_ a5
   go_wp2
   go_loopw [27,8] (fun i cy w2=> ∃(j:Nat) (C:Int) (ps:List Int),j<=m/\i=.int .i64 j/\cy=.int .u64 C/\0<=C/\C<1000000000/\w2.ownsRow w.heap.size 255 1 (.slice (some ⟨w.heap.size,0,none⟩) (n+m) (n+m)) (n+m) (ps.map (Value.int .u32))/\Below w.heap.size w w2/\Hid (Lim ps/\ps.length=n+m/\Zr ps (k+m)/\val ps+pw (k+j)*C=val (xs.take k)*val ys+pw k*(x*val (ys.take j))))
    (fun i _ _=>m-(intOf i).toNat)
   case atStart=>
    obtain⟨l1,l2,l3,l4⟩:=H.out
    exact⟨0,0,os,eo _,rfl,rfl,by omega,by omega,D,h,l1,l2,l3,by simp[val,l4]⟩
   case round=>
    clear D h H a3 b8
    obtain⟨j,C,ps,hj,rfl,rfl,c0,c6,D,h,H⟩:=hrel
    have hz:=h.size
    by_cases a6:j<m
    ·obtain⟨b2,o2,y,rfl,c1,hy,c5,a2,b4⟩:=(hb.below h).at_ a6
     obtain⟨o,K⟩:=oa H.out.2.1 (show k+j<n+m by omega)
     obtain⟨W,a0,E⟩:=o9 D K
     have c3:=H.out.1.at_ K
     have Hs:Hid (Lim (ps.set (k+j) ((o+x*y+C)%1000000000))/\(ps.set (k+j) ((o+x*y+C)%1000000000)).length=n+m/\Zr (ps.set (k+j) ((o+x*y+C)%1000000000)) (k+m)/\val (ps.set (k+j) ((o+x*y+C)%1000000000))+pw (k+(j+1))*((o+x*y+C)/1000000000)=val (xs.take k)*val ys+pw k*(x*val (ys.take (j+1)))):=by obtain⟨l1,l2,l3,l4⟩:=H.out;exact⟨l1.set (by omega) (by omega),by simp[l2],l3.set (by omega),O6 K hy.out l4⟩
     have Hst:Hid (∀d,(wr.setCell ⟨w.heap.size,k+j,none⟩ (.int .u32 d)).ownsRow w.heap.size 255 1 (.slice (some ⟨w.heap.size,0,none⟩) (n+m) (n+m)) (n+m) ((ps.set (k+j) d).map (Value.int .u32))/\Below w.heap.size w (wr.setCell ⟨w.heap.size,k+j,none⟩ (.int .u32 d))):=by intro d;exact⟨(E d).1,h.grown (E d).2 hz (by simp)⟩
     clear E D H K
     obtain⟨c9,c7⟩:=Bb a1 a4 a2 b4
     go_wp2
     go_roundw
     case rel=>exact⟨j+1,_,_,by omega,by go_num,rfl,by omega,by omega,(Hst.out _).1,(Hst.out _).2,Hs⟩
     case measure=>simp[intOf]<;>omega
    ·obtain rfl:j=m:=by omega
     obtain⟨o,K⟩:=oa H.out.2.1 (show k+j<n+j by omega)
     obtain rfl:o=0:=H.out.2.2.1 _ _ (bd _) K
     obtain⟨W,a0,E⟩:=o9 D K
     have Hs:Hid (Lim (ps.set (k+j) C)/\(ps.set (k+j) C).length=n+j/\Zr (ps.set (k+j) C) (k+1+j)/\val (ps.set (k+j) C)=val (xs.take (k+1))*val ys):=by obtain⟨l1,l2,l3,l4⟩:=H.out;exact⟨l1.set (by omega) (by omega),by simp[l2],by have:=l3.set_at (d:=C);rwa [show k+j+1=k+1+j from by omega] at this,N7 hx.out b5 K l4⟩
     have Hst:Hid ((wr.setCell ⟨w.heap.size,k+j,none⟩ (.int .u32 C)).ownsRow w.heap.size 255 1 (.slice (some ⟨w.heap.size,0,none⟩) (n+j) (n+j)) (n+j) ((ps.set (k+j) C).map (Value.int .u32))/\Below w.heap.size w (wr.setCell ⟨w.heap.size,k+j,none⟩ (.int .u32 C))):=
      ⟨(E C).1,h.grown (E C).2 hz (by simp)⟩
     clear E D H K
     go_wp2
     go_roundw
     case rel=>exact⟨k+1,_,by omega,by go_num,Hst.out.1,Hst.out.2,Hs⟩
     case measure=>simp[intOf]<;>omega
  ·obtain rfl:k=n:=by omega
   go_wp2
   go_ret
   obtain⟨l1,l2,l3,l4⟩:=H.out
   refine⟨_,_,os,rfl,⟨D,l1⟩,?_,h⟩
   rw[l4,cz (xs:=xs) (by omega)]
theorem ua {a b:World}(h:w.grownBy a row) (k:a.grownBy b row):w.grownBy b row:=
 ⟨k.os.trans h.os,k.tape.trans h.tape,k.output.trans h.output,fw h.size k.size,fun j E D=>(k.block j (kE E h.size) D).trans (h.block j E D)⟩
theorem Sl.grown (h:Sl w A n c xs) (H:w.grownBy w' row) (E: ∀b off,A=some ⟨b,off,none⟩->some b≠row):Sl w' A n c xs:=by refine⟨⟨h.1.1,fun I=>?_⟩,h.2⟩;obtain⟨b,off,e,D,J⟩:=h.1.2 I;exact⟨b,off,e,kE D H.size,fun j u K=>H.cell (J j u K) (E b off e)⟩
theorem S8 (D:k<=us.length) (j:zs.length=i) (h:us[k+i]? =some u):(us.take k++zs++us.drop (k+i))[k+i]? =some u:=by grind
theorem Lw {d:Int}(E:k<=us.length) (D:zs.length=i) (h:us[k+i]? =some u):(us.take k++zs++us.drop (k+i)).set (k+i) d=us.take k++(zs++[d])++us.drop (k+(i+1)):=by
 subst D;have j:k+zs.length<us.length:=by grind
 rw[oG j,List.set_append_right _ _ (by simp;omega)];rw[show k+zs.length-(us.take k++zs).length=0 from by simp;omega,List.set_cons_zero,<-Nat.add_assoc];simp
theorem oW (h:us[k+i]? =some u):(us.drop k)[i]? =some u:=by grind
def Kn (w w':World) (base g N h k m:Nat) (us:List Int) (S:Int) (zs:List Int) (C:Int):Prop:=
 zs.length=m+1/\Lim zs/\0<=C/\val zs+pw (m+1)* -C=S/\w'.ownsRow base 255 1 (.slice (some ⟨g,0,none⟩) N h) N ((us.take k++zs++us.drop (k+(m+1))).map (Value.int .u32))/\w.grownBy w' (some g)
set_option maxHeartbeats 1000000 in
set_option maxRecDepth 10000 in
theorem E3 (base g N cN k cs m d:Nat) (B:Option Addr) (us ys:List Int) (h:Int) (w:World) (hu:w.ownsRow base 255 1 (.slice (some ⟨g,0,none⟩) N cN) N (us.map (Value.int .u32))) (a3:Lim us)
 (hk:k+m+1<=N) (hN:N<=10000000000) (hb:Sl w B m d ys) (a9: ∀b off,B=some ⟨b,off,none⟩->some b≠some g) (h0:0<=h) (h1:h<1000000000) (_b8:m+1<=cs):
 Calls Tryz.prog 320 #[.slice (some ⟨g,k,none⟩) (m+1:Nat) cs,.slice B m d,.int .u64 h] w fun e w'=> ∃zs C,e=.returned (.bool (decide (0<C)))/\Kn w w' base g N cN k m us (val ((us.drop k).take (m+1))-h*val ys) zs C:=by
 have a6:us.length=N:=by have:=hu.1;simpa using this
 have c3:=hb.len
 go_enter Tryz.func320,Tryz.ntmps320
 go_wp2
 go_loopw [15,7,8] (fun i cy bw wr=> ∃(j:Nat) (C D:Int) (zs:List Int),j<=m+1/\i=.int .i64 j/\cy=.int .u64 C/\0<=C/\C<1000000000/\bw=.int .u64 D/\0<=D/\D<=1/\wr.ownsRow base 255 1 (.slice (some ⟨g,0,none⟩) N cN) N ((us.take k++zs++us.drop (k+j)).map (Value.int .u32))/\w.grownBy wr (some g)/\Hid (Lim zs/\zs.length=j/\val zs+pw j* -(C+D)=val ((us.drop k).take j)-h*val (ys.take j)))
  (fun i _ _ _=>m+1-(intOf i).toNat)
 case atStart=>exact⟨0,0,0,[],eo _,rfl,rfl,by omega,by omega,rfl,by omega,by omega,by simpa using hu,World.grownBy.refl _ _,Lim.nil,rfl,by simp[val]⟩
 case round=>
  obtain⟨j,C,D,zs,hj,rfl,rfl,b4,c5,rfl,c8,b5,E,a0,H⟩:=hrel
  by_cases c0:j<m+1
  ·obtain⟨u,I⟩:=oa a6 (show k+j<N by omega)
   have b1:=a3.at_ I
   obtain⟨a4,b3,a1⟩:=o9 E (S8 (by omega) H.out.2.1 I)
   have Hst:Hid (∀d,(wr.setCell ⟨g,k+j,none⟩ (.int .u32 d)).ownsRow base 255 1 (.slice (some ⟨g,0,none⟩) N cN) N ((us.take k++(zs++[d])++us.drop (k+(j+1))).map (Value.int .u32))/\w.grownBy (wr.setCell ⟨g,k+j,none⟩ (.int .u32 d)) (some g)):=by intro d;have h1:=a1 d;rw[Lw (by omega) H.out.2.1 I] at h1;exact⟨h1.1,ua a0 h1.2⟩
   have Hu:=gw I
   clear a1 E I
   by_cases a5:j<m
   ·obtain⟨b2,o2,y,rfl,b6,hy,c1,a2,b0⟩:=(hb.grown a0 a9).at_ a5
    obtain⟨c9,c7⟩:=Bb a2 b0 h0 h1
    by_cases hg:u<(C+y*h)%1000000000+D
    ·have W:Hid (Lim (zs++[u+1000000000-((C+y*h)%1000000000+D)])/\(zs++[u+1000000000-((C+y*h)%1000000000+D)]).length=j+1/\val (zs++[u+1000000000-((C+y*h)%1000000000+D)])+pw (j+1)* -((C+y*h)/1000000000+1)=val ((us.drop k).take (j+1))-h*val (ys.take (j+1))):=by obtain⟨l1,l2,J⟩:=H.out;refine⟨l1.snoc (by omega) (by omega),by simp[l2],?_⟩;rw[aN (oW Hu.out),aN hy.out,mH l2 J (d:=u+1000000000-((C+y*h)%1000000000+D)) (c':= -((C+y*h)/1000000000+1)) (t:=u-y*h) (by omega)];grind
     clear H
     go_wp2
     go_roundw
     case rel=>exact⟨j+1,_,1,_,by omega,by go_num,rfl,by omega,by omega,rfl,by omega,by omega,(Hst.out _).1,(Hst.out _).2,W⟩
     case measure=>simp[intOf]<;>omega
    ·have W:Hid (Lim (zs++[u-((C+y*h)%1000000000+D)])/\(zs++[u-((C+y*h)%1000000000+D)]).length=j+1/\val (zs++[u-((C+y*h)%1000000000+D)])+pw (j+1)* -((C+y*h)/1000000000+0)=val ((us.drop k).take (j+1))-h*val (ys.take (j+1))):=by obtain⟨l1,l2,J⟩:=H.out;refine⟨l1.snoc (by omega) (by omega),by simp[l2],?_⟩;rw[aN (oW Hu.out),aN hy.out,mH l2 J (d:=u-((C+y*h)%1000000000+D)) (c':= -((C+y*h)/1000000000+0)) (t:=u-y*h) (by omega)];grind
     clear H
     go_wp2
     go_roundw
     case rel=>exact⟨j+1,_,0,_,by omega,by go_num,rfl,by omega,by omega,rfl,by omega,by omega,(Hst.out _).1,(Hst.out _).2,W⟩
     case measure=>simp[intOf]<;>omega
   ·have c6:C/1000000000=0/\C%1000000000=C:=by omega
    by_cases hg:u<C+D
    ·have W:Hid (Lim (zs++[u+1000000000-(C+D)])/\(zs++[u+1000000000-(C+D)]).length=j+1/\val (zs++[u+1000000000-(C+D)])+pw (j+1)* -(0+1)=val ((us.drop k).take (j+1))-h*val (ys.take (j+1))):=by obtain⟨l1,l2,J⟩:=H.out;refine⟨l1.snoc (by omega) (by omega),by simp[l2],?_⟩;rw[aN (oW Hu.out),fr (xs:=ys) (by omega),mH l2 J (d:=u+1000000000-(C+D)) (c':= -(0+1)) (t:=u) (by omega)];grind
     clear H
     go_wp2
     go_roundw
     case rel=>exact⟨j+1,0,1,_,by omega,by go_num,by first|rfl|go_num,by omega,by omega,rfl,by omega,by omega,(Hst.out _).1,(Hst.out _).2,W⟩
     case measure=>simp[intOf]<;>omega
    ·have W:Hid (Lim (zs++[u-(C+D)])/\(zs++[u-(C+D)]).length=j+1/\val (zs++[u-(C+D)])+pw (j+1)* -(0+0)=val ((us.drop k).take (j+1))-h*val (ys.take (j+1))):=by obtain⟨l1,l2,J⟩:=H.out;refine⟨l1.snoc (by omega) (by omega),by simp[l2],?_⟩;rw[aN (oW Hu.out),fr (xs:=ys) (by omega),mH l2 J (d:=u-(C+D)) (c':= -(0+0)) (t:=u) (by omega)];grind
     clear H
     go_wp2
     go_roundw
     case rel=>exact⟨j+1,0,0,_,by omega,by go_num,by first|rfl|go_num,by omega,by omega,rfl,by omega,by omega,(Hst.out _).1,(Hst.out _).2,W⟩
     case measure=>simp[intOf]<;>omega
  ·obtain rfl:j=m+1:=by omega
   have K: ∀t:Bool,t=decide (0<C+D)-> ∃zs C',Ending.returned (.bool t)=.returned (.bool (decide (0<C')))/\Kn w wr base g N cN k m us (val ((us.drop k).take (m+1))-h*val ys) zs C':=by rintro t rfl;obtain⟨l1,l2,J⟩:=H.out;rw[cz (xs:=ys) (by omega)] at J;exact⟨zs,C+D,rfl,l2,l1,by omega,J,E,a0⟩
   have Hf:=gw K
   clear K H E
   by_cases hD:0<D
   ·go_wp2
    go_ret
    exact Hf.out _ (by simp;omega)
   ·go_wp2
    go_ret
    exact Hf.out _ (by first|(simp;omega)|(have:D=0:=by omega);subst this;simp)
set_option maxHeartbeats 1000000 in
set_option maxRecDepth 10000 in
theorem Ii (base g N cN k cs m d:Nat) (B:Option Addr) (us ys:List Int) (w:World) (hu:w.ownsRow base 255 1 (.slice (some ⟨g,0,none⟩) N cN) N (us.map (Value.int .u32))) (a2:Lim us)
 (hk:k+m+1<=N) (hN:N<=10000000000) (hb:Sl w B m d ys) (a1: ∀b off,B=some ⟨b,off,none⟩->some b≠some g) (_b0:m+1<=cs):
 Calls Tryz.prog 321 #[.slice (some ⟨g,k,none⟩) (m+1:Nat) cs,.slice B m d] w fun e w'=> ∃zs C,e=.returned (.tuple #[])/\0<=C/\zs.length=m+1/\Lim zs/\val zs+pw (m+1)*C=val ((us.drop k).take (m+1))+val ys/\w'.ownsRow base 255 1 (.slice (some ⟨g,0,none⟩) N cN) N ((us.take k++zs++us.drop (k+(m+1))).map (Value.int .u32))/\w.grownBy w' (some g):=by
 have a5:us.length=N:=by have:=hu.1;simpa using this
 have b6:=hb.len
 go_enter Tryz.func321,Tryz.ntmps321
 go_wp2
 go_loopw [9,4] (fun i cy wr=> ∃(j:Nat) (C:Int) (zs:List Int),j<=m+1/\i=.int .i64 j/\cy=.int .u32 C/\0<=C/\C<=1/\wr.ownsRow base 255 1 (.slice (some ⟨g,0,none⟩) N cN) N ((us.take k++zs++us.drop (k+j)).map (Value.int .u32))/\w.grownBy wr (some g)/\Hid (Lim zs/\zs.length=j/\val zs+pw j*C=val ((us.drop k).take j)+val (ys.take j)))
  (fun i _ _=>m+1-(intOf i).toNat)
 case atStart=>exact⟨0,0,[],eo _,rfl,rfl,by omega,by omega,by simpa using hu,World.grownBy.refl _ _,Lim.nil,rfl,by simp[val]⟩
 case round=>
  obtain⟨j,C,zs,hj,rfl,rfl,a0,b8,D,J,H⟩:=hrel
  by_cases b1:j<m+1
  ·obtain⟨u,h⟩:=oa a5 (show k+j<N by omega)
   have a6:=a2.at_ h
   obtain⟨a3,a9,K⟩:=o9 D (S8 (by omega) H.out.2.1 h)
   have Hst:Hid (∀d,(wr.setCell ⟨g,k+j,none⟩ (.int .u32 d)).ownsRow base 255 1 (.slice (some ⟨g,0,none⟩) N cN) N ((us.take k++(zs++[d])++us.drop (k+(j+1))).map (Value.int .u32))/\w.grownBy (wr.setCell ⟨g,k+j,none⟩ (.int .u32 d)) (some g)):=by intro d;have h1:=K d;rw[Lw (by omega) H.out.2.1 h] at h1;exact⟨h1.1,ua J h1.2⟩
   have W:=gw h
   clear K D h
   by_cases a4:j<m
   ·obtain⟨b2,o2,y,rfl,c0,hy,b5,b3,b4⟩:=(hb.grown J a1).at_ a4
    by_cases hg:1000000000<=u+C+y
    ·have I:Hid (Lim (zs++[u+C+y-1000000000])/\(zs++[u+C+y-1000000000]).length=j+1/\val (zs++[u+C+y-1000000000])+pw (j+1)*1=val ((us.drop k).take (j+1))+val (ys.take (j+1))):=by obtain⟨l1,l2,E⟩:=H.out;refine⟨l1.snoc (by omega) (by omega),by simp[l2],?_⟩;rw[aN (oW W.out),aN hy.out,mH l2 E (d:=u+C+y-1000000000) (c':=1) (t:=u+y) (by omega)];grind
     clear H
     go_wp2
     go_roundw
     case rel=>exact⟨j+1,1,_,by omega,by go_num,rfl,by omega,by omega,(Hst.out _).1,(Hst.out _).2,I⟩
     case measure=>simp[intOf]<;>omega
    ·have I:Hid (Lim (zs++[u+C+y])/\(zs++[u+C+y]).length=j+1/\val (zs++[u+C+y])+pw (j+1)*0=val ((us.drop k).take (j+1))+val (ys.take (j+1))):=by obtain⟨l1,l2,E⟩:=H.out;refine⟨l1.snoc (by omega) (by omega),by simp[l2],?_⟩;rw[aN (oW W.out),aN hy.out,mH l2 E (d:=u+C+y) (c':=0) (t:=u+y) (by omega)];grind
     clear H
     go_wp2
     go_roundw
     case rel=>exact⟨j+1,0,_,by omega,by go_num,rfl,by omega,by omega,(Hst.out _).1,(Hst.out _).2,I⟩
     case measure=>simp[intOf]<;>omega
   ·by_cases hg:1000000000<=u+C
    ·have I:Hid (Lim (zs++[u+C-1000000000])/\(zs++[u+C-1000000000]).length=j+1/\val (zs++[u+C-1000000000])+pw (j+1)*1=val ((us.drop k).take (j+1))+val (ys.take (j+1))):=by obtain⟨l1,l2,E⟩:=H.out;refine⟨l1.snoc (by omega) (by omega),by simp[l2],?_⟩;rw[aN (oW W.out),fr (xs:=ys) (by omega),mH l2 E (d:=u+C-1000000000) (c':=1) (t:=u) (by omega)];grind
     clear H
     go_wp2
     go_roundw
     case rel=>exact⟨j+1,1,_,by omega,by go_num,rfl,by omega,by omega,(Hst.out _).1,(Hst.out _).2,I⟩
     case measure=>simp[intOf]<;>omega
    ·have I:Hid (Lim (zs++[u+C])/\(zs++[u+C]).length=j+1/\val (zs++[u+C])+pw (j+1)*0=val ((us.drop k).take (j+1))+val (ys.take (j+1))):=by obtain⟨l1,l2,E⟩:=H.out;refine⟨l1.snoc (by omega) (by omega),by simp[l2],?_⟩;rw[aN (oW W.out),fr (xs:=ys) (by omega),mH l2 E (d:=u+C) (c':=0) (t:=u) (by omega)];grind
     clear H
     go_wp2
     go_roundw
     case rel=>exact⟨j+1,0,_,by omega,by go_num,rfl,by omega,by omega,(Hst.out _).1,(Hst.out _).2,I⟩
     case measure=>simp[intOf]<;>omega
  ·obtain rfl:j=m+1:=by omega
   go_wp2
   go_returns
   obtain⟨l1,l2,E⟩:=H.out
   rw[cz (xs:=ys) (by omega)] at E
   exact⟨zs,C,rfl,a0,l2,l1,E,D,J⟩
def CE (w:World) (q r:Int) (e:Ending) (w':World):Prop:= ∃A n c zs B m d ys,e=.returned (.tuple #[.slice A n c,.slice B m d])/\Ow w' w.heap.size (.slice A n c) n zs/\val zs=q/\Ow w' w.heap.size (.slice B m d) m ys/\val ys=r/\Below w.heap.size w w'
theorem I2 {R:Int}(D:xs[i]? =some x) (E:os[i]? =some o) (h:val (os.drop (i+1))*b+R=val (xs.drop (i+1))):
 val ((os.set i ((R*1000000000+x)/b)).drop i)*b+(R*1000000000+x)%b=val (xs.drop i):=by
 have H:xs.drop i=x::xs.drop (i+1):=by
  have hi:i<xs.length:=by
   rcases nR i xs.length with j|j;·exact j
   ·rw[sK j] at D;cases D
  rw[oG hi];congr;rw[dY hi] at D;simpa using D
 have I: ∀d,(os.set i d).drop i=d::os.drop (i+1):=by
  intro d;have hi:i<os.length:=by
   rcases nR i os.length with j|j;·exact j
   ·rw[sK j] at E;cases E
  rw[oG (by simpa using hi),List.getElem_set_self,List.drop_set_of_lt (by omega)]
 rw[H,I,dG,dG]
 have e:=wg (R*1000000000+x) b
 generalize (R*1000000000+x)/b=q at*
 generalize (R*1000000000+x)%b=r at*
 grind
set_option maxHeartbeats 1000000 in
set_option maxRecDepth 10000 in
theorem BL (A:Option Addr) (n c:Nat) (xs:List Int) (b:Int) (w:World) (ha:Sl w A n c xs) (hn:n<=1000000000) (h0:0<b) (h1:b<1000000000):
 Calls Tryz.prog 319 #[.slice A n c,.int .u32 b] w (CE w (val xs/b) (val xs%b)):=by
 have c0:=ha.len
 obtain⟨i0,a1,a9,a5,a4⟩:=info_parts nj
 go_enter Tryz.func319,Tryz.ntmps319
 go_wp2_with (at_make;go_must (refine wpList_make_full _ rfl _ _ 36 rfl w.heap.size 255 i0 (.int .u32 0) 1 nL a1 a9 a5 _ _ _ _ n rfl rfl rfl rfl (by rw[a4];omega) (by unfold maxLen;omega) (bd _) ?_);intro w1 h D)
 rw[rE] at h
 go_loopw [8,7] (fun i cy wr=> ∃(j:Nat) (R:Int) (os:List Int),j<=n/\i=.int .i64 ((j:Int)-1)/\cy=.int .u64 R/\0<=R/\R<b/\wr.ownsRow w.heap.size 255 1 (.slice (some ⟨w.heap.size,0,none⟩) n n) n (os.map (Value.int .u32))/\Below w.heap.size w wr/\Hid (Lim os/\os.length=n/\val (os.drop j)*b+R=val (xs.drop j)))
  (fun i _ _=>(intOf i+1).toNat)
 case atStart=>exact⟨n,0,_,bd _,rfl,rfl,by omega,by omega,h,(ef _ _).grown D (bd _) (by simp),Lim.zeros _,by simp,by rw[pG (by simp),pG (by omega)];simp[val]⟩
 case round=>
  clear h D
  obtain⟨j,R,os,hj,rfl,rfl,K,a0,I,E,H⟩:=hrel
  have hz:=E.size
  rcases iS j with W|W
  ·subst W
   go_wp2
   go_ret2
   obtain⟨l1,l2,l3⟩:=H.out
   simp only[lE] at l3
   have e1:val os=val xs/b:=by rw[<-l3,Int.add_comm,Int.add_mul_ediv_right _ _ (by omega),Int.ediv_eq_zero_of_lt K a0];omega
   have e2:R=val xs%b:=by rw[<-l3,Int.add_comm,Int.add_mul_emod_self_right,Int.emod_eq_of_lt K a0]
   refine⟨_,_,_,os,_,1,_,[R],rfl,⟨I.alloc _,l1⟩,e1,⟨World.ownsRow_lit _ #[.int .u32 R] 1 hz (by unfold maxLen;omega) rfl,Lim.nil.cons K (by omega)⟩,by simp[val];exact e2,E.alloc hz _⟩
  ·obtain⟨j,rfl⟩: ∃i,j=i+1:=⟨j-1,by omega⟩
   have ej:((j+1:Nat):Int)-1=(j:Int):=by omega
   rw[ej]
   clear ej
   obtain⟨b1,o1,x,rfl,b5,hx,b8,b4,b6⟩:=(ha.below E).at_ (show j<n by omega)
   obtain⟨o,ho⟩:=oa H.out.2.1 (show j<n by omega)
   obtain⟨a3,b3,J⟩:=o9 I ho
   obtain⟨T,hT⟩: ∃T,R*1000000000+x=T:=⟨_,rfl⟩
   have a6:0<=T/b:=rH (by omega) (by omega)
   have a2:T/b<1000000000:=Int.ediv_lt_of_lt_mul h0 (by omega)
   have b2:0<=T%b:=p5 _ (by omega)
   have b0:T%b<b:=pg _ h0
   have Hs:Hid (Lim (os.set j (T/b))/\(os.set j (T/b)).length=n/\val ((os.set j (T/b)).drop j)*b+T%b=val (xs.drop j)):=by obtain⟨l1,l2,l3⟩:=H.out;have e:=I2 hx.out ho l3;rw[hT] at e;exact⟨l1.set a6 a2,by simp[l2],e⟩
   have Hst:Hid (∀d,(wr.setCell ⟨w.heap.size,j,none⟩ (.int .u32 d)).ownsRow w.heap.size 255 1 (.slice (some ⟨w.heap.size,0,none⟩) n n) n ((os.set j d).map (Value.int .u32))/\Below w.heap.size w (wr.setCell ⟨w.heap.size,j,none⟩ (.int .u32 d)).drew):=
    fun d=>⟨(J d).1,Below.drewN' (E.grown (J d).2 hz (by simp)) 1⟩
   clear J I H ho
   go_wp2_with fail
   go_region
   go_wp2
   go_roundw
   case rel=>exact⟨j,_,_,by omega,by go_num,rfl,b2,b0,(Hst.out _).1,(Hst.out _).2,Hs⟩
   case measure=>simp[intOf]<;>omega
end Go.Proofs.YtegeknjkgadehaaGreat
namespace Go.Proofs.YtegeknjkgadehaaGreat
variable {C F S U V a b c:Int}{qs us xs ys zs:List Int}{N k m n:Nat}
theorem dS (h:b<=c) (j:0<=a):a*b<=a*c:=pv h j
theorem xu (h:a<=b) (j:0<=c):a*c<=b*c:=Int.mul_le_mul_of_nonneg_right h j
structure Est (P U V t u2 v1 v2:Int):Prop where
 p:1<=P
 u: ∃r,0<=r/\r<P/\U=r+P*(t*1000000000+u2)
 v: ∃s,0<=s/\s<P/\V=s+P*(v1*1000000000+v2)
 t0:0<=t
 u20:0<=u2
 u21:u2<1000000000
 v10:1<=v1
 v20:0<=v2
 v21:v2<1000000000
 lt:U<1000000000*V
section
variable {P U V t u2 v1 v2 G R:Int}
theorem Est.top (h:Est P U V t u2 v1 v2):t<=v1*1000000000+999999999:=by
 obtain⟨p,⟨r,r0,W,eU⟩,⟨s,s0,s1,eV⟩,t0,I,j,D,H,E,lt⟩:=h;rcases kr (v1*1000000000+999999999) t with J|J
 ·exfalso;have h2:P*((v1*1000000000+1000000000)*1000000000)<=P*(t*1000000000+u2):=dS (by omega) (by omega);have K:P*(v1*1000000000+v2)<=P*(v1*1000000000+999999999):=dS (by omega) (by omega);grind
 grind
theorem Est.first (h:Est P U V t u2 v1 v2):U<(t/v1+1)*V:=by
 obtain⟨p,⟨r,r0,r1,eU⟩,⟨s,J,s1,eV⟩,I,K,D,E,j,H,lt⟩:=h;have e:=wg t v1;have e2:=pg t (show 0<v1 by omega);have hG:0<=t/v1:=rH I (by omega);generalize t/v1=G at*;have h1:t+1<=(G+1)*v1:=by grind
 have h2:P*((t+1)*1000000000)<=P*((G+1)*v1*1000000000):=dS (by omega) (by omega);have W:0<=(G+1)*s:=mh (by omega) J;have h4:0<=(G+1)*(P*v2):=mh (by omega) (mh (by omega) j);have h5:P*(t*1000000000+u2)+P<=P*((t+1)*1000000000):=by have:=dS (a:=P) (show t*1000000000+u2+1<=(t+1)*1000000000 by omega) (by omega);grind
 have e3:(G+1)*V=(G+1)*s+P*((G+1)*v1*1000000000)+(G+1)*(P*v2):=by grind
 omega
theorem Est.v0 (h:Est P U V t u2 v1 v2):0<V:=by obtain⟨p,⟨r,r0,J,eU⟩,⟨s,s0,K,eV⟩,W,I,j,D,H,E,lt⟩:=h;have h2:P*1<=P*(v1*1000000000+v2):=dS (by omega) (by omega);omega
theorem Est.u0 (h:Est P U V t u2 v1 v2):0<=U:=by obtain⟨p,⟨r,r0,J,eU⟩,⟨s,s0,K,eV⟩,W,I,j,D,H,E,lt⟩:=h;have h2:P*0<=P*(t*1000000000+u2):=dS (by omega) (by omega);omega
theorem Est.big (h:Est P U V t u2 v1 v2) (j:1000000000<=G):U<(G-1+1)*V:=by have E:=xu (c:=V) j (Int.le_of_lt h.v0);have D:=h.lt;grind
theorem Est.test (h:Est P U V t u2 v1 v2) (W:0<=G) (hR:R=t-G*v1) (ht:R*1000000000+u2<G*v2):U<(G-1+1)*V:=by
 obtain⟨p,⟨r,r0,r1,eU⟩,⟨s,I,s1,eV⟩,t0,J,j,D,H,E,lt⟩:=h;have K:t*1000000000+u2+1<=G*(v1*1000000000+v2):=by grind
 have h2:=dS (a:=P) K (by omega);have h3:0<=G*s:=mh W I;have e3:G*V=G*s+P*(G*(v1*1000000000+v2)):=by grind
 grind
theorem Est.done (h:Est P U V t u2 v1 v2) (hG:0<=G) (j:G<1000000000) (hR:R=t-G*v1) (ht:G*v2<=R*1000000000+u2):(G-1)*V<=U:=by
 have a0:=h.u0;obtain⟨p,⟨r,r0,r1,eU⟩,⟨s,s0,s1,eV⟩,t0,K,D,H,J,I,lt⟩:=h;rcases kr G 1 with E|E;·grind
 ·have W:G*(v1*1000000000+v2)<=t*1000000000+u2:=by
   have e:G*(v1*1000000000+v2)=G*v1*1000000000+G*v2:=by grind
   omega
  have h2:=dS (a:=P) W (by omega)
  have h3:(G-1)*s<=(G-1)*P:=dS (by omega) (by omega)
  have h4:P*(G-1)<=P*(v1*1000000000+v2):=dS (by omega) (by omega)
  have e3:(G-1)*V=(G-1)*s+P*(G*(v1*1000000000+v2))-P*(v1*1000000000+v2):=by grind
  have e4:(G-1)*P=P*(G-1):=by grind
  omega
theorem Est.off (h:Est P U V t u2 v1 v2) (hG:0<=G) (hR:R=t-G*v1) (K:1000000000<=R):G<1000000000/\G*v2<=R*1000000000+u2:=by
 have ht:=h.top;obtain⟨p,_,_,W,I,H,J,j,E,lt⟩:=h;have D:G<1000000000:=by
  rcases kr G 1000000000 with D|D;·grind
  ·exfalso;have:=xu (c:=v1) D (by omega);omega
 have h2:G*v2<=999999999*999999999:=qR (by omega) (by omega) j (by omega);grind
theorem Est.small (h:Est P U V t u2 v1 v2):t/v1<=2000000000/\0<=t/v1:=by have D:=h.top;have:=h.v10;have:=h.t0;refine⟨?_,rH (by omega) (by omega)⟩;have j:t/v1<2000000001:=Int.ediv_lt_of_lt_mul (by omega) (by omega);omega
end
theorem Rj (hl:Lim us) (J:us.length=N) (hk:k+n<N) (j:val (us.drop (k+1))<V) (W:V<pw n):
 val ((us.drop k).take (n+1))=val (us.drop k)/\val (us.drop (k+(n+1)))=0/\val (us.drop k)<1000000000*V:=by
 have h:us.drop k=us[k]::us.drop (k+1):=oG (by omega)
 have K:=hl us[k] (y8 _)
 have e1:val (us.drop k)=us[k]+1000000000*val (us.drop (k+1)):=by rw[h,dG]
 have h2:val (us.drop k)<pw (n+1):=by rw[d5];omega
 have D:=kK (us.drop k) (n+1) (by rw[eP];omega)
 rw[List.drop_drop] at D
 have H:=cm ((hl.drop k).take (n+1))
 have h4:=cm (hl.drop (k+(n+1)))
 have h5:=dP (n+1)
 have I:val (us.drop (k+(n+1)))=0:=by
  rcases kr 0 (val (us.drop (k+(n+1)))) with E|E
  ·have:=dS (a:=pw (n+1)) (show 1<=val (us.drop (k+(n+1))) by omega) (by omega);omega
  grind
 grind
theorem ag1 (hl:Lim xs) (D:xs[m]? =some a) (j:xs[m+1]? =some b) (h:xs[m+2]? =some c):
 ∃r,0<=r/\r<pw m/\val (xs.take (m+3))=r+pw m*((c*1000000000+b)*1000000000+a):=by
 refine⟨val (xs.take m),cm (hl.take m),?_,?_⟩
 ·have:=eK (hl.take m)
  grind
 ·have e:pw (m+2)=1000000000*pw (m+1):=d5 (m+1)
  rw[aN h,aN j,aN D,e,d5]
  grind
theorem agK (hl:Lim xs) (j:xs[m]? =some a) (h:xs[m+1]? =some b) (D:xs.length=m+2):
 ∃r,0<=r/\r<pw m/\val xs=r+pw m*(b*1000000000+a):=by
 refine⟨val (xs.take m),cm (hl.take m),?_,?_⟩
 ·have:=eK (hl.take m)
  rwa [eu,dK (by omega)] at this
 ·have e:val xs=val (xs.take (m+2)):=by rw[cz (by omega)]
  rw[e,aN h,aN j,d5]
  grind
structure Kd (us qs V:List Int) (T:Int) (N n k:Nat):Prop where
 ul:Lim us
 un:us.length=N
 ql:Lim qs
 qn:qs.length=N-n
 lt:val (us.drop k)<val V
 eq:val us+val V*(pw k*val (qs.drop k))=T
theorem Kd.step {V:List Int}{T Q:Int}(h:Kd us qs V T N n (k+1)) (hn:V.length=n) (hk:k+n<N) (_a1:Lim V) (W:Lim zs) (a0:zs.length=n+1) (h0:0<=Q) (h1:Q<1000000000)
 (J:val zs=val (us.drop k)-Q*val V) (D:val zs<val V) (j:val (us.drop (k+(n+1)))=0):Kd (us.take k++zs++us.drop (k+(n+1))) (qs.set k Q) V T N n k:=by
 have hu:=h.un
 have I:=h.qn
 have E:(us.take k).length=k:=by grind
 have e1:(us.take k++zs++us.drop (k+(n+1))).drop k=zs++us.drop (k+(n+1)):=by grind
 have H:val (zs++us.drop (k+(n+1)))=val zs:=by rw[oK,j];simp
 have e3:val (us.take k++zs++us.drop (k+(n+1)))=val (us.take k)+pw k*val zs:=by rw[ro,oK,E,H]
 have K:val us=val (us.take k)+pw k*val (us.drop k):=kK us k (by omega)
 have e5:(qs.set k Q).drop k=Q::qs.drop (k+1):=by rw[oG (by simp;omega),List.getElem_set_self,List.drop_set_of_lt (by omega)]
 refine⟨((h.ul.take k).append W).append (h.ul.drop _),by simp;omega,h.ql.set h0 h1,by simp[I],by rw[e1,H];exact D,?_⟩
 rw[e3,e5,dG,J]
 have:=h.eq
 rw[K,d5] at this
 grind
theorem VN {P:Int}(h:val zs+P* -C=U-F*V) (D:0<=C) (E: ¬0<C) (j:U<(F+1)*V):val zs=U-F*V/\val zs<V:=by grind
theorem VC {E:Int}(W:Lim zs) (hz:zs.length=n+1) (j:Lim ys) (hy:ys.length=n+1) (h:val zs+pw (n+1)* -C=U-F*V) (hC:0<C) (hU:(F-1)*V<=U) (I:0<=U) (hF:0<=F) (hV:V<pw n) (H:0<V)
 (h2:val ys+pw (n+1)*E=val zs+V):val ys=U-(F-1)*V/\val ys<V/\0<=F-1:=by
 have z1:=eK W
 have y0:=cm j
 have y1:=eK j
 have hp:=d5 n
 have K:=dS (a:=pw (n+1)) (show 1<=C by omega) (by omega)
 have hE:E=C:=by
  rcases kr E C with D|D
  ·have:=dS (a:=pw (n+1)) (show E+1<=C by omega) (by omega);grind
  ·rcases kr C E with J|J
   ·have:=dS (a:=pw (n+1)) (show C+1<=E by omega) (by omega);grind
   grind
 grind
theorem P9 (j:k<=us.length) (h:zs.length=m) (rest:List Int):((us.take k++zs++rest).drop k).take m=zs:=by grind
theorem Nt (j:k<=us.length) (h:zs.length=m):
 (us.take k++zs++us.drop (k+m)).take k++ys++(us.take k++zs++us.drop (k+m)).drop (k+m)=us.take k++ys++us.drop (k+m):=by
 congr 1
 ·grind
 ·rw[ui (by simp;omega),pG (by simp;omega),rI]
theorem Kd.fin {V X Y:List Int}(h:Kd us qs V (val X*S) N n 0) (W:val V=val Y*S) (hS:1<=S) (_E:0<val V) (_a0:Lim X):val qs=val X/val Y/\val us/S=val X%val Y:=by
 have H:=h.lt;have I:=h.eq;simp only[lE,su,Int.one_mul] at H I;have h0:=cm h.ul;rw[W] at H I _E;have e1:=wg (val us) S;have e2:=pg (val us) (show 0<S by omega);have e3:=p5 (val us) (show S≠0 by omega);have e4:(val us%S)=S*(val X-val Y*val qs-val us/S):=by grind
 have e5:val X-val Y*val qs-val us/S=0:=by
  generalize val X-val Y*val qs-val us/S=z at*;rcases kr 0 z with J|J
  ·have:=dS (a:=S) (show 1<=z by omega) (by omega);omega
  ·rcases kr z 0 with h4|h4
   ·have:=dS (a:=S) (show z<= -1 by omega) (by omega);omega
   grind
 have D:0<=val us/S:=rH h0 (by omega);have j:val us/S<val Y:=Int.ediv_lt_of_lt_mul (by omega) H;generalize val us/S=r at*;have K:val X=r+val Y*val qs:=by omega
 rw[K,Int.add_mul_ediv_left _ _ (by omega),Int.ediv_eq_zero_of_lt D j,Int.add_mul_emod_self_left,Int.emod_eq_of_lt D j];grind
end Go.Proofs.YtegeknjkgadehaaGreat
namespace Go.Proofs.YtegeknjkgadehaaGreat
open Go.RowKit
theorem oP {P:Program}(w:World) (base:Nat) (t ty e:TypeId) (i:TypeInfo) (h c:Nat) (E:P.underlying t=some (.slice e)) (hi:P.info? e=some i)
 (v:Value) (n:Nat) (xs:List Value) (j:w.ownsRow base e h v n xs):
 (Builtin.append_ #[t,t] ty #[v,.slice none 0 c]).run P w=.ok v w:=by
 rcases j.2 with⟨rfl,rfl⟩|⟨g,cap,H,rfl,_,_,D,_⟩
 ·simp[Builtin.append_,run_underlying E,sizeOf,typeInfo,hi,Builtin.lenOf,Builtin.firstCells]
 ·simp[Builtin.append_,run_underlying E,sizeOf,typeInfo,hi,Builtin.lenOf,Builtin.firstCells,D,storeCells]
set_option maxRecDepth 10000 in
theorem HQ {w:World}{ops:Array Oper}{rest:List Oper}{o:Oper}{a:Act}{Q:Exit->Act->World->Prop}(a0:o.guard=none) (s x:Operand)
 (ho:o.op=.call {callee:=.builtin .append,args:= #[s,x],argTypes:= #[36,36]})
 (A:Option Addr) (n c:Nat) (xs:List Int) (hs:a.eval s=.slice none 0 0) (hx:a.eval x=.slice A n c) (ha:Sl w A n c xs) (hn:n<=1000000000)
 (h: ∀v' w',Ow w' w.heap.size v' n xs->w.grownBy w' none->wpList Tryz.prog ops Q rest (a.put o.dst v') w'):wpList Tryz.prog ops Q (o::rest) a w:=by
 obtain⟨i0,H,a4,a3,a2⟩:=info_parts nj
 have E:=ha.len
 cases A with
 |none=>
  have D:n=0:=by
   rcases iS n with D|D;·exact D
   ·obtain⟨b,off,e,_⟩:=ha.1.2 D;cases e
  subst D
  obtain rfl:=iv.1 E
  refine wpList_plain a0 fun K hK=>?_
  have W:=oP (P:=Tryz.prog) w w.heap.size 36 o.type 255 i0 1 c nL H (.slice none 0 0) 0 [] (pB _ _ _ _)
  unfold Oper.wp
  simp[execOp,ho,resolve,invoke,builtin,hs,hx,W,Result.andThen]
  exact hK _ _ (h _ _ ⟨pB _ _ _ _,Lim.nil⟩ (World.grownBy.refl _ _))
 |some ad=>
  refine wpList_append_own w a0 s x 36 ho w.heap.size 255 i0 (.int .u32 0) 1 4 nL H a4 a3 a2 rfl (by decide) (.slice none 0 0) 0 [] hs (pB _ _ _ _) ad n c (xs.map (Value.int .u32)) hx (by simp[E]) ?_ (by intro u I;simp at I;obtain⟨z,_,rfl⟩:=I;simp[Value.oneCell']) (by unfold maxLen;omega) (by omega) (bd _) ?_
  ·intro j u I
   have hj:0<n:=by
    rcases iS n with D|D
    ·subst D;obtain rfl:=iv.1 E;simp at I
    ·exact D
   obtain⟨b,off,e,a5,hc⟩:=ha.1.2 hj
   injection e with e
   subst e
   have:=hc j u I
   unfold Addr.add
   split
   ·rename_i D;subst D;exact this
   ·exact this
  ·intro v' w' J a1 _
   refine h v' w' ⟨by simpa using J,ha.2.2.2⟩ ?_
   simpa [Value.ownBlock] using a1
theorem XE {ys:List Int}{y:Int}(h:trm ys=[y]):val ys=y:=by rw[<-ip,h];simp[val]
set_option maxHeartbeats 1000000 in
set_option maxRecDepth 10000 in
theorem J9 (A B:Option Addr) (n c m d:Nat) (xs ys:List Int) (w:World) (ha:Sl w A n c xs) (hb:Sl w B m d ys) (hn:n<=100000000) (j:(trm ys).length=1):
 Calls Tryz.prog 263 #[.slice A n c,.slice B m d] w (CE w (val xs/val ys) (val xs%val ys)):=by
 obtain⟨X,J⟩: ∃X,trm xs=X:=⟨_,rfl⟩
 obtain⟨Y,H⟩: ∃Y,trm ys=Y:=⟨_,rfl⟩
 obtain⟨k,W⟩: ∃k,X.length=k:=⟨_,rfl⟩
 have ta:=ha.trm
 have tb:=hb.trm
 have I:=sf ys
 have D:=ip xs
 rw[J] at ta D
 have a5:k<=n:=by have:=sA xs;rw[J,W,ha.len] at this;exact this
 rw[j] at tb
 rw[H] at tb j I
 rw[W] at ta
 obtain⟨b1,o1,y,e1,a4,hy,a1,a3,a0⟩:=tb.at_ (show 0<1 by omega)
 rw[um] at a1
 have h:Y=[y]:=by
  cases Y with
  |nil=>simp at j
  |cons z zs=>
   simp at j;subst j;have:=hy.out;simp at this;rw[this]
 have E:val ys=y:=XE (by rw[H,h])
 have a2:0<y:=by
  rw[h] at I;rcases kr 0 y with K|K;·exact K
  ·have:y=0:=by omega
   subst this;cases I
 subst e1
 rw[E,<-D]
 have HX:=gw J
 have HY:=gw H
 have Hk:=gw W
 have Hl:=gw j
 clear J H W j D I h E
 go_enter Tryz.func263,Tryz.ntmps263
 go_wp2_with fail
 refine(lN A n c k xs X w ha HX Hk).mono ?_
 rintro e w1 ⟨rfl,rfl⟩
 go_wp2_with fail
 refine(lN _ m d 1 ys Y w hb HY Hl).mono ?_
 rintro e w1 ⟨rfl,rfl⟩
 go_wp2_with fail
 refine(BL A k c X y w ta (by omega) a2 a0).mono ?_
 rintro e w' ⟨A1,n1,c1,zs,B1,m1,d1,rs,rfl,K,h3,h4,h5,h6⟩
 go_wp2
 go_ret2
 exact⟨A1,n1,c1,zs,B1,m1,d1,rs,rfl,K,h3,h4,h5,h6⟩
set_option maxHeartbeats 1000000 in
set_option maxRecDepth 10000 in
theorem IJ (A B:Option Addr) (n c m d:Nat) (xs ys:List Int) (w:World) (I:Sl w A n c xs) (hb:Sl w B m d ys) (hn:n<=100000000) (h1:(trm ys).length≠1) (j:val xs<val ys):
 Calls Tryz.prog 263 #[.slice A n c,.slice B m d] w (CE w (val xs/val ys) (val xs%val ys)):=by
 obtain⟨X,J⟩: ∃X,trm xs=X:=⟨_,rfl⟩
 obtain⟨Y,hY⟩: ∃Y,trm ys=Y:=⟨_,rfl⟩
 obtain⟨k,W⟩: ∃k,X.length=k:=⟨_,rfl⟩
 obtain⟨l,hl⟩: ∃l,Y.length=l:=⟨_,rfl⟩
 have K:=I.trm
 have tb:=hb.trm
 have D:=ip xs
 have H:=ip ys
 rw[J] at K D
 rw[hY] at tb h1 H
 have a3:k<=n:=by have:=sA xs;rw[J,W,I.len] at this;exact this
 rw[W] at K
 rw[hl] at tb h1
 have a2:l<=9223372036854775807:=by have:=tb.2.1;have:=tb.2.2.1;omega
 have hq:val xs/val ys=0:=Int.ediv_eq_zero_of_lt (cm I.2.2.2) j
 have hr:val xs%val ys=val xs:=Int.emod_eq_of_lt (cm I.2.2.2) j
 rw[hq,hr,<-D]
 have Hc:Hid (dC (val X) (val Y)= -1):=by show _=_;rw[D,H];exact eg j
 have HX:=gw J
 have HY:=gw hY
 have Hk:=gw W
 have Hl:=gw hl
 have a1:((l:Int)==1)=false:=by simp;omega
 clear J hY W hl D H hq hr j h1
 go_enter Tryz.func263,Tryz.ntmps263
 go_wp2_with fail
 refine(lN A n c k xs X w I HX Hk).mono ?_
 rintro e w1 ⟨rfl,rfl⟩
 go_wp2_with fail
 refine(lN _ m d l ys Y w hb HY Hl).mono ?_
 rintro e w1 ⟨rfl,rfl⟩
 go_wp2_with fail
 refine(nn A B k c l d X Y w K tb).mono ?_
 rintro e w1 ⟨rfl,h⟩
 rw[Hc.out]
 go_wp2_with (at_builtin;go_must (refine HQ rfl _ _ rfl A k c X rfl rfl (K.below h) (by omega) ?_);intro v' w2 E a0)
 obtain⟨A',c',rfl⟩:=E.form
 go_ret2
 exact⟨none,0,0,[],A',k,c',X,rfl,⟨pB _ _ _ _,Lim.nil⟩,rfl,E.le h.size,rfl,h.grown a0 h.size (by simp)⟩
end Go.Proofs.YtegeknjkgadehaaGreat
