/-Plain arithmetic of numbers in limbs of base 10^9:what a list of limbs is worth;leading zeros;sizes. No condition. -/
import Derived.WalkKit
import Derived.Below
import Derived.Laws.OwnMore
import Derived.Deep.Draws
import Derived.WalkSmall
import Derived.Lib.Hide
import Derived.Test.YtegeknjkgadehaaGreatProg
import Derived.WalkSpells
import Derived.WalkLawsBesides
import Derived.StillTactics
import Derived.Outline
import Derived.Deep.QuietTactic
import Derived.BigQuiet
import Derived.Deep.RegionHeld3
import Derived.Handy
import Derived.RegionTactic
import Derived.ChangeAlike
import Derived.BigRegion
import Derived.Laws.AppendOwnNone
namespace Go.Proofs.YtegeknjkgadehaaGreat
open Go Go.RowKit
section
variable {d x:Int}{xs ys zs:List Int}{i k m n:Nat}
theorem bk:type_of% @Nat.le_refl:=@Nat.le_refl
theorem fe:type_of% @Go.RowKit.Below.refl:=@Go.RowKit.Below.refl
theorem dt:type_of% @List.mem_cons:=@List.mem_cons
theorem dB:type_of% @List.length_append:=@List.length_append
theorem dS:type_of% @List.take_of_length_le:=@List.take_of_length_le
theorem dN:type_of% @Nat.zero_add:=@Nat.zero_add
theorem fv:type_of% @List.mem_cons_of_mem:=@List.mem_cons_of_mem
theorem fC:type_of% @List.mem_cons_self:=@List.mem_cons_self
theorem fF:type_of% @List.length_take:=@List.length_take
theorem gI:type_of% @List.getElem?_eq_getElem:=@List.getElem?_eq_getElem
theorem gG:type_of% @Nat.le_trans:=@Nat.le_trans
theorem gX:type_of% @Go.Lib.hid:=@Go.Lib.hid
theorem iB:type_of% @Nat.zero_le:=@Nat.zero_le
theorem jh:type_of% @Nat.min_eq_left:=@Nat.min_eq_left
theorem je:type_of% @Nat.eq_zero_or_pos:=@Nat.eq_zero_or_pos
theorem jD:type_of% @List.length_drop:=@List.length_drop
theorem jM:type_of% @List.length_eq_zero_iff:=@List.length_eq_zero_iff
theorem lh:type_of% @List.mem_append:=@List.mem_append
theorem kW:type_of% @Nat.lt_of_lt_of_le:=@Nat.lt_of_lt_of_le
theorem kI:type_of% @Int.lt_or_le:=@Int.lt_or_le
theorem mp:type_of% @Int.mul_nonneg:=@Int.mul_nonneg
theorem mU:type_of% @List.drop_zero:=@List.drop_zero
theorem nT:type_of% @Nat.lt_or_ge:=@Nat.lt_or_ge
theorem oE:type_of% @List.append_assoc:=@List.append_assoc
theorem ov:type_of% @List.drop_eq_getElem_cons:=@List.drop_eq_getElem_cons
theorem oA:type_of% @Go.Proofs.Tryz.underlying36:=@Go.Proofs.Tryz.underlying36
theorem pP:type_of% @List.take_length:=@List.take_length
theorem pU:type_of% @List.getElem?_map:=@List.getElem?_map
theorem pz:type_of% @Int.emod_lt_of_pos:=@Int.emod_lt_of_pos
theorem qG:type_of% @Int.le_refl:=@Int.le_refl
theorem qg:type_of% @Int.mul_le_mul_of_nonneg_left:=@Int.mul_le_mul_of_nonneg_left
theorem qM:type_of% @List.drop_eq_nil_of_le:=@List.drop_eq_nil_of_le
theorem qJ:type_of% @Int.mul_le_mul:=@Int.mul_le_mul
theorem qY:type_of% @Int.emod_nonneg:=@Int.emod_nonneg
theorem t5:type_of% @Int.mul_comm:=@Int.mul_comm
theorem uW:type_of% @List.getElem_mem:=@List.getElem_mem
theorem wt:type_of% @List.take_append_of_le_length:=@List.take_append_of_le_length
theorem wx:type_of% @Go.RowKit.Below.heap_alloc:=@Go.RowKit.Below.heap_alloc
theorem ws:type_of% @List.append_nil:=@List.append_nil
theorem qZ:type_of% @List.nil_append:=@List.nil_append
theorem ru:type_of% @Nat.add_zero:=@Nat.add_zero
theorem tT:type_of% @List.mem_of_getElem? :=@List.mem_of_getElem?
theorem ti:type_of% @Int.ediv_nonneg:=@Int.ediv_nonneg
theorem uh:type_of% @List.length_cons:=@List.length_cons
theorem vk:type_of% @Nat.sub_self:=@Nat.sub_self
theorem uS:type_of% @List.getElem?_eq_none:=@List.getElem?_eq_none
theorem wY:type_of% @List.cons_append:=@List.cons_append
theorem xf:type_of% @Int.emod_add_mul_ediv:=@Int.emod_add_mul_ediv
theorem xa:type_of% @List.drop_append_of_le_length:=@List.drop_append_of_le_length
theorem zE:type_of% @List.take_append_drop:=@List.take_append_drop
theorem CX:type_of% @List.drop_set_of_lt:=@List.drop_set_of_lt
def val:List Int->Int
 |[]=>0
 |x::xs=>x+1000000000*val xs
def Lim (xs:List Int):Prop:= ∀x∈xs,0<=x/\x<1000000000
def pw (n:Nat):Int:=1000000000^n
theorem tL:pw 0=1:=rfl
theorem eZ (n:Nat):pw (n+1)=1000000000*pw n:=by unfold pw;rw[Int.pow_succ,t5]
theorem eX (n:Nat):1<=pw n:=by
 induction n with
 |zero=>exact qG _
 |succ n j=>rw[eZ];omega
theorem wJ (n m:Nat):pw (n+m)=pw n*pw m:=by unfold pw;exact Int.pow_add _ _ _
theorem nC (h:n<=m):pw n<=pw m:=by obtain⟨k,rfl⟩:=Nat.le.dest h;rw[wJ];have h1:=eX n;have:=qg (eX k) (show 0<=pw n by omega);omega
theorem U6 (h:pw n<pw m):n<m:=by
 rcases nT n m with h1|h1;·exact h1
 .have:=nC h1;omega
theorem eB (x:Int) (xs:List Int):val (x::xs)=x+1000000000*val xs:=rfl
theorem pn (xs ys:List Int):val (xs++ys)=val xs+pw xs.length*val ys:=by
 induction xs with
 |nil=>simp[val,tL]
 |cons x xs j=>rw[wY,eB,j,eB,uh,eZ,Int.mul_add,Int.mul_assoc];omega
theorem o5 (xs:List Int) (x:Int):val (xs++[x])=val xs+pw xs.length*x:=by rw[pn,eB];simp[val]
theorem Lim.nil:Lim []:=fun x h=>by cases h
theorem Lim.cons (h0:0<=x) (h1:x<1000000000) (h:Lim xs):Lim (x::xs):=by
 intro y j;rcases dt.1 j with rfl|j;·grind
 .exact h y j
theorem Lim.head (h:Lim (x::xs)):0<=x/\x<1000000000:=h x (fC ..)
theorem Lim.tail (h:Lim (x::xs)):Lim xs:=fun y j=>h y (fv _ j)
theorem Lim.append (h:Lim xs) (k:Lim ys):Lim (xs++ys):=by
 intro y j;rcases lh.1 j with j|j;·exact h y j
 .exact k y j
theorem Lim.snoc (h:Lim xs) (h0:0<=x) (h1:x<1000000000):Lim (xs++[x]):=h.append (Lim.nil.cons h0 h1)
theorem Lim.take (h:Lim xs) (n:Nat):Lim (xs.take n):=fun y j=>h y (List.mem_of_mem_take j)
theorem Lim.drop (h:Lim xs) (n:Nat):Lim (xs.drop n):=fun y j=>h y (List.mem_of_mem_drop j)
theorem Lim.at_ (h:Lim xs) (j:xs[i]? =some x):0<=x/\x<1000000000:=h x (tT j)
theorem Lim.zeros (n:Nat):Lim (List.replicate n 0):=fun x h=>by rw[(List.mem_replicate.1 h).2];omega
theorem zx (n:Nat):val (List.replicate n 0)=0:=by
 induction n with
 |zero=>rfl
 |succ n j=>rw[List.replicate_succ,eB,j];rfl
theorem cH (h:Lim xs):0<=val xs:=by
 induction xs with
 |nil=>exact qG _
 |cons x xs j=>have:=j h.tail;have:=h.head;rw[eB];omega
theorem fD (h:Lim xs):val xs<pw xs.length:=by
 induction xs with
 |nil=>exact Int.one_pos
 |cons x xs j=>have h1:=j h.tail;have D:=h.head;rw[eB,uh,eZ];omega
theorem kJ (xs:List Int) (n:Nat) (h:n<=xs.length):val xs=val (xs.take n)+pw n*val (xs.drop n):=by have e:=pn (xs.take n) (xs.drop n);rw[zE,fF,jh h] at e;grind
def trm (xs:List Int):List Int:=(xs.reverse.dropWhile (· ==0)).reverse
theorem nt (xs:List Int):trm (xs++[0])=trm xs:=by simp[trm]
theorem u4 (xs:List Int) (x:Int) (h:x≠0):trm (xs++[x])=xs++[x]:=by simp[trm,h]
theorem B3 {j:Type}(xs:List j):xs=[]\/ ∃ys y,xs=ys++[y]:=by
 rcases List.eq_nil_or_concat xs with h|⟨ys,y,h⟩;·grind
 grind
theorem Mq {p:List Int->Prop}(h0:p []) (h1: ∀xs,p xs->p (xs++[0])) (D: ∀xs x,x≠0->p (xs++[x])): ∀xs,p xs:=by
 intro xs;generalize j:xs.length=n;induction n generalizing xs with
 |zero=>rw[jM.1 j];exact h0
 |succ n I=>
  rcases B3 xs with rfl|⟨ys,y,rfl⟩;·grind
  grind
theorem xF (xs:List Int): ∃n,n<=xs.length/\trm xs=xs.take n/\xs=xs.take n++List.replicate (xs.length-n) 0:=by
 refine Mq (p:=fun xs=> ∃n,n<=xs.length/\trm xs=xs.take n/\xs=xs.take n++List.replicate (xs.length-n) 0) ⟨0,bk _,rfl,rfl⟩ ?_ ?_ xs
 .rintro xs ⟨n,j,e,I⟩;refine⟨n,by simp;omega,by rw[nt,e,wt j],?_⟩;rw[wt j,dB,show xs.length+[(0:Int)].length-n=(xs.length-n)+1 from by simp;omega,List.replicate_succ',<-oE,<-I]
 .intro xs x D;exact⟨(xs++[x]).length,bk _,by rw[u4 _ _ D,pP],by rw[vk,pP];simp⟩
theorem iT (xs:List Int):val (trm xs)=val xs:=by
 obtain⟨n,D,e,j⟩:=xF xs;rw[e];conv=>rhs;rw[j]
 rw[pn,zx];simp
theorem tu (xs:List Int):(trm xs).length<=xs.length:=by obtain⟨n,j,e,_⟩:=xF xs;rw[e,fF];omega
theorem Lim.trm (h:Lim xs):Lim (trm xs):=by obtain⟨n,j,e,_⟩:=xF xs;rw[e];exact h.take n
def Nrm (xs:List Int):Prop:=trm xs=xs
theorem Nrm.nil:Nrm []:=rfl
theorem tk (xs:List Int):Nrm (trm xs):=by
 refine Mq (p:=fun xs=>Nrm (trm xs)) rfl ?_ ?_ xs;·intro xs h;rw[nt];exact h
 .intro xs x j;rw[u4 _ _ j];exact u4 _ _ j
theorem DH (xs:List Int) (x:Int) (j:x≠0):Nrm (xs++[x]):=u4 xs x j
theorem Nrm.last (h:Nrm xs) (I:xs≠ []): ∃ys y,xs=ys++[y]/\y≠0:=by
 rcases B3 xs with e|⟨ys,y,e⟩;·grind
 .refine⟨ys,y,e,fun j=>?_⟩;subst j;have h1:trm (ys++[0])=ys++[0]:=by rw[<-e];exact h
  rw[nt] at h1;have D:=tu ys;grind
theorem Nrm.ge (h:Nrm xs) (hl:Lim xs) (D:xs≠ []):pw (xs.length-1)<=val xs:=by obtain⟨ys,y,rfl,J⟩:=h.last D;have h1:=hl y (by simp);have I:=cH (fun z j=>hl z (by simp[j]):Lim ys);have W:=eX ys.length;rw[o5,show(ys++[y]).length-1=ys.length from by simp];have:=qg (show 1<=y by omega) (show 0<=pw ys.length by omega);omega
theorem NW: ∀ {xs ys:List Int},Lim xs->Lim ys->xs.length=ys.length->val xs=val ys->xs=ys
 |[],[],_,_,_,_=>rfl
 |[],y::ys,_,_,h,_=>by simp at h
 |x::xs,[],_,_,h,_=>by simp at h
 |x::xs,y::ys,hx,hy,hl,hv=>by
  rw[eB,eB] at hv;have h1:=hx.head;have D:=hy.head;have e1:x=y:=by omega
  have j:val xs=val ys:=by omega
  rw[e1,NW hx.tail hy.tail (by simpa using hl) j]
theorem Nrm.len (h:Nrm xs) (hl:Lim xs) (j:val xs<pw k):xs.length<=k:=by
 rcases Classical.em (xs=[]) with h1|h1;·grind
 .have D:=h.ge hl h1;have I:=U6 (show pw (xs.length-1)<pw k by omega);grind
theorem Nrm.inj (I:Nrm xs) (J:Nrm ys) (D:Lim xs) (j:Lim ys) (h:val xs=val ys):xs=ys:=by have h1:=I.len D (by rw[h];exact fD j);have W:=J.len j (by rw[<-h];exact fD D);exact NW D j (by omega) h
def dT (a b:Int):Int:=if a<b then-1 else if b<a then 1 else 0
theorem BG (D:Nrm ys) (I:Lim xs) (j:Lim ys) (h:xs.length<ys.length):val xs<val ys:=by have h1:=fD I;have J:=D.ge j (fun e=>by subst e;simp at h);have W:=nC (show xs.length<=ys.length-1 by omega);omega
theorem Hq (lx:Lim xs) (ly:Lim ys) {y:Int}(I:xs[i]? =some x) (J:ys[i]? =some y) (W:xs.drop (i+1)=ys.drop (i+1)) (h:x<y):val xs<val ys:=by
 have D:i<xs.length:=by grind
 have j:i<ys.length:=by grind
 have e1:=kJ xs i (by omega);have e2:=kJ ys i (by omega);have d1:xs.drop i=x::xs.drop (i+1):=by rw[ov D];congr;rw[gI D] at I;simpa using I
 have d2:ys.drop i=y::ys.drop (i+1):=by rw[ov j];congr;rw[gI j] at J;simpa using J
 rw[d1,eB] at e1;rw[d2,eB,<-W] at e2;have h1:=fD (lx.take i);have h2:=cH (ly.take i);rw[fF,jh (by omega)] at h1;have h3:=eX i;have h4:pw i*(x+1000000000*val (xs.drop (i+1)))+pw i<=pw i*(y+1000000000*val (xs.drop (i+1))):=by have:=qg (show x+1000000000*val (xs.drop (i+1))+1<=y+1000000000*val (xs.drop (i+1)) by omega) (show 0<=pw i by omega);grind
 omega
theorem aQ (h:xs[k]? =some x):val (xs.take (k+1))=val (xs.take k)+pw k*x:=by
 have j:k<xs.length:=by grind
 rw[List.take_add_one,h];show val (xs.take k++[x])=_;rw[o5,fF,jh (by omega)]
theorem fN (h:xs.length<=k):val (xs.take (k+1))=val (xs.take k):=by rw[dS (by omega),dS h]
theorem cV (h:xs.length<=k):val (xs.take k)=val xs:=by rw[dS h]
theorem mX {c S t c':Int}(hl:zs.length=k) (h:val zs+pw k*c=S) (j:d+1000000000*c'=c+t):val (zs++[d])+pw (k+1)*c'=S+pw k*t:=by rw[o5,hl,eZ,<-h];grind
theorem BJ {o:Int}(h:zs[k]? =some o):val (zs.set k d)=val zs+pw k*(d-o):=by
 induction zs generalizing k with
 |nil=>simp at h
 |cons z zs j=>
  cases k with
  |zero=>simp at h;rw[List.set_cons_zero,eB,eB,tL];omega
  |succ k=>rw[List.set_cons_succ,eB,eB,j h,eZ];grind
theorem Lim.set (h:Lim zs) (h0:0<=d) (h1:d<1000000000):Lim (zs.set k d):=by
 intro y j;rcases List.mem_or_eq_of_mem_set j with j|rfl;·exact h y j
 grind
theorem mE (h:zs.length=k):(zs++List.replicate (m+1) 0).set k d=(zs++[d])++List.replicate m 0:=by subst h;grind
theorem acU (h:zs.length=k):(zs++List.replicate (m+1) 0)[k]? =some 0:=by grind
def Zr (zs:List Int) (k:Nat):Prop:= ∀j z,k<=j->zs[j]? =some z->z=0
theorem Zr.zeros (n k:Nat):Zr (List.replicate n 0) k:=fun j z _ h=>by have:=tT h;exact(List.mem_replicate.1 this).2
theorem Zr.set (h:Zr zs k) (hi:i<k):Zr (zs.set i d) k:=fun j z I D=>by rw[List.getElem?_set_ne (by omega)] at D;exact h j z I D
theorem Zr.set_at (h:Zr zs k):Zr (zs.set k d) (k+1):=fun j z I D=>by rw[List.getElem?_set_ne (by omega)] at D;exact h j z (by omega) D
theorem oM (h:zs.length=n) (j:k<n): ∃x,zs[k]? =some x:=by simp_all
end
section
open Go.RowKit
variable {C a b o u x y:Int}{os us xs ys zs:List Int}{B base c i k n sz:Nat}{A:Option Addr}{row:Option Nat}{e:TypeId}{v:Value}{w w' wr:World}
theorem Below.drewN' {a:World}(h:Below B a w) (n:Nat):Below B a (w.drewN n):=⟨h.os,h.tape,h.output,h.size,h.block⟩
def Rd (w:World) (sz:Nat) (A:Option Addr) (n:Nat) (xs:List Value):Prop:=
 xs.length=n*sz/\(0<n-> ∃b off,A=some ⟨b,off,none⟩/\b<w.heap.size/\ ∀j u,xs[j]? =some u->w.cell? ⟨b,off+j,none⟩=some u)
section
variable {w w':World}{sz n:Nat}{A:Option Addr}{xs:List Value}
theorem Rd.nil:Rd w sz A 0 []:=⟨by simp,fun h=>absurd h (by omega)⟩
theorem Rd.below (h:Rd w sz A n xs) (D:Below w.heap.size w w'):Rd w' sz A n xs:=
 ⟨h.1,fun J=>by obtain⟨b,off,e,hlt,W⟩:=h.2 J;exact⟨b,off,e,kW hlt D.size,fun j u I=>(D.cell hlt).trans (W j u I)⟩⟩
theorem Rd.own (h:w.ownsRow base e sz (.slice A n c) n xs):Rd w sz A n xs:=by
 refine⟨h.1,fun hn=>?_⟩;rcases h.2 with⟨_,h0⟩|⟨g,cap,D,hv,_,hg,J,_,W,I⟩;·omega
 .have hA:A=some ⟨g,0,none⟩:=by injection hv
  subst hA;have hlt:g<w.heap.size:=by grind
  refine⟨g,0,rfl,hlt,fun j u hu=>?_⟩;rw[dN,cell_of_row w g j D e (0,0) hg];grind
theorem Rd.at_ (h:Rd w 1 A n xs) (D:k<n): ∃b off u,A=some ⟨b,off,none⟩/\b<w.heap.size/\xs[k]? =some u/\w.cell? ⟨b,off+k,none⟩=some u:=by
 obtain⟨b,off,e,hlt,j⟩:=h.2 (by omega);have hl:k<xs.length:=by have:=h.1;omega
 exact⟨b,off,xs[k],e,hlt,gI hl,j k _ (gI hl)⟩
end
theorem KV {xs:List Value}(h:w.ownsRow base e sz v n xs): ∀g,v.ownBlock=some g->base<=g:=by
 intro g j;rcases h.2 with⟨rfl,_⟩|⟨I,cap,D,rfl,J,_⟩;·simp[Value.ownBlock] at j
 .simp[Value.ownBlock] at j;omega
theorem Ab {xs:List Value}(h:w.ownsRow base e sz v n xs) (W:Below w.heap.size w wr):wr.ownsRow base e sz v n xs:=by
 refine⟨h.1,?_⟩;rcases h.2 with h0|⟨g,cap,j,I,D,J,r⟩;·grind
 .have hlt:g<w.heap.size:=by
   rcases nT g w.heap.size with h1|h1;·grind
   grind
  exact .inr ⟨g,cap,j,I,D,(W.block g hlt).trans J,r⟩
theorem jv {w1:World}{xs:List Value}{o:Obj}(h:wr.ownsRow base e sz v n xs) (D:Below base w wr) (j:base<=wr.heap.size) (I:(wr.alloc o).grownBy w1 v.ownBlock):Below base w w1:=
 (D.alloc j o).grown I (by simp;omega) (KV h)
theorem qQ (w:World) (base sz:Nat) (e:TypeId):w.ownsRow base e sz (.slice none 0 0) 0 []:=⟨by simp,.inl ⟨rfl,rfl⟩⟩
theorem OE (D:Below w.heap.size w w') {a:Addr}(j:w.cell? a=some v):w'.cell? a=some v:=(D.cell (World.block_lt_of_cell? w a j)).trans j
def Bk (w:World) (g:Nat) (t:TypeId) (cs:Array Value):Prop:=w.heap[g]? =some (.cells cs t (0,0))
section
variable {w w':World}{g:Nat}{t:TypeId}{cs:Array Value}
theorem Bk.lt (h:Bk w g t cs):g<w.heap.size:=by
 rcases nT g w.heap.size with h1|h1;·grind
 .unfold Bk at h;rw[Array.getElem?_eq_none h1] at h;cases h
theorem Bk.cell (h:Bk w g t cs) (i:Nat):w.cell? ⟨g,i,none⟩=cs[i]? :=cell_of_row w g i cs t (0,0) h
theorem Bk.frozen (h:Bk w g t cs) (i:Nat):w.frozen? ⟨g,i,none⟩=false:=by unfold Bk at h;simp[World.frozen?,h]
theorem Bk.new (w:World) (t:TypeId) (cs:Array Value):Bk (w.alloc (.cells cs t)) w.heap.size t cs:=heap_alloc_new w _
theorem Bk.alloc (h:Bk w g t cs) (o:Obj):Bk (w.alloc o) g t cs:=(wx w o g h.lt).trans h
theorem Bk.below (h:Bk w g t cs) (j:Below w.heap.size w w'):Bk w' g t cs:=(j.block g h.lt).trans h
theorem Bk.grown (h:Bk w g t cs) (j:w.grownBy w' row) (D:some g≠row):Bk w' g t cs:=(j.block g h.lt D).trans h
end
def RdI (k:IntKind) (w:World) (A:Option Addr) (n:Nat) (xs:List Int):Prop:=Rd w 1 A n (xs.map (Value.int k))
section
variable {k:IntKind}{w w':World}{n:Nat}{A:Option Addr}{xs:List Int}
theorem RdI.len (h:RdI k w A n xs):xs.length=n:=by have:=h.1;simpa using this
theorem RdI.below (h:RdI k w A n xs) (j:Below w.heap.size w w'):RdI k w' A n xs:=Rd.below h j
theorem RdI.at_ (h:RdI k w A n xs) (hi:i<n): ∃b off x,A=some ⟨b,off,none⟩/\b<w.heap.size/\Hid (xs[i]? =some x)/\w.cell? ⟨b,off+i,none⟩=some (.int k x):=by
 obtain⟨b,off,u,e,hlt,j,I⟩:=Rd.at_ h hi;rw[pU] at j;cases D:xs[i]? with
 |none=>rw[D] at j;cases j
 |some q=>rw[D] at j;simp at j;exact⟨b,off,q,e,hlt,rfl,by rw[I,j]⟩
theorem RdI.lit (w:World) (t:TypeId) (k:IntKind) (xs:List Int) (cs:Array Value) (b n:Nat) (J:w.heap.size=b) (D:cs=(xs.map (Value.int k)).toArray) (I:xs.length=n):RdI k (w.alloc (.cells cs t)) (some ⟨b,0,none⟩) n xs:=by subst J D I;refine⟨by simp,fun _=>⟨w.heap.size,0,rfl,by simp,fun j u W=>?_⟩⟩;rw[dN,(Bk.new w t _).cell j];grind
theorem DF {w:World}{n:Nat}{xs:List Value}(h:w.ownsRow base e sz v n xs): ∃A c,v=.slice A n c:=by
 rcases h.2 with⟨rfl,rfl⟩|⟨g,cap,j,rfl,_⟩;·grind
 grind
theorem yn {j:Type}{xs:List j}{k:Nat}{x:j}(h:xs[k]? =some x):xs.take (k+1)=xs.take k++[x]:=by rw[List.take_add_one,h];rfl
end
def Sl (w:World) (A:Option Addr) (n c:Nat) (xs:List Int):Prop:=RdI .u32 w A n xs/\n<=c/\c<=9223372036854775807/\Lim xs
section
variable {w w':World}{A:Option Addr}{n c:Nat}{xs:List Int}
theorem Sl.below (h:Sl w A n c xs) (j:Below w.heap.size w w'):Sl w' A n c xs:=⟨h.1.below j,h.2.1,h.2.2.1,h.2.2.2⟩
theorem Sl.len (h:Sl w A n c xs):xs.length=n:=h.1.len
theorem Sl.take (h:Sl w A n c xs) (k c':Nat) (I:k<=n) (D:k<=c') (hm:c'<=9223372036854775807):Sl w A k c' (xs.take k):=by refine⟨⟨by have:=h.len;simp;omega,fun h0=>?_⟩,D,hm,h.2.2.2.take k⟩;obtain⟨b,off,e,hlt,j⟩:=h.1.2 (by omega);grind
theorem Sl.at_ (h:Sl w A n c xs) (hi:i<n): ∃b off x,A=some ⟨b,off,none⟩/\b<w.heap.size/\Hid (xs[i]? =some x)/\w.cell? ⟨b,off+i,none⟩=some (.int .u32 x)/\0<=x/\x<1000000000:=by obtain⟨b,off,x,e,hlt,j,D⟩:=h.1.at_ hi;exact⟨b,off,x,e,hlt,j,D,(h.2.2.2.at_ j.out).1,(h.2.2.2.at_ j.out).2⟩
end
theorem rl (h:xs[k]? =some x) (j:x=0):trm (xs.take (k+1))=trm (xs.take k):=by rw[yn h,j,nt]
theorem ri (h:xs[k]? =some x) (j:x≠0):trm (xs.take (k+1))=xs.take (k+1):=by rw[yn h,u4 _ _ j]
theorem Ji (h:xs.length=n):trm (xs.take n)=trm xs:=by rw[dS (by omega)]
theorem jZ (neg:Bool) (A:Option Addr) (n c:Nat) (xs:List Int) (w:World) (h:Sl w A n c xs):Calls Tryz.prog 190 #[.bool neg,.slice A n c] w fun e w'=>e=.returned (.agg #[.bool (neg&&decide (0<(trm xs).length)),.slice A (trm xs).length (trm xs).length])/\Below w.heap.size w w':=by
 have I:=h.len
 obtain⟨_,a3,a6,_⟩:=id h
 cases neg
 all_goals
  go_enter Tryz.func190,Tryz.ntmps190
  go_wp2
  go_loopw [5] (fun i wr=> ∃k:Nat,k<=n/\i=.int .i64 k/\Hid (trm (xs.take k)=trm xs)/\wr=w.alloc (.cells #[.bool false,.slice none 0 0] 38)) (fun i _=>(intOf i).toNat)
  case atStart=>exact⟨n,bk _,rfl,Ji I,rfl⟩
  case round=>
   obtain⟨k,hk,rfl,H,rfl⟩:=hrel
   rcases je k with h0|h0
   .subst h0
    have Hm:Hid ((trm xs).length=0):=by show _=_;rw[<-H.out];rfl
    go_wp2
    go_returns
    exact⟨by rw[Hm.out];rfl,(fe _ _).alloc (bk _) _⟩
   .obtain⟨k,rfl⟩: ∃j,k=j+1:=⟨k-1,by omega⟩
    obtain⟨b,off,x,rfl,hb,hx,hc,a5,a4⟩:=(h.below ((fe _ _).alloc (bk _) (.cells #[.bool false,.slice none 0 0] 38))).at_ (show k<n by omega)
    by_cases D:x=0
    .have W:Hid (trm (xs.take k)=trm xs):=by show _=_;rw[<-rl hx.out D];exact H.out
     go_wp2
     go_roundw
     case rel=>exact⟨k,by omega,by go_num,W,by first|trivial|rfl⟩
     case measure=>simp[intOf]<;>omega
    .have W:Hid ((trm xs).length=k+1):=by show _=_;rw[<-H.out,ri hx.out D,fF];omega
     go_wp2
     go_returns
     exact⟨by rw[W.out];simp,(fe _ _).alloc (bk _) _⟩
theorem Tk (A:Option Addr) (n c:Nat) (xs:List Int) (w:World) (h:Sl w A n c xs):Calls Tryz.prog 261 #[.slice A n c] w fun e w'=>e=.returned (.slice A (trm xs).length c)/\w=w':=by
 have I:=h.len
 obtain⟨_,a3,a6,_⟩:=id h
 go_enter Tryz.func261,Tryz.ntmps261
 go_wp2
 go_loop [0] (fun v=> ∃k:Nat,k<=n/\v=.slice A k c/\Hid (trm (xs.take k)=trm xs)) (fun v=>match v with| .slice _ k _=>k|_=>0)
 case atStart=>exact⟨n,bk _,rfl,Ji I⟩
 case round=>
  obtain⟨k,hk,rfl,H⟩:=hrel
  rcases je k with h0|h0
  .subst h0
   have Hm:Hid ((trm xs).length=0):=by show _=_;rw[<-H.out];rfl
   go_wp2
   go_ret
   exact⟨by rw[Hm.out];rfl,rfl⟩
  .obtain⟨k,rfl⟩: ∃j,k=j+1:=⟨k-1,by omega⟩
   obtain⟨b,off,x,rfl,hb,hx,hc,a5,a4⟩:=h.at_ (show k<n by omega)
   by_cases D:x=0
   .have W:Hid (trm (xs.take k)=trm xs):=by show _=_;rw[<-rl hx.out D];exact H.out
    go_wp2
    go_round
    case rel=>exact⟨k,by omega,by first|rfl|go_num,W⟩
    case measure=>simp<;>omega
   .have W:Hid ((trm xs).length=k+1):=by show _=_;rw[<-H.out,ri hx.out D,fF];omega
    go_wp2
    go_ret
    exact⟨by rw[W.out];rfl,rfl⟩
theorem Sl.trm (h:Sl w A n c xs):Sl w A (trm xs).length c (trm xs):=by
 obtain⟨k,D,e,_⟩:=xF xs;have hl:=h.len;have j:(Go.Proofs.YtegeknjkgadehaaGreat.trm xs).length=k:=by rw[e,fF];omega
 rw[j,e];exact h.take k c (by omega) (by have:=h.2.1;omega) h.2.2.1
theorem jV (h:a=b):dT a b=0:=by unfold dT;rw[if_neg (by omega),if_neg (by omega)]
theorem fk (h:a<b):dT a b= -1:=by unfold dT;rw[if_pos h]
theorem fu (h:b<a):dT a b=1:=by unfold dT;rw[if_neg (by omega),if_pos h]
theorem mq (A:Option Addr) (n c k:Nat) (xs X:List Int) (w:World) (h:Sl w A n c xs) (D:Hid (trm xs=X)) (j:Hid (X.length=k)):Calls Tryz.prog 261 #[.slice A n c] w fun e w'=>e=.returned (.slice A k c)/\w=w':=by rw[<-j.out,<-D.out];exact Tk A n c xs w h
theorem nK (A B:Option Addr) (n c m d:Nat) (xs ys:List Int) (w:World) (ha:Sl w A n c xs) (hb:Sl w B m d ys):Calls Tryz.prog 189 #[.slice A n c,.slice B m d] w fun e w'=>e=.returned (.int .i64 (dT (val xs) (val ys)))/\Below w.heap.size w w':=by
 obtain⟨X,hX⟩: ∃X,trm xs=X:=⟨_,rfl⟩
 obtain⟨Y,hY⟩: ∃Y,trm ys=Y:=⟨_,rfl⟩
 obtain⟨k,hk⟩: ∃k,X.length=k:=⟨_,rfl⟩
 obtain⟨l,hl⟩: ∃l,Y.length=l:=⟨_,rfl⟩
 have J:=ha.trm
 have tb:=hb.trm
 have na:=tk xs
 have nb:=tk ys
 have a4:=iT xs
 have a3:=iT ys
 rw[hX] at J na a4
 rw[hY] at tb nb a3
 rw[hk] at J
 rw[hl] at tb
 have c3:k<=9223372036854775807:=by have:=J.2.1;have:=J.2.2.1;omega
 have b6:l<=9223372036854775807:=by have:=tb.2.1;have:=tb.2.2.1;omega
 rw[<-a4,<-a3]
 have HX:=gX hX
 have HY:=gX hY
 have W:=gX hk
 have Hl:=gX hl
 by_cases b3:k=l
 .subst b3
  go_enter Tryz.func189,Tryz.ntmps189
  go_wp2_with fail
  refine(mq A n c k xs X w ha HX W).mono ?_
  rintro e w1 ⟨rfl,rfl⟩
  go_wp2_with fail
  refine(mq B m d k ys Y w hb HY Hl).mono ?_
  rintro e w1 ⟨rfl,rfl⟩
  go_wp2
  go_loopw [5] (fun i wr=> ∃j:Nat,j<=k/\i=.int .i64 ((j:Int)-1)/\Hid (X.drop j=Y.drop j)/\Below w.heap.size w wr) (fun i _=>(intOf i+1).toNat)
  case atStart=>exact⟨k,bk _,rfl,by show _=_;rw[qM (by rw[W.out];omega),qM (by rw[Hl.out];omega)],fe _ _⟩
  case round=>
   obtain⟨j,hj,rfl,H,D⟩:=hrel
   rcases je j with h0|h0
   .subst h0
    have I:Hid (dT (val X) (val Y)=0):=by have h:=H.out;simp only[mU] at h;rw[h];exact jV rfl
    go_wp2
    go_ret
    exact⟨by rw[I.out];rfl,D⟩
   .obtain⟨j,rfl⟩: ∃i,j=i+1:=⟨j-1,by omega⟩
    obtain⟨b1,o1,x,rfl,b7,hx,c6,c8,c7⟩:=(J.below D).at_ (show j<k by omega)
    obtain⟨b2,o2,y,rfl,c5,hy,d3,d2,b5⟩:=(tb.below D).at_ (show j<k by omega)
    by_cases hlt:x<y
    .have I:Hid (dT (val X) (val Y)= -1):=fk (Hq J.2.2.2 tb.2.2.2 hx.out hy.out H.out hlt)
     go_wp2_with fail
     go_quiet (fail)
     go_wp2
     go_ret
     exact⟨by rw[I.out];rfl,Below.drewN' D _⟩
    .by_cases a9:y<x
     .have I:Hid (dT (val X) (val Y)=1):=fu (Hq tb.2.2.2 J.2.2.2 hy.out hx.out H.out.symm a9)
      go_wp2_with fail
      go_quiet (fail)
      go_wp2_with fail
      go_quiet (fail)
      go_wp2
      go_ret
      exact⟨by rw[I.out];rfl,Below.drewN' (Below.drewN' D _) _⟩
     .have Hd:Hid (X.drop j=Y.drop j):=by
       show _=_;have a6:j<X.length:=by rw[W.out];omega
       have a5:j<Y.length:=by rw[Hl.out];omega
       rw[ov a6,ov a5,H.out];have e1:=hx.out;have e2:=hy.out;rw[gI a6] at e1;rw[gI a5] at e2;simp at e1 e2;rw[e1,e2,show x=y from by omega]
      go_wp2_with fail
      go_quiet (fail)
      go_wp2_with fail
      go_quiet (fail)
      go_wp2
      go_roundw
      case rel=>exact⟨j,by omega,by first|rfl|go_num,Hd,Below.drewN' D _⟩
      case measure=>simp[intOf]<;>omega
 .have b4:((k:Int) !=(l:Int))=true:=by simp;omega
  by_cases hlt:k<l
  .have I:Hid (dT (val X) (val Y)= -1):=fk (BG nb J.2.2.2 tb.2.2.2 (by rw[W.out,Hl.out];exact hlt))
   go_enter Tryz.func189,Tryz.ntmps189
   go_wp2_with fail
   refine(mq A n c k xs X w ha HX W).mono ?_
   rintro e w1 ⟨rfl,rfl⟩
   go_wp2_with fail
   refine(mq B m d l ys Y w hb HY Hl).mono ?_
   rintro e w1 ⟨rfl,rfl⟩
   go_wp2
   go_ret
   exact⟨by rw[I.out];rfl,fe _ _⟩
  .have I:Hid (dT (val X) (val Y)=1):=fu (BG na tb.2.2.2 J.2.2.2 (by rw[W.out,Hl.out];omega))
   go_enter Tryz.func189,Tryz.ntmps189
   go_wp2_with fail
   refine(mq A n c k xs X w ha HX W).mono ?_
   rintro e w1 ⟨rfl,rfl⟩
   go_wp2_with fail
   refine(mq B m d l ys Y w hb HY Hl).mono ?_
   rintro e w1 ⟨rfl,rfl⟩
   go_wp2
   go_ret
   exact⟨by rw[I.out];rfl,fe _ _⟩
theorem nP:(Tryz.prog.info? 255).map (fun i=>(i.zero,i.size,i.bytes))=some (some (.int .u32 0),1,4):=by kernel_rfl
def Ow (w:World) (base:Nat) (v:Value) (n:Nat) (xs:List Int):Prop:=w.ownsRow base 255 1 v n (xs.map (Value.int .u32))/\Lim xs
section
variable {w w':World}{base n c:Nat}{A:Option Addr}{v:Value}{xs:List Int}
theorem Ow.len (h:Ow w base v n xs):xs.length=n:=by have:=h.1.1;simpa using this
theorem Ow.form (h:Ow w base v n xs): ∃A c,v=.slice A n c:=DF h.1
theorem Ow.sl (h:Ow w base (.slice A n c) n xs):Sl w A n c xs:=by
 refine⟨Rd.own h.1,?_,?_,h.2⟩
 .rcases h.1.2 with⟨h0,h1⟩|⟨g,cap,D,h0,_,_,h1,_⟩;·injection h0 with _ j I;omega
  .injection h0 with _ j I;omega
 .rcases h.1.2 with⟨h0,h1⟩|⟨g,cap,D,h0,_,_,h1,j,_⟩;·injection h0 with _ j I;omega
  .injection h0 with _ I J;simp[maxLen] at j;omega
theorem Ow.le {b:Nat}(h:Ow w base v n xs) (I:b<=base):Ow w b v n xs:=by
 refine⟨⟨h.1.1,?_⟩,h.2⟩;rcases h.1.2 with h0|⟨g,cap,j,h0,D,r⟩;·exact .inl h0
 .exact .inr ⟨g,cap,j,h0,by omega,r⟩
end
def Eo (w:World) (n:Nat) (x:Int) (e:Ending) (w':World):Prop:= ∃A c zs,e=.returned (.slice A n c)/\Ow w' w.heap.size (.slice A n c) n zs/\val zs=x/\Below w.heap.size w w'
theorem Az (u:Int) (w:World) (h0:0<=u) (h1:u<=18446744073709551615) (_h2:u<1000000000000000000000000000):Calls Tryz.prog 250 #[.int .u64 u] w (Eo w 3 u):=by
 go_enter Tryz.func250,Tryz.ntmps250
 go_wp2
 go_ret
 refine⟨_,_,[u%1000000000,u/1000000000%1000000000,u/1000000000/1000000000],rfl,⟨World.ownsRow_lit w #[.int .u32 (u%1000000000),.int .u32 (u/1000000000%1000000000),.int .u32 (u/1000000000/1000000000)] 3 (bk _) (by unfold maxLen;omega) rfl,?_⟩,?_,(fe _ _).alloc (bk _) _⟩
 .exact((Lim.nil.cons (by omega) (by omega)).cons (by omega) (by omega)).cons (by omega) (by omega)
 .simp only[val];omega
set_option maxRecDepth 10000 in
theorem EK (A B:Option Addr) (n c m d:Nat) (xs ys:List Int) (w:World) (ha:Sl w A n c xs) (hb:Sl w B m d ys) (hn:n<=100000000) (d3:m<=n):Calls Tryz.prog 196 #[.slice A n c,.slice B m d] w (Eo w (n+1) (val xs+val ys))/\ (m<n->Calls Tryz.prog 196 #[.slice B m d,.slice A n c] w (Eo w (n+1) (val xs+val ys))):=by
 have d2:=ha.len
 have b7:=hb.len
 obtain⟨i0,a4,a6,a5,a3⟩:=info_parts nP
 refine⟨?_,fun hlt=>?_⟩
 all_goals
  go_enter Tryz.func196,Tryz.ntmps196
  go_wp2_with (at_make;go_must (refine wpList_make_own _ rfl _ _ 36 rfl w.heap.size 255 i0 (.int .u32 0) 1 oA a4 a6 a5 _ _ _ (n+1) rfl rfl (by omega) (by rw[a3];omega) (by unfold maxLen;omega) (bk _) ?_);intro w1 a9 W)
  go_loopw [22,5,6] (fun i v cy wr=> ∃(k:Nat) (C:Int) (zs:List Int),k<=n/\i=.int .i64 k/\cy=.int .u32 C/\0<=C/\C<=1/\wr.ownsRow w.heap.size 255 1 v k (zs.map (Value.int .u32))/\Below w.heap.size w wr/\Hid (Lim zs/\zs.length=k/\val zs+pw k*C=val (xs.take k)+val (ys.take k)))
   (fun i _ _ _=>n-(intOf i).toNat)
  case atStart=>exact⟨0,0,[],iB _,rfl,rfl,by omega,by omega,a9,(fe _ _).grown W (bk _) (by simp),Lim.nil,rfl,by simp[val]⟩
  case round=>
   clear a9 W
   obtain⟨k,C,zs,hk,rfl,rfl,b3,d5,I,J,H⟩:=hrel
   have hz:=J.size
   by_cases b5:k<n
   .obtain⟨b1,o1,x,rfl,c3,hx,c6,c8,c7⟩:=(ha.below J).at_ b5
    by_cases b4:k<m
    .obtain⟨b2,o2,y,rfl,c5,hy,d6,d4,b6⟩:=(hb.below J).at_ b4
     by_cases hg:1000000000<=x+C+y
     .have Hs:Hid (Lim (zs++[x+C+y-1000000000])/\(zs++[x+C+y-1000000000]).length=k+1/\val (zs++[x+C+y-1000000000])+pw (k+1)*1=val (xs.take (k+1))+val (ys.take (k+1))):=by obtain⟨l1,l2,l3⟩:=H.out;refine⟨l1.snoc (by omega) (by omega),by simp[l2],?_⟩;rw[aQ hx.out,aQ hy.out,mX l2 l3 (d:=x+C+y-1000000000) (c':=1) (t:=x+y) (by omega)];grind
      clear H
      go_wp2_with (at_builtin;go_must (refine wpList_append_own _ rfl _ _ 36 rfl w.heap.size 255 i0 (.int .u32 0) 1 4 oA a4 a6 a5 a3 rfl (by decide) _ _ _ rfl (I.alloc _) ⟨wr.heap.size,0,none⟩ 1 1 [.int .u32 _] rfl rfl (cell_one_new _ _ _) (by simp[Value.oneCell']) (by unfold maxLen;omega) (by omega) (by simp;omega) ?_);intro v' w1 D j _)
      go_roundw
      case rel=>exact⟨k+1,1,_,by omega,by go_num,rfl,by omega,by omega,by simpa using D,jv I J hz j,Hs⟩
      case measure=>simp[intOf]<;>omega
     .have Hs:Hid (Lim (zs++[x+C+y])/\(zs++[x+C+y]).length=k+1/\val (zs++[x+C+y])+pw (k+1)*0=val (xs.take (k+1))+val (ys.take (k+1))):=by obtain⟨l1,l2,l3⟩:=H.out;refine⟨l1.snoc (by omega) (by omega),by simp[l2],?_⟩;rw[aQ hx.out,aQ hy.out,mX l2 l3 (d:=x+C+y) (c':=0) (t:=x+y) (by omega)];grind
      clear H
      go_wp2_with (at_builtin;go_must (refine wpList_append_own _ rfl _ _ 36 rfl w.heap.size 255 i0 (.int .u32 0) 1 4 oA a4 a6 a5 a3 rfl (by decide) _ _ _ rfl (I.alloc _) ⟨wr.heap.size,0,none⟩ 1 1 [.int .u32 _] rfl rfl (cell_one_new _ _ _) (by simp[Value.oneCell']) (by unfold maxLen;omega) (by omega) (by simp;omega) ?_);intro v' w1 D j _)
      go_roundw
      case rel=>exact⟨k+1,0,_,by omega,by go_num,rfl,by omega,by omega,by simpa using D,jv I J hz j,Hs⟩
      case measure=>simp[intOf]<;>omega
    .by_cases hg:1000000000<=x+C
     .have Hs:Hid (Lim (zs++[x+C-1000000000])/\(zs++[x+C-1000000000]).length=k+1/\val (zs++[x+C-1000000000])+pw (k+1)*1=val (xs.take (k+1))+val (ys.take (k+1))):=by obtain⟨l1,l2,l3⟩:=H.out;refine⟨l1.snoc (by omega) (by omega),by simp[l2],?_⟩;rw[aQ hx.out,fN (by omega),mX l2 l3 (d:=x+C-1000000000) (c':=1) (t:=x) (by omega)];grind
      clear H
      go_wp2_with (at_builtin;go_must (refine wpList_append_own _ rfl _ _ 36 rfl w.heap.size 255 i0 (.int .u32 0) 1 4 oA a4 a6 a5 a3 rfl (by decide) _ _ _ rfl (I.alloc _) ⟨wr.heap.size,0,none⟩ 1 1 [.int .u32 _] rfl rfl (cell_one_new _ _ _) (by simp[Value.oneCell']) (by unfold maxLen;omega) (by omega) (by simp;omega) ?_);intro v' w1 D j _)
      go_roundw
      case rel=>exact⟨k+1,1,_,by omega,by go_num,rfl,by omega,by omega,by simpa using D,jv I J hz j,Hs⟩
      case measure=>simp[intOf]<;>omega
     .have Hs:Hid (Lim (zs++[x+C])/\(zs++[x+C]).length=k+1/\val (zs++[x+C])+pw (k+1)*0=val (xs.take (k+1))+val (ys.take (k+1))):=by obtain⟨l1,l2,l3⟩:=H.out;refine⟨l1.snoc (by omega) (by omega),by simp[l2],?_⟩;rw[aQ hx.out,fN (by omega),mX l2 l3 (t:=x) (by omega)];grind
      clear H
      go_wp2_with (at_builtin;go_must (refine wpList_append_own _ rfl _ _ 36 rfl w.heap.size 255 i0 (.int .u32 0) 1 4 oA a4 a6 a5 a3 rfl (by decide) _ _ _ rfl (I.alloc _) ⟨wr.heap.size,0,none⟩ 1 1 [.int .u32 _] rfl rfl (cell_one_new _ _ _) (by simp[Value.oneCell']) (by unfold maxLen;omega) (by omega) (by simp;omega) ?_);intro v' w1 D j _)
      go_roundw
      case rel=>exact⟨k+1,0,_,by omega,by go_num,rfl,by omega,by omega,by simpa using D,jv I J hz j,Hs⟩
      case measure=>simp[intOf]<;>omega
   .obtain rfl:k=n:=by omega
    go_wp2_with (at_builtin;go_must (refine wpList_append_own _ rfl _ _ 36 rfl w.heap.size 255 i0 (.int .u32 0) 1 4 oA a4 a6 a5 a3 rfl (by decide) _ _ _ rfl (I.alloc _) ⟨wr.heap.size,0,none⟩ 1 1 [.int .u32 C] rfl rfl (cell_one_new _ _ _) (by simp[Value.oneCell']) (by unfold maxLen;omega) (by omega) (by simp;omega) ?_);intro v' w1 D j _)
    obtain⟨A',c',rfl⟩:=DF D
    go_ret
    obtain⟨l1,l2,l3⟩:=H.out
    refine⟨A',c',zs++[C],rfl,⟨by simpa using D,l1.snoc b3 (by omega)⟩,?_,jv I J hz j⟩
    rw[o5,l2,l3,cV (by omega),cV (by omega)]
theorem o9 {g:Nat}(h:wr.ownsRow base 255 1 (.slice (some ⟨g,0,none⟩) n c) n (xs.map (Value.int .u32))) (j:xs[k]? =some o):wr.cell? ⟨g,k,none⟩=some (.int .u32 o)/\wr.frozen? ⟨g,k,none⟩=false/\ ∀d,(wr.setCell ⟨g,k,none⟩ (.int .u32 d)).ownsRow base 255 1 (.slice (some ⟨g,0,none⟩) n c) n ((xs.set k d).map (Value.int .u32))/\wr.grownBy (wr.setCell ⟨g,k,none⟩ (.int .u32 d)) (some g):=by
 have hl:xs.length=n:=by have:=h.1;simpa using this
 have D:k<xs.length:=by
  rcases nT k xs.length with h1|h1;·exact h1
  .rw[uS h1] at j;cases j
 refine⟨?_,h.frozenAt k,fun d=>?_⟩
 .rw[h.cellAt k (by omega),pU,j];rfl
 .have:=h.stored k (.int .u32 d)
  rwa [<-List.map_set] at this
theorem sP (n:Nat):(madeCells (Value.int .u32 0).cells (n*1)).toList=(List.replicate n (0:Int)).map (Value.int .u32):=by rw[Nat.mul_one];exact(toList_madeCells_one _ n).trans (by simp)
theorem uE (h:Lim ys) (D:val ys<pw n):val (ys.take n)=val ys:=by
 rcases nT ys.length n with h1|h1;·exact cV (by omega)
 .have e:=kJ ys n h1;have I:=cH (h.take n);have J:=cH (h.drop n);have W:=eX n;rcases kI 0 (val (ys.drop n)) with j|j
  .have:=qg (show 1<=val (ys.drop n) by omega) (show 0<=pw n by omega);omega
  grind
theorem OK (D:Lim zs) (hl:zs.length=n) (W:0<=C) (h:val zs+pw n* -C=val xs-val ys) (J:val ys<=val xs):val zs=val xs-val ys:=by
 have h1:=fD D;have I:=eX n;rcases kI 0 C with j|j
 .have:=qg (show 1<=C by omega) (show 0<=pw n by omega);grind
 grind
theorem E3 (A B:Option Addr) (n c m d:Nat) (xs ys:List Int) (w:World) (ha:Sl w A n c xs) (hb:Sl w B m d ys) (hn:n<=100000000) (hv:val ys<=val xs):Calls Tryz.prog 197 #[.slice A n c,.slice B m d] w (Eo w n (val xs-val ys)):=by
 have b7:=ha.len
 have c6:=hb.len
 have Hv:Hid (val (ys.take n)=val ys/\val ys<=val xs):=⟨uE hb.2.2.2 (by have:=fD ha.2.2.2;rw[b7] at this;omega),hv⟩
 clear hv
 obtain⟨i0,b3,c3,b6,a4⟩:=info_parts nP
 go_enter Tryz.func197,Tryz.ntmps197
 go_wp2_with (at_make;go_must (refine wpList_make_full _ rfl _ _ 36 rfl w.heap.size 255 i0 (.int .u32 0) 1 oA b3 c3 b6 _ _ _ _ n rfl rfl rfl rfl (by rw[a4];omega) (by unfold maxLen;omega) (bk _) ?_);intro w1 J W)
 rw[sP] at J
 go_loopw [15,6] (fun i cy wr=> ∃(k:Nat) (C:Int) (zs:List Int),k<=n/\i=.int .i64 k/\cy=.int .u32 C/\0<=C/\C<=1/\wr.ownsRow w.heap.size 255 1 (.slice (some ⟨w.heap.size,0,none⟩) n n) n ((zs++List.replicate (n-k) 0).map (Value.int .u32))/\Below w.heap.size w wr/\Hid (Lim zs/\zs.length=k/\val zs+pw k* -C=val (xs.take k)-val (ys.take k)))
  (fun i _ _=>n-(intOf i).toNat)
 case atStart=>exact⟨0,0,[],iB _,rfl,rfl,by omega,by omega,J,(fe _ _).grown W (bk _) (by simp),Lim.nil,rfl,by simp[val]⟩
 case round=>
  clear J W
  obtain⟨k,C,zs,hk,rfl,rfl,a6,d7,I,D,H⟩:=hrel
  have hz:=D.size
  by_cases b5:k<n
  .obtain⟨j,hj⟩: ∃j,n-k=j+1:=⟨n-k-1,by omega⟩
   have a5:n-(k+1)=j:=by omega
   rw[hj] at I
   obtain⟨b4,d3,a3⟩:=o9 I (acU H.out.2.1)
   have Hst:Hid (∀d,(wr.setCell ⟨w.heap.size,k,none⟩ (.int .u32 d)).ownsRow w.heap.size 255 1 (.slice (some ⟨w.heap.size,0,none⟩) n n) n (((zs++[d])++List.replicate (n-(k+1)) 0).map (Value.int .u32))/\Below w.heap.size w (wr.setCell ⟨w.heap.size,k,none⟩ (.int .u32 d))):=by intro d;have h1:=a3 d;rw[mE H.out.2.1,<-a5] at h1;exact⟨h1.1,D.grown h1.2 hz (by simp)⟩
   clear a3 I
   obtain⟨b1,o1,x,rfl,c7,hx,d2,d5,d4⟩:=(ha.below D).at_ b5
   by_cases a9:k<m
   .obtain⟨b2,o2,y,rfl,c8,hy,e2,d6,c5⟩:=(hb.below D).at_ a9
    by_cases hg:x<C+y
    .have Hs:Hid (Lim (zs++[x+1000000000-(C+y)])/\(zs++[x+1000000000-(C+y)]).length=k+1/\val (zs++[x+1000000000-(C+y)])+pw (k+1)* -1=val (xs.take (k+1))-val (ys.take (k+1))):=by obtain⟨l1,l2,l3⟩:=H.out;refine⟨l1.snoc (by omega) (by omega),by simp[l2],?_⟩;rw[aQ hx.out,aQ hy.out,mX l2 l3 (d:=x+1000000000-(C+y)) (c':= -1) (t:=x-y) (by omega)];grind
     clear H
     go_wp2
     go_roundw
     case rel=>exact⟨k+1,1,_,by omega,by go_num,rfl,by omega,by omega,(Hst.out _).1,(Hst.out _).2,Hs⟩
     case measure=>simp[intOf]<;>omega
    .have Hs:Hid (Lim (zs++[x-(C+y)])/\(zs++[x-(C+y)]).length=k+1/\val (zs++[x-(C+y)])+pw (k+1)* -0=val (xs.take (k+1))-val (ys.take (k+1))):=by obtain⟨l1,l2,l3⟩:=H.out;refine⟨l1.snoc (by omega) (by omega),by simp[l2],?_⟩;rw[aQ hx.out,aQ hy.out,mX l2 l3 (t:=x-y) (by omega)];grind
     clear H
     go_wp2
     go_roundw
     case rel=>exact⟨k+1,0,_,by omega,by go_num,rfl,by omega,by omega,(Hst.out _).1,(Hst.out _).2,Hs⟩
     case measure=>simp[intOf]<;>omega
   .by_cases hg:x<C
    .have Hs:Hid (Lim (zs++[x+1000000000-C])/\(zs++[x+1000000000-C]).length=k+1/\val (zs++[x+1000000000-C])+pw (k+1)* -1=val (xs.take (k+1))-val (ys.take (k+1))):=by obtain⟨l1,l2,l3⟩:=H.out;refine⟨l1.snoc (by omega) (by omega),by simp[l2],?_⟩;rw[aQ hx.out,fN (by omega),mX l2 l3 (t:=x) (by omega)];grind
     clear H
     go_wp2
     go_roundw
     case rel=>exact⟨k+1,1,_,by omega,by go_num,rfl,by omega,by omega,(Hst.out _).1,(Hst.out _).2,Hs⟩
     case measure=>simp[intOf]<;>omega
    .have Hs:Hid (Lim (zs++[x-C])/\(zs++[x-C]).length=k+1/\val (zs++[x-C])+pw (k+1)* -0=val (xs.take (k+1))-val (ys.take (k+1))):=by obtain⟨l1,l2,l3⟩:=H.out;refine⟨l1.snoc (by omega) (by omega),by simp[l2],?_⟩;rw[aQ hx.out,fN (by omega),mX l2 l3 (t:=x) (by omega)];grind
     clear H
     go_wp2
     go_roundw
     case rel=>exact⟨k+1,0,_,by omega,by go_num,rfl,by omega,by omega,(Hst.out _).1,(Hst.out _).2,Hs⟩
     case measure=>simp[intOf]<;>omega
  .obtain rfl:k=n:=by omega
   rw[vk,List.replicate_zero,ws] at I
   go_wp2
   go_ret
   obtain⟨l1,l2,l3⟩:=H.out
   refine⟨_,_,zs,rfl,⟨I,l1⟩,?_,D⟩
   rw[cV (by omega),Hv.out.1] at l3
   exact OK l1 l2 a6 l3 Hv.out.2
theorem Dj (D:0<=x) (I:x<1000000000) (j:0<=y) (J:y<1000000000):0<=x*y/\x*y<=999999998000000001:=by refine⟨Int.mul_nonneg D j,?_⟩;have h1:=qJ (show x<=999999999 by omega) (show y<=999999999 by omega) j (by omega);omega
theorem UE {j:Nat}{S:Int}(D:os[k+j]? =some o) (I:ys[j]? =some y) (h:val os+pw (k+j)*C=S+pw k*(x*val (ys.take j))):val (os.set (k+j) ((o+x*y+C)%1000000000))+pw (k+(j+1))*((o+x*y+C)/1000000000)=S+pw k*(x*val (ys.take (j+1))):=by
 rw[BJ D,aQ I,<-Nat.add_assoc,eZ,wJ]
 rw[wJ] at h
 grind
theorem PY {m:Nat}(j:xs[k]? =some x) (hm:ys.length=m) (D:os[k+m]? =some 0) (h:val os+pw (k+m)*C=val (xs.take k)*val ys+pw k*(x*val (ys.take m))):val (os.set (k+m) C)=val (xs.take (k+1))*val ys:=by
 rw[BJ D,aQ j]
 grind
theorem zi (A B:Option Addr) (n c m d:Nat) (xs ys:List Int) (w:World) (ha:Sl w A n c xs) (hb:Sl w B m d ys) (hn:n<=100000000) (hm:m<=100000000):Calls Tryz.prog 191 #[.slice A n c,.slice B m d] w (Eo w (n+m) (val xs*val ys)):=by
 have d6:=ha.len
 obtain⟨i0,b3,d2,b5,a5⟩:=info_parts nP
 go_enter Tryz.func191,Tryz.ntmps191
 go_wp2_with (at_make;go_must (refine wpList_make_full _ rfl _ _ 36 rfl w.heap.size 255 i0 (.int .u32 0) 1 oA b3 d2 b5 _ _ _ _ (n+m) rfl rfl (by omega) (by omega) (by rw[a5];omega) (by unfold maxLen;omega) (bk _) ?_);intro w1 W a3)
 rw[sP] at W
 go_loopw [20] (fun i wr=> ∃(k:Nat) (os:List Int),k<=n/\i=.int .i64 k/\wr.ownsRow w.heap.size 255 1 (.slice (some ⟨w.heap.size,0,none⟩) (n+m) (n+m)) (n+m) (os.map (Value.int .u32))/\Below w.heap.size w wr/\Hid (Lim os/\os.length=n+m/\Zr os (k+m)/\val os=val (xs.take k)*val ys))
  (fun i _=>n-(intOf i).toNat)
 case atStart=>exact⟨0,_,iB _,rfl,W,(fe _ _).grown a3 (bk _) (by simp),Lim.zeros _,by simp,Zr.zeros _ _,by simp[val,zx]⟩
 case round=>
  obtain⟨k,os,hk,rfl,I,D,H⟩:=hrel
  by_cases c7:k<n
  .obtain⟨b1,o1,x,rfl,c5,hx,a9,b6,c6⟩:=(ha.below D).at_ c7
   go_wp2
   go_loopw [27,8] (fun i cy w2=> ∃(j:Nat) (C:Int) (ps:List Int),j<=m/\i=.int .i64 j/\cy=.int .u64 C/\0<=C/\C<1000000000/\w2.ownsRow w.heap.size 255 1 (.slice (some ⟨w.heap.size,0,none⟩) (n+m) (n+m)) (n+m) (ps.map (Value.int .u32))/\Below w.heap.size w w2/\Hid (Lim ps/\ps.length=n+m/\Zr ps (k+m)/\val ps+pw (k+j)*C=val (xs.take k)*val ys+pw k*(x*val (ys.take j))))
    (fun i _ _=>m-(intOf i).toNat)
   case atStart=>
    obtain⟨l1,l2,l3,l4⟩:=H.out
    exact⟨0,0,os,iB _,rfl,rfl,by omega,by omega,I,D,l1,l2,l3,by simp[val,l4]⟩
   case round=>
    obtain⟨j,C,ps,hj,rfl,rfl,d3,d7,I,D,H⟩:=hrel
    have hz:=D.size
    by_cases b7:j<m
    .obtain⟨b2,o2,y,rfl,d4,hy,e4,c8,c3⟩:=(hb.below D).at_ b7
     obtain⟨o,ho⟩:=oM H.out.2.1 (show k+j<n+m by omega)
     obtain⟨a4,b4,J⟩:=o9 I ho
     have e2:=H.out.1.at_ ho
     have Hs:Hid (Lim (ps.set (k+j) ((o+x*y+C)%1000000000))/\(ps.set (k+j) ((o+x*y+C)%1000000000)).length=n+m/\Zr (ps.set (k+j) ((o+x*y+C)%1000000000)) (k+m)/\val (ps.set (k+j) ((o+x*y+C)%1000000000))+pw (k+(j+1))*((o+x*y+C)/1000000000)=val (xs.take k)*val ys+pw k*(x*val (ys.take (j+1)))):=by obtain⟨l1,l2,l3,l4⟩:=H.out;exact⟨l1.set (by omega) (by omega),by simp[l2],l3.set (by omega),UE ho hy.out l4⟩
     have Hst:Hid (∀d,(wr.setCell ⟨w.heap.size,k+j,none⟩ (.int .u32 d)).ownsRow w.heap.size 255 1 (.slice (some ⟨w.heap.size,0,none⟩) (n+m) (n+m)) (n+m) ((ps.set (k+j) d).map (Value.int .u32))/\Below w.heap.size w (wr.setCell ⟨w.heap.size,k+j,none⟩ (.int .u32 d))):=by intro d;exact⟨(J d).1,D.grown (J d).2 hz (by simp)⟩
     obtain⟨d5,e3⟩:=Dj b6 c6 c8 c3
     go_wp2
     go_roundw
     case rel=>exact⟨j+1,_,_,by omega,by go_num,rfl,by omega,by omega,(Hst.out _).1,(Hst.out _).2,Hs⟩
     case measure=>simp[intOf]<;>omega
    .obtain rfl:j=m:=by omega
     obtain⟨o,ho⟩:=oM H.out.2.1 (show k+j<n+j by omega)
     obtain rfl:o=0:=H.out.2.2.1 _ _ (bk _) ho
     obtain⟨a4,b4,J⟩:=o9 I ho
     have Hs:Hid (Lim (ps.set (k+j) C)/\(ps.set (k+j) C).length=n+j/\Zr (ps.set (k+j) C) (k+1+j)/\val (ps.set (k+j) C)=val (xs.take (k+1))*val ys):=by obtain⟨l1,l2,l3,l4⟩:=H.out;exact⟨l1.set (by omega) (by omega),by simp[l2],by have:=l3.set_at (d:=C);rwa [show k+j+1=k+1+j from by omega] at this,PY hx.out hb.len ho l4⟩
     have Hst:Hid ((wr.setCell ⟨w.heap.size,k+j,none⟩ (.int .u32 C)).ownsRow w.heap.size 255 1 (.slice (some ⟨w.heap.size,0,none⟩) (n+j) (n+j)) (n+j) ((ps.set (k+j) C).map (Value.int .u32))/\Below w.heap.size w (wr.setCell ⟨w.heap.size,k+j,none⟩ (.int .u32 C))):=
      ⟨(J C).1,D.grown (J C).2 hz (by simp)⟩
     go_wp2
     go_roundw
     case rel=>exact⟨k+1,_,by omega,by go_num,Hst.out.1,Hst.out.2,Hs⟩
     case measure=>simp[intOf]<;>omega
  .obtain rfl:k=n:=by omega
   go_wp2
   go_ret
   obtain⟨l1,l2,l3,l4⟩:=H.out
   refine⟨_,_,os,rfl,⟨I,l1⟩,?_,D⟩
   rw[l4,cV (by omega)]
theorem vg {a b:World}(h:w.grownBy a row) (k:a.grownBy b row):w.grownBy b row:=
 ⟨k.os.trans h.os,k.tape.trans h.tape,k.output.trans h.output,gG h.size k.size,fun j D I=>(k.block j (kW D h.size) I).trans (h.block j D I)⟩
theorem Sl.grown (h:Sl w A n c xs) (I:w.grownBy w' row) (D: ∀b off,A=some ⟨b,off,none⟩->some b≠row):Sl w' A n c xs:=by refine⟨⟨h.1.1,fun W=>?_⟩,h.2⟩;obtain⟨b,off,e,hlt,hc⟩:=h.1.2 W;exact⟨b,off,e,kW hlt I.size,fun j u J=>I.cell (hc j u J) (D b off e)⟩
theorem UO (D:k<=us.length) (j:zs.length=i) (h:us[k+i]? =some u):(us.take k++zs++us.drop (k+i))[k+i]? =some u:=by grind
theorem NP {d:Int}(D:k<=us.length) (j:zs.length=i) (h:us[k+i]? =some u):(us.take k++zs++us.drop (k+i)).set (k+i) d=us.take k++(zs++[d])++us.drop (k+(i+1)):=by
 subst j;have hlt:k+zs.length<us.length:=by grind
 rw[ov hlt,List.set_append_right _ _ (by simp;omega)];rw[show k+zs.length-(us.take k++zs).length=0 from by simp;omega,List.set_cons_zero,<-Nat.add_assoc];simp
theorem pJ (h:us[k+i]? =some u):(us.drop k)[i]? =some u:=by grind
def KK (w w':World) (base g N j k m:Nat) (us:List Int) (S:Int) (zs:List Int) (C:Int):Prop:=
 zs.length=m+1/\Lim zs/\0<=C/\val zs+pw (m+1)* -C=S/\w'.ownsRow base 255 1 (.slice (some ⟨g,0,none⟩) N j) N ((us.take k++zs++us.drop (k+(m+1))).map (Value.int .u32))/\w.grownBy w' (some g)
theorem Gi (base g N cN k cs m d:Nat) (B:Option Addr) (us ys:List Int) (I:Int) (w:World) (hu:w.ownsRow base 255 1 (.slice (some ⟨g,0,none⟩) N cN) N (us.map (Value.int .u32))) (b6:Lim us) (hk:k+m+1<=N) (hN:N<=10000000000) (hb:Sl w B m d ys) (a6: ∀b off,B=some ⟨b,off,none⟩->some b≠some g) (h0:0<=I) (h1:I<1000000000) (_d7:m+1<=cs):Calls Tryz.prog 320 #[.slice (some ⟨g,k,none⟩) (m+1:Nat) cs,.slice B m d,.int .u64 I] w fun e w'=> ∃zs C,e=.returned (.bool (decide (0<C)))/\KK w w' base g N cN k m us (val ((us.drop k).take (m+1))-I*val ys) zs C:=by
 have b5:us.length=N:=by have:=hu.1;simpa using this
 have c5:=hb.len
 go_enter Tryz.func320,Tryz.ntmps320
 go_wp2
 go_loopw [15,7,8] (fun i cy bw wr=> ∃(j:Nat) (C D:Int) (zs:List Int),j<=m+1/\i=.int .i64 j/\cy=.int .u64 C/\0<=C/\C<1000000000/\bw=.int .u64 D/\0<=D/\D<=1/\wr.ownsRow base 255 1 (.slice (some ⟨g,0,none⟩) N cN) N ((us.take k++zs++us.drop (k+j)).map (Value.int .u32))/\w.grownBy wr (some g)/\Hid (Lim zs/\zs.length=j/\val zs+pw j* -(C+D)=val ((us.drop k).take j)-I*val (ys.take j)))
  (fun i _ _ _=>m+1-(intOf i).toNat)
 case atStart=>exact⟨0,0,0,[],iB _,rfl,rfl,by omega,by omega,rfl,by omega,by omega,by simpa using hu,World.grownBy.refl _ _,Lim.nil,rfl,by simp[val]⟩
 case round=>
  obtain⟨j,C,D,zs,hj,rfl,rfl,c6,d5,rfl,d4,c8,J,a4,H⟩:=hrel
  by_cases e3:j<m+1
  .obtain⟨u,W⟩:=oM b5 (show k+j<N by omega)
   have c3:=b6.at_ W
   obtain⟨a9,d2,a5⟩:=o9 J (UO (by omega) H.out.2.1 W)
   have Hst:Hid (∀d,(wr.setCell ⟨g,k+j,none⟩ (.int .u32 d)).ownsRow base 255 1 (.slice (some ⟨g,0,none⟩) N cN) N ((us.take k++(zs++[d])++us.drop (k+(j+1))).map (Value.int .u32))/\w.grownBy (wr.setCell ⟨g,k+j,none⟩ (.int .u32 d)) (some g)):=by intro d;have h1:=a5 d;rw[NP (by omega) H.out.2.1 W] at h1;exact⟨h1.1,vg a4 h1.2⟩
   have Hu:=gX W
   clear a5 J W
   by_cases b3:j<m
   .obtain⟨b2,o2,y,rfl,c7,hy,e4,b7,b4⟩:=(hb.grown a4 a6).at_ b3
    obtain⟨d3,e2⟩:=Dj b7 b4 h0 h1
    by_cases hg:u<(C+y*I)%1000000000+D
    .have Hs:Hid (Lim (zs++[u+1000000000-((C+y*I)%1000000000+D)])/\(zs++[u+1000000000-((C+y*I)%1000000000+D)]).length=j+1/\val (zs++[u+1000000000-((C+y*I)%1000000000+D)])+pw (j+1)* -((C+y*I)/1000000000+1)=val ((us.drop k).take (j+1))-I*val (ys.take (j+1))):=by obtain⟨l1,l2,l3⟩:=H.out;refine⟨l1.snoc (by omega) (by omega),by simp[l2],?_⟩;rw[aQ (pJ Hu.out),aQ hy.out,mX l2 l3 (d:=u+1000000000-((C+y*I)%1000000000+D)) (c':= -((C+y*I)/1000000000+1)) (t:=u-y*I) (by omega)];grind
     clear H
     go_wp2
     go_roundw
     case rel=>exact⟨j+1,_,1,_,by omega,by go_num,rfl,by omega,by omega,rfl,by omega,by omega,(Hst.out _).1,(Hst.out _).2,Hs⟩
     case measure=>simp[intOf]<;>omega
    .have Hs:Hid (Lim (zs++[u-((C+y*I)%1000000000+D)])/\(zs++[u-((C+y*I)%1000000000+D)]).length=j+1/\val (zs++[u-((C+y*I)%1000000000+D)])+pw (j+1)* -((C+y*I)/1000000000+0)=val ((us.drop k).take (j+1))-I*val (ys.take (j+1))):=by obtain⟨l1,l2,l3⟩:=H.out;refine⟨l1.snoc (by omega) (by omega),by simp[l2],?_⟩;rw[aQ (pJ Hu.out),aQ hy.out,mX l2 l3 (d:=u-((C+y*I)%1000000000+D)) (c':= -((C+y*I)/1000000000+0)) (t:=u-y*I) (by omega)];grind
     clear H
     go_wp2
     go_roundw
     case rel=>exact⟨j+1,_,0,_,by omega,by go_num,rfl,by omega,by omega,rfl,by omega,by omega,(Hst.out _).1,(Hst.out _).2,Hs⟩
     case measure=>simp[intOf]<;>omega
   .have d6:C/1000000000=0/\C%1000000000=C:=by omega
    by_cases hg:u<C+D
    .have Hs:Hid (Lim (zs++[u+1000000000-(C+D)])/\(zs++[u+1000000000-(C+D)]).length=j+1/\val (zs++[u+1000000000-(C+D)])+pw (j+1)* -(0+1)=val ((us.drop k).take (j+1))-I*val (ys.take (j+1))):=by obtain⟨l1,l2,l3⟩:=H.out;refine⟨l1.snoc (by omega) (by omega),by simp[l2],?_⟩;rw[aQ (pJ Hu.out),fN (xs:=ys) (by omega),mX l2 l3 (t:=u) (by omega)];grind
     clear H
     go_wp2
     go_roundw
     case rel=>exact⟨j+1,0,1,_,by omega,by go_num,by first|rfl|go_num,by omega,by omega,rfl,by omega,by omega,(Hst.out _).1,(Hst.out _).2,Hs⟩
     case measure=>simp[intOf]<;>omega
    .have Hs:Hid (Lim (zs++[u-(C+D)])/\(zs++[u-(C+D)]).length=j+1/\val (zs++[u-(C+D)])+pw (j+1)* -(0+0)=val ((us.drop k).take (j+1))-I*val (ys.take (j+1))):=by obtain⟨l1,l2,l3⟩:=H.out;refine⟨l1.snoc (by omega) (by omega),by simp[l2],?_⟩;rw[aQ (pJ Hu.out),fN (by omega),mX l2 l3 (t:=u) (by omega)];grind
     clear H
     go_wp2
     go_roundw
     case rel=>exact⟨j+1,0,0,_,by omega,by go_num,by first|rfl|go_num,by omega,by omega,rfl,by omega,by omega,(Hst.out _).1,(Hst.out _).2,Hs⟩
     case measure=>simp[intOf]<;>omega
  .obtain rfl:j=m+1:=by omega
   have a3: ∀t:Bool,t=decide (0<C+D)-> ∃zs C',Ending.returned (.bool t)=.returned (.bool (decide (0<C')))/\KK w wr base g N cN k m us (val ((us.drop k).take (m+1))-I*val ys) zs C':=by rintro t rfl;obtain⟨l1,l2,l3⟩:=H.out;rw[cV (xs:=ys) (by omega)] at l3;exact⟨zs,C+D,rfl,l2,l1,by omega,l3,J,a4⟩
   have Hf:=gX a3
   clear a3 H J
   by_cases hD:0<D
   .go_wp2
    go_ret
    exact Hf.out _ (by simp;omega)
   .go_wp2
    go_ret
    exact Hf.out _ (by first|(simp;omega)|(have:D=0:=by omega);subst this;simp)
theorem Ks (base g N cN k cs m d:Nat) (B:Option Addr) (us ys:List Int) (w:World) (hu:w.ownsRow base 255 1 (.slice (some ⟨g,0,none⟩) N cN) N (us.map (Value.int .u32))) (b4:Lim us) (hk:k+m+1<=N) (hN:N<=10000000000) (hb:Sl w B m d ys) (a5: ∀b off,B=some ⟨b,off,none⟩->some b≠some g) (_c6:m+1<=cs):Calls Tryz.prog 321 #[.slice (some ⟨g,k,none⟩) (m+1:Nat) cs,.slice B m d] w fun e w'=> ∃zs C,e=.returned (.tuple #[])/\0<=C/\zs.length=m+1/\Lim zs/\val zs+pw (m+1)*C=val ((us.drop k).take (m+1))+val ys/\w'.ownsRow base 255 1 (.slice (some ⟨g,0,none⟩) N cN) N ((us.take k++zs++us.drop (k+(m+1))).map (Value.int .u32))/\w.grownBy w' (some g):=by
 have a9:us.length=N:=by have:=hu.1;simpa using this
 have c3:=hb.len
 go_enter Tryz.func321,Tryz.ntmps321
 go_wp2
 go_loopw [9,4] (fun i cy wr=> ∃(j:Nat) (C:Int) (zs:List Int),j<=m+1/\i=.int .i64 j/\cy=.int .u32 C/\0<=C/\C<=1/\wr.ownsRow base 255 1 (.slice (some ⟨g,0,none⟩) N cN) N ((us.take k++zs++us.drop (k+j)).map (Value.int .u32))/\w.grownBy wr (some g)/\Hid (Lim zs/\zs.length=j/\val zs+pw j*C=val ((us.drop k).take j)+val (ys.take j)))
  (fun i _ _=>m+1-(intOf i).toNat)
 case atStart=>exact⟨0,0,[],iB _,rfl,rfl,by omega,by omega,by simpa using hu,World.grownBy.refl _ _,Lim.nil,rfl,by simp[val]⟩
 case round=>
  obtain⟨j,C,zs,hj,rfl,rfl,a6,d3,I,a3,H⟩:=hrel
  by_cases c8:j<m+1
  .obtain⟨u,D⟩:=oM a9 (show k+j<N by omega)
   have b6:=b4.at_ D
   obtain⟨b3,c7,a4⟩:=o9 I (UO (by omega) H.out.2.1 D)
   have Hst:Hid (∀d,(wr.setCell ⟨g,k+j,none⟩ (.int .u32 d)).ownsRow base 255 1 (.slice (some ⟨g,0,none⟩) N cN) N ((us.take k++(zs++[d])++us.drop (k+(j+1))).map (Value.int .u32))/\w.grownBy (wr.setCell ⟨g,k+j,none⟩ (.int .u32 d)) (some g)):=by intro d;have h1:=a4 d;rw[NP (by omega) H.out.2.1 D] at h1;exact⟨h1.1,vg a3 h1.2⟩
   have Hu:=gX D
   by_cases b5:j<m
   .obtain⟨b2,o2,y,rfl,c5,hy,d4,d2,b7⟩:=(hb.grown a3 a5).at_ b5
    by_cases hg:1000000000<=u+C+y
    .have W:Hid (Lim (zs++[u+C+y-1000000000])/\(zs++[u+C+y-1000000000]).length=j+1/\val (zs++[u+C+y-1000000000])+pw (j+1)*1=val ((us.drop k).take (j+1))+val (ys.take (j+1))):=by obtain⟨l1,l2,J⟩:=H.out;refine⟨l1.snoc (by omega) (by omega),by simp[l2],?_⟩;rw[aQ (pJ Hu.out),aQ hy.out,mX l2 J (t:=u+y) (by omega)];grind
     go_wp2
     go_roundw
     case rel=>exact⟨j+1,1,_,by omega,by go_num,rfl,by omega,by omega,(Hst.out _).1,(Hst.out _).2,W⟩
     case measure=>simp[intOf]<;>omega
    .have W:Hid (Lim (zs++[u+C+y])/\(zs++[u+C+y]).length=j+1/\val (zs++[u+C+y])+pw (j+1)*0=val ((us.drop k).take (j+1))+val (ys.take (j+1))):=by obtain⟨l1,l2,J⟩:=H.out;refine⟨l1.snoc (by omega) (by omega),by simp[l2],?_⟩;rw[aQ (pJ Hu.out),aQ hy.out,mX l2 J (t:=u+y) (by omega)];grind
     go_wp2
     go_roundw
     case rel=>exact⟨j+1,0,_,by omega,by go_num,rfl,by omega,by omega,(Hst.out _).1,(Hst.out _).2,W⟩
     case measure=>simp[intOf]<;>omega
   .by_cases hg:1000000000<=u+C
    .have W:Hid (Lim (zs++[u+C-1000000000])/\(zs++[u+C-1000000000]).length=j+1/\val (zs++[u+C-1000000000])+pw (j+1)*1=val ((us.drop k).take (j+1))+val (ys.take (j+1))):=by obtain⟨l1,l2,J⟩:=H.out;refine⟨l1.snoc (by omega) (by omega),by simp[l2],?_⟩;rw[aQ (pJ Hu.out),fN (by omega),mX l2 J (t:=u) (by omega)];grind
     go_wp2
     go_roundw
     case rel=>exact⟨j+1,1,_,by omega,by go_num,rfl,by omega,by omega,(Hst.out _).1,(Hst.out _).2,W⟩
     case measure=>simp[intOf]<;>omega
    .have W:Hid (Lim (zs++[u+C])/\(zs++[u+C]).length=j+1/\val (zs++[u+C])+pw (j+1)*0=val ((us.drop k).take (j+1))+val (ys.take (j+1))):=by obtain⟨l1,l2,J⟩:=H.out;refine⟨l1.snoc (by omega) (by omega),by simp[l2],?_⟩;rw[aQ (pJ Hu.out),fN (by omega),mX l2 J (t:=u) (by omega)];grind
     go_wp2
     go_roundw
     case rel=>exact⟨j+1,0,_,by omega,by go_num,rfl,by omega,by omega,(Hst.out _).1,(Hst.out _).2,W⟩
     case measure=>simp[intOf]<;>omega
  .obtain rfl:j=m+1:=by omega
   go_wp2
   go_returns
   obtain⟨l1,l2,J⟩:=H.out
   rw[cV (xs:=ys) (by omega)] at J
   exact⟨zs,C,rfl,a6,l2,l1,J,I,a3⟩
def DI (w:World) (q r:Int) (e:Ending) (w':World):Prop:= ∃A n c zs B m d ys,e=.returned (.tuple #[.slice A n c,.slice B m d])/\Ow w' w.heap.size (.slice A n c) n zs/\val zs=q/\Ow w' w.heap.size (.slice B m d) m ys/\val ys=r/\Below w.heap.size w w'
theorem IU {R:Int}(j:xs[i]? =some x) (D:os[i]? =some o) (h:val (os.drop (i+1))*b+R=val (xs.drop (i+1))):val ((os.set i ((R*1000000000+x)/b)).drop i)*b+(R*1000000000+x)%b=val (xs.drop i):=by
 have d1:xs.drop i=x::xs.drop (i+1):=by
  have hi:i<xs.length:=by
   rcases nT i xs.length with h1|h1;·exact h1
   .rw[uS h1] at j;cases j
  rw[ov hi];congr;rw[gI hi] at j;simpa using j
 have I: ∀d,(os.set i d).drop i=d::os.drop (i+1):=by
  intro d;have hi:i<os.length:=by
   rcases nT i os.length with h1|h1;·exact h1
   .rw[uS h1] at D;cases D
  rw[ov (by simpa using hi),List.getElem_set_self,CX (by omega)]
 rw[d1,I,eB,eB]
 have e:=xf (R*1000000000+x) b
 grind
theorem B4 (A:Option Addr) (n c:Nat) (xs:List Int) (b:Int) (w:World) (ha:Sl w A n c xs) (hn:n<=1000000000) (h0:0<b) (h1:b<1000000000):Calls Tryz.prog 319 #[.slice A n c,.int .u32 b] w (DI w (val xs/b) (val xs%b)):=by
 have d5:=ha.len
 obtain⟨i0,b5,c6,b7,a9⟩:=info_parts nP
 go_enter Tryz.func319,Tryz.ntmps319
 go_wp2_with (at_make;go_must (refine wpList_make_full _ rfl _ _ 36 rfl w.heap.size 255 i0 (.int .u32 0) 1 oA b5 c6 b7 _ _ _ _ n rfl rfl rfl rfl (by rw[a9];omega) (by unfold maxLen;omega) (bk _) ?_);intro w1 D J)
 rw[sP] at D
 go_loopw [8,7] (fun i cy wr=> ∃(j:Nat) (R:Int) (os:List Int),j<=n/\i=.int .i64 ((j:Int)-1)/\cy=.int .u64 R/\0<=R/\R<b/\wr.ownsRow w.heap.size 255 1 (.slice (some ⟨w.heap.size,0,none⟩) n n) n (os.map (Value.int .u32))/\Below w.heap.size w wr/\Hid (Lim os/\os.length=n/\val (os.drop j)*b+R=val (xs.drop j)))
  (fun i _ _=>(intOf i+1).toNat)
 case atStart=>exact⟨n,0,_,bk _,rfl,rfl,by omega,by omega,D,(fe _ _).grown J (bk _) (by simp),Lim.zeros _,by simp,by rw[qM (by simp),qM (by omega)];simp[val]⟩
 case round=>
  obtain⟨j,R,os,hj,rfl,rfl,a3,a5,W,I,H⟩:=hrel
  have hz:=I.size
  rcases je j with a6|a6
  .subst a6
   go_wp2
   go_ret2
   obtain⟨l1,l2,l3⟩:=H.out
   simp only[mU] at l3
   have e1:val os=val xs/b:=by rw[<-l3,Int.add_comm,Int.add_mul_ediv_right _ _ (by omega),Int.ediv_eq_zero_of_lt a3 a5];omega
   have e2:R=val xs%b:=by rw[<-l3,Int.add_comm,Int.add_mul_emod_self_right,Int.emod_eq_of_lt a3 a5]
   refine⟨_,_,_,os,_,1,_,[R],rfl,⟨W.alloc _,l1⟩,e1,⟨World.ownsRow_lit _ #[.int .u32 R] 1 hz (by unfold maxLen;omega) rfl,Lim.nil.cons a3 (by omega)⟩,by simp[val];exact e2,I.alloc hz _⟩
  .obtain⟨j,rfl⟩: ∃i,j=i+1:=⟨j-1,by omega⟩
   have ej:((j+1:Nat):Int)-1=(j:Int):=by omega
   rw[ej]
   obtain⟨b1,o1,x,rfl,c7,hx,c8,d4,d3⟩:=(ha.below I).at_ (show j<n by omega)
   obtain⟨o,ho⟩:=oM H.out.2.1 (show j<n by omega)
   obtain⟨b6,d2,a4⟩:=o9 W ho
   obtain⟨T,hT⟩: ∃T,R*1000000000+x=T:=⟨_,rfl⟩
   have c3:0<=T/b:=ti (by omega) (by omega)
   have b4:T/b<1000000000:=Int.ediv_lt_of_lt_mul h0 (by omega)
   have c5:0<=T%b:=qY _ (by omega)
   have b3:T%b<b:=pz _ h0
   have Hs:Hid (Lim (os.set j (T/b))/\(os.set j (T/b)).length=n/\val ((os.set j (T/b)).drop j)*b+T%b=val (xs.drop j)):=by obtain⟨l1,l2,l3⟩:=H.out;have e:=IU hx.out ho l3;rw[hT] at e;exact⟨l1.set c3 b4,by simp[l2],e⟩
   have Hst:Hid (∀d,(wr.setCell ⟨w.heap.size,j,none⟩ (.int .u32 d)).ownsRow w.heap.size 255 1 (.slice (some ⟨w.heap.size,0,none⟩) n n) n ((os.set j d).map (Value.int .u32))/\Below w.heap.size w (wr.setCell ⟨w.heap.size,j,none⟩ (.int .u32 d)).drew):=
    fun d=>⟨(a4 d).1,Below.drewN' (I.grown (a4 d).2 hz (by simp)) 1⟩
   go_wp2_with fail
   go_region
   go_wp2
   go_roundw
   case rel=>exact⟨j,_,_,by omega,by go_num,rfl,c5,b3,(Hst.out _).1,(Hst.out _).2,Hs⟩
   case measure=>simp[intOf]<;>omega
end
section
variable {C F S U V a b c:Int}{qs us xs ys zs:List Int}{N k m n:Nat}
theorem eQ (h:b<=c) (j:0<=a):a*b<=a*c:=qg h j
theorem xO (h:a<=b) (j:0<=c):a*c<=b*c:=Int.mul_le_mul_of_nonneg_right h j
structure Est (P U V t u2 v1 v2:Int):Prop where
 p:1<=P
 u: ∃r,0<=r/\r<P/\U=r+P*(t*1000000000+u2)
 v: ∃s,0<=s/\s<P/\V=s+P*(v1*1000000000+v2)
 t0:0<=t
 u20:0<=u2
 u21:u2<1000000000
 v10:1<=v1
 v20:0<=v2
 v21:v2<1000000000
 lt:U<1000000000*V
section
variable {P U V t u2 v1 v2 G R:Int}
theorem Est.top (h:Est P U V t u2 v1 v2):t<=v1*1000000000+999999999:=by
 obtain⟨p,⟨r,r0,J,W⟩,⟨s,s0,D,eV⟩,t0,u20,u21,v10,v20,v21,lt⟩:=h;rcases kI (v1*1000000000+999999999) t with h1|h1
 .exfalso;have j:P*((v1*1000000000+1000000000)*1000000000)<=P*(t*1000000000+u2):=eQ (by omega) (by omega);have I:P*(v1*1000000000+v2)<=P*(v1*1000000000+999999999):=eQ (by omega) (by omega);grind
 grind
theorem Est.first (h:Est P U V t u2 v1 v2):U<(t/v1+1)*V:=by
 obtain⟨p,⟨r,r0,r1,eU⟩,⟨s,s0,J,eV⟩,t0,u20,u21,v10,v20,v21,lt⟩:=h;have e:=xf t v1;have e2:=pz t (show 0<v1 by omega);have I:0<=t/v1:=ti t0 (by omega);generalize t/v1=G at*;have h1:t+1<=(G+1)*v1:=by grind
 have j:P*((t+1)*1000000000)<=P*((G+1)*v1*1000000000):=eQ (by omega) (by omega);have W:0<=(G+1)*s:=mp (by omega) s0;have h4:0<=(G+1)*(P*v2):=mp (by omega) (mp (by omega) v20);have h5:P*(t*1000000000+u2)+P<=P*((t+1)*1000000000):=by have:=eQ (a:=P) (show t*1000000000+u2+1<=(t+1)*1000000000 by omega) (by omega);grind
 have D:(G+1)*V=(G+1)*s+P*((G+1)*v1*1000000000)+(G+1)*(P*v2):=by grind
 omega
theorem Est.v0 (h:Est P U V t u2 v1 v2):0<V:=by obtain⟨p,⟨r,r0,I,J⟩,⟨s,s0,D,W⟩,t0,u20,u21,v10,v20,v21,lt⟩:=h;have j:P*1<=P*(v1*1000000000+v2):=eQ (by omega) (by omega);omega
theorem Est.u0 (h:Est P U V t u2 v1 v2):0<=U:=by obtain⟨p,⟨r,r0,I,J⟩,⟨s,s0,D,W⟩,t0,u20,u21,v10,v20,v21,lt⟩:=h;have j:P*0<=P*(t*1000000000+u2):=eQ (by omega) (by omega);omega
theorem Est.big (h:Est P U V t u2 v1 v2) (j:1000000000<=G):U<(G-1+1)*V:=by have h1:=xO j (Int.le_of_lt h.v0);have D:=h.lt;grind
theorem Est.test (h:Est P U V t u2 v1 v2) (j:0<=G) (I:R=t-G*v1) (ht:R*1000000000+u2<G*v2):U<(G-1+1)*V:=by
 obtain⟨p,⟨r,r0,r1,eU⟩,⟨s,s0,W,eV⟩,t0,u20,u21,v10,v20,v21,lt⟩:=h;have h1:t*1000000000+u2+1<=G*(v1*1000000000+v2):=by grind
 have D:=eQ (a:=P) h1 (by omega);have h3:0<=G*s:=mp j s0;have J:G*V=G*s+P*(G*(v1*1000000000+v2)):=by grind
 grind
theorem Est.done (h:Est P U V t u2 v1 v2) (hG:0<=G) (I:G<1000000000) (W:R=t-G*v1) (ht:G*v2<=R*1000000000+u2):(G-1)*V<=U:=by
 have j:=h.u0;obtain⟨p,⟨r,r0,r1,eU⟩,⟨s,s0,s1,eV⟩,t0,u20,u21,v10,v20,v21,lt⟩:=h;rcases kI G 1 with D|D;·grind
 .have h1:G*(v1*1000000000+v2)<=t*1000000000+u2:=by
   have e:G*(v1*1000000000+v2)=G*v1*1000000000+G*v2:=by grind
   omega
  have J:=eQ (a:=P) h1 (by omega)
  have h3:(G-1)*s<=(G-1)*P:=eQ (by omega) (by omega)
  have h4:P*(G-1)<=P*(v1*1000000000+v2):=eQ (by omega) (by omega)
  have e3:(G-1)*V=(G-1)*s+P*(G*(v1*1000000000+v2))-P*(v1*1000000000+v2):=by grind
  have e4:(G-1)*P=P*(G-1):=by grind
  omega
theorem Est.off (h:Est P U V t u2 v1 v2) (I:0<=G) (D:R=t-G*v1) (W:1000000000<=R):G<1000000000/\G*v2<=R*1000000000+u2:=by
 have J:=h.top;obtain⟨p,_,_,t0,u20,u21,v10,v20,v21,lt⟩:=h;have h1:G<1000000000:=by
  rcases kI G 1000000000 with h1|h1;·grind
  .exfalso;have:=xO (c:=v1) h1 (by omega);omega
 have j:G*v2<=999999999*999999999:=qJ (by omega) (by omega) v20 (by omega);grind
theorem Est.small (h:Est P U V t u2 v1 v2):t/v1<=2000000000/\0<=t/v1:=by have j:=h.top;have:=h.v10;have:=h.t0;refine⟨?_,ti (by omega) (by omega)⟩;have h1:t/v1<2000000001:=Int.ediv_lt_of_lt_mul (by omega) (by omega);omega
end
theorem So (hl:Lim us) (hN:us.length=N) (hk:k+n<N) (hlt:val (us.drop (k+1))<V) (hV:V<pw n):val ((us.drop k).take (n+1))=val (us.drop k)/\val (us.drop (k+(n+1)))=0/\val (us.drop k)<1000000000*V:=by
 have d1:us.drop k=us[k]::us.drop (k+1):=ov (by omega)
 have h0:=hl us[k] (uW _)
 have e1:val (us.drop k)=us[k]+1000000000*val (us.drop (k+1)):=by rw[d1,eB]
 have I:val (us.drop k)<pw (n+1):=by rw[eZ];omega
 have D:=kJ (us.drop k) (n+1) (by rw[jD];omega)
 rw[List.drop_drop] at D
 have h3:=cH ((hl.drop k).take (n+1))
 have W:=cH (hl.drop (k+(n+1)))
 have J:=eX (n+1)
 have h6:val (us.drop (k+(n+1)))=0:=by
  rcases kI 0 (val (us.drop (k+(n+1)))) with j|j
  .have:=eQ (a:=pw (n+1)) (show 1<=val (us.drop (k+(n+1))) by omega) (by omega);omega
  grind
 grind
theorem ah5 (hl:Lim xs) (h0:xs[m]? =some a) (h1:xs[m+1]? =some b) (j:xs[m+2]? =some c):∃r,0<=r/\r<pw m/\val (xs.take (m+3))=r+pw m*((c*1000000000+b)*1000000000+a):=by
 refine⟨val (xs.take m),cH (hl.take m),?_,?_⟩
 .have:=fD (hl.take m)
  grind
 .have e:pw (m+2)=1000000000*pw (m+1):=eZ (m+1)
  rw[aQ j,aQ h1,aQ h0,e,eZ]
  grind
theorem aiE (hl:Lim xs) (h0:xs[m]? =some a) (h1:xs[m+1]? =some b) (j:xs.length=m+2):∃r,0<=r/\r<pw m/\val xs=r+pw m*(b*1000000000+a):=by
 refine⟨val (xs.take m),cH (hl.take m),?_,?_⟩
 .have:=fD (hl.take m)
  rwa [fF,jh (by omega)] at this
 .have e:val xs=val (xs.take (m+2)):=by rw[cV (by omega)]
  rw[e,aQ h1,aQ h0,eZ]
  grind
structure Kd (us qs V:List Int) (T:Int) (N n k:Nat):Prop where
 ul:Lim us
 un:us.length=N
 ql:Lim qs
 qn:qs.length=N-n
 lt:val (us.drop k)<val V
 eq:val us+val V*(pw k*val (qs.drop k))=T
theorem Kd.step {V:List Int}{T Q:Int}(h:Kd us qs V T N n (k+1)) (hn:V.length=n) (hk:k+n<N) (_hV:Lim V) (hz:Lim zs) (a3:zs.length=n+1) (h0:0<=Q) (h1:Q<1000000000) (hv:val zs=val (us.drop k)-Q*val V) (hlt:val zs<val V) (j:val (us.drop (k+(n+1)))=0):Kd (us.take k++zs++us.drop (k+(n+1))) (qs.set k Q) V T N n k:=by
 have hu:=h.un
 have hq:=h.qn
 have D:(us.take k).length=k:=by grind
 have e1:(us.take k++zs++us.drop (k+(n+1))).drop k=zs++us.drop (k+(n+1)):=by grind
 have I:val (zs++us.drop (k+(n+1)))=val zs:=by rw[pn,j];simp
 have W:val (us.take k++zs++us.drop (k+(n+1)))=val (us.take k)+pw k*val zs:=by rw[oE,pn,D,I]
 have e4:val us=val (us.take k)+pw k*val (us.drop k):=kJ us k (by omega)
 have J:(qs.set k Q).drop k=Q::qs.drop (k+1):=by rw[ov (by simp;omega),List.getElem_set_self,CX (by omega)]
 refine⟨((h.ul.take k).append hz).append (h.ul.drop _),by simp;omega,h.ql.set h0 h1,by simp[hq],by rw[e1,I];exact hlt,?_⟩
 rw[W,J,eB,hv]
 have:=h.eq
 rw[e4,eZ] at this
 grind
theorem XZ {P:Int}(h:val zs+P* -C=U-F*V) (h0:0<=C) (hC: ¬0<C) (hU:U<(F+1)*V):val zs=U-F*V/\val zs<V:=by grind
theorem Yy {E:Int}(W:Lim zs) (hz:zs.length=n+1) (j:Lim ys) (hy:ys.length=n+1) (h:val zs+pw (n+1)* -C=U-F*V) (hC:0<C) (hU:(F-1)*V<=U) (I:0<=U) (hF:0<=F) (hV:V<pw n) (D:0<V) (h2:val ys+pw (n+1)*E=val zs+V):val ys=U-(F-1)*V/\val ys<V/\0<=F-1:=by
 have z1:=fD W
 have y0:=cH j
 have y1:=fD j
 have hp:=eZ n
 have a3:=eQ (a:=pw (n+1)) (show 1<=C by omega) (by omega)
 have hE:E=C:=by
  rcases kI E C with J|J
  .have:=eQ (a:=pw (n+1)) (show E+1<=C by omega) (by omega);grind
  .rcases kI C E with h4|h4
   .have:=eQ (a:=pw (n+1)) (show C+1<=E by omega) (by omega);grind
   grind
 grind
theorem Tt (D:k<=us.length) (j:zs.length=m) (eD:List Int):((us.take k++zs++eD).drop k).take m=zs:=by grind
theorem PZ (D:k<=us.length) (j:zs.length=m):(us.take k++zs++us.drop (k+m)).take k++ys++(us.take k++zs++us.drop (k+m)).drop (k+m)=us.take k++ys++us.drop (k+m):=by
 congr 1
 .grind
 .rw[xa (by simp;omega),qM (by simp;omega),qZ]
theorem Kd.fin {V X Y:List Int}(h:Kd us qs V (val X*S) N n 0) (hV:val V=val Y*S) (hS:1<=S) (_hp:0<val V) (_hX:Lim X):val qs=val X/val Y/\val us/S=val X%val Y:=by
 have h1:=h.lt;have I:=h.eq;simp only[mU,tL,Int.one_mul] at h1 I;rw[hV] at h1 I _hp;have e1:=xf (val us) S;have e2:=pz (val us) (show 0<S by omega);have e3:=qY (val us) (show S≠0 by omega);have e4:(val us%S)=S*(val X-val Y*val qs-val us/S):=by grind
 have e5:val X-val Y*val qs-val us/S=0:=by
  generalize val X-val Y*val qs-val us/S=z at*;rcases kI 0 z with W|W
  .have:=eQ (a:=S) (show 1<=z by omega) (by omega);omega
  .rcases kI z 0 with h4|h4
   .have:=eQ (a:=S) (show z<= -1 by omega) (by omega);omega
   grind
 have D:0<=val us/S:=ti (cH h.ul) (by omega);have j:val us/S<val Y:=Int.ediv_lt_of_lt_mul (by omega) h1;generalize val us/S=r at*;have J:val X=r+val Y*val qs:=by omega
 rw[J,Int.add_mul_ediv_left _ _ (by omega),Int.ediv_eq_zero_of_lt D j,Int.add_mul_emod_self_left,Int.emod_eq_of_lt D j];grind
end
section
open Go.RowKit
theorem pS {P:Program}(w:World) (base:Nat) (t ty e:TypeId) (i:TypeInfo) (size c:Nat) (I:P.underlying t=some (.slice e)) (hi:P.info? e=some i) (v:Value) (n:Nat) (xs:List Value) (j:w.ownsRow base e size v n xs):(Builtin.append_ #[t,t] ty #[v,.slice none 0 c]).run P w=.ok v w:=by
 rcases j.2 with⟨rfl,rfl⟩|⟨g,cap,J,rfl,_,_,D,_⟩
 .simp[Builtin.append_,run_underlying I,sizeOf,typeInfo,hi,Builtin.lenOf,Builtin.firstCells]
 .simp[Builtin.append_,run_underlying I,sizeOf,typeInfo,hi,Builtin.lenOf,Builtin.firstCells,D,storeCells]
set_option maxRecDepth 10000 in
theorem Id {w:World}{eO:Array Oper}{eD:List Oper}{o:Oper}{a:Act}{Q:Exit->Act->World->Prop}(W:o.guard=none) (s x:Operand) (ho:o.op=.call {callee:=.builtin .append,args:= #[s,x],argTypes:= #[36,36]}) (A:Option Addr) (n c:Nat) (xs:List Int) (hs:a.eval s=.slice none 0 0) (hx:a.eval x=.slice A n c) (ha:Sl w A n c xs) (hn:n<=1000000000) (h: ∀v' w',Ow w' w.heap.size v' n xs->w.grownBy w' none->wpList Tryz.prog eO Q eD (a.put o.dst v') w'):wpList Tryz.prog eO Q (o::eD) a w:=by
 obtain⟨i0,I,b3,a6,a5⟩:=info_parts nP
 have D:=ha.len
 cases A with
 |none=>
  have h0:n=0:=by
   rcases je n with h0|h0;·exact h0
   .obtain⟨b,off,e,_⟩:=ha.1.2 h0;cases e
  subst h0
  obtain rfl:=jM.1 D
  refine wpList_plain W fun K hK=>?_
  unfold Oper.wp
  simp[execOp,ho,resolve,invoke,builtin,hs,hx,pS w w.heap.size 36 o.type 255 i0 1 c oA I (.slice none 0 0) 0 [] (qQ _ _ _ _),Result.andThen]
  exact hK _ _ (h _ _ ⟨qQ _ _ _ _,Lim.nil⟩ (World.grownBy.refl _ _))
 |some ad=>
  refine wpList_append_own w W s x 36 ho w.heap.size 255 i0 (.int .u32 0) 1 4 oA I b3 a6 a5 rfl (by decide) (.slice none 0 0) 0 [] hs (qQ _ _ _ _) ad n c (xs.map (Value.int .u32)) hx (by simp[D]) ?_ (by intro u J;simp at J;obtain⟨z,_,rfl⟩:=J;simp[Value.oneCell']) (by unfold maxLen;omega) (by omega) (bk _) ?_
  .intro j u J
   have hj:0<n:=by
    rcases je n with h0|h0
    .subst h0;obtain rfl:=jM.1 D;simp at J
    .exact h0
   obtain⟨b,off,e,hlt,hc⟩:=ha.1.2 hj
   injection e with e
   subst e
   have:=hc j u J
   unfold Addr.add
   split
   .rename_i h0;subst h0;exact this
   .exact this
  .intro v' w' a3 a9 _
   refine h v' w' ⟨by simpa using a3,ha.2.2.2⟩ ?_
   simpa [Value.ownBlock] using a9
theorem WU {ys:List Int}{y:Int}(h:trm ys=[y]):val ys=y:=by rw[<-iT,h];simp[val]
set_option maxRecDepth 10000 in
theorem LE (A B:Option Addr) (n c m d:Nat) (xs ys:List Int) (w:World) (ha:Sl w A n c xs) (hb:Sl w B m d ys) (hn:n<=100000000) (h1:(trm ys).length=1):Calls Tryz.prog 263 #[.slice A n c,.slice B m d] w (DI w (val xs/val ys) (val xs%val ys)):=by
 obtain⟨X,W⟩: ∃X,trm xs=X:=⟨_,rfl⟩
 obtain⟨Y,hY⟩: ∃Y,trm ys=Y:=⟨_,rfl⟩
 obtain⟨k,hk⟩: ∃k,X.length=k:=⟨_,rfl⟩
 have ta:=ha.trm
 have tb:=hb.trm
 have nb:=tk ys
 have j:=iT xs
 rw[W] at ta j
 have a9:k<=n:=by have:=tu xs;rw[W,hk,ha.len] at this;exact this
 rw[h1] at tb
 rw[hY] at tb h1 nb
 rw[hk] at ta
 obtain⟨b1,o1,y,e1,a6,hy,a4,b3,a3⟩:=tb.at_ (show 0<1 by omega)
 rw[ru] at a4
 have D:Y=[y]:=by
  cases Y with
  |nil=>simp at h1
  |cons z zs=>simp at h1;subst h1;have:=hy.out;simp at this;rw[this]
 have I:val ys=y:=WU (by rw[hY,D])
 have a5:0<y:=by
  rw[D] at nb;rcases kI 0 y with J|J;·exact J
  .have:y=0:=by omega
   subst this;cases nb
 subst e1
 rw[I,<-j]
 go_enter Tryz.func263,Tryz.ntmps263
 go_wp2_with fail
 refine(mq A n c k xs X w ha (gX W) (gX hk)).mono ?_
 rintro e w1 ⟨rfl,rfl⟩
 go_wp2_with fail
 refine(mq _ m d 1 ys Y w hb (gX hY) (gX h1)).mono ?_
 rintro e w1 ⟨rfl,rfl⟩
 go_wp2_with fail
 refine(B4 A k c X y w ta (by omega) a5 a3).mono ?_
 rintro e w' ⟨A1,n1,c1,zs,B1,m1,d1,rs,rfl,J,h3,h4,h5,h6⟩
 go_wp2
 go_ret2
 exact⟨A1,n1,c1,zs,B1,m1,d1,rs,rfl,J,h3,h4,h5,h6⟩
set_option maxRecDepth 10000 in
theorem JL (A B:Option Addr) (n c m d:Nat) (xs ys:List Int) (w:World) (W:Sl w A n c xs) (hb:Sl w B m d ys) (hn:n<=100000000) (h1:(trm ys).length≠1) (hlt:val xs<val ys):Calls Tryz.prog 263 #[.slice A n c,.slice B m d] w (DI w (val xs/val ys) (val xs%val ys)):=by
 obtain⟨X,hX⟩: ∃X,trm xs=X:=⟨_,rfl⟩
 obtain⟨Y,hY⟩: ∃Y,trm ys=Y:=⟨_,rfl⟩
 obtain⟨k,hk⟩: ∃k,X.length=k:=⟨_,rfl⟩
 obtain⟨l,hl⟩: ∃l,Y.length=l:=⟨_,rfl⟩
 have ta:=W.trm
 have tb:=hb.trm
 have D:=iT xs
 have J:=iT ys
 rw[hX] at ta D
 rw[hY] at tb h1 J
 have a6:k<=n:=by have:=tu xs;rw[hX,hk,W.len] at this;exact this
 rw[hk] at ta
 rw[hl] at tb h1
 have a5:l<=9223372036854775807:=by have:=tb.2.1;have:=tb.2.2.1;omega
 have hq:val xs/val ys=0:=Int.ediv_eq_zero_of_lt (cH W.2.2.2) hlt
 have hr:val xs%val ys=val xs:=Int.emod_eq_of_lt (cH W.2.2.2) hlt
 rw[hq,hr,<-D]
 have Hc:Hid (dT (val X) (val Y)= -1):=by show _=_;rw[D,J];exact fk hlt
 have a4:((l:Int)==1)=false:=by simp;omega
 go_enter Tryz.func263,Tryz.ntmps263
 go_wp2_with fail
 refine(mq A n c k xs X w W (gX hX) (gX hk)).mono ?_
 rintro e w1 ⟨rfl,rfl⟩
 go_wp2_with fail
 refine(mq _ m d l ys Y w hb (gX hY) (gX hl)).mono ?_
 rintro e w1 ⟨rfl,rfl⟩
 go_wp2_with fail
 refine(nK A B k c l d X Y w ta tb).mono ?_
 rintro e w1 ⟨rfl,j⟩
 rw[Hc.out]
 go_wp2_with (at_builtin;go_must (refine Id rfl _ _ rfl A k c X rfl rfl (ta.below j) (by omega) ?_);intro v' w2 I a3)
 obtain⟨A',c',rfl⟩:=I.form
 go_ret2
 exact⟨none,0,0,[],A',k,c',X,rfl,⟨qQ _ _ _ _,Lim.nil⟩,rfl,I.le j.size,rfl,j.grown a3 j.size (by simp)⟩
end
end Go.Proofs.YtegeknjkgadehaaGreat
