/-Data:what values of Go read as,world by world;contracts over data. No program in sight. -/
import Derived.Test.YtkmdgigkbhmilaaGreatBeC
import Derived.Orders
import Derived.Tactics
namespace Go.Proofs.YtkmdgigkbhmilaaGreat
open Go Go.RowKit
variable {a:Act}{listed:Array Bool}{ops:Array Oper}{Q:Exit→Act→World→Prop}{hs sd:List Nat}{vs vs':List Value}{b i j k t:Nat}{mask mask':Nat→Bool}{E L L' V V' av av':Nat→Prop}{o p:Oper}{d sl:Option Nat}{P:Program}{U:TypeId}{v:Value}{K:Value→World→Prop}{w w':World}
theorem dT:type_of% @Bool.and_eq_true:=@Bool.and_eq_true
theorem dV:type_of% @Nat.le_of_ble_eq_true:=@Nat.le_of_ble_eq_true
theorem gT:type_of% @Classical.byContradiction:=@Classical.byContradiction
theorem jr:type_of% @Nat.eq_of_beq_eq_true:=@Nat.eq_of_beq_eq_true
theorem jU:type_of% @List.getElem?_eq_some_iff:=@List.getElem?_eq_some_iff
theorem oN:type_of% @List.all_eq_true:=@List.all_eq_true
theorem qA:type_of% @List.getElem?_take:=@List.getElem?_take
theorem rD:type_of% @Array.getElem?_eq_some_iff:=@Array.getElem?_eq_some_iff
theorem tX:type_of% @List.mem_range:=@List.mem_range
theorem sC:type_of% @Bool.or_eq_true:=@Bool.or_eq_true
theorem sT:type_of% @Array.getElem?_toList:=@Array.getElem?_toList
theorem vf:type_of% @List.mem_map:=@List.mem_map
theorem xr:type_of% @Nat.beq_refl:=@Nat.beq_refl
theorem wN:type_of% @Array.getElem?_eq_getElem:=@Array.getElem?_eq_getElem
theorem zi:type_of% @List.mem_filter:=@List.mem_filter
theorem zr:type_of% @Classical.not_forall:=@Classical.not_forall
theorem yZ:type_of% @Classical.not_imp:=@Classical.not_imp
inductive CellD where
 |b (v:Bool)
 |i (k:IntKind) (n:Int)
 |f (g:FuncId)
 |s (n:Nat) (xs:List CellD)
 |l (x:Int)
 |p (us:List CellD)
 |k (g:FuncId) (xs:List CellD)
variable {cs cs0 us us':List CellD}
inductive RdC (av:Nat→Prop) (w:World):Value→CellD→Prop
 |b (v:Bool):RdC av w (.bool v) (.b v)
 |i (k:IntKind) (n:Int):RdC av w (.int k n) (.i k n)
 |f (g:FuncId):RdC av w (.func (.func g) #[] #[]) (.f g)
 |s0 (A:Option Addr) (c:Nat):c≤9223372036854775807→RdC av w (.slice A 0 c) (.s 0 [])
 |s (b off c sz n:Nat) (xs:List CellD) (cv:Nat→Value):0<n→n≤c→c≤9223372036854775807→xs.length=n*sz→b<w.heap.size→ ¬av b→
    (∀j,j<n*sz→w.cell? ⟨b,off+j,none⟩=some (cv j))→(∀(j:Nat) (u:CellD),xs[j]? =some u→RdC av w (cv j) u)→RdC av w (.slice (some ⟨b,off,none⟩) n c) (.s n xs)
 |l (A:Option Addr) (n c:Nat) (xs:List Int):RdI .u32 w A n xs→n≤c→c≤9223372036854775807→Lim xs→(∀b off,0<n→A=some ⟨b,off,none⟩→ ¬av b)→RdC av w (.slice A n c) (.l (val xs))
 |p (b off:Nat) (us:List CellD) (cv:Nat→Value):b<w.heap.size→ ¬av b→(∀j,j<us.length→w.cell? ⟨b,off+j,none⟩=some (cv j))→(∀(j:Nat) (u:CellD),us[j]? =some u→RdC av w (cv j) u)→RdC av w (.pointer (some ⟨b,off,none⟩)) (.p us)
 |k (g:FuncId) (cs:Array Value) (xs:List CellD):cs.size=xs.length→(∀(j:Nat) (v:Value) (u:CellD),cs[j]? =some v→xs[j]? =some u→RdC av w v u)→RdC av w (.func (.func g) #[] cs) (.k g xs)
structure Keep (av av':Nat→Prop) (w w':World):Prop where
 size:w.heap.size≤w'.heap.size
 block: ∀b,b<w.heap.size→ ¬av b→w'.heap[b]? =w.heap[b]?
 less: ∀b,b<w.heap.size→av' b→av b
theorem Keep.below (h:Below w.heap.size w w'):Keep av av w w':=⟨h.size,fun b hb _=>h.block b hb,fun _ _ h=>h⟩
theorem nI {a:Addr}(h:w'.heap[a.block]? =w.heap[a.block]?):w'.cell? a=w.cell? a:=by
 unfold World.cell?;rw[h]
theorem RdC.keep (hk:Keep av av' w w') {u:CellD}(h:RdC av w v u):RdC av' w' v u:=by
 induction h with
 |b v=>exact .b v
 |i k n=>exact .i k n
 |f g=>exact .f g
 |s0 A c hc=>exact .s0 A c hc
 |l A n c xs h0 h1 h2 h3 h4=>
  refine .l A n c xs ⟨h0.1,fun hn=>?_⟩ h1 h2 h3 (fun b off hn e hb=>?_)
  ·obtain⟨b,off,e,hlt,hc⟩:=h0.2 hn
   exact⟨b,off,e,rA hlt hk.size,fun j u hu=>(nI (a:=⟨b,off+j,none⟩) (hk.block b hlt (h4 b off hn e))).trans (hc j u hu)⟩
  ·obtain⟨b',off',e',hlt,_⟩:=h0.2 hn
   rw[e] at e'
   injection e' with e'
   injection e' with e1 e2
   subst e1
   exact h4 b off hn e (hk.less b hlt hb)
 |p b off us cv h4 h5 h6 _ ih=>exact .p b off us cv (rA h4 hk.size) (fun h=>h5 (hk.less b h4 h)) (fun j hj=>(nI (a:=⟨b,off+j,none⟩) (hk.block b h4 h5)).trans (h6 j hj)) ih
 |k g cs xs h _ ih=>exact .k g cs xs h ih
 |s b off c sz n xs cv h0 h1 h2 h3 h4 h5 h6 _ ih=>
  exact .s b off c sz n xs cv h0 h1 h2 h3 (rA h4 hk.size) (fun h=>h5 (hk.less b h4 h)) (fun j hj=>(nI (a:=⟨b,off+j,none⟩) (hk.block b h4 h5)).trans (h6 j hj)) ih
inductive D0 where
 |c (u:CellD)
 |a (us:List CellD)
variable {ds:List D0}
def D0.cells:D0→List CellD
 | .c u=>[u]
 | .a us=>us
def RdCs (av:Nat→Prop) (w:World) (vs:List Value) (us:List CellD):Prop:=vs.length=us.length∧ ∀(j:Nat) (v:Value) (u:CellD),vs[j]? =some v→us[j]? =some u→RdC av w v u
def RdV (av:Nat→Prop) (w:World) (v:Value):D0→Prop
 | .c u=>RdC av w v u
 | .a us=> ∃cs:Array Value,v=.agg cs∧RdCs av w cs.toList us
def RdL (av:Nat→Prop) (w:World) (vs:List Value) (ds:List D0):Prop:=vs.length=ds.length∧ ∀(j:Nat) (v:Value) (d:D0),vs[j]? =some v→ds[j]? =some d→RdV av w v d
def VX (av:Nat→Prop) (w:World) (v:Value):List D0→Prop
 |[d]=>RdV av w v d
 |ds=> ∃vs:Array Value,v=.tuple vs∧RdL av w vs.toList ds
section
variable {av av':Nat→Prop}{w w':World}
theorem RdCs.keep (hk:Keep av av' w w') (h:RdCs av w vs us):RdCs av' w' vs us:=⟨h.1,fun j v u hv hu=>(h.2 j v u hv hu).keep hk⟩
theorem RdV.keep (hk:Keep av av' w w') {d:D0}(h:RdV av w v d):RdV av' w' v d:=by
 cases d with
 |c u=>exact RdC.keep hk h
 |a us=>obtain⟨cs,e,h⟩:=h;exact⟨cs,e,h.keep hk⟩
theorem RdL.keep (hk:Keep av av' w w') (h:RdL av w vs ds):RdL av' w' vs ds:=⟨h.1,fun j v d hv hd=>(h.2 j v d hv hd).keep hk⟩
theorem RdL.nil:RdL av w [] []:=⟨rfl,fun j v d hv=>by simp at hv⟩
theorem RdL.cons {d:D0}(h:RdV av w v d) (hs:RdL av w vs ds):RdL av w (v::vs) (d::ds):=by
 refine⟨by simp[hs.1],fun j x e hx he=>?_⟩
 cases j with
 |zero=>simp at hx he;subst hx he;exact h
 |succ j=>simp at hx he;exact hs.2 j x e hx he
theorem RdCs.nil:RdCs av w [] []:=⟨rfl,fun j v d hv=>by simp at hv⟩
theorem RdCs.cons {d:CellD}{ds:List CellD}(h:RdC av w v d) (hs:RdCs av w vs ds):RdCs av w (v::vs) (d::ds):=by
 refine⟨by simp[hs.1],fun j x e hx he=>?_⟩
 cases j with
 |zero=>simp at hx he;subst hx he;exact h
 |succ j=>simp at hx he;exact hs.2 j x e hx he
theorem RdCs.uncons {d:CellD}{ds:List CellD}(h:RdCs av w (v::vs) (d::ds)):RdC av w v d∧RdCs av w vs ds:=
 ⟨h.2 0 v d rfl rfl,by have:=h.1;simpa using this,fun j x e hx he=>h.2 (j+1) x e (by simpa using hx) (by simpa using he)⟩
theorem RdL.uncons {d:D0}(h:RdL av w (v::vs) (d::ds)):RdV av w v d∧RdL av w vs ds:=
 ⟨h.2 0 v d rfl rfl,by have:=h.1;simpa using this,fun j x e hx he=>h.2 (j+1) x e (by simpa using hx) (by simpa using he)⟩
theorem RdCs.append (h:RdCs av w vs us) (h':RdCs av w vs' us'):RdCs av w (vs++vs') (us++us'):=by
 refine⟨by simp[h.1,h'.1],fun j v u hv hu=>?_⟩
 by_cases hj:j<vs.length
 ·rw[List.getElem?_append_left hj] at hv
  rw[List.getElem?_append_left (by rw[←h.1];exact hj)] at hu
  exact h.2 j v u hv hu
 ·rw[List.getElem?_append_right (by omega)] at hv
  rw[List.getElem?_append_right (by rw[←h.1];omega)] at hu
  rw[←h.1] at hu
  exact h'.2 _ v u hv hu
theorem RdCs.drop (h:RdCs av w vs us) (k:Nat):RdCs av w (vs.drop k) (us.drop k):=
 ⟨by simp[h.1],fun j v u hv hu=>h.2 (k+j) v u (by simpa using hv) (by simpa using hu)⟩
theorem RdCs.take (h:RdCs av w vs us) (k:Nat):RdCs av w (vs.take k) (us.take k):=by
 refine⟨by simp[h.1],fun j v u hv hu=>?_⟩
 rw[qA] at hv hu
 split at hv
 ·rename_i hj;rw[if_pos hj] at hu;exact h.2 j v u hv hu
 grind
theorem RdV.cells {d:D0}(h:RdV av w v d):RdCs av w v.cells.toList d.cells:=by
 cases d with
 |c u=>
  have e:v.cells= #[v]:=by cases h<;>rfl
  rw[e];exact RdCs.cons h RdCs.nil
 |a us=>obtain⟨cs,rfl,h⟩:=h;exact h
end
def fU (P:Program) (g:FuncId):Bool:=
 match P.funcs[g]? with
 |some fn=>fn.name != "runtime.NumGoroutine" && !fn.body.isNone
 |none=>false
structure Ok (P:Program) (f:FuncId) (ds rs:List D0):Prop where
 cal:fU P f=true
 run: ∀(av:Nat→Prop) (vs:Array Value) (w:World),(∀b,av b→b<w.heap.size)→RdL av w vs.toList ds→Calls P f vs w fun e w'=> ∃v,e=.returned v∧VX av w' v rs∧Below w.heap.size w w'
def D5 (P:Program) (K:Value→World→Prop):Result Next→Prop
 | .ok (.value v) w'=>K v w'
 | .ok .skip w'=>K undef w'
 | .ok (.enter f args) w'=>Calls P f args w' fun e w''=> ∃v,e=.returned v∧K v w''
 | .ok (.row row args) w'=>Rows P row args w' fun v w''=>K v w''
 |_=>False
def Gives (P:Program) (o:Oper) (a:Act) (w:World) (K:Value→World→Prop):Prop:=D5 P K ((execOp a.eval o).run P w)
theorem Gives.wp {K':Act→World→Prop}(h:Gives P o a w K) (hK: ∀v w',K v w'→K' (a.put o.dst v) w'):o.wp P a w K' Q:=by
 unfold Gives at h
 unfold Oper.wp
 generalize (execOp a.eval o).run P w=r at*
 cases r with
 |ok n w'=>
  cases n<;>simp only[D5] at h<;>simp only[Oper.upon]
  case value v=>exact hK _ _ h
  case skip=>exact hK _ _ h
  case enter f args=>exact h.mono fun e w'' ⟨v,he,hv⟩=>by subst he;exact hK _ _ hv
  case row row args=>exact h.mono fun v w'' hv=>hK _ _ hv
 |halt x w'=>simp only[D5] at h
theorem Gives.mono {K':Value→World→Prop}(h:Gives P o a w K) (hK: ∀v w',K v w'→K' v w'):Gives P o a w K':=by
 unfold Gives at*
 generalize (execOp a.eval o).run P w=r at*
 cases r with
 |ok n w'=>
  cases n<;>simp only[D5] at h⊢
  case value v=>exact hK _ _ h
  case skip=>exact hK _ _ h
  case enter f args=>exact h.mono fun e w'' ⟨v,he,hv⟩=>⟨v,he,hK _ _ hv⟩
  case row row args=>exact h.mono fun v w'' hv=>hK _ _ hv
 |halt x w'=>simp only[D5] at h
inductive DV where
 |v (d:D0)
 |t (ds:List D0)
 |p (k off:Nat)
 |o (k n c:Nat)
 |w (k off n c:Nat)
 |q (us:List CellD)
 |u
 |n
 |z
 |f (n:Nat) (us:List CellD)
 |tn (k n c:Nat) (ds:List D0)
variable {x:DV}
def kg:DV→Option Nat
 | .p k _=>some k
 | .o k _ _=>some k
 | .w k _ _ _=>some k
 | .tn k _ _ _=>some k
 |_=>none
def aM {α:Type}(t:Nat):List (Nat×α)→Option α
 |[]=>none
 |(k,x)::r=>bif Nat.beq k t then some x else aM t r
structure St where
 n:Nat
 tm:List (Nat×DV)
 bx:List (Nat×TypeId×List CellD)
abbrev TF:=Nat→Option DV
abbrev BF:=Nat→Option (TypeId×List CellD)
def St.T (σ:St):TF:=fun t=>aM t σ.tm
def St.B (σ:St):BF:=fun k=>aM k σ.bx
def RdX (V:Nat→Prop) (w:World) (β:Nat→Nat) (v:Value):DV→Prop
 | .v d=>RdV V w v d
 | .t ds=> ∃vs:Array Value,v=.tuple vs∧RdL V w vs.toList ds
 | .p k off=>v=.pointer (some ⟨β k,off,none⟩)
 | .o k n c=>v=.slice (some ⟨β k,0,none⟩) n c
 | .w k off n c=>v=.slice (some ⟨β k,off,none⟩) n c
 | .q us=> ∃b off,∃vs:List Value,v=.pointer (some ⟨b,off,none⟩)∧b<w.heap.size∧ ¬V b∧RdCs V w vs us∧ ∀(j:Nat) (u:Value),vs[j]? =some u→w.cell? ⟨b,off+j,none⟩=some u
 | .u=>v=undef
 | .n=>True
 | .z=>v=.slice none 0 0
 | .f n us=>(∃A,v=.slice A n n)∧RdV V w v (.c (.s n us))
 | .tn k n c ds=> ∃xs:List Value,v=.tuple (.slice (some ⟨β k,0,none⟩) n c::xs).toArray∧RdL V w xs ds
theorem RdX.keep (hk:Keep V V' w w') {β:Nat→Nat}(h:RdX V w β v x):RdX V' w' β v x:=by
 cases x with
 |v d=>exact RdV.keep hk h
 |t ds=>obtain⟨vs,e,h⟩:=h;exact⟨vs,e,RdL.keep hk h⟩
 |p k off=>exact h
 |o k n c=>exact h
 |w k off n c=>exact h
 |q us=>
  obtain⟨b,off,vs,e,hb,hv,h,hc⟩:=h
  exact⟨b,off,vs,e,rA hb hk.size,fun h=>hv (hk.less b hb h),RdCs.keep hk h,fun j u hj=>(nI (a:=⟨b,off+j,none⟩) (hk.block b hb hv)).trans (hc j u hj)⟩
 |u=>exact h
 |n=>trivial
 |z=>exact h
 |f n us=>exact⟨h.1,RdV.keep hk h.2⟩
 |tn k n c ds=>obtain⟨xs,e,h⟩:=h;exact⟨xs,e,RdL.keep hk h⟩
def Box (V:Nat→Prop) (w:World) (b:Nat) (T:TypeId) (cs:List CellD):Prop:=V b∧ ∃vs:Array Value,w.heap[b]? =some (.cells vs T (0,0))∧RdCs V w vs.toList cs
structure Sees (V:Nat→Prop) (L:Nat→Prop) (T:TF) (B:BF) (β:Nat→Nat) (a:Act) (w:World):Prop where
 av: ∀b,V b→b<w.heap.size
 box: ∀k U cs,B k=some (U,cs)→Box V w (β k) U cs
 tmp: ∀t x,L t→T t=some x→ ∃v,a.tmps[t]? =some v∧RdX V w β v x
inductive Eff where
 |r (x:DV)
 |a (U:TypeId) (cs:List CellD) (sl:Option Nat)
 |s (k:Nat) (U:TypeId) (cs:List CellD)
 |c (k:Nat) (x:DV)
 |rs (k:Nat) (U:TypeId) (cs:List CellD) (x:DV)
 |skip
variable {es:List Eff}
def XJ:Option Nat→Nat→Value
 |none,b=>.pointer (some ⟨b,0,none⟩)
 |some n,b=>.slice (some ⟨b,0,none⟩) n n
def QM:Option Nat→Nat→DV
 |none,d=>.p d 0
 |some n,d=>.o d n n
def iZ (ops:Array Oper) (o:Oper):Nat→Prop:=fun t=>t∈o.looksAt ops
abbrev CY (o:Oper) (ops:Array Oper) (a:Act):Bool:=Region.wanted o (yielded ops a.tmps)
structure Mid (b:Nat) (w w':World):Prop where
 os:w'.os=w.os
 tape:w'.tape=w.tape
 output:w'.output=w.output
 size:w.heap.size≤w'.heap.size
 block: ∀c,c<w.heap.size→c≠b→w'.heap[c]? =w.heap[c]?
def Sem (P:Program) (ops:Array Oper) (o:Oper) (T:TF) (B:BF):Eff→Prop
 | .r x=>(∀k,kg x=some k→ ∃t y,iZ ops o t∧T t=some y∧kg y=some k)∧ ∀V β a w,Sees V (iZ ops o) T B β a w→CY o ops a=true∧Gives P o a w fun v w'=>RdX V w' β v x∧Below w.heap.size w w'
 | .a U cs sl=> ∀V β a w,Sees V (iZ ops o) T B β a w→CY o ops a=true∧Gives P o a w fun v w'=> ∃vs:Array Value,v=XJ sl w.heap.size∧w'=w.alloc (.cells vs U)∧RdCs V w vs.toList cs
 | .s k U cs=>o.dst=none∧(∃cs0,B k=some (U,cs0))∧ ∀V β a w,Sees V (iZ ops o) T B β a w→CY o ops a=true∧Gives P o a w fun _ w'=>
    ∃vs:Array Value,w'.heap=w.heap.setIfInBounds (β k) (.cells vs U (0,0))∧w'.os=w.os∧w'.tape=w.tape∧w'.output=w.output∧RdCs V w vs.toList cs
 | .rs k U cs x=>kg x=none∧(∃cs0,B k=some (U,cs0))∧ ∀V β a w,Sees V (iZ ops o) T B β a w→CY o ops a=true∧Gives P o a w fun v w'=>
    ∃vs:Array Value,w'.heap[β k]? =some (.cells vs U (0,0))∧Mid (β k) w w'∧RdCs V w' vs.toList cs∧RdX V w' β v x
 | .c k x=>kg x=none∧B k≠none∧ ∀V β a w,Sees V (iZ ops o) T B β a w→CY o ops a=true∧Gives P o a w fun v w'=>RdX (fun b=>V b∧b≠β k) w' β v x∧Below w.heap.size w w'
 | .skip=> ∀V β a w,Sees V (iZ ops o) T B β a w→CY o ops a=false
def YT (d:Nat):Eff→DV
 | .r x=>x
 | .a _ _ sl=>QM sl d
 | .s _ _ _=>.u
 | .c _ x=>x
 | .rs _ _ _ x=>x
 | .skip=>.u
def nP (k:Nat) (T:TF):TF:=fun t=>match T t with
 |some y=>if kg y=some k then some .n else some y
 |none=>none
def Eff.tf (e:Eff) (dst:Option Nat) (T:TF):TF:=
 match e with
 | .c k x=>fun t=>if dst=some t then some x else nP k T t
 |e=>fun t=>if dst=some t then some (YT t e) else T t
def Eff.bf (e:Eff) (dst:Option Nat) (B:BF):BF:=
 match e with
 | .a U cs _=>fun k=>if dst=some k then some (U,cs) else B k
 | .s k' U cs=>fun k=>if k'=k then some (U,cs) else B k
 | .rs k' U cs _=>fun k=>if k'=k then some (U,cs) else B k
 | .c k' _=>fun k=>if k=k' then none else B k
 |_=>B
structure Ent where
 w:World
 E:Nat→Prop
 K:Nat
variable {e w0:Ent}
structure BelE (e:Ent) (w:World):Prop where
 os:w.os=e.w.os
 tape:w.tape=e.w.tape
 output:w.output=e.w.output
 size:e.w.heap.size≤w.heap.size
 block: ∀c,c<e.w.heap.size→ ¬e.E c→w.heap[c]? =e.w.heap[c]?
theorem BelE.refl (e:Ent):BelE e e.w:=⟨rfl,rfl,rfl,cK _,fun _ _ _=>rfl⟩
theorem BelE.next (h:BelE e w) (h1:w'.os=w.os) (h2:w'.tape=w.tape) (h3:w'.output=w.output) (h4:w.heap.size≤w'.heap.size)
 (h5: ∀c,c<e.w.heap.size→ ¬e.E c→w'.heap[c]? =w.heap[c]?):BelE e w':=
 ⟨h1.trans h.os,h2.trans h.tape,h3.trans h.output,nn h.size h4,fun c hc hE=>(h5 c hc hE).trans (h.block c hc hE)⟩
theorem BelE.below (h:BelE e w) (k:Below w.heap.size w w'):BelE e w':=
 h.next k.os k.tape k.output k.size (fun c hc _=>k.block c (rA hc h.size))
theorem BelE.to {K:Nat}(h:BelE ⟨w,E,K⟩ w') (hE: ∀c,¬E c):Below w.heap.size w w':=⟨h.os,h.tape,h.output,h.size,fun c hc=>h.block c hc (hE c)⟩
structure Rel (av:Nat→Prop) (w0:Ent) (n:Nat) (T:TF) (B:BF) (β:Nat→Nat) (a:Act) (w:World):Prop where
 dfr:a.defers=[]
 siz:a.tmps.size=n
 bel:BelE w0 w
 avl: ∀b,av b→b<w0.w.heap.size
 avE: ∀b,av b→ ¬w0.E b
 big:n≤w0.K
 fix: ∀b,w0.E b→B w0.K≠none→β w0.K=b
 inj: ∀k l,B k≠none→B l≠none→β k=β l→k=l
 own: ∀k,B k≠none→w0.w.heap.size≤β k∨w0.E (β k)
 wf: ∀t x k,T t=some x→kg x=some k→B k≠none
 sees:Sees (fun b=>av b∨ ∃k,B k≠none∧β k=b) (fun _=>True) T B β a w
section
variable {P:Program}{ops:Array Oper}{o:Oper}{T T':TF}{B B':BF}{av:Nat→Prop}{w0:Ent}{w:World}{n:Nat}{β:Nat→Nat}{a:Act}
theorem Rel.congr (h:Rel av w0 n T B β a w) (hT: ∀t,T' t=T t) (hB: ∀k,B' k=B k):Rel av w0 n T' B' β a w:=by
 have e1:T'=T:=funext hT
 have e2:B'=B:=funext hB
 grind
theorem zQ {a:Act}(h:d≠some t):(a.put d v).tmps[t]? =a.tmps[t]? :=by
 cases d with
 |none=>rfl
 |some d=>
  have hne:d≠t:=by grind
  simp[Act.put,Array.getElem?_setIfInBounds_ne hne]
theorem Bw {a:Act}{d:Nat}(h:d<a.tmps.size):(a.put (some d) v).tmps[d]? =some v:=by
 simp[Act.put,h]
theorem CE (a:Act) (d:Option Nat) (v:Value):(a.put d v).tmps.size=a.tmps.size:=by cases d<;>simp[Act.put]
theorem xe (a:Act) (d:Option Nat) (v:Value):(a.put d v).defers=a.defers:=by cases d<;>rfl
theorem Sees.of (h:Sees V L' T B β a w) (hL: ∀t,L t→L' t) (hT: ∀t x,L t→T' t=some x→T t=some x) (hB: ∀k c,B' k=some c→B k=some c):Sees V L T' B' β a w:=
 ⟨h.av,fun k U cs hk=>h.box k U cs (hB k _ hk),fun t x hl ht=>h.tmp t x (hL t hl) (hT t x hl ht)⟩
theorem Rel.value (h:Rel av w0 n T B β a w) (hd: ∀t,d=some t→t<n) (hb:Below w.heap.size w w')
 (hx:RdX (fun b=>av b∨ ∃k,B k≠none∧β k=b) w' β v x) (hp: ∀k,kg x=some k→B k≠none):Rel av w0 n (fun t=>if d=some t then some x else T t) B β (a.put d v) w':=by
 have hk:=Keep.below (av:=fun b=>av b∨ ∃k,B k≠none∧β k=b) hb
 refine⟨by rw[xe];exact h.dfr,by rw[CE];exact h.siz,h.bel.below hb,h.avl,h.avE,h.big,h.fix,h.inj,h.own,?_,?_,?_,?_⟩
 ·intro t y k ht hy
  split at ht
  ·grind
  ·exact h.wf t y k ht hy
 ·exact fun b hv=>rA (h.sees.av b hv) hb.size
 ·intro k U cs hc
  obtain⟨hv,vs,e,hr⟩:=h.sees.box k U cs hc
  exact⟨hv,vs,(hb.block _ (h.sees.av _ hv)).trans e,hr.keep hk⟩
 ·intro t y hl ht
  split at ht
  ·rename_i hdt
   injection ht with ht
   subst ht
   rw[hdt]
   exact⟨v,Bw (by rw[h.siz];exact hd t hdt),hx⟩
  ·rename_i hdt
   obtain⟨u,e,hr⟩:=h.sees.tmp t y trivial ht
   exact⟨u,(zQ hdt).trans e,hr.keep hk⟩
theorem iG (w:World) (o:Obj):(w.alloc o).heap.size=w.heap.size+1:=by simp
theorem Rel.fresh (h:Rel av w0 n T B β a w) {d:Nat}(hd:d<n) (hf:B d=none) {vs:Array Value}(hw:Below w.heap.size w w') (hb1:w.heap.size≤b) (hb2:b<w'.heap.size)
 (hcl:w'.heap[b]? =some (.cells vs U (0,0))) (hr:RdCs (fun y=>(av y∨ ∃k,B k≠none∧β k=y)∨y=b) w' vs.toList cs) (hx:RdX (fun y=>(av y∨ ∃k,B k≠none∧β k=y)∨y=b) w' (fun k=>if k=d then b else β k) v x) (hp: ∀k,kg x=some k→k=d):
 Rel av w0 n (fun t=>if some d=some t then some x else T t) (fun k=>if some d=some k then some (U,cs) else B k) (fun k=>if k=d then b else β k) (a.put (some d) v) w':=by
 have hB: ∀k,(if some d=some k then some (U,cs) else B k)≠none→k≠d→B k≠none:=by
  intro k hk hne
  rw[if_neg (by simpa using fun e=>hne e.symm)] at hk
  exact hk
 have hlt: ∀k,B k≠none→β k<w.heap.size:=fun k hk=>h.sees.av _ (.inr ⟨k,hk,rfl⟩)
 have hV: ∀y,(av y∨ ∃k,(if some d=some k then some (U,cs) else B k)≠none∧(if k=d then b else β k)=y)→(av y∨ ∃k,B k≠none∧β k=y)∨y=b:=by
  rintro y (hy|⟨k,hk,hy⟩)
  ·exact .inl (.inl hy)
  ·by_cases hkd:k=d
   ·rw[if_pos hkd] at hy;exact .inr hy.symm
   ·rw[if_neg hkd] at hy;exact .inl (.inr ⟨k,hB k hk hkd,hy⟩)
 have hkeep:Keep (fun y=>av y∨ ∃k,B k≠none∧β k=y) (fun y=>av y∨ ∃k,(if some d=some k then some (U,cs) else B k)≠none∧(if k=d then b else β k)=y) w w':=
  ⟨hw.size,fun y hy _=>hw.block y hy,fun y hy hv=>(hV y hv).resolve_right (by omega)⟩
 have hkeep2:Keep (fun y=>(av y∨ ∃k,B k≠none∧β k=y)∨y=b) (fun y=>av y∨ ∃k,(if some d=some k then some (U,cs) else B k)≠none∧(if k=d then b else β k)=y) w' w':=⟨Nat.le_refl _,fun _ _ _=>rfl,fun y _ hv=>hV y hv⟩
 have hRX: ∀v x,(∀k,kg x=some k→k≠d)→RdX (fun y=>av y∨ ∃k,B k≠none∧β k=y) w β v x→RdX (fun y=>av y∨ ∃k,(if some d=some k then some (U,cs) else B k)≠none∧(if k=d then b else β k)=y) w' (fun k=>if k=d then b else β k) v x:=by
  intro v x hxk hr
  have hr2:=RdX.keep hkeep hr
  cases x with
  |p k off=>
   have hne:k≠d:=hxk k rfl
   show v=.pointer (some ⟨if k=d then b else β k,off,none⟩)
   rw[if_neg hne];exact hr
  |o k n c=>
   have hne:k≠d:=hxk k rfl
   show v=.slice (some ⟨if k=d then b else β k,0,none⟩) n c
   rw[if_neg hne];exact hr
  |w k off n c=>
   have hne:k≠d:=hxk k rfl
   show v=.slice (some ⟨if k=d then b else β k,off,none⟩) n c
   rw[if_neg hne];exact hr
  |v d=>exact hr2
  |t ds=>exact hr2
  |q us=>exact hr2
  |u=>exact hr2
  |n=>trivial
  |z=>exact hr2
  |f n us=>exact hr2
  |tn k n c ds=>
   have hne:k≠d:=hxk k rfl
   obtain⟨xs,e,h⟩:=hr2
   exact⟨xs,by show v=Value.tuple (Value.slice (some ⟨if k=d then b else β k,0,none⟩) n c::xs).toArray;rw[if_neg hne];exact e,h⟩
 refine⟨by rw[xe];exact h.dfr,by rw[CE];exact h.siz,h.bel.below hw,h.avl,h.avE,h.big,fun b hb hK=>?_,?_,?_,?_,?_,?_,?_⟩
 ·have hKd:w0.K≠d:=by have:=h.big;omega
  rw[if_neg hKd]
  exact h.fix b hb (hB _ hK hKd)
 ·intro k l hk hl e
  by_cases hkd:k=d<;>by_cases hld:l=d
  ·rw[hkd,hld]
  ·rw[if_pos hkd,if_neg hld] at e
   have:=hlt l (hB l hl hld);omega
  ·rw[if_neg hkd,if_pos hld] at e
   have:=hlt k (hB k hk hkd);omega
  ·rw[if_neg hkd,if_neg hld] at e
   exact h.inj k l (hB k hk hkd) (hB l hl hld) e
 ·intro k hk
  by_cases hkd:k=d
  ·rw[if_pos hkd];exact .inl (nn h.bel.size hb1)
  ·rw[if_neg hkd];exact h.own k (hB k hk hkd)
 ·intro t y k ht hy
  by_cases hdt:d=t
  ·rw[if_pos (by rw[hdt])] at ht
   injection ht with ht
   subst ht
   rw[hp k hy,if_pos rfl];simp
  ·rw[if_neg (by simpa using hdt)] at ht
   have h1:=h.wf t y k ht hy
   have hne:d≠k:=fun e=>h1 (by rw[←e];exact hf)
   rw[if_neg (by simpa using hne)];exact h1
 ·intro y hy
  rcases hV y hy with hv|hv
  ·have:=h.sees.av y hv;omega
  grind
 ·intro k U' cs' hk
  by_cases hkd:k=d
  ·subst hkd
   rw[if_pos rfl] at hk
   injection hk with hk
   injection hk with h1 h2
   subst h1 h2
   refine⟨.inr ⟨k,by rw[if_pos rfl];simp,rfl⟩,vs,?_,hr.keep hkeep2⟩
   grind
  ·rw[if_neg (by simpa using fun e=>hkd e.symm)] at hk
   obtain⟨hv,vs',e,hr⟩:=h.sees.box k U' cs' hk
   refine⟨.inr ⟨k,by rw[if_neg (by simpa using fun e=>hkd e.symm),hk];simp,rfl⟩,vs',?_,hr.keep hkeep⟩
   rw[if_neg hkd,hw.block _ (h.sees.av _ hv)];exact e
 ·intro t y _ ht
  by_cases hdt:d=t
  ·subst hdt
   rw[if_pos rfl] at ht
   injection ht with ht
   subst ht
   exact⟨v,Bw (by rw[h.siz];exact hd),RdX.keep hkeep2 hx⟩
  ·rw[if_neg (by simpa using hdt)] at ht
   obtain⟨v,e,hr⟩:=h.sees.tmp t y trivial ht
   refine⟨v,(zQ (by simpa using hdt)).trans e,hRX v y ?_ hr⟩
   intro k e2 e3
   subst e3
   exact h.wf t y _ ht e2 hf
theorem Rel.box (h:Rel av w0 n T B β a w) {d:Nat}(hd:d<n) (hf:B d=none) {vs:Array Value}
 (hx:RdCs (fun b=>av b∨ ∃k,B k≠none∧β k=b) w vs.toList cs):
 Rel av w0 n (fun t=>if some d=some t then some (QM sl t) else T t) (fun k=>if some d=some k then some (U,cs) else B k) (fun k=>if k=d then w.heap.size else β k) (a.put (some d) (XJ sl w.heap.size)) (w.alloc (.cells vs U)):=by
 have hw:=(fu _ w).alloc (cK _) (.cells vs U)
 have:=h.fresh (x:=QM sl d) (v:=XJ sl w.heap.size) hd hf hw (cK _) (by rw[iG];omega) (heap_alloc_new w _) (hx.keep ⟨hw.size,fun y hy _=>hw.block y hy,fun y hy hv=>hv.resolve_right (by omega)⟩)
  (by
   cases sl with
   |none=>show _=Value.pointer (some ⟨if d=d then w.heap.size else β d,0,none⟩);rw[if_pos rfl];rfl
   |some m=>show _=Value.slice (some ⟨if d=d then w.heap.size else β d,0,none⟩) m m;rw[if_pos rfl];rfl)
  (by cases sl<;>(intro k hk;injection hk with hk;exact hk.symm))
 grind
theorem Rel.store (h:Rel av w0 n T B β a w) (hk:B k=some (U,cs0)) {vs:Array Value}
 (hh:w'.heap=w.heap.setIfInBounds (β k) (.cells vs U (0,0))) (ho:w'.os=w.os) (ht:w'.tape=w.tape) (hu:w'.output=w.output)
 (hx:RdCs (fun b=>av b∨ ∃k,B k≠none∧β k=b) w vs.toList cs):
 Rel av w0 n T (fun l=>if k=l then some (U,cs) else B l) β a w':=by
 have hB: ∀l,(if k=l then some (U,cs) else B l)≠none↔B l≠none:=by grind
 have hsz:w'.heap.size=w.heap.size:=by grind
 have hbk:β k<w.heap.size:=h.sees.av _ (.inr ⟨k,by rw[hk];simp,rfl⟩)
 have hoth: ∀b,b≠β k→w'.heap[b]? =w.heap[b]? :=by grind
 have hV:(fun b=>av b∨ ∃l,(if k=l then some (U,cs) else B l)≠none∧β l=b)=(fun b=>av b∨ ∃l,B l≠none∧β l=b):=by grind
 have hkeep:Keep (fun b=>av b∨ ∃l,B l≠none∧β l=b) (fun b=>av b∨ ∃l,B l≠none∧β l=b) w w':=
  ⟨by omega,fun b _ hv=>hoth b (fun e=>hv (.inr ⟨k,by rw[hk];simp,e.symm⟩)),fun _ _ h=>h⟩
 refine⟨h.dfr,h.siz,?_,h.avl,h.avE,h.big,fun b hb hK=>h.fix b hb ((hB _).1 hK),?_,?_,?_,?_⟩
 ·refine h.bel.next ho ht hu (by omega) fun b hb hE=>hoth b (fun e=>?_)
  rcases h.own k (by rw[hk];simp) with g|g
  ·omega
  grind
 ·exact fun l m hl hm=>h.inj l m ((hB l).1 hl) ((hB m).1 hm)
 ·exact fun l hl=>h.own l ((hB l).1 hl)
 ·exact fun t x l hT hx=>(hB l).2 (h.wf t x l hT hx)
 rw[hV]
 refine⟨?_,?_,?_⟩
 ·exact fun b hb=>by rw[hsz];exact h.sees.av b hb
 ·intro l U' cs' hl
  by_cases e:k=l
  ·subst e
   rw[if_pos rfl] at hl
   injection hl with hl
   injection hl with h1 h2
   subst h1 h2
   exact⟨.inr ⟨k,by rw[hk];simp,rfl⟩,vs,by rw[hh];simp[hbk],hx.keep hkeep⟩
  ·rw[if_neg e] at hl
   obtain⟨hv,vs',e',hr⟩:=h.sees.box l U' cs' hl
   exact⟨hv,vs',(hoth _ (fun e2=>e (h.inj k l (by rw[hk];simp) (by rw[hl];simp) e2.symm))).trans e',hr.keep hkeep⟩
 ·intro t x hL hT
  obtain⟨v,e,hr⟩:=h.sees.tmp t x hL hT
  exact⟨v,e,hr.keep hkeep⟩
theorem Rel.sval (h:Rel av w0 n T B β a w) (hk:B k=some (U,cs0)) {vs:Array Value}
 (hh:w'.heap[β k]? =some (.cells vs U (0,0))) (hm:Mid (β k) w w') {d:Option Nat}(hd: ∀t,d=some t→t<n) {x:DV}{v:Value}(hp:kg x=none)
 (hc:RdCs (fun b=>av b∨ ∃k,B k≠none∧β k=b) w' vs.toList cs) (hx:RdX (fun b=>av b∨ ∃k,B k≠none∧β k=b) w' β v x):
 Rel av w0 n (fun t=>if d=some t then some x else T t) (fun l=>if k=l then some (U,cs) else B l) β (a.put d v) w':=by
 have hB: ∀l,(if k=l then some (U,cs) else B l)≠none↔B l≠none:=by grind
 have hV:(fun b=>av b∨ ∃l,(if k=l then some (U,cs) else B l)≠none∧β l=b)=(fun b=>av b∨ ∃l,B l≠none∧β l=b):=by grind
 have hkeep:Keep (fun b=>av b∨ ∃l,B l≠none∧β l=b) (fun b=>av b∨ ∃l,B l≠none∧β l=b) w w':=
  ⟨hm.size,fun b hb hv=>hm.block b hb (fun e=>hv (.inr ⟨k,by rw[hk];simp,e.symm⟩)),fun _ _ h=>h⟩
 refine⟨by rw[xe];exact h.dfr,by rw[CE];exact h.siz,?_,h.avl,h.avE,h.big,fun b hb hK=>h.fix b hb ((hB _).1 hK),?_,?_,?_,?_⟩
 ·refine h.bel.next hm.os hm.tape hm.output hm.size fun b hb hE=>hm.block b (rA hb h.bel.size) (fun e=>?_)
  rcases h.own k (by rw[hk];simp) with g|g
  ·omega
  grind
 ·exact fun l m hl hm=>h.inj l m ((hB l).1 hl) ((hB m).1 hm)
 ·exact fun l hl=>h.own l ((hB l).1 hl)
 ·intro t y l ht hy
  refine(hB l).2 ?_
  split at ht
  ·grind
  ·exact h.wf t y l ht hy
 rw[hV]
 refine⟨?_,?_,?_⟩
 ·exact fun b hb=>rA (h.sees.av b hb) hm.size
 ·intro l U' cs' hl
  by_cases e:k=l
  ·subst e
   rw[if_pos rfl] at hl
   injection hl with hl
   injection hl with h1 h2
   subst h1 h2
   exact⟨.inr ⟨k,by rw[hk];simp,rfl⟩,vs,hh,hc⟩
  ·rw[if_neg e] at hl
   obtain⟨hv,vs',e',hr⟩:=h.sees.box l U' cs' hl
   exact⟨hv,vs',(hm.block _ (h.sees.av _ hv) (fun e2=>e (h.inj k l (by rw[hk];simp) (by rw[hl];simp) e2.symm))).trans e',hr.keep hkeep⟩
 ·intro t y hl ht
  split at ht
  ·rename_i hdt
   injection ht with ht
   subst ht
   rw[hdt]
   exact⟨v,Bw (by rw[h.siz];exact hd t hdt),hx⟩
  ·rename_i hdt
   obtain⟨u,e,hr⟩:=h.sees.tmp t y trivial ht
   exact⟨u,(zQ hdt).trans e,hr.keep hkeep⟩
theorem Rel.drop (h:Rel av w0 n T B β a w) (k:Nat):Rel av w0 n (nP k T) (fun l=>if l=k then none else B l) β a w:=by
 have hB: ∀l,(if l=k then none else B l)≠none→B l≠none∧l≠k:=by grind
 have hkeep:Keep (fun b=>av b∨ ∃l,B l≠none∧β l=b) (fun b=>av b∨ ∃l,(if l=k then none else B l)≠none∧β l=b) w w:=
  ⟨Nat.le_refl _,fun _ _ _=>rfl,fun b _ hb=>hb.imp id fun⟨l,h1,h2⟩=>⟨l,(hB l h1).1,h2⟩⟩
 have hT: ∀t x,nP k T t=some x→x=.n∨(T t=some x∧kg x≠some k):=by
  intro t x ht
  unfold nP at ht
  grind
 refine⟨h.dfr,h.siz,h.bel,h.avl,h.avE,h.big,fun b hb hK=>h.fix b hb (hB _ hK).1,fun l m hl hm=>h.inj l m (hB l hl).1 (hB m hm).1,fun l hl=>h.own l (hB l hl).1,?_,?_,?_,?_⟩
 ·intro t x l ht hx
  rcases hT t x ht with rfl|⟨h1,h2⟩
  ·cases hx
  ·have:=h.wf t x l h1 hx
   rw[if_neg (fun e=>h2 (by rw[hx,e]))];exact this
 ·rintro b (hb|⟨l,hl,hb⟩)
  ·exact h.sees.av b (.inl hb)
  ·exact h.sees.av b (.inr ⟨l,(hB l hl).1,hb⟩)
 ·intro l U cs hl
  have hl0:(if l=k then none else B l)=some (U,cs):=hl
  have hne:l≠k:=by grind
  rw[if_neg hne] at hl0
  obtain⟨_,vs,e,hr⟩:=h.sees.box l U cs hl0
  exact⟨.inr ⟨l,by rw[if_neg hne,hl0];simp,rfl⟩,vs,e,hr.keep hkeep⟩
 ·intro t x hL ht
  rcases hT t x ht with rfl|⟨h1,_⟩
  ·unfold nP at ht
   split at ht
   ·rename_i y hy
    obtain⟨v,e,_⟩:=h.sees.tmp t y hL hy
    exact⟨v,e,trivial⟩
   grind
  ·obtain⟨v,e,hr⟩:=h.sees.tmp t x hL h1
   exact⟨v,e,hr.keep hkeep⟩
theorem FV (h:Rel av w0 n T B β a w) (hk:B k≠none):(fun b=>av b∨ ∃l,(if l=k then none else B l)≠none∧β l=b)=(fun b=>(av b∨ ∃l,B l≠none∧β l=b)∧b≠β k):=by
 funext b
 refine propext ⟨?_,?_⟩
 ·rintro(hb|⟨l,hl,hb⟩)
  ·refine⟨.inl hb,fun e=>?_⟩
   have:=h.avl b hb
   rcases h.own k hk with g|g
   ·omega
   ·exact h.avE b hb (e▸g)
  ·by_cases e:l=k
   ·grind
   ·rw[if_neg e] at hl
    exact⟨.inr ⟨l,hl,hb⟩,fun e2=>e (h.inj l k hl hk (hb.trans e2))⟩
 grind
theorem Rel.drew (h:Rel av w0 n T B β a w):Rel av w0 n T B β a w.drew:=
 ⟨h.dfr,h.siz,h.bel.below (fu _ w).drew,h.avl,h.avE,h.big,h.fix,h.inj,h.own,h.wf,⟨h.sees.av,fun k U cs hk=>by
  obtain⟨hv,vs,e,hr⟩:=h.sees.box k U cs hk
  exact⟨hv,vs,e,hr.keep (Keep.below (fu _ w).drew)⟩,fun t x hL hT=>by
  obtain⟨v,e,hr⟩:=h.sees.tmp t x hL hT
  exact⟨v,e,hr.keep (Keep.below (fu _ w).drew)⟩⟩⟩
theorem Rel.step {Ts:TF}{Bs:BF}{e:Eff}(h:Rel av w0 n T B β a w) (hs:Sem P ops o Ts Bs e) (hd: ∀t,o.dst=some t→t<n)
 (hT: ∀t x,iZ ops o t→Ts t=some x→T t=some x) (hB: ∀k c,Bs k=some c→B k=some c) (hf: ∀U cs sl,e=.a U cs sl→ ∃d,o.dst=some d∧B d=none)
 {Q:Exit→Act→World→Prop}{K:Act→World→Prop}(hK: ∀β' a' w',Rel av w0 n (e.tf o.dst T) (e.bf o.dst B) β' a' w'→K a' w'):
 if Region.wanted o (yielded ops a.tmps) then o.wp P a w K Q∨(o.asks P a w∧LetsOut Q) else K (a.put o.dst undef) w:=by
 have hsee:=Sees.of h.sees (L:=iZ ops o) (fun _ _=>trivial) hT hB
 cases e with
 |r x=>
  obtain⟨hp,hs⟩:=hs
  obtain⟨hw,hg⟩:=hs _ β a w hsee
  rw[if_pos hw]
  refine .inl (hg.wp fun v w' ⟨hx,hb⟩=>hK β _ _ ?_)
  refine(h.value hd hb hx ?_).congr (fun t=>?_) (fun _=>rfl)
  ·intro k e
   obtain⟨t,y,hl,ht,hy⟩:=hp k e
   exact h.wf t y k (hT t _ hl ht) hy
  ·rfl
 |a U cs sl=>
  obtain⟨hw,hg⟩:=hs _ β a w hsee
  obtain⟨d,hd',hfr⟩:=hf U cs sl rfl
  rw[if_pos hw]
  refine .inl (hg.wp fun v w' ⟨vs,hv,hw',hx⟩=>hK (fun k=>if k=d then w.heap.size else β k) _ _ ?_)
  subst hv hw'
  have:=h.box (U:=U) (sl:=sl) (hd d hd') hfr hx
  rw[hd']
  refine this.congr (fun t=>?_) (fun k=>?_)
  ·unfold Eff.tf YT;rfl
  ·unfold Eff.bf;rfl
 |s k U cs=>
  obtain⟨hn,⟨cs0,hk⟩,hs⟩:=hs
  obtain⟨hw,hg⟩:=hs _ β a w hsee
  rw[if_pos hw]
  refine .inl (hg.wp fun v w' ⟨vs,hh,ho,ht,hu,hx⟩=>hK β _ _ ?_)
  rw[hn]
  refine(h.store (hB k _ hk) hh ho ht hu hx).congr (fun t=>?_) (fun l=>?_)
  ·unfold Eff.tf;simp
  ·unfold Eff.bf;rfl
 |rs k U cs x=>
  obtain⟨hp,⟨cs0,hk⟩,hs⟩:=hs
  obtain⟨hw,hg⟩:=hs _ β a w hsee
  rw[if_pos hw]
  refine .inl (hg.wp fun v w' ⟨vs,hh,hm,hc,hx⟩=>hK β _ _ ?_)
  exact(h.sval (hB k _ hk) hh hm hd hp hc hx).congr (fun t=>rfl) (fun l=>rfl)
 |c k x=>
  obtain⟨hx0,hk0,hs⟩:=hs
  obtain⟨hw,hg⟩:=hs _ β a w hsee
  rw[if_pos hw]
  refine .inl (hg.wp fun v w' ⟨hx,hb⟩=>hK β _ _ ?_)
  have hk:B k≠none:=by
   cases hc:Bs k with
   |none=>exact absurd hc hk0
   |some c=>rw[hB k c hc];simp
  have hd2:=h.drop k
  have e:=FV h hk
  refine(hd2.value hd hb (x:=x) (v:=v) (by rw[e];exact hx) (fun l hl=>by rw[hx0] at hl;cases hl)).congr (fun t=>?_) (fun l=>rfl)
  rfl
 |skip=>
  have hw:=hs _ β a w hsee
  unfold CY at hw
  rw[if_neg (by rw[hw];simp)]
  refine hK β _ _ ?_
  refine(h.value (v:=undef) (x:=.u) hd (fu _ _) rfl (by intro k e;cases e)).congr (fun t=>?_) (fun _=>rfl)
  rfl
end
def nt {γ:Type}(mask:Nat→Bool):Nat→List (Nat→Option (Option γ))→(Nat→Option γ)→(Nat→Option γ)
 |_,[],F=>F
 |k,u::us,F=>nt mask (k+1) us (if mask k then(fun t=>(u t).getD (F t)) else F)
section
variable {γ:Type}
theorem rm (mask:Nat→Bool): ∀(us:List (Nat→Option (Option γ))) (k:Nat) (F:Nat→Option γ),nt mask (k+1) us F=nt (fun j=>mask (j+1)) k us F
 |[],_,_=>rfl
 |u::us,k,F=>by
  show nt mask (k+1+1) us _=nt (fun j=>mask (j+1)) (k+1) us _
  rw[rm mask us (k+1)]
theorem jD: ∀(us:List (Nat→Option (Option γ))) (k:Nat) (F F':Nat→Option γ),F t=F' t→
 (∀(j:Nat) (u:Nat→Option (Option γ)),us[j]? =some u→u t≠none→mask (k+j)=mask' (k+j))→nt mask k us F t=nt mask' k us F' t
 |[],_,_,_,h,_=>h
 |u::us,k,F,F',h,hm=>by
  show nt mask (k+1) us _ t=nt mask' (k+1) us _ t
  refine jD us (k+1) _ _ ?_ (fun j u' hj hu=>by have:=hm (j+1) u' (by simpa using hj) hu;rw[show k+(j+1)=k+1+j from by omega] at this;exact this)
  by_cases hu:u t=none
  ·have e1:(if mask k then(fun t=>(u t).getD (F t)) else F) t=F t:=by split<;>simp[hu]
   have e2:(if mask' k then(fun t=>(u t).getD (F' t)) else F') t=F' t:=by split<;>simp[hu]
   rw[e1,e2];exact h
  ·have:=hm 0 u rfl hu
   rw[vi] at this
   rw[this]
   split
   ·show(u t).getD (F t)=(u t).getD (F' t)
    rw[h]
   ·exact h
theorem lu (us:List (Nat→Option (Option γ))) (k:Nat) (F:Nat→Option γ)
 (h: ∀(j:Nat) (u:Nat→Option (Option γ)),us[j]? =some u→mask (k+j)=true→u t=none):nt mask k us F t=F t:=by
 have h0: ∀(us:List (Nat→Option (Option γ))) (k:Nat) (F:Nat→Option γ),nt (fun _=>false) k us F=F:=by
  intro us
  induction us with
  |nil=>intro k F;rfl
  |cons u us ih=>intro k F;exact ih (k+1) F
 have h1:=jD (mask:=mask) (mask':=fun _=>false) us k F F rfl (fun j u hj hu=>by
  cases hm:mask (k+j) with
  |false=>rfl
  |true=>exact absurd (h j u hj hm) hu)
 rw[h1,h0]
theorem LQ {u:Nat→Option (Option γ)}{x:Option γ}: ∀(us:List (Nat→Option (Option γ))) (k:Nat) (F:Nat→Option γ) (j:Nat),
 us[j]? =some u→u t=some x→mask (k+j)=true→(∀(j':Nat) (u':Nat→Option (Option γ)),us[j']? =some u'→j'≠j→u' t=none)→nt mask k us F t=x
 |[],_,_,_,hj,_,_,_=>by simp at hj
 |u0::us,k,F,0,hj,hu,hm,hd=>by
  simp at hj
  subst hj
  rw[vi] at hm
  show nt mask (k+1) us _ t=x
  rw[lu us (k+1) _ (fun j u hj _=>hd (j+1) u (by simpa using hj) (by omega)),hm]
  simp[hu]
 |u0::us,k,F,j+1,hj,hu,hm,hd=>by
  show nt mask (k+1) us _ t=x
  exact LQ us (k+1) _ j (by simpa using hj) hu (by rw[show k+1+j=k+(j+1) from by omega];exact hm) (fun j' u' hj' hne=>hd (j'+1) u' (by simpa using hj') (by omega))
theorem Hn {u:Nat→Option (Option γ)}{x:Option γ}: ∀(us:List (Nat→Option (Option γ))) (k:Nat) (F:Nat→Option γ) (j:Nat),
 us[j]? =some u→u t=some x→mask (k+j)=true→(∀(j':Nat) (u':Nat→Option (Option γ)),us[j']? =some u'→j<j'→mask (k+j')=true→u' t=none)→nt mask k us F t=x
 |[],_,_,_,hj,_,_,_=>by simp at hj
 |u0::us,k,F,0,hj,hu,hm,hd=>by
  simp at hj
  subst hj
  rw[vi] at hm
  show nt mask (k+1) us _ t=x
  rw[lu us (k+1) _ (fun j u hj hm'=>hd (j+1) u (by simpa using hj) (by omega) (by rw[show k+(j+1)=k+1+j from by omega];exact hm')),hm]
  simp[hu]
 |u0::us,k,F,j+1,hj,hu,hm,hd=>by
  show nt mask (k+1) us _ t=x
  exact Hn us (k+1) _ j (by simpa using hj) hu (by rw[show k+1+j=k+(j+1) from by omega];exact hm) (fun j' u' hj' hlt hm'=>hd (j'+1) u' (by simpa using hj') (by omega) (by rw[show k+(j'+1)=k+1+j' from by omega];exact hm'))
end
def uT (d:Option Nat) (e:Eff):Nat→Option (Option DV):=fun t=>if d=some t then some (some (YT t e)) else none
def uB (d:Option Nat) (e:Eff):Nat→Option (Option (TypeId×List CellD)):=fun k=>match e with
 | .a U cs _=>if d=some k then some (some (U,cs)) else none
 | .s l U cs=>if l=k then some (some (U,cs)) else none
 | .rs l U cs _=>if l=k then some (some (U,cs)) else none
 |_=>none
def Eff.wr:Eff→Option Nat
 | .s k _ _=>some k
 | .rs k _ _ _=>some k
 |_=>none
theorem Rk (d:Option Nat) (e:Eff) (T:TF) (h: ∀k x,e≠ .c k x):(fun t=>(uT d e t).getD (T t))=e.tf d T:=by
 funext t
 cases e with
 |c k x=>exact absurd rfl (h k x)
 |r x=>unfold uT Eff.tf;dsimp only;split<;>rfl
 |a U cs sl=>unfold uT Eff.tf;dsimp only;split<;>rfl
 |s k U cs=>unfold uT Eff.tf;dsimp only;split<;>rfl
 |rs k U cs x=>unfold uT Eff.tf;dsimp only;split<;>rfl
 |skip=>unfold uT Eff.tf;dsimp only;split<;>rfl
theorem RJ (d:Option Nat) (e:Eff) (B:BF) (h: ∀k x,e≠ .c k x):(fun k=>(uB d e k).getD (B k))=e.bf d B:=by
 funext k
 cases e with
 |a U cs sl=>unfold uB Eff.bf;dsimp only;split<;>rfl
 |s l U cs=>unfold uB Eff.bf;dsimp only;split<;>rfl
 |rs l U cs x=>unfold uB Eff.bf;dsimp only;split<;>rfl
 |r x=>rfl
 |c k x=>exact absurd rfl (h k x)
 |skip=>rfl
theorem TW (d:Option Nat) (e:Eff) (k:Nat):uB d e k≠some none:=by
 unfold uB
 split
 ·grind
 ·grind
 ·grind
 grind
theorem O9 {e:Eff}(h:uB d e k≠none):(∃U cs sl,e=.a U cs sl∧d=some k)∨(∃U cs,e=.s k U cs)∨ ∃U cs x,e=.rs k U cs x:=by
 unfold uB at h
 split at h
 ·grind
 ·simp_all
 ·simp_all
 grind
structure Sq where
 st:St
 nb:List (Nat×TypeId×List CellD)
 sd:List Nat
def Sq.M (s:Sq):BF:=fun k=>aM k (s.nb++s.st.bx)
def lN (k:Nat):List (Nat×DV)→List (Nat×DV)
 |[]=>[]
 |(t,y)::r=>(t,match kg y with|some l=>bif Nat.beq l k then .n else y|none=>y)::lN k r
def kz (k:Nat):List (Nat×TypeId×List CellD)→List (Nat×TypeId×List CellD)
 |[]=>[]
 |(l,c)::r=>bif Nat.beq l k then kz k r else(l,c)::kz k r
def St.app (σ:St):Option Nat→Eff→St
 |some d,.r x=>{σ with tm:=(d,x)::σ.tm}
 |some d,.a U cs sl=>{σ with tm:=(d,QM sl d)::σ.tm,bx:=(d,U,cs)::σ.bx}
 |some d,.skip=>{σ with tm:=(d,.u)::σ.tm}
 |some d,.s k U cs=>{σ with tm:=(d,.u)::σ.tm,bx:=(k,U,cs)::σ.bx}
 |none,.s k U cs=>{σ with bx:=(k,U,cs)::σ.bx}
 |some d,.rs k U cs x=>{σ with tm:=(d,x)::σ.tm,bx:=(k,U,cs)::σ.bx}
 |none,.rs k U cs _x=>{σ with bx:=(k,U,cs)::σ.bx}
 |some d,.c k x=>{σ with tm:=(d,x)::lN k σ.tm,bx:=kz k σ.bx}
 |none,.c k _x=>{σ with tm:=lN k σ.tm,bx:=kz k σ.bx}
 |none,_=>σ
def Sq.app (s:Sq):Option Nat→Eff→Sq
 |some d,.a U cs sl=>⟨{s.st with tm:=(d,QM sl d)::s.st.tm},(d,U,cs)::s.nb,s.sd⟩
 |some d,.s k U cs=>⟨{s.st with tm:=(d,.u)::s.st.tm},(k,U,cs)::s.nb,k::s.sd⟩
 |none,.s k U cs=>⟨s.st,(k,U,cs)::s.nb,k::s.sd⟩
 |some d,.rs k U cs x=>⟨{s.st with tm:=(d,x)::s.st.tm},(k,U,cs)::s.nb,s.sd⟩
 |none,.rs k U cs _x=>⟨s.st,(k,U,cs)::s.nb,s.sd⟩
 |d,e=>⟨s.st.app d e,s.nb,s.sd⟩
theorem bl {α:Type}(k t:Nat) (x:α) (r:List (Nat×α)):aM t ((k,x)::r)=if k=t then some x else aM t r:=by
 show(bif Nat.beq k t then some x else aM t r)=_
 by_cases h:k=t
 ·simp_all
 ·have:Nat.beq k t=false:=by
   cases hb:Nat.beq k t with
   |false=>rfl
   |true=>exact absurd (jr hb) h
  rw[this,if_neg h];rfl
theorem cZ {α:Type}(t:Nat): ∀(l r:List (Nat×α)),aM t (l++r)=(aM t l).or (aM t r)
 |[],r=>by simp[aM]
 |(k,x)::l,r=>by
  rw[List.cons_append,bl,bl,cZ t l r]
  split<;>simp
theorem mp (k t:Nat): ∀(l:List (Nat×DV)),aM t (lN k l)=match aM t l with|some y=>if kg y=some k then some .n else some y|none=>none
 |[]=>rfl
 |(s,y)::r=>by
  unfold lN
  rw[bl,bl]
  split
  ·show some _=(if kg y=some k then some DV.n else some y)
   cases hr:kg y with
   |none=>simp
   |some l=>
    dsimp only
    cases hb:Nat.beq l k with
    |true=>rw[if_pos (by rw[jr hb])];rfl
    |false=>rw[if_neg (fun e=>by injection e with e;subst e;rw[xr] at hb;cases hb)];rfl
  ·exact mp k t r
theorem kG (k l:Nat): ∀(r:List (Nat×TypeId×List CellD)),aM l (kz k r)=if l=k then none else aM l r
 |[]=>by simp[kz,aM]
 |(m,c)::r=>by
  unfold kz
  rw[bl]
  cases hb:Nat.beq m k with
  |true=>
   have:=jr hb
   subst this
   show aM l (kz m r)=_
   rw[kG m l r]
   by_cases e:l=m
   ·rw[if_pos e,if_pos e]
   ·rw[if_neg e,if_neg e,if_neg (Ne.symm e)]
  |false=>
   have hne:m≠k:=fun e=>by subst e;rw[xr] at hb;cases hb
   show aM l ((m,c)::kz k r)=_
   rw[bl,kG k l r]
   by_cases e:m=l
   ·subst e;rw[if_pos rfl,if_neg hne,if_pos rfl]
   ·rw[if_neg e,if_neg e]
theorem qK (σ:St) (d:Option Nat) (e:Eff):(σ.app d e).T=e.tf d σ.T:=by
 funext t
 cases e with
 |c k x=>
  cases d with
  |none=>
   simp[St.app,St.T,Eff.tf,nP,mp]
  |some d=>
   simp[St.app,St.T,Eff.tf,nP,mp,bl]
 |_=>
 unfold Eff.tf
 cases d with
 |none=>simp[St.app,St.T]
 |some d=>
  by_cases h:d=t
  ·subst h;simp[St.app,St.T,bl,YT]
  ·have h': ¬(some d=some t):=by simpa using h
   simp[St.app,St.T,bl,h]
theorem VP (σ:St) (d:Option Nat) (e:Eff):(σ.app d e).B=e.bf d σ.B:=by
 funext k
 cases d with
 |none=>cases e<;>simp[St.app,St.B,Eff.bf,bl,kG]
 |some d=>cases e<;>simp[St.app,St.B,Eff.bf,bl,kG]
theorem PY (s:Sq) (d:Option Nat) (e:Eff):(s.app d e).st.T=e.tf d s.st.T:=by
 cases d with
 |none=>
  cases e with
  |a U cs sl=>exact qK s.st none (.a U cs sl)
  |r x=>exact qK s.st none (.r x)
  |s k U cs=>exact qK s.st none (.s k U cs)
  |c k x=>exact qK s.st none (.c k x)
  |rs k U cs x=>exact qK s.st none (.rs k U cs x)
  |skip=>exact qK s.st none .skip
 |some d=>
  cases e with
  |a U cs sl=>exact qK s.st (some d) (.a U cs sl)
  |r x=>exact qK s.st (some d) (.r x)
  |s k U cs=>exact qK s.st (some d) (.s k U cs)
  |c k x=>exact qK s.st (some d) (.c k x)
  |rs k U cs x=>exact qK s.st (some d) (.rs k U cs x)
  |skip=>exact qK s.st (some d) .skip
theorem Yy (s:Sq) (d:Option Nat) (e:Eff) (hc: ∀k x,e≠ .c k x):(s.app d e).st.B=s.st.B:=by
 cases d with
 |none=>cases e<;>first|rfl|exact absurd rfl (hc _ _)
 |some d=>cases e<;>first|rfl|exact absurd rfl (hc _ _)
theorem PQ (s:Sq) (d:Option Nat) (e:Eff) (hc: ∀k x,e≠ .c k x):(s.app d e).M=e.bf d s.M:=by
 funext k
 cases e with
 |c k x=>exact absurd rfl (hc k x)
 |s l U cs=>
  have:(s.app d (.s l U cs)).M k=aM k ((l,U,cs)::(s.nb++s.st.bx)):=by cases d<;>rfl
  rw[this,bl]
  rfl
 |rs l U cs x=>
  have:(s.app d (.rs l U cs x)).M k=aM k ((l,U,cs)::(s.nb++s.st.bx)):=by cases d<;>rfl
  rw[this,bl]
  rfl
 |a U cs sl=>cases d<;>(simp[Sq.app,St.app,Sq.M,Eff.bf,bl])
 |r x=>cases d<;>(simp[Sq.app,St.app,Sq.M,Eff.bf])
 |skip=>cases d<;>(simp[Sq.app,St.app,Sq.M,Eff.bf])
theorem Xv (s:Sq) (d:Option Nat) (e:Eff):(s.app d e).st.n=s.st.n:=by
 cases d<;>cases e<;>rfl
theorem LY (σ:St) (d:Option Nat) (e:Eff):(σ.app d e).n=σ.n:=by
 cases d<;>cases e<;>rfl
def IN (P:Program) (ops:Array Oper) (o:Oper) (σ:St) (F:St→Prop):Prop:= ∀av w0 β a w,Rel av w0 σ.n σ.T σ.B β a w→(∀t,o.dst=some t→t<σ.n)→
 CY o ops a=true∧Gives P o a w fun v w'=> ∃σ' β',F σ'∧σ'.n=σ.n∧Rel av w0 σ.n σ'.T σ'.B β' (a.put o.dst v) w'
def dl (P:Program) (ops:Array Oper):List Oper→St→(St→Prop)→Prop
 |[],σ,K=>K σ
 |o::os,σ,K=>(∃e,Sem P ops o σ.T σ.B e∧(∀U cs sl,e=.a U cs sl→ ∃d,o.dst=some d∧σ.B d=none)∧dl P ops os (σ.app o.dst e) K)∨ ∃F:St→Prop,IN P ops o σ F∧ ∀σ',F σ'→dl P ops os σ' K
def hid (hs:List Nat) (B:BF):BF:=fun k=>bif hs.any (Nat.beq k) then none else B k
def ab9 (hs:List Nat) (B M:BF):Eff→BF
 | .s k _ _=>fun l=>bif Nat.beq l k then M l else hid hs B l
 | .rs k _ _ _=>fun l=>bif Nat.beq l k then M l else hid hs B l
 |_=>hid hs B
def jz (o:Oper):Bool:=match o.op with
 | .call _=>true
 |_=>false
def df (o:Oper):List Nat:=(o.after.toList.filter (Region.binds .any)).map (·.on)
def sL (ops:Array Oper):Bool:=
 (List.range ops.size).all fun j=>match ops[j]? with
  |none=>false
  |some p=> !jz p||(List.range j).all fun i=>match ops[i]? with
   |none=>false
   |some o=> !jz o||(df p).any (Nat.beq i)||(List.range j).any fun q=>Nat.blt i q&&match ops[q]? with
    |none=>false
    |some oq=>jz oq&&(df p).any (Nat.beq q)
def abA (ops:Array Oper) (hs:List Nat) (os:List Oper) (o:Oper) (B:BF) (sd:List Nat) (e:Eff):Prop:=
 ∀k U cs x,e=.rs k U cs x→hs.any (Nat.beq k)=true∧B k≠none∧k∉sd∧os.all (fun o=>o.dst.isSome)=true∧jz o=true∧sL ops=true∧hs.any (Nat.beq 999999)=false
def AD (o:Oper):Bool:=match o.op with
 | .store ..=>true
 |_=>false
def JP (hs:List Nat) (o:Oper):Bool:=AD o||(jz o&& !hs.any (Nat.beq 999999))
def qj (ops:Array Oper):Bool:=
 (List.range ops.size).all fun j=>match ops[j]? with
  |none=>false
  |some p=> !AD p||(List.range j).all fun i=>match ops[i]? with
   |none=>false
   |some o=> !AD o||(df p).any (Nat.beq i)
theorem Ca (h:qj ops=true) (hij:i<j) (ho:ops[i]? =some o) (hp:ops[j]? =some p) (hso:AD o=true) (hsp:AD p=true):i∈df p:=by
 have h1:=oN.1 h j (tX.2 (rD.1 hp).1)
 rw[hp] at h1
 dsimp only at h1
 rw[hsp] at h1
 have h2:=oN.1 h1 i (tX.2 hij)
 rw[ho] at h2
 dsimp only at h2
 rw[hso] at h2
 simp only[Bool.not_true,Bool.false_or,List.any_eq_true] at h2
 obtain⟨x,hx,h3⟩:=h2
 rw[jr h3];exact hx
def Ta (hs:List Nat) (ops:Array Oper) (o:Oper):Bool:=match o.dst with
 |none=>false
 |some d=>(List.range ops.size).all fun i=>match ops[i]? with
  |none=>false
  |some p=> !(match p.dst with|none=>false|some d'=>Nat.beq d' d)||(List.range ops.size).all fun j=>match ops[j]? with
   |none=>false
   |some q=> !JP hs q||(df q).any (Nat.beq i)
theorem We {q:Oper}(h:Ta hs ops o=true) (ho:ops[i]? =some o) (hq:ops[j]? =some q) (hw:JP hs q=true):i∈df q:=by
 unfold Ta at h
 cases hd:o.dst with
 |none=>rw[hd] at h;cases h
 |some d=>
  rw[hd] at h
  have h1:=oN.1 h i (tX.2 (rD.1 ho).1)
  rw[ho] at h1
  dsimp only at h1
  rw[hd] at h1
  dsimp only at h1
  rw[xr] at h1
  have h2:=oN.1 h1 j (tX.2 (rD.1 hq).1)
  rw[hq] at h2
  dsimp only at h2
  rw[hw] at h2
  simp only[Bool.not_true,Bool.false_or,List.any_eq_true] at h2
  obtain⟨x,hx,h3⟩:=h2
  rw[jr h3];exact hx
theorem NB (h:jz o=true) (hf:hs.any (Nat.beq 999999)=false):JP hs o=true:=by
 unfold JP;rw[h,hf];simp
theorem TZ (h:AD o=true):JP hs o=true:=by
 unfold JP;rw[h];rfl
def WA (P:Program) (ops:Array Oper) (hs:List Nat) (o:Oper) (T:TF) (B M:BF) (e:Eff):Prop:=Sem P ops o T (ab9 hs B M e) e∨(Ta hs ops o=true∧(∃x,e=.r x)∧Sem P ops o T B e)
def dq (P:Program) (ops:Array Oper) (hs:List Nat):List Oper→Sq→(Sq→Prop)→Prop
 |[],s,K=>K s
 |o::os,s,K=> ∃e,WA P ops hs o s.st.T s.st.B s.M e∧(∀k x,e≠ .c k x)∧(∀k U cs,e=.s k U cs→hs.any (Nat.beq k)=true∧(s.st.B k≠none∨k∈o.looksAt ops)∧(k∉s.sd∨qj ops=true)∧AD o=true)∧abA ops hs os o s.st.B s.sd e∧(∀U cs sl,e=.a U cs sl→ ∃d,o.dst=some d∧s.M d=none)∧dq P ops hs os (s.app o.dst e) K
def ID (l:List Oper) (es:List Eff):=List.zipWith (fun(o:Oper) e=>uT o.dst e) l es
def wX (l:List Oper) (es:List Eff):=List.zipWith (fun(o:Oper) e=>uB o.dst e) l es
theorem La (s:Sq) (d:Option Nat) (e:Eff) (k:Nat) (h:k∉(s.app d e).sd):k∉s.sd:=by
 cases d<;>cases e<;>first|exact h|exact fun hk=>h (iY _ hk)
theorem Ha {K:Sq→Prop}: ∀(l:List Oper) (s:Sq),dq P ops hs l s K→ ∃es:List Eff,es.length=l.length∧
 (∀(i:Nat) (o:Oper) (e:Eff),l[i]? =some o→es[i]? =some e→WA P ops hs o (nt (fun j=>decide (j<i)) 0 (ID l es) s.st.T) s.st.B (nt (fun j=>decide (j<i)) 0 (wX l es) s.M) e∧(∀k x,e≠ .c k x)∧(∀k U cs,e=.s k U cs→hs.any (Nat.beq k)=true∧(s.st.B k≠none∨k∈o.looksAt ops)∧(k∉s.sd∨qj ops=true)∧AD o=true)∧
  (∀k U cs x,e=.rs k U cs x→hs.any (Nat.beq k)=true∧s.st.B k≠none∧k∉s.sd∧jz o=true∧sL ops=true∧hs.any (Nat.beq 999999)=false)∧
  (∀U cs sl,e=.a U cs sl→ ∃d,o.dst=some d∧nt (fun j=>decide (j<i)) 0 (wX l es) s.M d=none))∧
 (∀(i j:Nat) k U cs U' cs',es[i]? =some (.s k U cs)→es[j]? =some (.s k U' cs')→i=j∨qj ops=true)∧
 (∀(i j:Nat) k U cs U' cs' x,es[i]? =some (.s k U cs)→es[j]? =some (.rs k U' cs' x)→False)∧
 ∃s':Sq,s'.st.n=s.st.n∧s'.st.T=nt (fun _=>true) 0 (ID l es) s.st.T∧s'.M=nt (fun _=>true) 0 (wX l es) s.M∧K s'
 |[],s,h=>⟨[],rfl,fun i o e ho=>by simp at ho,fun i j k U cs U' cs' h=>by simp at h,fun i j k U cs U' cs' x h=>by simp at h,s,rfl,rfl,rfl,h⟩
 |o::l,s,h=>by
  obtain⟨e,hsm,hce,hn,hrs,ha,h⟩:=h
  obtain⟨es,hl,hall,hdis,hmix,s',h1,h2,h3,h4⟩:=Ha l _ h
  refine⟨e::es,by simp[hl],?_,?_,?_,s',h1.trans (Xv _ _ _),?_,?_,h4⟩
  ·intro i o' e' ho he
   cases i with
   |zero=>
    simp at ho he
    subst ho he
    refine⟨?_,hce,hn,fun k U cs x he=>⟨(hrs k U cs x he).1,(hrs k U cs x he).2.1,(hrs k U cs x he).2.2.1,(hrs k U cs x he).2.2.2.2⟩,?_⟩
    ·rw[show nt (fun j=>decide (j<0)) 0 (ID (o::l) (e::es)) s.st.T=s.st.T from funext fun t=>lu _ _ _ (fun j u _ hm=>by simp at hm),show nt (fun j=>decide (j<0)) 0 (wX (o::l) (e::es)) s.M=s.M from funext fun t=>lu _ _ _ (fun j u _ hm=>by simp at hm)]
     exact hsm
    ·rw[show nt (fun j=>decide (j<0)) 0 (wX (o::l) (e::es)) s.M=s.M from funext fun t=>lu _ _ _ (fun j u _ hm=>by simp at hm)]
     exact ha
   |succ i=>
    have:=hall i o' e' (by simpa using ho) (by simpa using he)
    have e1:nt (fun j=>decide (j<i+1)) 0 (ID (o::l) (e::es)) s.st.T=nt (fun j=>decide (j<i)) 0 (ID l es) (s.app o.dst e).st.T:=by
     show nt (fun j=>decide (j<i+1)) (0+1) (ID l es) (if decide (0<i+1)=true then(fun t=>(uT o.dst e t).getD (s.st.T t)) else s.st.T)=_
     rw[rm,PY,←Rk _ _ _ hce]
     simp
    have e2:nt (fun j=>decide (j<i+1)) 0 (wX (o::l) (e::es)) s.M=nt (fun j=>decide (j<i)) 0 (wX l es) (s.app o.dst e).M:=by
     show nt (fun j=>decide (j<i+1)) (0+1) (wX l es) (if decide (0<i+1)=true then(fun t=>(uB o.dst e t).getD (s.M t)) else s.M)=_
     rw[rm,PQ _ _ _ hce,←RJ _ _ _ hce]
     simp
    rw[Yy _ _ _ hce,←e1,←e2] at this
    exact⟨this.1,this.2.1,fun k U cs he=>⟨(this.2.2.1 k U cs he).1,(this.2.2.1 k U cs he).2.1,(this.2.2.1 k U cs he).2.2.1.imp (La s o.dst e k) id,(this.2.2.1 k U cs he).2.2.2⟩,fun k U cs x he=>⟨(this.2.2.2.1 k U cs x he).1,(this.2.2.2.1 k U cs x he).2.1,La s o.dst e k (this.2.2.2.1 k U cs x he).2.2.1,(this.2.2.2.1 k U cs x he).2.2.2⟩,this.2.2.2.2⟩
  ·intro i j k U cs U' cs' hi hj
   have hnot: ∀(j:Nat) U' cs',es[j]? =some (.s k U' cs')→ ∀U cs,e=.s k U cs→qj ops=true:=by
    intro j U' cs' hj U cs he
    have hjl:j<l.length:=by rw[←hl];exact(jU.1 hj).1
    have h5:=(hall j l[j] _ (j7 hjl) hj).2.2.1 k U' cs' rfl
    subst he
    rcases h5.2.2.1 with h6|h6
    ·exact absurd (by cases o.dst<;>exact j5 ..) h6
    ·exact h6
   cases i with
   |zero=>
    cases j with
    |zero=>exact .inl rfl
    |succ j=>simp at hi hj;exact .inr (hnot j U' cs' hj U cs hi)
   |succ i=>
    cases j with
    |zero=>simp at hi hj;exact .inr (hnot i U cs hi U' cs' hj)
    |succ j=>simp at hi hj;exact(hdis i j k U cs U' cs' hi hj).imp (fun e=>by rw[e]) id
  ·intro i j k U cs U' cs' x hi hj
   cases i with
   |zero=>
    simp at hi
    cases j with
    |zero=>simp at hj;rw[hi] at hj;cases hj
    |succ j=>
     simp at hj
     subst hi
     have hjl:j<l.length:=by rw[←hl];exact(jU.1 hj).1
     have h5:=(hall j l[j] _ (j7 hjl) hj).2.2.2.1 k U' cs' x rfl
     exact h5.2.2.1 (by cases o.dst<;>exact j5 ..)
   |succ i=>
    simp at hi
    cases j with
    |zero=>
     simp at hj
     have hil:i<l.length:=by rw[←hl];exact(jU.1 hi).1
     have h5:=(hall i l[i] _ (j7 hil) hi).1
     have h6:(l[i]).dst=none:=by
      rcases h5 with h5|⟨_,⟨x,hx⟩,_⟩
      ·exact h5.1
      grind
     have h7:=(hrs k U' cs' x hj).2.2.2.1
     have h8:=oN.1 h7 l[i] (wS hil)
     rw[h6] at h8;cases h8
    |succ j=>simp at hj;exact hmix i j k U cs U' cs' x hi hj
  ·rw[h2,PY,←Rk _ _ _ hce]
   show _=nt (fun _=>true) (0+1) (ID l es) (if true=true then(fun t=>(uT o.dst e t).getD (s.st.T t)) else s.st.T)
   rw[rm];simp
  ·rw[h3,PQ _ _ _ hce,←RJ _ _ _ hce]
   show _=nt (fun _=>true) (0+1) (wX l es) (if true=true then(fun t=>(uB o.dst e t).getD (s.M t)) else s.M)
   rw[rm];simp
theorem BD {γ:Type}: ∀(us:List (Nat→Option (Option γ))) (k:Nat) (F:Nat→Option γ),F t≠none→(∀u∈us,u t≠some none)→nt mask k us F t≠none
 |[],_,_,h,_=>h
 |u::us,k,F,h,hu=>by
  refine BD us (k+1) _ ?_ (fun u' hu'=>hu u' (iY _ hu'))
  split
  ·show(u t).getD (F t)≠none
   cases he:u t with
   |none=>exact h
   |some x=>
    cases x with
    |none=>exact absurd he (hu u (j5 ..))
    |some y=>simp
  ·exact h
theorem wY {K:St→Prop}: ∀(l:List Oper) (σ:St) (β:Nat→Nat) (a:Act) (w:World),
 (∀o∈l,∀t,o.dst=some t→t<σ.n)→dl P ops l σ K→Rel av w0 σ.n σ.T σ.B β a w→(∀σ' β' a' w',σ'.n=σ.n→K σ'→Rel av w0 σ'.n σ'.T σ'.B β' a' w'→Q .normal a' w')→wpList P ops Q l a w
 |[],σ,β,a,w,_,hd,hr,hq=>hq σ β a w rfl hd hr
 |o::l,σ,β,a,w,hn,hd,hr,hq=>by
  rcases hd with⟨e,hs,ha,hd⟩|⟨F,hs,hd⟩
  ·refine hr.step hs (fun t ht=>hn o (by simp) t ht) (fun _ _ _ h=>h) (fun _ _ h=>h) ha (fun β' a' w' hr'=>?_)
   refine wY l (σ.app o.dst e) β' a' w' (fun o' ho' t ht=>by rw[LY];exact hn o' (by simp[ho']) t ht) hd ?_ (fun σ' β' a' w' h1 h2 h3=>hq σ' β' a' w' (by rw[h1,LY]) h2 h3)
   rw[LY,qK,VP];exact hr'
  ·obtain⟨hw,hg⟩:=hs av w0 β a w hr (fun t ht=>hn o (by simp) t ht)
   unfold wpList
   rw[if_pos hw]
   refine .inl (hg.wp fun v w' ⟨σ',β',hF,hn',hr'⟩=>?_)
   exact wY l σ' β' _ w' (fun o' ho' t ht=>by rw[hn'];exact hn o' (by simp[ho']) t ht) (hd σ' hF) (by rw[hn'];exact hr') (fun σ'' β' a' w' h1 h2 h3=>hq σ'' β' a' w' (by rw[h1,hn']) h2 h3)
def dB (N k:Nat):Array Bool:=((List.range N).map (fun i=>Nat.blt i k)).toArray
def I2 (ops:Array Oper) (m n:Nat):Bool:=
 Nat.ble m ops.size&&
 ((List.range ops.size).all fun i=>match ops[i]? with
  |none=>false
  |some o=>(df o).all (fun j=>Nat.blt j i)&&(match o.dst with|none=>true|some d=>Nat.blt d n))&&
 ((List.range m).all fun i=>match ops[i]? with
  |none=>false
  |some o=>(List.range m).all fun j=>Nat.beq i j||match ops[j]? with
   |none=>false
   |some p=>match p.dst with
    |none=>true
    |some d=>(match o.dst with|none=>true|some d'=> !Nat.beq d' d)&&(!(o.looksAt ops).any (Nat.beq d)||(df o).any (Nat.beq j)||(df p).any (Nat.beq i)))&&
 ((List.range ops.size).all fun t=>Nat.blt t m||match ops[t]? with
  |none=>false
  |some o=>(df o).any (fun j=>Nat.ble m j)||(List.range m).all fun p=>(df o).any (Nat.beq p)||(List.range m).any fun q=>Nat.blt p q&&match ops[q]? with
   |none=>false
   |some oq=>(df oq).any (Nat.beq p))&&
 ((List.range ops.size).all fun k=>Nat.blt k m||(match Region.ready .any ops (dB ops.size k) with|[j]=>Nat.beq j k|_=>false))
structure Chk (ops:Array Oper) (m n:Nat):Prop where
 le:m≤ops.size
 low: ∀(i:Nat) (o:Oper) (j:Nat),ops[i]? =some o→j∈df o→j<i
 dn: ∀(i:Nat) (o:Oper) (t:Nat),ops[i]? =some o→o.dst=some t→t<n
 dist: ∀(i j:Nat) (o p:Oper) (d:Nat),i<m→j<m→ops[i]? =some o→ops[j]? =some p→o.dst=some d→p.dst=some d→i=j
 dep: ∀(i j:Nat) (o p:Oper) (d:Nat),i<m→j<m→i≠j→ops[i]? =some o→ops[j]? =some p→p.dst=some d→d∈o.looksAt ops→j∈df o∨i∈df p
 tl: ∀(t:Nat) (o:Oper),m≤t→ops[t]? =some o→(∃j,j∈df o∧m≤j)∨ ∀p,p<m→p∈df o∨ ∃(q:Nat) (oq:Oper),p<q∧q<m∧ops[q]? =some oq∧p∈df oq
 rdy: ∀k:Nat,m≤k→k<ops.size→Region.ready .any ops (dB ops.size k)=[k]
theorem kU {l:List Nat}{d:Nat}:l.any (Nat.beq d)=true↔d∈l:=by simp_all
theorem iO {a:Nat}:Nat.blt a b=true↔a<b:=by simp[Nat.blt,Nat.ble_eq,Nat.lt_iff_add_one_le]
theorem Chk.of {m n:Nat}(h:I2 ops m n=true):Chk ops m n:=by
 unfold I2 at h
 simp only[dT,oN,tX] at h
 obtain⟨⟨⟨⟨h1,h2⟩,h3⟩,h4⟩,h5⟩:=h
 have hlt: ∀ {i:Nat}{o:Oper},ops[i]? =some o→i<ops.size:=fun h=>(rD.1 h).1
 refine⟨Nat.le_of_ble_eq_true h1,?_,?_,?_,?_,?_,?_⟩
 ·intro i o j ho hj
  have:=h2 i (hlt ho)
  rw[ho] at this
  simp only[dT,oN] at this
  exact iO.1 (this.1 j hj)
 ·intro i o t ho ht
  have:=h2 i (hlt ho)
  rw[ho] at this
  simp only[dT,ht] at this
  exact iO.1 this.2
 ·intro i j o p d hi hj ho hp hd he
  have:=h3 i hi
  rw[ho] at this
  simp only[oN,tX] at this
  have:=this j hj
  rw[hp] at this
  simp only[he,hd,sC,dT] at this
  rcases this with h|h
  ·exact jr h
  ·have:=h.1;rw[xr] at this;cases this
 ·intro i j o p d hi hj hne ho hp hd he
  have:=h3 i hi
  rw[ho] at this
  simp only[oN,tX] at this
  have:=this j hj
  rw[hp] at this
  simp only[hd,sC,dT] at this
  rcases this with h|h
  ·exact absurd (jr h) hne
  ·rcases h.2 with(h|h)|h
   ·rw[kU.2 he] at h;cases h
   ·exact .inl (kU.1 h)
   ·exact .inr (kU.1 h)
 ·intro t o ht ho
  have:=h4 t (hlt ho)
  rw[ho] at this
  simp only[sC,oN,List.any_eq_true,tX,dT] at this
  rcases this with h|h|h
  ·have:=iO.1 h;omega
  ·obtain⟨j,hj,h⟩:=h;exact .inl ⟨j,hj,dV h⟩
  ·refine .inr fun p hp=>?_
   rcases h p hp with h|⟨q,hq,h,h'⟩
   ·obtain⟨x,hx,hb⟩:=h;rw[jr hb];exact .inl hx
   ·cases ho':ops[q]? with
    |none=>rw[ho'] at h';cases h'
    |some oq=>
     rw[ho'] at h'
     exact .inr ⟨q,oq,iO.1 h,hq,ho',kU.1 h'⟩
 ·intro k hk hks
  have:=h5 k hks
  simp only[sC] at this
  rcases this with h|h
  ·have:=iO.1 h;omega
  ·generalize Region.ready .any ops (dB ops.size k)=r at h
   match r,h with
   |[j],h=>rw[jr h]
theorem EW (N k i:Nat) (d:Bool) (hi:i<N):(dB N k).getD i d=Nat.blt i k:=by
 unfold dB
 simp[hi]
theorem Fo {N:Nat}(_h:k<N):(dB N k).setIfInBounds k true=dB N (k+1):=by
 apply Array.ext (by simp[dB])
 intro i h1 h2
 simp[dB] at h1 h2⊢
 rw[List.getElem_set]
 split
 ·simp_all
 ·simp only[List.getElem_map,List.getElem_range]
  rw[Bool.eq_iff_iff,iO,iO];omega
theorem Ac {e:Edge}(h:e∈o.after) (hb:Region.binds .any e=true):e.on∈df o:=
 vf.2 ⟨e,zi.2 ⟨Array.mem_toList_iff.2 h,hb⟩,rfl⟩
theorem mt (h:j∈df o): ∃e∈o.after,Region.binds .any e=true∧e.on=j:=by
 obtain⟨e,he,h⟩:=vf.1 h
 grind
section
variable {P:Program}{ops:Array Oper}{Q:Exit→Act→World→Prop}{av:Nat→Prop}{w0:Ent}{m n:Nat}
theorem yD (hc:Chk ops m n) {K:St→Prop}(hQ: ∀σ' β a w,σ'.n=n→K σ'→Rel av w0 n σ'.T σ'.B β a w→Q .normal a w): ∀(l:List Oper) (k:Nat) (σ:St) (fuel:Nat) (β:Nat→Nat) (a:Act) (w:World),
 m≤k→(∀j:Nat,l[j]? =ops[k+j]?)→k+l.length=ops.size→σ.n=n→dl P ops l σ K→Rel av w0 n σ.T σ.B β a w→l.length≤fuel→wpAny P .any ops Q fuel (dB ops.size k) a w
 |[],k,σ,fuel,β,a,w,_,_,hk,hn,hd,hr,_=>by
  refine wpAny_done ?_ (hQ σ β a w hn hd hr) fuel
  refine List.eq_nil_iff_forall_not_mem.2 fun j hj=>?_
  obtain⟨h0,o,ho,_⟩:=mem_ready.1 hj
  have hjs:=(rD.1 ho).1
  rw[EW _ _ _ _ hjs] at h0
  have:Nat.blt j k=true:=iO.2 (by simp at hk;omega)
  rw[this] at h0;cases h0
 |o::l,k,σ,0,β,a,w,_,_,_,_,_,_,hf=>by simp at hf
 |o::l,k,σ,fuel+1,β,a,w,hmk,hl,hk,hn,hd,hr,hf=>by
  have ho:ops[k]? =some o:=by have:=hl 0;simpa using this.symm
  have hks:k<ops.size:=(rD.1 ho).1
  refine wpAny_all (hc.rdy k hmk hks) (by simp) ?_
  intro i hi
  obtain rfl:i=k:=by simpa using hi
  rw[Fo hks]
  unfold wpOp
  rw[ho]
  rcases hd with⟨e,hs,ha,hd⟩|⟨F,hs,hd⟩
  ·refine hr.step hs (fun t ht=>hc.dn i o t ho ht) (fun _ _ _ h=>h) (fun _ _ h=>h) ha (fun β' a' w' hr'=>?_)
   refine yD hc hQ l (i+1) (σ.app o.dst e) fuel β' a' w' (by omega) (fun j=>by have:=hl (j+1);rw[show i+1+j=i+(j+1) from by omega];simpa using this) (by simp at hk;omega) (by rw[LY];exact hn) hd ?_ (by simpa using hf)
   rw[qK,VP];exact hr'
  ·obtain⟨hw,hg⟩:=hs av w0 β a w (by rw[hn];exact hr) (fun t ht=>by rw[hn];exact hc.dn i o t ho ht)
   refine(if_pos hw).mpr (.inl (hg.wp fun v w' ⟨σ',β',hF,hn',hr'⟩=>?_))
   exact yD hc hQ l (i+1) σ' fuel β' _ w' (by omega) (fun j=>by have:=hl (j+1);rw[show i+1+j=i+(j+1) from by omega];simpa using this) (by simp at hk;omega) (by rw[hn',hn]) (hd σ' hF) (by rw[←hn];exact hr') (by simpa using hf)
def Me (listed:Array Bool):Nat:=listed.toList.countP (fun b=> !b)
theorem F4 (hi:i<listed.size) (h:listed.getD i true=false):Me (listed.setIfInBounds i true)+1=Me listed:=by
 have h0:listed.toList[i]? =some false:=by simp_all
 unfold Me
 grind
theorem Bb (hi:i<listed.size) (h:listed.getD i true=false):1≤Me listed:=by
 have:=F4 hi h;omega
theorem qT (hi:i<listed.size) (d d':Bool):listed.getD i d=listed.getD i d':=by simp[Array.getD,hi]
theorem qH {γ:Type}(f:Oper→Eff→γ) {l:List Oper}{u:γ}(h:(List.zipWith f l es)[j]? =some u): ∃o e,l[j]? =some o∧es[j]? =some e∧u=f o e:=by grind
theorem G4 (hch:sL ops=true) (hij:i<j) (ho:ops[i]? =some o) (hp:ops[j]? =some p) (hco:jz o=true) (hcp:jz p=true):
 i∈df p∨ ∃(q:Nat) (oq:Oper),i<q∧q<j∧ops[q]? =some oq∧jz oq=true∧q∈df p:=by
 have h1:=oN.1 hch j (tX.2 (rD.1 hp).1)
 rw[hp] at h1
 dsimp only at h1
 rw[hcp] at h1
 have h2:=oN.1 h1 i (tX.2 hij)
 rw[ho] at h2
 simp only[sC] at h2
 rcases h2 with h2|h2
 ·simp_all
 ·obtain⟨q,hq,h3⟩:=List.any_eq_true.1 h2
  simp only[dT] at h3
  obtain⟨h3,h4⟩:=h3
  cases hoq:ops[q]? with
  |none=>rw[hoq] at h4;cases h4
  |some oq=>
   rw[hoq] at h4
   simp only[dT] at h4
   exact .inr ⟨q,oq,iO.1 h3,tX.1 hq,hoq,h4.1,kU.1 h4.2⟩
theorem wT (hch:sL ops=true) (hcl: ∀i o j,listed.getD i false=true→ops[i]? =some o→j∈df o→listed.getD j false=true):
 ∀(d j i:Nat) (o p:Oper),j≤d→i<j→ops[i]? =some o→ops[j]? =some p→jz o=true→jz p=true→listed.getD j false=true→listed.getD i false=true
 |0,j,i,o,p,hd,hij,_,_,_,_,_=>by omega
 |d+1,j,i,o,p,hd,hij,ho,hp,hco,hcp,hj=>by
  rcases G4 hch hij ho hp hco hcp with h|⟨q,oq,h1,h2,h3,h4,h5⟩
  ·exact hcl j p i hj hp h
  ·exact wT hch hcl d q i o oq (by omega) h1 ho h3 hco h4 (hcl j p q hj hp h5)
theorem Mw (hch:sL ops=true) (hcl: ∀i o j,listed.getD i false=true→ops[i]? =some o→j∈df o→listed.getD j false=true)
 {j i:Nat}{o p:Oper}(hij:i<j) (ho:ops[i]? =some o) (hp:ops[j]? =some p) (hco:jz o=true) (hcp:jz p=true) (hae: ∀q,q∈df p→listed.getD q false=true):listed.getD i false=true:=by
 rcases G4 hch hij ho hp hco hcp with h|⟨q,oq,h1,h2,h3,h4,h5⟩
 ·grind
 ·exact wT hch hcl q q i o oq (cK _) h1 ho h3 hco h4 (hae q h5)
theorem SP (hc:Chk ops m n) {T0:TF}{B0 M0:BF}(hM: ∀k c,B0 k=some c→M0 k=some c) (hes:es.length=m)
 (hdis: ∀(i j:Nat) k U cs U' cs',es[i]? =some (.s k U cs)→es[j]? =some (.s k U' cs')→i=j∨qj ops=true)
 (hmix: ∀(i j:Nat) k U cs U' cs' x,es[i]? =some (.s k U cs)→es[j]? =some (.rs k U' cs' x)→False)
 (hall: ∀(i:Nat) (o:Oper) (e:Eff),(ops.toList.take m)[i]? =some o→es[i]? =some e→WA P ops hs o (nt (fun j=>decide (j<i)) 0 (ID (ops.toList.take m) es) T0) B0 (nt (fun j=>decide (j<i)) 0 (wX (ops.toList.take m) es) M0) e∧(∀k x,e≠ .c k x)∧(∀k U cs,e=.s k U cs→hs.any (Nat.beq k)=true∧(B0 k≠none∨k∈o.looksAt ops)∧(k∉sd∨qj ops=true)∧AD o=true)∧
  (∀k U cs x,e=.rs k U cs x→hs.any (Nat.beq k)=true∧B0 k≠none∧k∉sd∧jz o=true∧sL ops=true∧hs.any (Nat.beq 999999)=false)∧
  (∀U cs sl,e=.a U cs sl→ ∃d,o.dst=some d∧nt (fun j=>decide (j<i)) 0 (wX (ops.toList.take m) es) M0 d=none))
 (hQ: ∀β a w fuel,ops.size-m≤fuel→Rel av w0 n (nt (fun _=>true) 0 (ID (ops.toList.take m) es) T0) (nt (fun _=>true) 0 (wX (ops.toList.take m) es) M0) β a w→wpAny P .any ops Q fuel (dB ops.size m) a w):
 ∀(fuel:Nat) (listed:Array Bool) (β:Nat→Nat) (a:Act) (w:World),listed.size=ops.size→Me listed≤fuel→
  (∀i o j,listed.getD i false=true→ops[i]? =some o→j∈df o→listed.getD j false=true)→(∀t,m≤t→listed.getD t false=false)→
  Rel av w0 n (nt (fun j=>listed.getD j false) 0 (ID (ops.toList.take m) es) T0) (nt (fun j=>listed.getD j false) 0 (wX (ops.toList.take m) es) M0) β a w→wpAny P .any ops Q fuel listed a w:=by
 have hpre: ∀ {i:Nat}{o:Oper},i<m→ops[i]? =some o→(ops.toList.take m)[i]? =some o:=by
  intro i o hi ho
  rw[qA,if_pos hi,sT];exact ho
 have hpre': ∀ {i:Nat}{o:Oper},(ops.toList.take m)[i]? =some o→i<m∧ops[i]? =some o:=by
  intro i o h
  rw[qA] at h
  split at h
  ·rename_i hi;rw[sT] at h;exact⟨hi,h⟩
  ·cases h
 have hbs: ∀(t:Nat),∀u∈wX (ops.toList.take m) es,u t≠some none:=by
  intro t u hu
  obtain⟨j,hj⟩:=List.getElem?_of_mem hu
  obtain⟨o,e,_,_,rfl⟩:=qH _ hj
  exact TW _ _ _
 have hsM0: ∀(d j:Nat) k U cs,j<d→es[j]? =some (.s k U cs)→M0 k≠none∨ ∃j0 o0 U0 cs0 sl0,j0<m∧ops[j0]? =some o0∧es[j0]? =some (.a U0 cs0 sl0)∧o0.dst=some k∧ ∀oj,ops[j]? =some oj→j0∈df oj:=by
  intro d
  induction d with
  |zero=>intro j k U cs h0;omega
  |succ d ihd=>
  intro j k U cs hjd hj
  have hjm:j<m:=by rw[←hes];exact(jU.1 hj).1
  have hjs:j<ops.size:=rA hjm hc.le
  obtain⟨hsem,_,hh,_⟩:=hall j ops[j] _ (hpre hjm (wN hjs)) hj
  obtain⟨_,⟨cs0,hb⟩,_⟩:=hsem.resolve_right (by rintro⟨_,⟨x,hx⟩,_⟩;cases hx)
  have hb:(bif Nat.beq k k then nt (fun j'=>decide (j'<j)) 0 (wX (ops.toList.take m) es) M0 k else hid hs B0 k)=some (U,cs0):=hb
  rw[xr] at hb
  have hb:nt (fun j'=>decide (j'<j)) 0 (wX (ops.toList.take m) es) M0 k=some (U,cs0):=hb
  by_cases hM0:M0 k=none
  ·refine .inr ?_
   apply gT
   intro hno
   rw[lu _ _ _ ?_,hM0] at hb
   ·cases hb
   ·intro j0 u hj0 hm0
    apply gT
    intro hu
    apply hno
    obtain⟨o0,e0,h1,h2,rfl⟩:=qH _ hj0
    have hlt:j0<j:=by simpa using hm0
    rcases O9 hu with⟨U0,cs0,sl0,rfl,hd⟩|⟨U0,cs0,rfl⟩|⟨U0,cs0,x0,rfl⟩
    ·refine⟨j0,o0,U0,cs0,sl0,(hpre' h1).1,(hpre' h1).2,h2,hd,fun oj hoj=>?_⟩
     have e3:ops[j]? =some ops[j]:=wN hjs
     rw[e3] at hoj;injection hoj with hoj
     rcases(hh k U cs rfl).2.1 with h3|h3
     ·exfalso
      cases hB:B0 k with
      |none=>exact h3 hB
      |some c=>rw[hM k c hB] at hM0;cases hM0
     ·rcases hc.dep j j0 ops[j] o0 k hjm (hpre' h1).1 (by omega) e3 (hpre' h1).2 hd h3 with h4|h4
      ·rw[←hoj];exact h4
      ·have:=hc.low j0 o0 j (hpre' h1).2 h4;omega
    ·rcases ihd j0 k U0 cs0 (by omega) h2 with h7|⟨j1,o1,U1,cs1,sl1,g1,g2,g3,g4,g5⟩
     ·exact absurd hM0 h7
     ·refine⟨j1,o1,U1,cs1,sl1,g1,g2,g3,g4,fun oj hoj=>?_⟩
      have e3:ops[j]? =some ops[j]:=wN hjs
      rw[e3] at hoj;injection hoj with hoj
      have hj10:=hc.low j0 o0 j1 (hpre' h1).2 (g5 o0 (hpre' h1).2)
      rcases(hh k U cs rfl).2.1 with h3|h3
      ·exfalso
       cases hB:B0 k with
       |none=>exact h3 hB
       |some c=>rw[hM k c hB] at hM0;cases hM0
      ·rcases hc.dep j j1 ops[j] o1 k hjm g1 (by omega) e3 g2 g4 h3 with h4|h4
       ·rw[←hoj];exact h4
       ·have:=hc.low j1 o1 j g2 h4;omega
    ·exact(hmix j j0 k U cs U0 cs0 x0 hj h2).elim
  ·exact .inl hM0
 have hsM: ∀(j:Nat) k U cs,es[j]? =some (.s k U cs)→M0 k≠none∨ ∃j0 o0 U0 cs0 sl0,j0<m∧ops[j0]? =some o0∧es[j0]? =some (.a U0 cs0 sl0)∧o0.dst=some k∧ ∀oj,ops[j]? =some oj→j0∈df oj:=
  fun j k U cs h=>hsM0 (j+1) j k U cs (by omega) h
 have hlen:(ops.toList.take m).length=m:=by have:=hc.le;rw[fQ,Array.length_toList];omega
 intro fuel
 induction fuel with
 |zero=>
  intro listed β a w hsz hu hcl hp hr
  have hm:m=ops.size:=by
   rcases qt m ops.size with h|h
   ·have:=Bb (listed:=listed) (i:=m) (by omega) (by rw[qT (by omega) true false];exact hp m (cK _));omega
   ·exact Nat.le_antisymm hc.le h
  have hl: ∀i,i<m→listed.getD i false=true:=fun i hi=>by
   cases h:listed.getD i false with
   |true=>rfl
   |false=>have:=Bb (listed:=listed) (i:=i) (by omega) (by rw[qT (by omega) true false];exact h);omega
  have e:listed=dB ops.size m:=by
   apply Array.ext (by simp[dB,hsz])
   intro i h1 h2
   have h3:=hl i (by omega)
   simp[Array.getD,h1] at h3
   rw[h3];simp[dB];omega
  rw[e]
  refine hQ β a w 0 (by omega) (hr.congr (fun t=>jD _ _ _ _ rfl ?_) (fun t=>jD _ _ _ _ rfl ?_))
  ·intro j u hj _
   obtain⟨o,e,h1,_,_⟩:=qH _ hj
   rw[ip];exact(hl j (hpre' h1).1).symm
  ·intro j u hj _
   obtain⟨o,e,h1,_,_⟩:=qH _ hj
   rw[ip];exact(hl j (hpre' h1).1).symm
 |succ fuel ih=>
  intro listed β a w hsz hu hcl hp hr
  by_cases hl: ∀i,i<m→listed.getD i false=true
  ·have e:listed=dB ops.size m:=by
    apply Array.ext (by simp[dB,hsz])
    intro i h1 h2
    by_cases him:i<m
    ·have h3:=hl i him
     simp[Array.getD,h1] at h3
     rw[h3];simp[dB,him]
    ·have h3:=hp i (by omega)
     simp[Array.getD,h1] at h3
     rw[h3];simp[dB]
     cases hb:Nat.blt i m with
     |false=>rfl
     |true=>have:=iO.1 hb;omega
   have hun:ops.size-m≤Me listed:=by
    rw[e]
    unfold Me dB
    have:(List.map (fun i=>Nat.blt i m) (List.range ops.size))=List.replicate m true++List.replicate (ops.size-m) false:=by
     apply List.ext_getElem (by simp;have:=hc.le;omega)
     intro i h1 h2
     simp at h1
     by_cases him:i<m
     ·rw[List.getElem_append_left (by simpa using him)];simp[him]
     ·rw[List.getElem_append_right (by simpa using him)]
      simp
      cases hb:Nat.blt i m with
      |false=>rfl
      |true=>have:=iO.1 hb;omega
    simp[this,List.countP_append,List.countP_replicate]
   rw[e]
   refine hQ β a w (fuel+1) (by omega) (hr.congr (fun t=>jD _ _ _ _ rfl ?_) (fun t=>jD _ _ _ _ rfl ?_))
   ·intro j u hj _
    obtain⟨o,e,h1,_,_⟩:=qH _ hj
    rw[ip];exact(hl j (hpre' h1).1).symm
   ·intro j u hj _
    obtain⟨o,e,h1,_,_⟩:=qH _ hj
    rw[ip];exact(hl j (hpre' h1).1).symm
  ·refine⟨fun h0=>?_,fun i hi=>?_⟩
   ·--something may come up:the least that is not listed
    exfalso
    have hex: ∃p,p<m∧listed.getD p false=false∧ ∀q,q<p→listed.getD q false=true:=by
     have key: ∀d p,p≤d→p<m→listed.getD p false=false→ ∃p,p<m∧listed.getD p false=false∧ ∀q,q<p→listed.getD q false=true:=by
      intro d
      induction d with
      |zero=>
       intro p hd hpm hpf
       exact⟨p,hpm,hpf,fun q hq=>by omega⟩
      |succ d ih2=>
       intro p hd hpm hpf
       by_cases hq: ∀q,q<p→listed.getD q false=true
       ·exact⟨p,hpm,hpf,hq⟩
       ·obtain⟨q,hq⟩:=zr.1 hq
        obtain⟨hqp,hq⟩:=yZ.1 hq
        exact ih2 q (by omega) (by omega) (by simpa using hq)
     obtain⟨p,hp'⟩:=zr.1 hl
     obtain⟨hpm,hp'⟩:=yZ.1 hp'
     exact key p p (cK _) hpm (by simpa using hp')
    obtain⟨p,hpm,hpf,hq⟩:=hex
    have hps:p<ops.size:=by have:=hc.le;omega
    have hin:p∈Region.ready .any ops listed:=mem_ready.2 ⟨by rw[qT (by omega) true false];exact hpf,ops[p],wN hps,fun e he hb=>
     hq e.on (hc.low p _ e.on (wN hps) (Ac he hb))⟩
    rw[h0] at hin;cases hin
   ·obtain⟨hif,o,ho,hae⟩:=mem_ready.1 hi
    have his:i<ops.size:=(rD.1 ho).1
    have hif':listed.getD i false=false:=by rw[qT (by omega) false true];exact hif
    have him:i<m:=by
     rcases qt i m with h|h
     ·exact h
     ·exfalso
      rcases hc.tl i o h ho with⟨j,hj,hmj⟩|hcov
      ·obtain⟨e,he,hb,rfl⟩:=mt hj
       have:=hae e he hb
       rw[hp _ hmj] at this;cases this
      ·apply hl
       have key: ∀d p,m-p≤d→p<m→listed.getD p false=true:=by
        intro d
        induction d with
        |zero=>intro p hd hpm;omega
        |succ d ih2=>
         intro p hd hpm
         rcases hcov p hpm with hb|⟨q,oq,hpq,hqm,hoq,hb⟩
         ·obtain⟨e,he,hb2,e2⟩:=mt hb
          rw[←e2];exact hae e he hb2
         ·exact hcl q oq p (ih2 q (by omega) hqm) hoq hb
       exact fun p hpm=>key (m-p) p (cK _) hpm
    obtain⟨e,he⟩: ∃e,es[i]? =some e:=⟨es[i]'(by omega),j7 (by omega)⟩
    obtain⟨hsm,hce,hns,hrsi,hfr⟩:=hall i o e (hpre him ho) he
    have hwr: ∀(t j:Nat) u,(ID (ops.toList.take m) es)[j]? =some u→u t≠none→ ∃oj ej,j<m∧ops[j]? =some oj∧es[j]? =some ej∧oj.dst=some t∧u=uT oj.dst ej:=by
     intro t j u hj hu
     obtain⟨oj,ej,h1,h2,rfl⟩:=qH _ hj
     refine⟨oj,ej,(hpre' h1).1,(hpre' h1).2,h2,?_,rfl⟩
     unfold uT at hu
     split at hu
     ·assumption
     ·exact absurd rfl hu
    have hwb: ∀(t j:Nat) u,(wX (ops.toList.take m) es)[j]? =some u→u t≠none→ ∃oj ej,j<m∧ops[j]? =some oj∧es[j]? =some ej∧((∃U cs sl,ej=.a U cs sl∧oj.dst=some t∧M0 t=none)∨(∃U cs,ej=.s t U cs)∨ ∃U cs x,ej=.rs t U cs x)∧u=uB oj.dst ej:=by
     intro t j u hj hu
     obtain⟨oj,ej,h1,h2,rfl⟩:=qH _ hj
     refine⟨oj,ej,(hpre' h1).1,(hpre' h1).2,h2,?_,rfl⟩
     rcases O9 hu with⟨U,cs,sl,rfl,hd⟩|⟨U,cs,rfl⟩|⟨U,cs,x,rfl⟩
     ·refine .inl ⟨U,cs,sl,rfl,hd,?_⟩
      obtain⟨d,hd',hnone⟩:=(hall j oj _ h1 h2).2.2.2.2 U cs sl rfl
      have:d=t:=by rw[hd] at hd';injection hd' with e;exact e.symm
      subst this
      cases hM0:M0 d with
      |none=>rfl
      |some c=>exact absurd hnone (BD _ _ _ (by rw[hM0];simp) (hbs d))
     ·exact .inr (.inl ⟨U,cs,rfl⟩)
     ·exact .inr (.inr ⟨U,cs,x,rfl⟩)
    have hub: ∀(t j j':Nat) u u',(wX (ops.toList.take m) es)[j]? =some u→(wX (ops.toList.take m) es)[j']? =some u'→u t≠none→u' t≠none→j=j'∨(∀o',ops[j']? =some o'→j∈df o')∨(∀o',ops[j]? =some o'→j'∈df o')∨(sL ops=true∧(∀o',ops[j]? =some o'→jz o'=true)∧ ∀o',ops[j']? =some o'→jz o'=true):=by
     intro t j j' u u' hj hj' hu hu'
     obtain⟨oj,ej,hjm,hoj,hej,hk,_⟩:=hwb t j u hj hu
     obtain⟨oj',ej',hjm',hoj',hej',hk',_⟩:=hwb t j' u' hj' hu'
     have hrn: ∀(j:Nat) oj (U:TypeId) cs x,j<m→ops[j]? =some oj→es[j]? =some (.rs t U cs x)→M0 t≠none∧jz oj=true∧sL ops=true:=by
      intro j oj U cs x hjm hoj hej
      obtain⟨_,h2,_,h4,h5,_⟩:=(hall j oj _ (hpre hjm hoj) hej).2.2.2.1 t U cs x rfl
      refine⟨fun h=>?_,h4,h5⟩
      cases hB:B0 t with
      |none=>exact h2 hB
      |some c=>rw[hM t c hB] at h;cases h
     rcases hk with⟨U,cs,sl,rfl,hd,hn⟩|⟨U,cs,rfl⟩|⟨U,cs,x,rfl⟩<;>rcases hk' with⟨U',cs',sl',rfl,hd',hn'⟩|⟨U',cs',rfl⟩|⟨U',cs',x',rfl⟩
     ·exact .inl (hc.dist j j' oj oj' t hjm hjm' hoj hoj' hd hd')
     ·rcases hsM j' t U' cs' hej' with h|⟨j0,o0,U0,cs0,sl0,h1,h2,h3,h4,h5⟩
      ·exact absurd hn h
      ·rw[hc.dist j j0 oj o0 t hjm h1 hoj h2 hd h4];exact .inr (.inl h5)
     ·exact absurd hn (hrn j' oj' U' cs' x' hjm' hoj' hej').1
     ·rcases hsM j t U cs hej with h|⟨j0,o0,U0,cs0,sl0,h1,h2,h3,h4,h5⟩
      ·exact absurd hn' h
      ·rw[hc.dist j' j0 oj' o0 t hjm' h1 hoj' h2 hd' h4];exact .inr (.inr (.inl h5))
     ·rcases hdis j j' t U cs U' cs' hej hej' with h|h
      ·exact .inl h
      ·have s1:=((hall j oj _ (hpre hjm hoj) hej).2.2.1 t U cs rfl).2.2.2
       have s2:=((hall j' oj' _ (hpre hjm' hoj') hej').2.2.1 t U' cs' rfl).2.2.2
       rcases Nat.lt_trichotomy j j' with hlt|heq|hlt
       ·refine .inr (.inl fun o' h'=>?_)
        rw[hoj'] at h';injection h' with h';subst h';exact Ca h hlt hoj hoj' s1 s2
       ·exact .inl heq
       ·refine .inr (.inr (.inl fun o' h'=>?_))
        rw[hoj] at h';injection h' with h';subst h';exact Ca h hlt hoj' hoj s2 s1
     ·exact(hmix j j' t U cs U' cs' x' hej hej').elim
     ·exact absurd hn' (hrn j oj U cs x hjm hoj hej).1
     ·exact(hmix j' j t U' cs' U cs x hej' hej).elim
     ·refine .inr (.inr (.inr ⟨(hrn j oj U cs x hjm hoj hej).2.2,fun o' h=>?_,fun o' h=>?_⟩))
      ·rw[hoj] at h;injection h with h;subst h;exact(hrn j oj U cs x hjm hoj hej).2.1
      ·rw[hoj'] at h;injection h with h;subst h;exact(hrn j' oj' U' cs' x' hjm' hoj' hej').2.1
    have hi2:(wX (ops.toList.take m) es)[i]? =some (uB o.dst e):=by
     unfold wX
     rw[List.getElem?_zipWith,hpre him ho,he]
    have hrel: ∀(t j:Nat) u,(wX (ops.toList.take m) es)[j]? =some u→u t≠none→uB o.dst e t≠none→listed.getD j false=decide (j<i):=by
     intro t j u hj hu hi
     obtain⟨oj,ej,hjm,hoj,hej,_,_⟩:=hwb t j u hj hu
     rcases hub t j i u _ hj hi2 hu hi with h|h|h|⟨hch,hcj,hci⟩
     ·subst h;rw[hif'];simp
     ·have h1:=h o ho
      have h2:=hc.low i o j ho h1
      obtain⟨e',he',hb',rfl⟩:=mt h1
      rw[hae e' he' hb'];simpa using h2
     ·have h1:=h oj hoj
      have h2:=hc.low j oj i hoj h1
      have h3:listed.getD j false=false:=by
       cases hlj:listed.getD j false with
       |false=>rfl
       |true=>have:=hcl j oj i hlj hoj h1;rw[hif'] at this;cases this
      rw[h3];simp;omega
     ·by_cases hji:j=i
      ·subst hji;rw[hif'];simp
      ·rcases Nat.lt_or_gt_of_ne hji with hlt|hlt
       ·rw[Mw hch hcl hlt hoj ho (hcj oj hoj) (hci o ho) (fun q hq=>by
         obtain⟨e',he',hb',rfl⟩:=mt hq
         exact hae e' he' hb')]
        simpa using hlt
       ·have h3:listed.getD j false=false:=by
         cases hlj:listed.getD j false with
         |false=>rfl
         |true=>have:=wT hch hcl j j i o oj (cK _) hlt ho hoj (hci o ho) (hcj oj hoj) hlj;rw[hif'] at this;cases this
        rw[h3];simp;omega
    have hmi: ∀j,(listed.setIfInBounds i true).getD j false=if j=i then true else listed.getD j false:=by
     intro j
     by_cases hji:j=i
     ·subst hji;simp[Array.getD,hsz,his]
     ·rw[if_neg hji,getD_set_ne false (fun e=>hji e.symm)]
    unfold wpOp
    rw[ho]
    have hsm2: ∃Bs:BF,Sem P ops o (nt (fun j=>decide (j<i)) 0 (ID (ops.toList.take m) es) T0) Bs e∧ ∀k c,Bs k=some c→nt (fun j=>listed.getD j false) 0 (wX (ops.toList.take m) es) M0 k=some c:=by
     rcases hsm with hsm|⟨hvis,_,hsm⟩
     rotate_left
     ·refine⟨_,hsm,fun k c hB=>?_⟩
      rw[←hM k c hB]
      refine lu _ _ _ fun j u hj hm=>?_
      apply gT
      intro hu
      rw[ip] at hm
      obtain⟨oj,ej,hjm,hoj,hej,hk2,_⟩:=hwb k j u hj hu
      have hno:JP hs oj=true→False:=fun hw=>by
       have:=hcl j oj i hm hoj (We hvis ho hoj hw)
       rw[hif'] at this;cases this
      rcases hk2 with⟨U,cs,sl,rfl,hd,hn⟩|⟨U,cs,rfl⟩|⟨U,cs,x,rfl⟩
      ·rw[hM k c hB] at hn;cases hn
      ·exact hno (TZ ((hall j oj _ (hpre hjm hoj) hej).2.2.1 k U cs rfl).2.2.2)
      ·exact hno (NB ((hall j oj _ (hpre hjm hoj) hej).2.2.2.1 k U cs x rfl).2.2.2.1 ((hall j oj _ (hpre hjm hoj) hej).2.2.2.1 k U cs x rfl).2.2.2.2.2)
     refine⟨_,hsm,?_⟩
     intro k c hk
     have hplain:hid hs B0 k=some c→nt (fun j=>listed.getD j false) 0 (wX (ops.toList.take m) es) M0 k=some c:=by
      intro hk
      unfold hid at hk
      cases hb:hs.any (Nat.beq k) with
      |true=>rw[hb] at hk;cases hk
      |false=>
       rw[hb] at hk
       have hB:B0 k=some c:=hk
       rw[←hM k c hB]
       refine lu _ _ _ fun j u hj hm=>?_
       apply gT
       intro hu
       obtain⟨oj,ej,hjm,hoj,hej,hk2,_⟩:=hwb k j u hj hu
       rcases hk2 with⟨U,cs,sl,rfl,hd,hn⟩|⟨U,cs,rfl⟩|⟨U,cs,x,rfl⟩
       ·rw[hM k c hB] at hn;cases hn
       ·have:=((hall j oj _ (hpre hjm hoj) hej).2.2.1 k U cs rfl).1
        rw[hb] at this;cases this
       ·have:=((hall j oj _ (hpre hjm hoj) hej).2.2.2.1 k U cs x rfl).1
        rw[hb] at this;cases this
     cases e with
     |s k' U cs=>
      replace hk:(bif Nat.beq k k' then nt (fun j=>decide (j<i)) 0 (wX (ops.toList.take m) es) M0 k else hid hs B0 k)=some c:=hk
      cases hb:Nat.beq k k' with
      |false=>rw[hb] at hk;exact hplain hk
      |true=>
       rw[hb] at hk
       have hkk:=jr hb
       subst hkk
       replace hk:nt (fun j=>decide (j<i)) 0 (wX (ops.toList.take m) es) M0 k=some c:=hk
       rw[←hk]
       refine jD _ _ _ _ rfl fun j u hj hu=>?_
       rw[ip]
       exact hrel k j u hj hu (by unfold uB;simp)
     |rs k' U cs x=>
      replace hk:(bif Nat.beq k k' then nt (fun j=>decide (j<i)) 0 (wX (ops.toList.take m) es) M0 k else hid hs B0 k)=some c:=hk
      cases hb:Nat.beq k k' with
      |false=>rw[hb] at hk;exact hplain hk
      |true=>
       rw[hb] at hk
       have hkk:=jr hb
       subst hkk
       replace hk:nt (fun j=>decide (j<i)) 0 (wX (ops.toList.take m) es) M0 k=some c:=hk
       rw[←hk]
       refine jD _ _ _ _ rfl fun j u hj hu=>?_
       rw[ip]
       exact hrel k j u hj hu (by unfold uB;simp)
     |r x=>exact hplain hk
     |a U cs sl=>exact hplain hk
     |c k x=>exact hplain hk
     |skip=>exact hplain hk
    obtain⟨Bs,hsm3,hBs⟩:=hsm2
    refine hr.step hsm3 (fun t ht=>hc.dn i o t ho ht) ?_ hBs ?_ (fun β' a' w' hr'=>?_)
    ·intro t x hlk hx
     rw[←hx]
     refine(jD _ _ _ _ rfl fun j u hj hu=>?_)
     obtain⟨oj,ej,hjm,hoj,_,hdj,_⟩:=hwr t j u hj hu
     rw[ip]
     by_cases hji:j=i
     ·subst hji;rw[hif'];simp
     ·rcases hc.dep i j o oj t him hjm (fun e=>hji e.symm) ho hoj hdj hlk with hb|hb
      ·have hji2:=hc.low i o j ho hb
       obtain⟨e',he',hb',rfl⟩:=mt hb
       rw[hae e' he' hb'];simpa using hji2
      ·have hji2:=hc.low j oj i hoj hb
       have h1:listed.getD j false=false:=by
        cases hlj:listed.getD j false with
        |false=>rfl
        |true=>have:=hcl j oj i hlj hoj hb;rw[hif'] at this;cases this
       rw[h1];simp;omega
    ·intro U cs sl hE
     obtain⟨d,hd,hnone⟩:=hfr U cs sl hE
     refine⟨d,hd,?_⟩
     rw[←hnone]
     refine jD _ _ _ _ rfl fun j u hj hu=>?_
     rw[ip]
     exact hrel d j u hj hu (by rw[hE];unfold uB;dsimp only;rw[if_pos hd];simp)
    ·refine ih (listed.setIfInBounds i true) β' a' w' (by simpa using hsz) (by have:=F4 (listed:=listed) (i:=i) (by omega) hif;omega) ?_ ?_ ?_
     ·intro i' o' j' h1 h2 h3
      rw[hmi] at h1⊢
      by_cases hji:j'=i
      ·rw[if_pos hji]
      ·rw[if_neg hji]
       by_cases hii:i'=i
       ·subst hii
        rw[ho] at h2
        injection h2 with h2
        subst h2
        obtain⟨e',he',hb',rfl⟩:=mt h3
        exact hae e' he' hb'
       ·rw[if_neg hii] at h1
        exact hcl i' o' j' h1 h2 h3
     ·intro t ht
      rw[hmi,if_neg (by omega)]
      exact hp t ht
     ·refine hr'.congr (fun t=>?_) (fun k=>?_)
      ·rw[show e.tf o.dst (nt (fun j=>listed.getD j false) 0 (ID (ops.toList.take m) es) T0) t=(uT o.dst e t).getD (nt (fun j=>listed.getD j false) 0 (ID (ops.toList.take m) es) T0 t) from(congrFun (Rk o.dst e _ hce) t).symm]
       by_cases hdt:o.dst=some t
       ·rw[show uT o.dst e t=some (some (YT t e)) from by unfold uT;rw[if_pos hdt]]
        show _=some (YT t e)
        refine LQ (u:=uT o.dst e) _ _ _ i ?_ ?_ ?_ ?_
        ·unfold ID
         rw[List.getElem?_zipWith,hpre him ho,he]
        ·unfold uT;rw[if_pos hdt]
        ·rw[ip,hmi,if_pos rfl]
        ·intro j' u' hj' hne
         cases hu':u' t with
         |none=>rfl
         |some x'=>
          obtain⟨oj',ej',hjm',hoj',_,hdj',_⟩:=hwr t j' u' hj' (by rw[hu'];simp)
          exact absurd (hc.dist j' i oj' o t hjm' him hoj' ho hdj' hdt) hne
       ·rw[show uT o.dst e t=none from by unfold uT;rw[if_neg hdt]]
        show _=nt (fun j=>listed.getD j false) 0 (ID (ops.toList.take m) es) T0 t
        refine jD _ _ _ _ rfl fun j u hj hu=>?_
        obtain⟨oj,ej,hjm,hoj,_,hdj,_⟩:=hwr t j u hj hu
        rw[ip,hmi,if_neg]
        intro e;subst e
        rw[ho] at hoj;injection hoj with hoj;subst hoj
        exact hdt hdj
      ·rw[show e.bf o.dst (nt (fun j=>listed.getD j false) 0 (wX (ops.toList.take m) es) M0) k=(uB o.dst e k).getD (nt (fun j=>listed.getD j false) 0 (wX (ops.toList.take m) es) M0 k) from(congrFun (RJ o.dst e _ hce) k).symm]
       cases hu:uB o.dst e k with
       |some x=>
        show _=x
        refine Hn (u:=uB o.dst e) _ _ _ i hi2 hu ?_ ?_
        ·rw[ip,hmi,if_pos rfl]
        ·intro j' u' hj' hlt hmj
         cases hu':u' k with
         |none=>rfl
         |some x'=>
          have:=hrel k j' u' hj' (by rw[hu'];simp) (by rw[hu];simp)
          rw[ip,hmi,if_neg (by omega),this] at hmj
          simp at hmj;omega
       |none=>
        show _=nt (fun j=>listed.getD j false) 0 (wX (ops.toList.take m) es) M0 k
        refine jD _ _ _ _ rfl fun j u hj hu2=>?_
        obtain⟨oj,ej,hjm,hoj,hej,_,rfl⟩:=hwb k j u hj hu2
        rw[ip,hmi,if_neg]
        intro e2;subst e2
        rw[ho] at hoj;injection hoj with hoj;subst hoj
        rw[he] at hej;injection hej with hej;subst hej
        exact hu2 hu
end
end Go.Proofs.YtkmdgigkbhmilaaGreat
