/- Data: what values of Go read as, world by world; contracts over data. No program in sight. -/
import Derived.Test.YthlnndkgpgfbnaaGreatRsC
import Derived.Orders
import Derived.Tactics
namespace Go.Proofs.YthlnndkgpgfbnaaGreat
open Go Go.RowKit
inductive CellD where
  | b (v : Bool)
  | i (k : IntKind) (n : Int)
  | f (g : FuncId)
  | s (n : Nat) (xs : List CellD)
  | l (x : Int)
  | p (us : List CellD)
  | k (g : FuncId) (xs : List CellD)
inductive RdC (av : Nat → Prop) (w : World) : Value → CellD → Prop
  | b (v : Bool) : RdC av w (.bool v) (.b v)
  | i (k : IntKind) (n : Int) : RdC av w (.int k n) (.i k n)
  | f (g : FuncId) : RdC av w (.func (.func g) #[] #[]) (.f g)
  | s0 (A : Option Addr) (c : Nat) : c ≤ 9223372036854775807 → RdC av w (.slice A 0 c) (.s 0 [])
  | s (b off c sz n : Nat) (xs : List CellD) (cv : Nat → Value) : 0 < n → n ≤ c → c ≤ 9223372036854775807 → xs.length = n * sz → b < w.heap.size → ¬ av b →
      (∀ j, j < n * sz → w.cell? ⟨b, off + j, none⟩ = some (cv j)) → (∀ (j : Nat) (u : CellD), xs[j]? = some u → RdC av w (cv j) u) → RdC av w (.slice (some ⟨b, off, none⟩) n c) (.s n xs)
  | l (A : Option Addr) (n c : Nat) (xs : List Int) : RdI .u32 w A n xs → n ≤ c → c ≤ 9223372036854775807 → Lim xs → (∀ b off, 0 < n → A = some ⟨b, off, none⟩ → ¬ av b) → RdC av w (.slice A n c) (.l (val xs))
  | p (b off : Nat) (us : List CellD) (cv : Nat → Value) : b < w.heap.size → ¬ av b → (∀ j, j < us.length → w.cell? ⟨b, off + j, none⟩ = some (cv j)) → (∀ (j : Nat) (u : CellD), us[j]? = some u → RdC av w (cv j) u) → RdC av w (.pointer (some ⟨b, off, none⟩)) (.p us)
  | k (g : FuncId) (cs : Array Value) (xs : List CellD) : cs.size = xs.length → (∀ (j : Nat) (v : Value) (u : CellD), cs[j]? = some v → xs[j]? = some u → RdC av w v u) → RdC av w (.func (.func g) #[] cs) (.k g xs)
structure Keep (av av' : Nat → Prop) (w w' : World) : Prop where
  size : w.heap.size ≤ w'.heap.size
  block : ∀ b, b < w.heap.size → ¬ av b → w'.heap[b]? = w.heap[b]?
  less : ∀ b, b < w.heap.size → av' b → av b
theorem Keep.below {av : Nat → Prop} {w w' : World} (h : Below w.heap.size w w') : Keep av av w w' := ⟨h.size, fun b hb _ => h.block b hb, fun _ _ h => h⟩
theorem cell_of_block {w w' : World} {a : Addr} (h : w'.heap[a.block]? = w.heap[a.block]?) : w'.cell? a = w.cell? a := by
  unfold World.cell?; rw [h]
theorem RdC.keep {av av' : Nat → Prop} {w w' : World} (hk : Keep av av' w w') {v : Value} {u : CellD} (h : RdC av w v u) : RdC av' w' v u := by
  induction h with
  | b v => exact .b v
  | i k n => exact .i k n
  | f g => exact .f g
  | s0 A c hc => exact .s0 A c hc
  | l A n c xs h0 h1 h2 h3 h4 =>
    refine .l A n c xs ⟨h0.1, fun hn => ?_⟩ h1 h2 h3 (fun b off hn e hb => ?_)
    · obtain ⟨b, off, e, hlt, hc⟩ := h0.2 hn
      exact ⟨b, off, e, Nat.lt_of_lt_of_le hlt hk.size, fun j u hu => (cell_of_block (a := ⟨b, off + j, none⟩) (hk.block b hlt (h4 b off hn e))).trans (hc j u hu)⟩
    · obtain ⟨b', off', e', hlt, _⟩ := h0.2 hn
      rw [e] at e'
      injection e' with e'
      injection e' with e1 e2
      subst e1
      exact h4 b off hn e (hk.less b hlt hb)
  | p b off us cv h4 h5 h6 _ ih => exact .p b off us cv (Nat.lt_of_lt_of_le h4 hk.size) (fun h => h5 (hk.less b h4 h)) (fun j hj => (cell_of_block (a := ⟨b, off + j, none⟩) (hk.block b h4 h5)).trans (h6 j hj)) ih
  | k g cs xs h _ ih => exact .k g cs xs h ih
  | s b off c sz n xs cv h0 h1 h2 h3 h4 h5 h6 _ ih =>
    exact .s b off c sz n xs cv h0 h1 h2 h3 (Nat.lt_of_lt_of_le h4 hk.size) (fun h => h5 (hk.less b h4 h)) (fun j hj => (cell_of_block (a := ⟨b, off + j, none⟩) (hk.block b h4 h5)).trans (h6 j hj)) ih
inductive D0 where
  | c (u : CellD)
  | a (us : List CellD)
def D0.cells : D0 → List CellD
  | .c u => [u]
  | .a us => us
def RdCs (av : Nat → Prop) (w : World) (vs : List Value) (us : List CellD) : Prop := vs.length = us.length ∧ ∀ (j : Nat) (v : Value) (u : CellD), vs[j]? = some v → us[j]? = some u → RdC av w v u
def RdV (av : Nat → Prop) (w : World) (v : Value) : D0 → Prop
  | .c u => RdC av w v u
  | .a us => ∃ cs : Array Value, v = .agg cs ∧ RdCs av w cs.toList us
def RdL (av : Nat → Prop) (w : World) (vs : List Value) (ds : List D0) : Prop := vs.length = ds.length ∧ ∀ (j : Nat) (v : Value) (d : D0), vs[j]? = some v → ds[j]? = some d → RdV av w v d
def RdR (av : Nat → Prop) (w : World) (v : Value) : List D0 → Prop
  | [d] => RdV av w v d
  | ds => ∃ vs : Array Value, v = .tuple vs ∧ RdL av w vs.toList ds
section
variable {av av' : Nat → Prop} {w w' : World}
theorem RdCs.keep (hk : Keep av av' w w') {vs : List Value} {us : List CellD} (h : RdCs av w vs us) : RdCs av' w' vs us := ⟨h.1, fun j v u hv hu => (h.2 j v u hv hu).keep hk⟩
theorem RdV.keep (hk : Keep av av' w w') {v : Value} {d : D0} (h : RdV av w v d) : RdV av' w' v d := by
  cases d with
  | c u => exact RdC.keep hk h
  | a us => obtain ⟨cs, e, h⟩ := h; exact ⟨cs, e, h.keep hk⟩
theorem RdL.keep (hk : Keep av av' w w') {vs : List Value} {ds : List D0} (h : RdL av w vs ds) : RdL av' w' vs ds := ⟨h.1, fun j v d hv hd => (h.2 j v d hv hd).keep hk⟩
theorem RdL.nil : RdL av w [] [] := ⟨rfl, fun j v d hv => by simp at hv⟩
theorem RdL.cons {v : Value} {d : D0} {vs : List Value} {ds : List D0} (h : RdV av w v d) (hs : RdL av w vs ds) : RdL av w (v :: vs) (d :: ds) := by
  refine ⟨by simp [hs.1], fun j x e hx he => ?_⟩
  cases j with
  | zero => simp at hx he; subst hx he; exact h
  | succ j => simp at hx he; exact hs.2 j x e hx he
theorem RdCs.nil : RdCs av w [] [] := ⟨rfl, fun j v d hv => by simp at hv⟩
theorem RdCs.cons {v : Value} {d : CellD} {vs : List Value} {ds : List CellD} (h : RdC av w v d) (hs : RdCs av w vs ds) : RdCs av w (v :: vs) (d :: ds) := by
  refine ⟨by simp [hs.1], fun j x e hx he => ?_⟩
  cases j with
  | zero => simp at hx he; subst hx he; exact h
  | succ j => simp at hx he; exact hs.2 j x e hx he
theorem RdCs.uncons {v : Value} {d : CellD} {vs : List Value} {ds : List CellD} (h : RdCs av w (v :: vs) (d :: ds)) : RdC av w v d ∧ RdCs av w vs ds :=
  ⟨h.2 0 v d rfl rfl, by have := h.1; simpa using this, fun j x e hx he => h.2 (j + 1) x e (by simpa using hx) (by simpa using he)⟩
theorem RdL.uncons {v : Value} {d : D0} {vs : List Value} {ds : List D0} (h : RdL av w (v :: vs) (d :: ds)) : RdV av w v d ∧ RdL av w vs ds :=
  ⟨h.2 0 v d rfl rfl, by have := h.1; simpa using this, fun j x e hx he => h.2 (j + 1) x e (by simpa using hx) (by simpa using he)⟩
theorem RdCs.append {vs vs' : List Value} {us us' : List CellD} (h : RdCs av w vs us) (h' : RdCs av w vs' us') : RdCs av w (vs ++ vs') (us ++ us') := by
  refine ⟨by simp [h.1, h'.1], fun j v u hv hu => ?_⟩
  by_cases hj : j < vs.length
  · rw [List.getElem?_append_left hj] at hv
    rw [List.getElem?_append_left (by rw [← h.1]; exact hj)] at hu
    exact h.2 j v u hv hu
  · rw [List.getElem?_append_right (by omega)] at hv
    rw [List.getElem?_append_right (by rw [← h.1]; omega)] at hu
    rw [← h.1] at hu
    exact h'.2 _ v u hv hu
theorem RdCs.drop {vs : List Value} {us : List CellD} (h : RdCs av w vs us) (k : Nat) : RdCs av w (vs.drop k) (us.drop k) :=
  ⟨by simp [h.1], fun j v u hv hu => h.2 (k + j) v u (by simpa using hv) (by simpa using hu)⟩
theorem RdCs.take {vs : List Value} {us : List CellD} (h : RdCs av w vs us) (k : Nat) : RdCs av w (vs.take k) (us.take k) := by
  refine ⟨by simp [h.1], fun j v u hv hu => ?_⟩
  rw [List.getElem?_take] at hv hu
  split at hv
  · rename_i hj; rw [if_pos hj] at hu; exact h.2 j v u hv hu
  · cases hv
theorem RdV.cells {v : Value} {d : D0} (h : RdV av w v d) : RdCs av w v.cells.toList d.cells := by
  cases d with
  | c u =>
    have e : v.cells = #[v] := by cases h <;> rfl
    rw [e]; exact RdCs.cons h RdCs.nil
  | a us => obtain ⟨cs, rfl, h⟩ := h; exact h
end
def callable (P : Program) (g : FuncId) : Bool :=
  match P.funcs[g]? with
  | some fn => fn.name != "runtime.NumGoroutine" && !fn.body.isNone
  | none => false
structure Ok (P : Program) (f : FuncId) (ds rs : List D0) : Prop where
  cal : callable P f = true
  run : ∀ (av : Nat → Prop) (vs : Array Value) (w : World), (∀ b, av b → b < w.heap.size) → RdL av w vs.toList ds → Calls P f vs w fun e w' => ∃ v, e = .returned v ∧ RdR av w' v rs ∧ Below w.heap.size w w'
def UponK (P : Program) (K : Value → World → Prop) : Result Next → Prop
  | .ok (.value v) w' => K v w'
  | .ok .skip w' => K undef w'
  | .ok (.enter f args) w' => Calls P f args w' fun e w'' => ∃ v, e = .returned v ∧ K v w''
  | .ok (.row row args) w' => Rows P row args w' fun v w'' => K v w''
  | _ => False
def Gives (P : Program) (o : Oper) (a : Act) (w : World) (K : Value → World → Prop) : Prop := UponK P K ((execOp a.eval o).run P w)
theorem Gives.wp {P : Program} {o : Oper} {a : Act} {w : World} {K : Value → World → Prop} {K' : Act → World → Prop} {Q : Exit → Act → World → Prop} (h : Gives P o a w K) (hK : ∀ v w', K v w' → K' (a.put o.dst v) w') : o.wp P a w K' Q := by
  unfold Gives at h
  unfold Oper.wp
  generalize (execOp a.eval o).run P w = r at *
  cases r with
  | ok n w' =>
    cases n <;> simp only [UponK] at h <;> simp only [Oper.upon]
    case value v => exact hK _ _ h
    case skip => exact hK _ _ h
    case enter f args => exact h.mono fun e w'' ⟨v, he, hv⟩ => by subst he; exact hK _ _ hv
    case row row args => exact h.mono fun v w'' hv => hK _ _ hv
  | halt x w' => simp only [UponK] at h
theorem Gives.mono {P : Program} {o : Oper} {a : Act} {w : World} {K K' : Value → World → Prop} (h : Gives P o a w K) (hK : ∀ v w', K v w' → K' v w') : Gives P o a w K' := by
  unfold Gives at *
  generalize (execOp a.eval o).run P w = r at *
  cases r with
  | ok n w' =>
    cases n <;> simp only [UponK] at h ⊢
    case value v => exact hK _ _ h
    case skip => exact hK _ _ h
    case enter f args => exact h.mono fun e w'' ⟨v, he, hv⟩ => ⟨v, he, hK _ _ hv⟩
    case row row args => exact h.mono fun v w'' hv => hK _ _ hv
  | halt x w' => simp only [UponK] at h
inductive DV where
  | v (d : D0)
  | t (ds : List D0)
  | p (k off : Nat)
  | o (k n c : Nat)
  | w (k off n c : Nat)
  | q (us : List CellD)
  | u
  | n
  | z
  | f (n : Nat) (us : List CellD)
def refs : DV → Option Nat
  | .p k _ => some k
  | .o k _ _ => some k
  | .w k _ _ _ => some k
  | _ => none
def look {α : Type} (t : Nat) : List (Nat × α) → Option α
  | [] => none
  | (k, x) :: r => bif Nat.beq k t then some x else look t r
structure St where
  n : Nat
  tm : List (Nat × DV)
  bx : List (Nat × TypeId × List CellD)
abbrev TF := Nat → Option DV
abbrev BF := Nat → Option (TypeId × List CellD)
def St.T (σ : St) : TF := fun t => look t σ.tm
def St.B (σ : St) : BF := fun k => look k σ.bx
def RdX (V : Nat → Prop) (w : World) (β : Nat → Nat) (v : Value) : DV → Prop
  | .v d => RdV V w v d
  | .t ds => ∃ vs : Array Value, v = .tuple vs ∧ RdL V w vs.toList ds
  | .p k off => v = .pointer (some ⟨β k, off, none⟩)
  | .o k n c => v = .slice (some ⟨β k, 0, none⟩) n c
  | .w k off n c => v = .slice (some ⟨β k, off, none⟩) n c
  | .q us => ∃ b off, ∃ vs : List Value, v = .pointer (some ⟨b, off, none⟩) ∧ b < w.heap.size ∧ ¬ V b ∧ RdCs V w vs us ∧ ∀ (j : Nat) (u : Value), vs[j]? = some u → w.cell? ⟨b, off + j, none⟩ = some u
  | .u => v = undef
  | .n => True
  | .z => v = .slice none 0 0
  | .f n us => (∃ A, v = .slice A n n) ∧ RdV V w v (.c (.s n us))
theorem RdX.keep {V V' : Nat → Prop} {w w' : World} (hk : Keep V V' w w') {β : Nat → Nat} {v : Value} {x : DV} (h : RdX V w β v x) : RdX V' w' β v x := by
  cases x with
  | v d => exact RdV.keep hk h
  | t ds => obtain ⟨vs, e, h⟩ := h; exact ⟨vs, e, RdL.keep hk h⟩
  | p k off => exact h
  | o k n c => exact h
  | w k off n c => exact h
  | q us =>
    obtain ⟨b, off, vs, e, hb, hv, h, hc⟩ := h
    exact ⟨b, off, vs, e, Nat.lt_of_lt_of_le hb hk.size, fun h => hv (hk.less b hb h), RdCs.keep hk h, fun j u hj => (cell_of_block (a := ⟨b, off + j, none⟩) (hk.block b hb hv)).trans (hc j u hj)⟩
  | u => exact h
  | n => trivial
  | z => exact h
  | f n us => exact ⟨h.1, RdV.keep hk h.2⟩
def Box (V : Nat → Prop) (w : World) (b : Nat) (T : TypeId) (cs : List CellD) : Prop := V b ∧ ∃ vs : Array Value, w.heap[b]? = some (.cells vs T (0, 0)) ∧ RdCs V w vs.toList cs
structure Sees (V : Nat → Prop) (L : Nat → Prop) (T : TF) (B : BF) (β : Nat → Nat) (a : Act) (w : World) : Prop where
  av : ∀ b, V b → b < w.heap.size
  box : ∀ k U cs, B k = some (U, cs) → Box V w (β k) U cs
  tmp : ∀ t x, L t → T t = some x → ∃ v, a.tmps[t]? = some v ∧ RdX V w β v x
inductive Eff where
  | r (x : DV)
  | a (U : TypeId) (cs : List CellD) (sl : Option Nat)
  | s (k : Nat) (U : TypeId) (cs : List CellD)
  | c (k : Nat) (x : DV)
  | rs (k : Nat) (U : TypeId) (cs : List CellD) (x : DV)
  | skip
def newV : Option Nat → Nat → Value
  | none, b => .pointer (some ⟨b, 0, none⟩)
  | some n, b => .slice (some ⟨b, 0, none⟩) n n
def newD : Option Nat → Nat → DV
  | none, d => .p d 0
  | some n, d => .o d n n
def Looks (ops : Array Oper) (o : Oper) : Nat → Prop := fun t => t ∈ o.looksAt ops
abbrev want (o : Oper) (ops : Array Oper) (a : Act) : Bool := Region.wanted o (yielded ops a.tmps)
structure Mid (b : Nat) (w w' : World) : Prop where
  os : w'.os = w.os
  tape : w'.tape = w.tape
  output : w'.output = w.output
  size : w.heap.size ≤ w'.heap.size
  block : ∀ c, c < w.heap.size → c ≠ b → w'.heap[c]? = w.heap[c]?
def Sem (P : Program) (ops : Array Oper) (o : Oper) (T : TF) (B : BF) : Eff → Prop
  | .r x => (∀ k, refs x = some k → ∃ t y, Looks ops o t ∧ T t = some y ∧ refs y = some k) ∧ ∀ V β a w, Sees V (Looks ops o) T B β a w → want o ops a = true ∧ Gives P o a w fun v w' => RdX V w' β v x ∧ Below w.heap.size w w'
  | .a U cs sl => ∀ V β a w, Sees V (Looks ops o) T B β a w → want o ops a = true ∧ Gives P o a w fun v w' => ∃ vs : Array Value, v = newV sl w.heap.size ∧ w' = w.alloc (.cells vs U) ∧ RdCs V w vs.toList cs
  | .s k U cs => o.dst = none ∧ (∃ cs0, B k = some (U, cs0)) ∧ ∀ V β a w, Sees V (Looks ops o) T B β a w → want o ops a = true ∧ Gives P o a w fun _ w' =>
      ∃ vs : Array Value, w'.heap = w.heap.setIfInBounds (β k) (.cells vs U (0, 0)) ∧ w'.os = w.os ∧ w'.tape = w.tape ∧ w'.output = w.output ∧ RdCs V w vs.toList cs
  | .rs k U cs x => refs x = none ∧ (∃ cs0, B k = some (U, cs0)) ∧ ∀ V β a w, Sees V (Looks ops o) T B β a w → want o ops a = true ∧ Gives P o a w fun v w' =>
      ∃ vs : Array Value, w'.heap[β k]? = some (.cells vs U (0, 0)) ∧ Mid (β k) w w' ∧ RdCs V w' vs.toList cs ∧ RdX V w' β v x
  | .c k x => refs x = none ∧ B k ≠ none ∧ ∀ V β a w, Sees V (Looks ops o) T B β a w → want o ops a = true ∧ Gives P o a w fun v w' => RdX (fun b => V b ∧ b ≠ β k) w' β v x ∧ Below w.heap.size w w'
  | .skip => ∀ V β a w, Sees V (Looks ops o) T B β a w → want o ops a = false
def ent (d : Nat) : Eff → DV
  | .r x => x
  | .a _ _ sl => newD sl d
  | .s _ _ _ => .u
  | .c _ x => x
  | .rs _ _ _ x => x
  | .skip => .u
def killF (k : Nat) (T : TF) : TF := fun t => match T t with
  | some y => if refs y = some k then some .n else some y
  | none => none
def Eff.tf (e : Eff) (dst : Option Nat) (T : TF) : TF :=
  match e with
  | .c k x => fun t => if dst = some t then some x else killF k T t
  | e => fun t => if dst = some t then some (ent t e) else T t
def Eff.bf (e : Eff) (dst : Option Nat) (B : BF) : BF :=
  match e with
  | .a U cs _ => fun k => if dst = some k then some (U, cs) else B k
  | .s k' U cs => fun k => if k' = k then some (U, cs) else B k
  | .rs k' U cs _ => fun k => if k' = k then some (U, cs) else B k
  | .c k' _ => fun k => if k = k' then none else B k
  | _ => B
structure Ent where
  w : World
  E : Nat → Prop
  K : Nat
structure BelE (e : Ent) (w : World) : Prop where
  os : w.os = e.w.os
  tape : w.tape = e.w.tape
  output : w.output = e.w.output
  size : e.w.heap.size ≤ w.heap.size
  block : ∀ c, c < e.w.heap.size → ¬ e.E c → w.heap[c]? = e.w.heap[c]?
theorem BelE.refl (e : Ent) : BelE e e.w := ⟨rfl, rfl, rfl, Nat.le_refl _, fun _ _ _ => rfl⟩
theorem BelE.next {e : Ent} {w w' : World} (h : BelE e w) (h1 : w'.os = w.os) (h2 : w'.tape = w.tape) (h3 : w'.output = w.output) (h4 : w.heap.size ≤ w'.heap.size)
    (h5 : ∀ c, c < e.w.heap.size → ¬ e.E c → w'.heap[c]? = w.heap[c]?) : BelE e w' :=
  ⟨h1.trans h.os, h2.trans h.tape, h3.trans h.output, Nat.le_trans h.size h4, fun c hc hE => (h5 c hc hE).trans (h.block c hc hE)⟩
theorem BelE.below {e : Ent} {w w' : World} (h : BelE e w) (k : Below w.heap.size w w') : BelE e w' :=
  h.next k.os k.tape k.output k.size (fun c hc _ => k.block c (Nat.lt_of_lt_of_le hc h.size))
theorem BelE.to {w w' : World} {E : Nat → Prop} {K : Nat} (h : BelE ⟨w, E, K⟩ w') (hE : ∀ c, ¬ E c) : Below w.heap.size w w' := ⟨h.os, h.tape, h.output, h.size, fun c hc => h.block c hc (hE c)⟩
structure Rel (av : Nat → Prop) (w0 : Ent) (n : Nat) (T : TF) (B : BF) (β : Nat → Nat) (a : Act) (w : World) : Prop where
  dfr : a.defers = []
  siz : a.tmps.size = n
  bel : BelE w0 w
  avl : ∀ b, av b → b < w0.w.heap.size
  avE : ∀ b, av b → ¬ w0.E b
  big : n ≤ w0.K
  fix : ∀ b, w0.E b → B w0.K ≠ none → β w0.K = b
  inj : ∀ k l, B k ≠ none → B l ≠ none → β k = β l → k = l
  own : ∀ k, B k ≠ none → w0.w.heap.size ≤ β k ∨ w0.E (β k)
  wf : ∀ t x k, T t = some x → refs x = some k → B k ≠ none
  sees : Sees (fun b => av b ∨ ∃ k, B k ≠ none ∧ β k = b) (fun _ => True) T B β a w
section
variable {P : Program} {ops : Array Oper} {o : Oper} {T T' : TF} {B B' : BF} {av : Nat → Prop} {w0 : Ent} {w : World} {n : Nat} {β : Nat → Nat} {a : Act}
theorem Rel.congr (h : Rel av w0 n T B β a w) (hT : ∀ t, T' t = T t) (hB : ∀ k, B' k = B k) : Rel av w0 n T' B' β a w := by
  have e1 : T' = T := funext hT
  have e2 : B' = B := funext hB
  rw [e1, e2]; exact h
theorem put_other {a : Act} {d : Option Nat} {v : Value} {t : Nat} (h : d ≠ some t) : (a.put d v).tmps[t]? = a.tmps[t]? := by
  cases d with
  | none => rfl
  | some d =>
    have hne : d ≠ t := fun e => h (by rw [e])
    simp [Act.put, Array.getElem?_setIfInBounds_ne hne]
theorem put_self {a : Act} {d : Nat} {v : Value} (h : d < a.tmps.size) : (a.put (some d) v).tmps[d]? = some v := by
  simp [Act.put, h]
theorem put_size (a : Act) (d : Option Nat) (v : Value) : (a.put d v).tmps.size = a.tmps.size := by cases d <;> simp [Act.put]
theorem put_defers (a : Act) (d : Option Nat) (v : Value) : (a.put d v).defers = a.defers := by cases d <;> rfl
theorem Sees.of {V : Nat → Prop} {L L' : Nat → Prop} (h : Sees V L' T B β a w) (hL : ∀ t, L t → L' t) (hT : ∀ t x, L t → T' t = some x → T t = some x) (hB : ∀ k c, B' k = some c → B k = some c) : Sees V L T' B' β a w :=
  ⟨h.av, fun k U cs hk => h.box k U cs (hB k _ hk), fun t x hl ht => h.tmp t x (hL t hl) (hT t x hl ht)⟩
theorem Rel.value (h : Rel av w0 n T B β a w) {d : Option Nat} (hd : ∀ t, d = some t → t < n) {x : DV} {v : Value} {w' : World} (hb : Below w.heap.size w w')
    (hx : RdX (fun b => av b ∨ ∃ k, B k ≠ none ∧ β k = b) w' β v x) (hp : ∀ k, refs x = some k → B k ≠ none) : Rel av w0 n (fun t => if d = some t then some x else T t) B β (a.put d v) w' := by
  have hk := Keep.below (av := fun b => av b ∨ ∃ k, B k ≠ none ∧ β k = b) hb
  refine ⟨by rw [put_defers]; exact h.dfr, by rw [put_size]; exact h.siz, h.bel.below hb, h.avl, h.avE, h.big, h.fix, h.inj, h.own, ?_, ?_, ?_, ?_⟩
  · intro t y k ht hy
    try dsimp only at ht
    split at ht
    · injection ht with ht; subst ht; exact hp k hy
    · exact h.wf t y k ht hy
  · exact fun b hv => Nat.lt_of_lt_of_le (h.sees.av b hv) hb.size
  · intro k U cs hc
    obtain ⟨hv, vs, e, hr⟩ := h.sees.box k U cs hc
    exact ⟨hv, vs, (hb.block _ (h.sees.av _ hv)).trans e, hr.keep hk⟩
  · intro t y hl ht
    try dsimp only at ht
    split at ht
    · rename_i hdt
      injection ht with ht
      subst ht
      rw [hdt]
      exact ⟨v, put_self (by rw [h.siz]; exact hd t hdt), hx⟩
    · rename_i hdt
      obtain ⟨u, e, hr⟩ := h.sees.tmp t y trivial ht
      exact ⟨u, (put_other hdt).trans e, hr.keep hk⟩
theorem heap_alloc_size (w : World) (o : Obj) : (w.alloc o).heap.size = w.heap.size + 1 := by simp
theorem Rel.box (h : Rel av w0 n T B β a w) {d : Nat} (hd : d < n) (hf : B d = none) {U : TypeId} {cs : List CellD} {sl : Option Nat} {vs : Array Value}
    (hx : RdCs (fun b => av b ∨ ∃ k, B k ≠ none ∧ β k = b) w vs.toList cs) :
    Rel av w0 n (fun t => if some d = some t then some (newD sl t) else T t) (fun k => if some d = some k then some (U, cs) else B k) (fun k => if k = d then w.heap.size else β k) (a.put (some d) (newV sl w.heap.size)) (w.alloc (.cells vs U)) := by
  have hB : ∀ k, (if some d = some k then some (U, cs) else B k) ≠ none → k ≠ d → B k ≠ none := by
    intro k hk hne
    rw [if_neg (by simpa using fun e => hne e.symm)] at hk
    exact hk
  have hlt : ∀ k, B k ≠ none → β k < w.heap.size := fun k hk => h.sees.av _ (.inr ⟨k, hk, rfl⟩)
  have hV : ∀ b, (av b ∨ ∃ k, (if some d = some k then some (U, cs) else B k) ≠ none ∧ (if k = d then w.heap.size else β k) = b) → b < w.heap.size → (av b ∨ ∃ k, B k ≠ none ∧ β k = b) := by
    intro b hb hlb
    rcases hb with hb | ⟨k, hk, hb⟩
    · exact .inl hb
    · by_cases hkd : k = d
      · subst hkd; rw [if_pos rfl] at hb; omega
      · rw [if_neg hkd] at hb; exact .inr ⟨k, hB k hk hkd, hb⟩
  have hkeep : Keep (fun b => av b ∨ ∃ k, B k ≠ none ∧ β k = b) (fun b => av b ∨ ∃ k, (if some d = some k then some (U, cs) else B k) ≠ none ∧ (if k = d then w.heap.size else β k) = b) w (w.alloc (.cells vs U)) :=
    ⟨by simp, fun b hb _ => Below.heap_alloc _ _ _ hb, fun b hb hv => hV b hv hb⟩
  have hRX : ∀ v x, (∀ k, refs x = some k → k ≠ d) → RdX (fun b => av b ∨ ∃ k, B k ≠ none ∧ β k = b) w β v x → RdX (fun b => av b ∨ ∃ k, (if some d = some k then some (U, cs) else B k) ≠ none ∧ (if k = d then w.heap.size else β k) = b) (w.alloc (.cells vs U)) (fun k => if k = d then w.heap.size else β k) v x := by
    intro v x hxk hr
    have hr2 := RdX.keep hkeep hr
    cases x with
    | p k off =>
      have hne : k ≠ d := hxk k rfl
      show v = .pointer (some ⟨if k = d then w.heap.size else β k, off, none⟩)
      rw [if_neg hne]; exact hr
    | o k n c =>
      have hne : k ≠ d := hxk k rfl
      show v = .slice (some ⟨if k = d then w.heap.size else β k, 0, none⟩) n c
      rw [if_neg hne]; exact hr
    | w k off n c =>
      have hne : k ≠ d := hxk k rfl
      show v = .slice (some ⟨if k = d then w.heap.size else β k, off, none⟩) n c
      rw [if_neg hne]; exact hr
    | v d => exact hr2
    | t ds => exact hr2
    | q us => exact hr2
    | u => exact hr2
    | n => trivial
    | z => exact hr2
    | f n us => exact hr2
  refine ⟨by rw [put_defers]; exact h.dfr, by rw [put_size]; exact h.siz, h.bel.below ((Below.refl _ w).alloc (Nat.le_refl _) _), h.avl, h.avE, h.big, fun b hb hK => ?_, ?_, ?_, ?_, ?_, ?_, ?_⟩
  · have hKd : w0.K ≠ d := by have := h.big; omega
    rw [if_neg hKd]
    exact h.fix b hb (hB _ hK hKd)
  · intro k l hk hl e
    by_cases hkd : k = d <;> by_cases hld : l = d
    · rw [hkd, hld]
    · subst hkd
      rw [if_pos rfl, if_neg hld] at e
      have := hlt l (hB l hl hld); omega
    · subst hld
      rw [if_neg hkd, if_pos rfl] at e
      have := hlt k (hB k hk hkd); omega
    · rw [if_neg hkd, if_neg hld] at e
      exact h.inj k l (hB k hk hkd) (hB l hl hld) e
  · intro k hk
    by_cases hkd : k = d
    · rw [if_pos hkd]; exact .inl h.bel.size
    · rw [if_neg hkd]; exact h.own k (hB k hk hkd)
  · intro t x k ht hx
    by_cases hdt : d = t
    · subst hdt
      rw [if_pos rfl] at ht
      injection ht with ht
      subst ht
      have : d = k := by cases sl <;> (injection hx with e)
      subst this
      rw [if_pos rfl]; simp
    · rw [if_neg (by simpa using hdt)] at ht
      have h1 := h.wf t x k ht hx
      have hne : d ≠ k := fun e => h1 (by rw [← e]; exact hf)
      rw [if_neg (by simpa using hne)]; exact h1
  · intro b hb
    rw [heap_alloc_size]
    rcases hb with hb | ⟨k, hk, hb⟩
    · have := h.avl b hb; have := h.bel.size; omega
    · by_cases hkd : k = d
      · rw [if_pos hkd] at hb; omega
      · rw [if_neg hkd] at hb; have := hlt k (hB k hk hkd); omega
  · intro k U' cs' hk
    by_cases hkd : k = d
    · subst hkd
      rw [if_pos rfl] at hk
      injection hk with hk
      injection hk with h1 h2
      subst h1 h2
      refine ⟨.inr ⟨k, by rw [if_pos rfl]; simp, rfl⟩, vs, ?_, hx.keep hkeep⟩
      rw [if_pos rfl]; exact heap_alloc_new w _
    · rw [if_neg (by simpa using fun e => hkd e.symm)] at hk
      obtain ⟨hv, vs', e, hr⟩ := h.sees.box k U' cs' hk
      refine ⟨.inr ⟨k, by rw [if_neg (by simpa using fun e => hkd e.symm), hk]; simp, rfl⟩, vs', ?_, hr.keep hkeep⟩
      rw [if_neg hkd, Below.heap_alloc _ _ _ (h.sees.av _ hv)]; exact e
  · intro t x _ ht
    by_cases hdt : d = t
    · subst hdt
      rw [if_pos rfl] at ht
      injection ht with ht
      subst ht
      refine ⟨_, put_self (by rw [h.siz]; exact hd), ?_⟩
      cases sl with
      | none =>
        show _ = Value.pointer (some ⟨if d = d then w.heap.size else β d, 0, none⟩)
        rw [if_pos rfl]; rfl
      | some m =>
        show _ = Value.slice (some ⟨if d = d then w.heap.size else β d, 0, none⟩) m m
        rw [if_pos rfl]; rfl
    · rw [if_neg (by simpa using hdt)] at ht
      obtain ⟨v, e, hr⟩ := h.sees.tmp t x trivial ht
      refine ⟨v, (put_other (by simpa using hdt)).trans e, hRX v x ?_ hr⟩
      intro k e2 e3
      subst e3
      exact h.wf t x _ ht e2 hf
theorem Rel.store (h : Rel av w0 n T B β a w) {k : Nat} {U : TypeId} {cs0 cs : List CellD} (hk : B k = some (U, cs0)) {vs : Array Value} {w' : World}
    (hh : w'.heap = w.heap.setIfInBounds (β k) (.cells vs U (0, 0))) (ho : w'.os = w.os) (ht : w'.tape = w.tape) (hu : w'.output = w.output)
    (hx : RdCs (fun b => av b ∨ ∃ k, B k ≠ none ∧ β k = b) w vs.toList cs) :
    Rel av w0 n T (fun l => if k = l then some (U, cs) else B l) β a w' := by
  have hB : ∀ l, (if k = l then some (U, cs) else B l) ≠ none ↔ B l ≠ none := by
    intro l
    by_cases e : k = l
    · subst e; rw [if_pos rfl, hk]; simp
    · rw [if_neg e]
  have hsz : w'.heap.size = w.heap.size := by rw [hh]; simp
  have hbk : β k < w.heap.size := h.sees.av _ (.inr ⟨k, by rw [hk]; simp, rfl⟩)
  have hoth : ∀ b, b ≠ β k → w'.heap[b]? = w.heap[b]? := fun b hb => by rw [hh, Array.getElem?_setIfInBounds_ne (Ne.symm hb)]
  have hV : (fun b => av b ∨ ∃ l, (if k = l then some (U, cs) else B l) ≠ none ∧ β l = b) = (fun b => av b ∨ ∃ l, B l ≠ none ∧ β l = b) := by
    funext b
    simp only [hB]
  have hkeep : Keep (fun b => av b ∨ ∃ l, B l ≠ none ∧ β l = b) (fun b => av b ∨ ∃ l, B l ≠ none ∧ β l = b) w w' :=
    ⟨by omega, fun b _ hv => hoth b (fun e => hv (.inr ⟨k, by rw [hk]; simp, e.symm⟩)), fun _ _ h => h⟩
  refine ⟨h.dfr, h.siz, ?_, h.avl, h.avE, h.big, fun b hb hK => h.fix b hb ((hB _).1 hK), ?_, ?_, ?_, ?_⟩
  · refine h.bel.next ho ht hu (by omega) fun b hb hE => hoth b (fun e => ?_)
    rcases h.own k (by rw [hk]; simp) with g | g
    · omega
    · exact hE (e ▸ g)
  · exact fun l m hl hm => h.inj l m ((hB l).1 hl) ((hB m).1 hm)
  · exact fun l hl => h.own l ((hB l).1 hl)
  · exact fun t x l hT hx => (hB l).2 (h.wf t x l hT hx)
  rw [hV]
  refine ⟨?_, ?_, ?_⟩
  · exact fun b hb => by rw [hsz]; exact h.sees.av b hb
  · intro l U' cs' hl
    try dsimp only at hl
    by_cases e : k = l
    · subst e
      rw [if_pos rfl] at hl
      injection hl with hl
      injection hl with h1 h2
      subst h1 h2
      exact ⟨.inr ⟨k, by rw [hk]; simp, rfl⟩, vs, by rw [hh]; simp [hbk], hx.keep hkeep⟩
    · rw [if_neg e] at hl
      obtain ⟨hv, vs', e', hr⟩ := h.sees.box l U' cs' hl
      exact ⟨hv, vs', (hoth _ (fun e2 => e (h.inj k l (by rw [hk]; simp) (by rw [hl]; simp) e2.symm))).trans e', hr.keep hkeep⟩
  · intro t x hL hT
    obtain ⟨v, e, hr⟩ := h.sees.tmp t x hL hT
    exact ⟨v, e, hr.keep hkeep⟩
theorem Rel.sval (h : Rel av w0 n T B β a w) {k : Nat} {U : TypeId} {cs0 cs : List CellD} (hk : B k = some (U, cs0)) {vs : Array Value} {w' : World}
    (hh : w'.heap[β k]? = some (.cells vs U (0, 0))) (hm : Mid (β k) w w') {d : Option Nat} (hd : ∀ t, d = some t → t < n) {x : DV} {v : Value} (hp : refs x = none)
    (hc : RdCs (fun b => av b ∨ ∃ k, B k ≠ none ∧ β k = b) w' vs.toList cs) (hx : RdX (fun b => av b ∨ ∃ k, B k ≠ none ∧ β k = b) w' β v x) :
    Rel av w0 n (fun t => if d = some t then some x else T t) (fun l => if k = l then some (U, cs) else B l) β (a.put d v) w' := by
  have hB : ∀ l, (if k = l then some (U, cs) else B l) ≠ none ↔ B l ≠ none := by
    intro l
    by_cases e : k = l
    · subst e; rw [if_pos rfl, hk]; simp
    · rw [if_neg e]
  have hbk : β k < w.heap.size := h.sees.av _ (.inr ⟨k, by rw [hk]; simp, rfl⟩)
  have hV : (fun b => av b ∨ ∃ l, (if k = l then some (U, cs) else B l) ≠ none ∧ β l = b) = (fun b => av b ∨ ∃ l, B l ≠ none ∧ β l = b) := by
    funext b
    simp only [hB]
  have hkeep : Keep (fun b => av b ∨ ∃ l, B l ≠ none ∧ β l = b) (fun b => av b ∨ ∃ l, B l ≠ none ∧ β l = b) w w' :=
    ⟨hm.size, fun b hb hv => hm.block b hb (fun e => hv (.inr ⟨k, by rw [hk]; simp, e.symm⟩)), fun _ _ h => h⟩
  refine ⟨by rw [put_defers]; exact h.dfr, by rw [put_size]; exact h.siz, ?_, h.avl, h.avE, h.big, fun b hb hK => h.fix b hb ((hB _).1 hK), ?_, ?_, ?_, ?_⟩
  · refine h.bel.next hm.os hm.tape hm.output hm.size fun b hb hE => hm.block b (Nat.lt_of_lt_of_le hb h.bel.size) (fun e => ?_)
    rcases h.own k (by rw [hk]; simp) with g | g
    · omega
    · exact hE (e ▸ g)
  · exact fun l m hl hm => h.inj l m ((hB l).1 hl) ((hB m).1 hm)
  · exact fun l hl => h.own l ((hB l).1 hl)
  · intro t y l ht hy
    refine (hB l).2 ?_
    try dsimp only at ht
    split at ht
    · injection ht with ht; subst ht; rw [hp] at hy; cases hy
    · exact h.wf t y l ht hy
  rw [hV]
  refine ⟨?_, ?_, ?_⟩
  · exact fun b hb => Nat.lt_of_lt_of_le (h.sees.av b hb) hm.size
  · intro l U' cs' hl
    try dsimp only at hl
    by_cases e : k = l
    · subst e
      rw [if_pos rfl] at hl
      injection hl with hl
      injection hl with h1 h2
      subst h1 h2
      exact ⟨.inr ⟨k, by rw [hk]; simp, rfl⟩, vs, hh, hc⟩
    · rw [if_neg e] at hl
      obtain ⟨hv, vs', e', hr⟩ := h.sees.box l U' cs' hl
      exact ⟨hv, vs', (hm.block _ (h.sees.av _ hv) (fun e2 => e (h.inj k l (by rw [hk]; simp) (by rw [hl]; simp) e2.symm))).trans e', hr.keep hkeep⟩
  · intro t y hl ht
    try dsimp only at ht
    split at ht
    · rename_i hdt
      injection ht with ht
      subst ht
      rw [hdt]
      exact ⟨v, put_self (by rw [h.siz]; exact hd t hdt), hx⟩
    · rename_i hdt
      obtain ⟨u, e, hr⟩ := h.sees.tmp t y trivial ht
      exact ⟨u, (put_other hdt).trans e, hr.keep hkeep⟩
theorem Rel.drop (h : Rel av w0 n T B β a w) (k : Nat) : Rel av w0 n (killF k T) (fun l => if l = k then none else B l) β a w := by
  have hB : ∀ l, (if l = k then none else B l) ≠ none → B l ≠ none ∧ l ≠ k := by
    intro l hl
    by_cases e : l = k
    · rw [if_pos e] at hl; exact absurd rfl hl
    · rw [if_neg e] at hl; exact ⟨hl, e⟩
  have hkeep : Keep (fun b => av b ∨ ∃ l, B l ≠ none ∧ β l = b) (fun b => av b ∨ ∃ l, (if l = k then none else B l) ≠ none ∧ β l = b) w w :=
    ⟨Nat.le_refl _, fun _ _ _ => rfl, fun b _ hb => hb.imp id fun ⟨l, h1, h2⟩ => ⟨l, (hB l h1).1, h2⟩⟩
  have hT : ∀ t x, killF k T t = some x → x = .n ∨ (T t = some x ∧ refs x ≠ some k) := by
    intro t x ht
    unfold killF at ht
    split at ht
    · rename_i y hy
      split at ht
      · injection ht with ht; exact .inl ht.symm
      · rename_i hr; injection ht with ht; subst ht; exact .inr ⟨hy, hr⟩
    · cases ht
  refine ⟨h.dfr, h.siz, h.bel, h.avl, h.avE, h.big, fun b hb hK => h.fix b hb (hB _ hK).1, fun l m hl hm => h.inj l m (hB l hl).1 (hB m hm).1, fun l hl => h.own l (hB l hl).1, ?_, ?_, ?_, ?_⟩
  · intro t x l ht hx
    rcases hT t x ht with rfl | ⟨h1, h2⟩
    · cases hx
    · have := h.wf t x l h1 hx
      rw [if_neg (fun e => h2 (by rw [hx, e]))]; exact this
  · rintro b (hb | ⟨l, hl, hb⟩)
    · exact h.sees.av b (.inl hb)
    · exact h.sees.av b (.inr ⟨l, (hB l hl).1, hb⟩)
  · intro l U cs hl
    have hl0 : (if l = k then none else B l) = some (U, cs) := hl
    have hne : l ≠ k := fun e => by rw [if_pos e] at hl0; cases hl0
    rw [if_neg hne] at hl0
    obtain ⟨_, vs, e, hr⟩ := h.sees.box l U cs hl0
    exact ⟨.inr ⟨l, by rw [if_neg hne, hl0]; simp, rfl⟩, vs, e, hr.keep hkeep⟩
  · intro t x hL ht
    rcases hT t x ht with rfl | ⟨h1, _⟩
    · unfold killF at ht
      split at ht
      · rename_i y hy
        obtain ⟨v, e, _⟩ := h.sees.tmp t y hL hy
        exact ⟨v, e, trivial⟩
      · cases ht
    · obtain ⟨v, e, hr⟩ := h.sees.tmp t x hL h1
      exact ⟨v, e, hr.keep hkeep⟩
theorem drop_av (h : Rel av w0 n T B β a w) {k : Nat} (hk : B k ≠ none) : (fun b => av b ∨ ∃ l, (if l = k then none else B l) ≠ none ∧ β l = b) = (fun b => (av b ∨ ∃ l, B l ≠ none ∧ β l = b) ∧ b ≠ β k) := by
  funext b
  refine propext ⟨?_, ?_⟩
  · rintro (hb | ⟨l, hl, hb⟩)
    · refine ⟨.inl hb, fun e => ?_⟩
      have := h.avl b hb
      rcases h.own k hk with g | g
      · omega
      · exact h.avE b hb (e ▸ g)
    · by_cases e : l = k
      · rw [if_pos e] at hl; exact absurd rfl hl
      · rw [if_neg e] at hl
        exact ⟨.inr ⟨l, hl, hb⟩, fun e2 => e (h.inj l k hl hk (hb.trans e2))⟩
  · rintro ⟨hb | ⟨l, hl, hb⟩, hne⟩
    · exact .inl hb
    · exact .inr ⟨l, by rw [if_neg (fun e => hne (by rw [← hb, e]))]; exact hl, hb⟩
theorem Rel.drew (h : Rel av w0 n T B β a w) : Rel av w0 n T B β a w.drew :=
  ⟨h.dfr, h.siz, h.bel.below (Below.refl _ w).drew, h.avl, h.avE, h.big, h.fix, h.inj, h.own, h.wf, ⟨h.sees.av, fun k U cs hk => by
    obtain ⟨hv, vs, e, hr⟩ := h.sees.box k U cs hk
    exact ⟨hv, vs, e, hr.keep (Keep.below (Below.refl _ w).drew)⟩, fun t x hL hT => by
    obtain ⟨v, e, hr⟩ := h.sees.tmp t x hL hT
    exact ⟨v, e, hr.keep (Keep.below (Below.refl _ w).drew)⟩⟩⟩
theorem Rel.step {Ts : TF} {Bs : BF} {e : Eff} (h : Rel av w0 n T B β a w) (hs : Sem P ops o Ts Bs e) (hd : ∀ t, o.dst = some t → t < n)
    (hT : ∀ t x, Looks ops o t → Ts t = some x → T t = some x) (hB : ∀ k c, Bs k = some c → B k = some c) (hf : ∀ U cs sl, e = .a U cs sl → ∃ d, o.dst = some d ∧ B d = none)
    {Q : Exit → Act → World → Prop} {K : Act → World → Prop} (hK : ∀ β' a' w', Rel av w0 n (e.tf o.dst T) (e.bf o.dst B) β' a' w' → K a' w') :
    if Region.wanted o (yielded ops a.tmps) then o.wp P a w K Q ∨ (o.asks P a w ∧ LetsOut Q) else K (a.put o.dst undef) w := by
  have hsee := Sees.of h.sees (L := Looks ops o) (fun _ _ => trivial) hT hB
  cases e with
  | r x =>
    obtain ⟨hp, hs⟩ := hs
    obtain ⟨hw, hg⟩ := hs _ β a w hsee
    rw [if_pos hw]
    refine .inl (hg.wp fun v w' ⟨hx, hb⟩ => hK β _ _ ?_)
    refine (h.value hd hb hx ?_).congr (fun t => ?_) (fun _ => rfl)
    · intro k e
      obtain ⟨t, y, hl, ht, hy⟩ := hp k e
      exact h.wf t y k (hT t _ hl ht) hy
    · rfl
  | a U cs sl =>
    obtain ⟨hw, hg⟩ := hs _ β a w hsee
    obtain ⟨d, hd', hfr⟩ := hf U cs sl rfl
    rw [if_pos hw]
    refine .inl (hg.wp fun v w' ⟨vs, hv, hw', hx⟩ => hK (fun k => if k = d then w.heap.size else β k) _ _ ?_)
    subst hv hw'
    have := h.box (U := U) (sl := sl) (hd d hd') hfr hx
    rw [hd']
    refine this.congr (fun t => ?_) (fun k => ?_)
    · unfold Eff.tf ent; rfl
    · unfold Eff.bf; rfl
  | s k U cs =>
    obtain ⟨hn, ⟨cs0, hk⟩, hs⟩ := hs
    obtain ⟨hw, hg⟩ := hs _ β a w hsee
    rw [if_pos hw]
    refine .inl (hg.wp fun v w' ⟨vs, hh, ho, ht, hu, hx⟩ => hK β _ _ ?_)
    rw [hn]
    refine (h.store (hB k _ hk) hh ho ht hu hx).congr (fun t => ?_) (fun l => ?_)
    · unfold Eff.tf; simp
    · unfold Eff.bf; rfl
  | rs k U cs x =>
    obtain ⟨hp, ⟨cs0, hk⟩, hs⟩ := hs
    obtain ⟨hw, hg⟩ := hs _ β a w hsee
    rw [if_pos hw]
    refine .inl (hg.wp fun v w' ⟨vs, hh, hm, hc, hx⟩ => hK β _ _ ?_)
    exact (h.sval (hB k _ hk) hh hm hd hp hc hx).congr (fun t => rfl) (fun l => rfl)
  | c k x =>
    obtain ⟨hx0, hk0, hs⟩ := hs
    obtain ⟨hw, hg⟩ := hs _ β a w hsee
    rw [if_pos hw]
    refine .inl (hg.wp fun v w' ⟨hx, hb⟩ => hK β _ _ ?_)
    have hk : B k ≠ none := by
      cases hc : Bs k with
      | none => exact absurd hc hk0
      | some c => rw [hB k c hc]; simp
    have hd2 := h.drop k
    have e := drop_av h hk
    refine (hd2.value hd hb (x := x) (v := v) (by rw [e]; exact hx) (fun l hl => by rw [hx0] at hl; cases hl)).congr (fun t => ?_) (fun l => rfl)
    rfl
  | skip =>
    have hw := hs _ β a w hsee
    unfold want at hw
    rw [if_neg (by rw [hw]; simp)]
    refine hK β _ _ ?_
    refine (h.value (v := undef) (x := .u) hd (Below.refl _ _) rfl (by intro k e; cases e)).congr (fun t => ?_) (fun _ => rfl)
    rfl
end
def upf {γ : Type} (mask : Nat → Bool) : Nat → List (Nat → Option (Option γ)) → (Nat → Option γ) → (Nat → Option γ)
  | _, [], F => F
  | k, u :: us, F => upf mask (k + 1) us (if mask k then (fun t => (u t).getD (F t)) else F)
section
variable {γ : Type}
theorem upf_shift (mask : Nat → Bool) : ∀ (us : List (Nat → Option (Option γ))) (k : Nat) (F : Nat → Option γ), upf mask (k + 1) us F = upf (fun j => mask (j + 1)) k us F
  | [], _, _ => rfl
  | u :: us, k, F => by
    show upf mask (k + 1 + 1) us _ = upf (fun j => mask (j + 1)) (k + 1) us _
    rw [upf_shift mask us (k + 1)]
theorem upf_same {mask mask' : Nat → Bool} {t : Nat} : ∀ (us : List (Nat → Option (Option γ))) (k : Nat) (F F' : Nat → Option γ), F t = F' t →
    (∀ (j : Nat) (u : Nat → Option (Option γ)), us[j]? = some u → u t ≠ none → mask (k + j) = mask' (k + j)) → upf mask k us F t = upf mask' k us F' t
  | [], _, _, _, h, _ => h
  | u :: us, k, F, F', h, hm => by
    show upf mask (k + 1) us _ t = upf mask' (k + 1) us _ t
    refine upf_same us (k + 1) _ _ ?_ (fun j u' hj hu => by have := hm (j + 1) u' (by simpa using hj) hu; rw [show k + (j + 1) = k + 1 + j from by omega] at this; exact this)
    by_cases hu : u t = none
    · have e1 : (if mask k then (fun t => (u t).getD (F t)) else F) t = F t := by split <;> simp [hu]
      have e2 : (if mask' k then (fun t => (u t).getD (F' t)) else F') t = F' t := by split <;> simp [hu]
      rw [e1, e2]; exact h
    · have := hm 0 u rfl hu
      rw [Nat.add_zero] at this
      rw [this]
      split
      · show (u t).getD (F t) = (u t).getD (F' t)
        rw [h]
      · exact h
theorem upf_none {mask : Nat → Bool} {t : Nat} (us : List (Nat → Option (Option γ))) (k : Nat) (F : Nat → Option γ)
    (h : ∀ (j : Nat) (u : Nat → Option (Option γ)), us[j]? = some u → mask (k + j) = true → u t = none) : upf mask k us F t = F t := by
  have h0 : ∀ (us : List (Nat → Option (Option γ))) (k : Nat) (F : Nat → Option γ), upf (fun _ => false) k us F = F := by
    intro us
    induction us with
    | nil => intro k F; rfl
    | cons u us ih => intro k F; exact ih (k + 1) F
  have h1 := upf_same (mask := mask) (mask' := fun _ => false) us k F F rfl (fun j u hj hu => by
    cases hm : mask (k + j) with
    | false => rfl
    | true => exact absurd (h j u hj hm) hu)
  rw [h1, h0]
theorem upf_hit {mask : Nat → Bool} {t : Nat} {u : Nat → Option (Option γ)} {x : Option γ} : ∀ (us : List (Nat → Option (Option γ))) (k : Nat) (F : Nat → Option γ) (j : Nat),
    us[j]? = some u → u t = some x → mask (k + j) = true → (∀ (j' : Nat) (u' : Nat → Option (Option γ)), us[j']? = some u' → j' ≠ j → u' t = none) → upf mask k us F t = x
  | [], _, _, _, hj, _, _, _ => by simp at hj
  | u0 :: us, k, F, 0, hj, hu, hm, hd => by
    simp at hj
    subst hj
    rw [Nat.add_zero] at hm
    show upf mask (k + 1) us _ t = x
    rw [upf_none us (k + 1) _ (fun j u hj _ => hd (j + 1) u (by simpa using hj) (by omega)), hm]
    simp [hu]
  | u0 :: us, k, F, j + 1, hj, hu, hm, hd => by
    show upf mask (k + 1) us _ t = x
    exact upf_hit us (k + 1) _ j (by simpa using hj) hu (by rw [show k + 1 + j = k + (j + 1) from by omega]; exact hm) (fun j' u' hj' hne => hd (j' + 1) u' (by simpa using hj') (by omega))
theorem upf_last {mask : Nat → Bool} {t : Nat} {u : Nat → Option (Option γ)} {x : Option γ} : ∀ (us : List (Nat → Option (Option γ))) (k : Nat) (F : Nat → Option γ) (j : Nat),
    us[j]? = some u → u t = some x → mask (k + j) = true → (∀ (j' : Nat) (u' : Nat → Option (Option γ)), us[j']? = some u' → j < j' → mask (k + j') = true → u' t = none) → upf mask k us F t = x
  | [], _, _, _, hj, _, _, _ => by simp at hj
  | u0 :: us, k, F, 0, hj, hu, hm, hd => by
    simp at hj
    subst hj
    rw [Nat.add_zero] at hm
    show upf mask (k + 1) us _ t = x
    rw [upf_none us (k + 1) _ (fun j u hj hm' => hd (j + 1) u (by simpa using hj) (by omega) (by rw [show k + (j + 1) = k + 1 + j from by omega]; exact hm')), hm]
    simp [hu]
  | u0 :: us, k, F, j + 1, hj, hu, hm, hd => by
    show upf mask (k + 1) us _ t = x
    exact upf_last us (k + 1) _ j (by simpa using hj) hu (by rw [show k + 1 + j = k + (j + 1) from by omega]; exact hm) (fun j' u' hj' hlt hm' => hd (j' + 1) u' (by simpa using hj') (by omega) (by rw [show k + (j' + 1) = k + 1 + j' from by omega]; exact hm'))
end
def uT (d : Option Nat) (e : Eff) : Nat → Option (Option DV) := fun t => if d = some t then some (some (ent t e)) else none
def uB (d : Option Nat) (e : Eff) : Nat → Option (Option (TypeId × List CellD)) := fun k => match e with
  | .a U cs _ => if d = some k then some (some (U, cs)) else none
  | .s l U cs => if l = k then some (some (U, cs)) else none
  | .rs l U cs _ => if l = k then some (some (U, cs)) else none
  | _ => none
def Eff.wr : Eff → Option Nat
  | .s k _ _ => some k
  | .rs k _ _ _ => some k
  | _ => none
theorem uT_tf (d : Option Nat) (e : Eff) (T : TF) (h : ∀ k x, e ≠ .c k x) : (fun t => (uT d e t).getD (T t)) = e.tf d T := by
  funext t
  cases e with
  | c k x => exact absurd rfl (h k x)
  | r x => unfold uT Eff.tf; dsimp only; split <;> rfl
  | a U cs sl => unfold uT Eff.tf; dsimp only; split <;> rfl
  | s k U cs => unfold uT Eff.tf; dsimp only; split <;> rfl
  | rs k U cs x => unfold uT Eff.tf; dsimp only; split <;> rfl
  | skip => unfold uT Eff.tf; dsimp only; split <;> rfl
theorem uB_bf (d : Option Nat) (e : Eff) (B : BF) (h : ∀ k x, e ≠ .c k x) : (fun k => (uB d e k).getD (B k)) = e.bf d B := by
  funext k
  cases e with
  | a U cs sl => unfold uB Eff.bf; dsimp only; split <;> rfl
  | s l U cs => unfold uB Eff.bf; dsimp only; split <;> rfl
  | rs l U cs x => unfold uB Eff.bf; dsimp only; split <;> rfl
  | r x => rfl
  | c k x => exact absurd rfl (h k x)
  | skip => rfl
theorem uB_some (d : Option Nat) (e : Eff) (k : Nat) : uB d e k ≠ some none := by
  unfold uB
  split
  · split <;> simp
  · split <;> simp
  · split <;> simp
  · simp
theorem uB_who {d : Option Nat} {e : Eff} {k : Nat} (h : uB d e k ≠ none) : (∃ U cs sl, e = .a U cs sl ∧ d = some k) ∨ (∃ U cs, e = .s k U cs) ∨ ∃ U cs x, e = .rs k U cs x := by
  unfold uB at h
  split at h
  · split at h
    · rename_i U cs sl hd; exact .inl ⟨U, cs, sl, rfl, hd⟩
    · exact absurd rfl h
  · split at h
    · rename_i l U cs hl; subst hl; exact .inr (.inl ⟨U, cs, rfl⟩)
    · exact absurd rfl h
  · split at h
    · rename_i l U cs x hl; subst hl; exact .inr (.inr ⟨U, cs, x, rfl⟩)
    · exact absurd rfl h
  · exact absurd rfl h
structure Sq where
  st : St
  nb : List (Nat × TypeId × List CellD)
  sd : List Nat
def Sq.M (s : Sq) : BF := fun k => look k (s.nb ++ s.st.bx)
def killL (k : Nat) : List (Nat × DV) → List (Nat × DV)
  | [] => []
  | (t, y) :: r => (t, match refs y with | some l => bif Nat.beq l k then .n else y | none => y) :: killL k r
def dropL (k : Nat) : List (Nat × TypeId × List CellD) → List (Nat × TypeId × List CellD)
  | [] => []
  | (l, c) :: r => bif Nat.beq l k then dropL k r else (l, c) :: dropL k r
def St.app (σ : St) : Option Nat → Eff → St
  | some d, .r x => { σ with tm := (d, x) :: σ.tm }
  | some d, .a U cs sl => { σ with tm := (d, newD sl d) :: σ.tm, bx := (d, U, cs) :: σ.bx }
  | some d, .skip => { σ with tm := (d, .u) :: σ.tm }
  | some d, .s k U cs => { σ with tm := (d, .u) :: σ.tm, bx := (k, U, cs) :: σ.bx }
  | none, .s k U cs => { σ with bx := (k, U, cs) :: σ.bx }
  | some d, .rs k U cs x => { σ with tm := (d, x) :: σ.tm, bx := (k, U, cs) :: σ.bx }
  | none, .rs k U cs _x => { σ with bx := (k, U, cs) :: σ.bx }
  | some d, .c k x => { σ with tm := (d, x) :: killL k σ.tm, bx := dropL k σ.bx }
  | none, .c k _x => { σ with tm := killL k σ.tm, bx := dropL k σ.bx }
  | none, _ => σ
def Sq.app (s : Sq) : Option Nat → Eff → Sq
  | some d, .a U cs sl => ⟨{ s.st with tm := (d, newD sl d) :: s.st.tm }, (d, U, cs) :: s.nb, s.sd⟩
  | some d, .s k U cs => ⟨{ s.st with tm := (d, .u) :: s.st.tm }, (k, U, cs) :: s.nb, k :: s.sd⟩
  | none, .s k U cs => ⟨s.st, (k, U, cs) :: s.nb, k :: s.sd⟩
  | some d, .rs k U cs x => ⟨{ s.st with tm := (d, x) :: s.st.tm }, (k, U, cs) :: s.nb, s.sd⟩
  | none, .rs k U cs _x => ⟨s.st, (k, U, cs) :: s.nb, s.sd⟩
  | d, e => ⟨s.st.app d e, s.nb, s.sd⟩
theorem look_cons {α : Type} (k t : Nat) (x : α) (r : List (Nat × α)) : look t ((k, x) :: r) = if k = t then some x else look t r := by
  show (bif Nat.beq k t then some x else look t r) = _
  by_cases h : k = t
  · subst h; simp
  · have : Nat.beq k t = false := by
      cases hb : Nat.beq k t with
      | false => rfl
      | true => exact absurd (Nat.eq_of_beq_eq_true hb) h
    rw [this, if_neg h]; rfl
theorem killL_look (k t : Nat) : ∀ (l : List (Nat × DV)), look t (killL k l) = match look t l with | some y => if refs y = some k then some .n else some y | none => none
  | [] => rfl
  | (s, y) :: r => by
    unfold killL
    rw [look_cons, look_cons]
    split
    · show some _ = (if refs y = some k then some DV.n else some y)
      cases hr : refs y with
      | none => simp
      | some l =>
        dsimp only
        cases hb : Nat.beq l k with
        | true => rw [if_pos (by rw [Nat.eq_of_beq_eq_true hb])]; rfl
        | false => rw [if_neg (fun e => by injection e with e; subst e; rw [Nat.beq_refl] at hb; cases hb)]; rfl
    · exact killL_look k t r
theorem dropL_look (k l : Nat) : ∀ (r : List (Nat × TypeId × List CellD)), look l (dropL k r) = if l = k then none else look l r
  | [] => by simp [dropL, look]
  | (m, c) :: r => by
    unfold dropL
    rw [look_cons]
    cases hb : Nat.beq m k with
    | true =>
      have := Nat.eq_of_beq_eq_true hb
      subst this
      show look l (dropL m r) = _
      rw [dropL_look m l r]
      by_cases e : l = m
      · rw [if_pos e, if_pos e]
      · rw [if_neg e, if_neg e, if_neg (Ne.symm e)]
    | false =>
      have hne : m ≠ k := fun e => by subst e; rw [Nat.beq_refl] at hb; cases hb
      show look l ((m, c) :: dropL k r) = _
      rw [look_cons, dropL_look k l r]
      by_cases e : m = l
      · subst e; rw [if_pos rfl, if_neg hne, if_pos rfl]
      · rw [if_neg e, if_neg e]
theorem app_T (σ : St) (d : Option Nat) (e : Eff) : (σ.app d e).T = e.tf d σ.T := by
  funext t
  cases e with
  | c k x =>
    cases d with
    | none =>
      simp [St.app, St.T, Eff.tf, killF, killL_look]
      try (generalize look t σ.tm = q; cases q <;> rfl)
    | some d =>
      simp [St.app, St.T, Eff.tf, killF, killL_look, look_cons]
      try (generalize look t σ.tm = q; cases q <;> rfl)
  | _ =>
  unfold Eff.tf
  dsimp only
  cases d with
  | none => simp [St.app, St.T]
  | some d =>
    by_cases h : d = t
    · subst h; simp [St.app, St.T, look_cons, ent]
    · have h' : ¬ (some d = some t) := by simpa using h
      rw [if_neg h']
      simp [St.app, St.T, look_cons, h]
theorem app_B (σ : St) (d : Option Nat) (e : Eff) : (σ.app d e).B = e.bf d σ.B := by
  funext k
  cases d with
  | none => cases e <;> simp [St.app, St.B, Eff.bf, look_cons, dropL_look]
  | some d => cases e <;> simp [St.app, St.B, Eff.bf, look_cons, dropL_look]
theorem sapp_T (s : Sq) (d : Option Nat) (e : Eff) : (s.app d e).st.T = e.tf d s.st.T := by
  cases d with
  | none =>
    cases e with
    | a U cs sl => exact app_T s.st none (.a U cs sl)
    | r x => exact app_T s.st none (.r x)
    | s k U cs => exact app_T s.st none (.s k U cs)
    | c k x => exact app_T s.st none (.c k x)
    | rs k U cs x => exact app_T s.st none (.rs k U cs x)
    | skip => exact app_T s.st none .skip
  | some d =>
    cases e with
    | a U cs sl => exact app_T s.st (some d) (.a U cs sl)
    | r x => exact app_T s.st (some d) (.r x)
    | s k U cs => exact app_T s.st (some d) (.s k U cs)
    | c k x => exact app_T s.st (some d) (.c k x)
    | rs k U cs x => exact app_T s.st (some d) (.rs k U cs x)
    | skip => exact app_T s.st (some d) .skip
theorem sapp_B (s : Sq) (d : Option Nat) (e : Eff) (hc : ∀ k x, e ≠ .c k x) : (s.app d e).st.B = s.st.B := by
  cases d with
  | none => cases e <;> first | rfl | exact absurd rfl (hc _ _)
  | some d => cases e <;> first | rfl | exact absurd rfl (hc _ _)
theorem sapp_M (s : Sq) (d : Option Nat) (e : Eff) (hc : ∀ k x, e ≠ .c k x) : (s.app d e).M = e.bf d s.M := by
  funext k
  cases e with
  | c k x => exact absurd rfl (hc k x)
  | s l U cs =>
    have : (s.app d (.s l U cs)).M k = look k ((l, U, cs) :: (s.nb ++ s.st.bx)) := by cases d <;> rfl
    rw [this, look_cons]
    rfl
  | rs l U cs x =>
    have : (s.app d (.rs l U cs x)).M k = look k ((l, U, cs) :: (s.nb ++ s.st.bx)) := by cases d <;> rfl
    rw [this, look_cons]
    rfl
  | a U cs sl => cases d <;> (simp [Sq.app, St.app, Sq.M, Eff.bf, look_cons])
  | r x => cases d <;> (simp [Sq.app, St.app, Sq.M, Eff.bf])
  | skip => cases d <;> (simp [Sq.app, St.app, Sq.M, Eff.bf])
theorem sapp_n (s : Sq) (d : Option Nat) (e : Eff) : (s.app d e).st.n = s.st.n := by
  cases d <;> cases e <;> rfl
theorem app_n (σ : St) (d : Option Nat) (e : Eff) : (σ.app d e).n = σ.n := by
  cases d <;> cases e <;> rfl
def GSem (P : Program) (ops : Array Oper) (o : Oper) (σ : St) (F : St → Prop) : Prop := ∀ av w0 β a w, Rel av w0 σ.n σ.T σ.B β a w → (∀ t, o.dst = some t → t < σ.n) →
  want o ops a = true ∧ Gives P o a w fun v w' => ∃ σ' β', F σ' ∧ σ'.n = σ.n ∧ Rel av w0 σ.n σ'.T σ'.B β' (a.put o.dst v) w'
def dl (P : Program) (ops : Array Oper) : List Oper → St → (St → Prop) → Prop
  | [], σ, K => K σ
  | o :: os, σ, K => (∃ e, Sem P ops o σ.T σ.B e ∧ (∀ U cs sl, e = .a U cs sl → ∃ d, o.dst = some d ∧ σ.B d = none) ∧ dl P ops os (σ.app o.dst e) K) ∨ ∃ F : St → Prop, GSem P ops o σ F ∧ ∀ σ', F σ' → dl P ops os σ' K
def hid (hs : List Nat) (B : BF) : BF := fun k => bif hs.any (Nat.beq k) then none else B k
def seeB (hs : List Nat) (B M : BF) : Eff → BF
  | .s k _ _ => fun l => bif Nat.beq l k then M l else hid hs B l
  | .rs k _ _ _ => fun l => bif Nat.beq l k then M l else hid hs B l
  | _ => hid hs B
def isCall (o : Oper) : Bool := match o.op with
  | .call _ => true
  | _ => false
def binding (o : Oper) : List Nat := (o.after.toList.filter (Region.binds .any)).map (·.on)
def chainB (ops : Array Oper) : Bool :=
  (List.range ops.size).all fun j => match ops[j]? with
    | none => false
    | some p => !isCall p || (List.range j).all fun i => match ops[i]? with
      | none => false
      | some o => !isCall o || (binding p).any (Nat.beq i) || (List.range j).any fun q => Nat.blt i q && match ops[q]? with
        | none => false
        | some oq => isCall oq && (binding p).any (Nat.beq q)
def rsOk (ops : Array Oper) (hs : List Nat) (os : List Oper) (o : Oper) (B : BF) (sd : List Nat) (e : Eff) : Prop :=
  ∀ k U cs x, e = .rs k U cs x → hs.any (Nat.beq k) = true ∧ B k ≠ none ∧ k ∉ sd ∧ os.all (fun o => o.dst.isSome) = true ∧ isCall o = true ∧ chainB ops = true
def mayW (o : Oper) : Bool := match o.op with
  | .store .. => true
  | .call _ => true
  | _ => false
def visO (ops : Array Oper) (o : Oper) : Bool := match o.dst with
  | none => false
  | some d => (List.range ops.size).all fun i => match ops[i]? with
    | none => false
    | some p => !(match p.dst with | none => false | some d' => Nat.beq d' d) || (List.range ops.size).all fun j => match ops[j]? with
      | none => false
      | some q => !mayW q || (binding q).any (Nat.beq i)
theorem vis_at {ops : Array Oper} {o q : Oper} {i j : Nat} (h : visO ops o = true) (ho : ops[i]? = some o) (hq : ops[j]? = some q) (hw : mayW q = true) : i ∈ binding q := by
  unfold visO at h
  cases hd : o.dst with
  | none => rw [hd] at h; cases h
  | some d =>
    rw [hd] at h
    have h1 := List.all_eq_true.1 h i (List.mem_range.2 (Array.getElem?_eq_some_iff.1 ho).1)
    rw [ho] at h1
    dsimp only at h1
    rw [hd] at h1
    dsimp only at h1
    rw [Nat.beq_refl] at h1
    simp only [Bool.not_true, Bool.false_or] at h1
    have h2 := List.all_eq_true.1 h1 j (List.mem_range.2 (Array.getElem?_eq_some_iff.1 hq).1)
    rw [hq] at h2
    dsimp only at h2
    rw [hw] at h2
    simp only [Bool.not_true, Bool.false_or, List.any_eq_true] at h2
    obtain ⟨x, hx, h3⟩ := h2
    rw [Nat.eq_of_beq_eq_true h3]; exact hx
theorem call_mayW {o : Oper} (h : isCall o = true) : mayW o = true := by
  unfold isCall at h
  unfold mayW
  split at h
  · rename_i e; rw [e]
  · cases h
def SemQ (P : Program) (ops : Array Oper) (hs : List Nat) (o : Oper) (T : TF) (B M : BF) (e : Eff) : Prop := Sem P ops o T (seeB hs B M e) e ∨ (visO ops o = true ∧ (∃ x, e = .r x) ∧ Sem P ops o T B e)
def dq (P : Program) (ops : Array Oper) (hs : List Nat) : List Oper → Sq → (Sq → Prop) → Prop
  | [], s, K => K s
  | o :: os, s, K => ∃ e, SemQ P ops hs o s.st.T s.st.B s.M e ∧ (∀ k x, e ≠ .c k x) ∧ (∀ k U cs, e = .s k U cs → hs.any (Nat.beq k) = true ∧ (s.st.B k ≠ none ∨ k ∈ o.looksAt ops) ∧ k ∉ s.sd ∧ mayW o = true) ∧ rsOk ops hs os o s.st.B s.sd e ∧ (∀ U cs sl, e = .a U cs sl → ∃ d, o.dst = some d ∧ s.M d = none) ∧ dq P ops hs os (s.app o.dst e) K
def uTs (l : List Oper) (es : List Eff) := List.zipWith (fun (o : Oper) e => uT o.dst e) l es
def uBs (l : List Oper) (es : List Eff) := List.zipWith (fun (o : Oper) e => uB o.dst e) l es
theorem sapp_sd (s : Sq) (d : Option Nat) (e : Eff) (k : Nat) (h : k ∉ (s.app d e).sd) : k ∉ s.sd := by
  cases d <;> cases e <;> first | exact h | exact fun hk => h (List.mem_cons_of_mem _ hk)
theorem dq_split {P : Program} {ops : Array Oper} {hs : List Nat} {K : Sq → Prop} : ∀ (l : List Oper) (s : Sq), dq P ops hs l s K → ∃ es : List Eff, es.length = l.length ∧
    (∀ (i : Nat) (o : Oper) (e : Eff), l[i]? = some o → es[i]? = some e → SemQ P ops hs o (upf (fun j => decide (j < i)) 0 (uTs l es) s.st.T) s.st.B (upf (fun j => decide (j < i)) 0 (uBs l es) s.M) e ∧ (∀ k x, e ≠ .c k x) ∧ (∀ k U cs, e = .s k U cs → hs.any (Nat.beq k) = true ∧ (s.st.B k ≠ none ∨ k ∈ o.looksAt ops) ∧ k ∉ s.sd ∧ mayW o = true) ∧
      (∀ k U cs x, e = .rs k U cs x → hs.any (Nat.beq k) = true ∧ s.st.B k ≠ none ∧ k ∉ s.sd ∧ isCall o = true ∧ chainB ops = true) ∧
      (∀ U cs sl, e = .a U cs sl → ∃ d, o.dst = some d ∧ upf (fun j => decide (j < i)) 0 (uBs l es) s.M d = none)) ∧
    (∀ (i j : Nat) k U cs U' cs', es[i]? = some (.s k U cs) → es[j]? = some (.s k U' cs') → i = j) ∧
    (∀ (i j : Nat) k U cs U' cs' x, es[i]? = some (.s k U cs) → es[j]? = some (.rs k U' cs' x) → False) ∧
    ∃ s' : Sq, s'.st.n = s.st.n ∧ s'.st.T = upf (fun _ => true) 0 (uTs l es) s.st.T ∧ s'.M = upf (fun _ => true) 0 (uBs l es) s.M ∧ K s'
  | [], s, h => ⟨[], rfl, fun i o e ho => by simp at ho, fun i j k U cs U' cs' h => by simp at h, fun i j k U cs U' cs' x h => by simp at h, s, rfl, rfl, rfl, h⟩
  | o :: l, s, h => by
    obtain ⟨e, hsm, hce, hn, hrs, ha, h⟩ := h
    obtain ⟨es, hl, hall, hdis, hmix, s', h1, h2, h3, h4⟩ := dq_split l _ h
    refine ⟨e :: es, by simp [hl], ?_, ?_, ?_, s', h1.trans (sapp_n _ _ _), ?_, ?_, h4⟩
    · intro i o' e' ho he
      cases i with
      | zero =>
        simp at ho he
        subst ho he
        refine ⟨?_, hce, hn, fun k U cs x he => ⟨(hrs k U cs x he).1, (hrs k U cs x he).2.1, (hrs k U cs x he).2.2.1, (hrs k U cs x he).2.2.2.2⟩, ?_⟩
        · rw [show upf (fun j => decide (j < 0)) 0 (uTs (o :: l) (e :: es)) s.st.T = s.st.T from funext fun t => upf_none _ _ _ (fun j u _ hm => by simp at hm), show upf (fun j => decide (j < 0)) 0 (uBs (o :: l) (e :: es)) s.M = s.M from funext fun t => upf_none _ _ _ (fun j u _ hm => by simp at hm)]
          exact hsm
        · rw [show upf (fun j => decide (j < 0)) 0 (uBs (o :: l) (e :: es)) s.M = s.M from funext fun t => upf_none _ _ _ (fun j u _ hm => by simp at hm)]
          exact ha
      | succ i =>
        have := hall i o' e' (by simpa using ho) (by simpa using he)
        have e1 : upf (fun j => decide (j < i + 1)) 0 (uTs (o :: l) (e :: es)) s.st.T = upf (fun j => decide (j < i)) 0 (uTs l es) (s.app o.dst e).st.T := by
          show upf (fun j => decide (j < i + 1)) (0 + 1) (uTs l es) (if decide (0 < i + 1) = true then (fun t => (uT o.dst e t).getD (s.st.T t)) else s.st.T) = _
          rw [upf_shift, sapp_T, ← uT_tf _ _ _ hce]
          simp
        have e2 : upf (fun j => decide (j < i + 1)) 0 (uBs (o :: l) (e :: es)) s.M = upf (fun j => decide (j < i)) 0 (uBs l es) (s.app o.dst e).M := by
          show upf (fun j => decide (j < i + 1)) (0 + 1) (uBs l es) (if decide (0 < i + 1) = true then (fun t => (uB o.dst e t).getD (s.M t)) else s.M) = _
          rw [upf_shift, sapp_M _ _ _ hce, ← uB_bf _ _ _ hce]
          simp
        rw [sapp_B _ _ _ hce, ← e1, ← e2] at this
        exact ⟨this.1, this.2.1, fun k U cs he => ⟨(this.2.2.1 k U cs he).1, (this.2.2.1 k U cs he).2.1, sapp_sd s o.dst e k (this.2.2.1 k U cs he).2.2.1, (this.2.2.1 k U cs he).2.2.2⟩, fun k U cs x he => ⟨(this.2.2.2.1 k U cs x he).1, (this.2.2.2.1 k U cs x he).2.1, sapp_sd s o.dst e k (this.2.2.2.1 k U cs x he).2.2.1, (this.2.2.2.1 k U cs x he).2.2.2⟩, this.2.2.2.2⟩
    · intro i j k U cs U' cs' hi hj
      have hnot : ∀ (j : Nat) U' cs', es[j]? = some (.s k U' cs') → e ≠ .s k U cs ∧ ∀ U cs, e ≠ .s k U cs := by
        intro j U' cs' hj
        have hjl : j < l.length := by rw [← hl]; exact (List.getElem?_eq_some_iff.1 hj).1
        have h5 := (hall j l[j] _ (List.getElem?_eq_getElem hjl) hj).2.2.1 k U' cs' rfl
        have h6 : ∀ U cs, e ≠ .s k U cs := by
          intro U cs he
          subst he
          exact h5.2.2.1 (by cases o.dst <;> exact List.mem_cons_self ..)
        exact ⟨h6 U cs, h6⟩
      cases i with
      | zero =>
        cases j with
        | zero => rfl
        | succ j => simp at hi hj; exact absurd hi (hnot j U' cs' hj).1
      | succ i =>
        cases j with
        | zero => simp at hi hj; exact absurd hj ((hnot i U cs hi).2 U' cs')
        | succ j => simp at hi hj; rw [hdis i j k U cs U' cs' hi hj]
    · intro i j k U cs U' cs' x hi hj
      cases i with
      | zero =>
        simp at hi
        cases j with
        | zero => simp at hj; rw [hi] at hj; cases hj
        | succ j =>
          simp at hj
          subst hi
          have hjl : j < l.length := by rw [← hl]; exact (List.getElem?_eq_some_iff.1 hj).1
          have h5 := (hall j l[j] _ (List.getElem?_eq_getElem hjl) hj).2.2.2.1 k U' cs' x rfl
          exact h5.2.2.1 (by cases o.dst <;> exact List.mem_cons_self ..)
      | succ i =>
        simp at hi
        cases j with
        | zero =>
          simp at hj
          have hil : i < l.length := by rw [← hl]; exact (List.getElem?_eq_some_iff.1 hi).1
          have h5 := (hall i l[i] _ (List.getElem?_eq_getElem hil) hi).1
          have h6 : (l[i]).dst = none := by
            rcases h5 with h5 | ⟨_, ⟨x, hx⟩, _⟩
            · exact h5.1
            · cases hx
          have h7 := (hrs k U' cs' x hj).2.2.2.1
          have h8 := List.all_eq_true.1 h7 l[i] (List.getElem_mem hil)
          rw [h6] at h8; cases h8
        | succ j => simp at hj; exact hmix i j k U cs U' cs' x hi hj
    · rw [h2, sapp_T, ← uT_tf _ _ _ hce]
      show _ = upf (fun _ => true) (0 + 1) (uTs l es) (if true = true then (fun t => (uT o.dst e t).getD (s.st.T t)) else s.st.T)
      rw [upf_shift]; simp
    · rw [h3, sapp_M _ _ _ hce, ← uB_bf _ _ _ hce]
      show _ = upf (fun _ => true) (0 + 1) (uBs l es) (if true = true then (fun t => (uB o.dst e t).getD (s.M t)) else s.M)
      rw [upf_shift]; simp
theorem upf_isSome {γ : Type} {mask : Nat → Bool} {t : Nat} : ∀ (us : List (Nat → Option (Option γ))) (k : Nat) (F : Nat → Option γ), F t ≠ none → (∀ u ∈ us, u t ≠ some none) → upf mask k us F t ≠ none
  | [], _, _, h, _ => h
  | u :: us, k, F, h, hu => by
    refine upf_isSome us (k + 1) _ ?_ (fun u' hu' => hu u' (List.mem_cons_of_mem _ hu'))
    split
    · show (u t).getD (F t) ≠ none
      cases he : u t with
      | none => exact h
      | some x =>
        cases x with
        | none => exact absurd he (hu u (List.mem_cons_self ..))
        | some y => simp
    · exact h
theorem list_of_dl {P : Program} {ops : Array Oper} {Q : Exit → Act → World → Prop} {av : Nat → Prop} {w0 : Ent} {K : St → Prop} : ∀ (l : List Oper) (σ : St) (β : Nat → Nat) (a : Act) (w : World),
    (∀ o ∈ l, ∀ t, o.dst = some t → t < σ.n) → dl P ops l σ K → Rel av w0 σ.n σ.T σ.B β a w → (∀ σ' β' a' w', σ'.n = σ.n → K σ' → Rel av w0 σ'.n σ'.T σ'.B β' a' w' → Q .normal a' w') → wpList P ops Q l a w
  | [], σ, β, a, w, _, hd, hr, hq => hq σ β a w rfl hd hr
  | o :: l, σ, β, a, w, hn, hd, hr, hq => by
    rcases hd with ⟨e, hs, ha, hd⟩ | ⟨F, hs, hd⟩
    · refine hr.step hs (fun t ht => hn o (by simp) t ht) (fun _ _ _ h => h) (fun _ _ h => h) ha (fun β' a' w' hr' => ?_)
      refine list_of_dl l (σ.app o.dst e) β' a' w' (fun o' ho' t ht => by rw [app_n]; exact hn o' (by simp [ho']) t ht) hd ?_ (fun σ' β' a' w' h1 h2 h3 => hq σ' β' a' w' (by rw [h1, app_n]) h2 h3)
      rw [app_n, app_T, app_B]; exact hr'
    · obtain ⟨hw, hg⟩ := hs av w0 β a w hr (fun t ht => hn o (by simp) t ht)
      unfold wpList
      rw [if_pos hw]
      refine .inl (hg.wp fun v w' ⟨σ', β', hF, hn', hr'⟩ => ?_)
      exact list_of_dl l σ' β' _ w' (fun o' ho' t ht => by rw [hn']; exact hn o' (by simp [ho']) t ht) (hd σ' hF) (by rw [hn']; exact hr') (fun σ'' β' a' w' h1 h2 h3 => hq σ'' β' a' w' (by rw [h1, hn']) h2 h3)
def listedAt (N k : Nat) : Array Bool := ((List.range N).map (fun i => Nat.blt i k)).toArray
def chkR (ops : Array Oper) (m n : Nat) : Bool :=
  Nat.ble m ops.size &&
  ((List.range ops.size).all fun i => match ops[i]? with
    | none => false
    | some o => (binding o).all (fun j => Nat.blt j i) && (match o.dst with | none => true | some d => Nat.blt d n)) &&
  ((List.range m).all fun i => match ops[i]? with
    | none => false
    | some o => (List.range m).all fun j => Nat.beq i j || match ops[j]? with
      | none => false
      | some p => match p.dst with
        | none => true
        | some d => (match o.dst with | none => true | some d' => !Nat.beq d' d) && (!(o.looksAt ops).any (Nat.beq d) || (binding o).any (Nat.beq j) || (binding p).any (Nat.beq i))) &&
  ((List.range ops.size).all fun t => Nat.blt t m || match ops[t]? with
    | none => false
    | some o => (binding o).any (fun j => Nat.ble m j) || (List.range m).all fun p => (binding o).any (Nat.beq p) || (List.range m).any fun q => Nat.blt p q && match ops[q]? with
      | none => false
      | some oq => (binding oq).any (Nat.beq p)) &&
  ((List.range ops.size).all fun k => Nat.blt k m || (match Region.ready .any ops (listedAt ops.size k) with | [j] => Nat.beq j k | _ => false))
structure Chk (ops : Array Oper) (m n : Nat) : Prop where
  le : m ≤ ops.size
  low : ∀ (i : Nat) (o : Oper) (j : Nat), ops[i]? = some o → j ∈ binding o → j < i
  dn : ∀ (i : Nat) (o : Oper) (t : Nat), ops[i]? = some o → o.dst = some t → t < n
  dist : ∀ (i j : Nat) (o p : Oper) (d : Nat), i < m → j < m → ops[i]? = some o → ops[j]? = some p → o.dst = some d → p.dst = some d → i = j
  dep : ∀ (i j : Nat) (o p : Oper) (d : Nat), i < m → j < m → i ≠ j → ops[i]? = some o → ops[j]? = some p → p.dst = some d → d ∈ o.looksAt ops → j ∈ binding o ∨ i ∈ binding p
  tl : ∀ (t : Nat) (o : Oper), m ≤ t → ops[t]? = some o → (∃ j, j ∈ binding o ∧ m ≤ j) ∨ ∀ p, p < m → p ∈ binding o ∨ ∃ (q : Nat) (oq : Oper), p < q ∧ q < m ∧ ops[q]? = some oq ∧ p ∈ binding oq
  rdy : ∀ k : Nat, m ≤ k → k < ops.size → Region.ready .any ops (listedAt ops.size k) = [k]
theorem any_beq {l : List Nat} {d : Nat} : l.any (Nat.beq d) = true ↔ d ∈ l := by
  simp only [List.any_eq_true]
  constructor
  · rintro ⟨x, hx, h⟩; rw [Nat.eq_of_beq_eq_true h]; exact hx
  · exact fun h => ⟨d, h, Nat.beq_refl d⟩
theorem blt_iff {a b : Nat} : Nat.blt a b = true ↔ a < b := by simp [Nat.blt, Nat.ble_eq, Nat.lt_iff_add_one_le]
theorem Chk.of {ops : Array Oper} {m n : Nat} (h : chkR ops m n = true) : Chk ops m n := by
  unfold chkR at h
  simp only [Bool.and_eq_true, List.all_eq_true, List.mem_range] at h
  obtain ⟨⟨⟨⟨h1, h2⟩, h3⟩, h4⟩, h5⟩ := h
  have hlt : ∀ {i : Nat} {o : Oper}, ops[i]? = some o → i < ops.size := fun h => (Array.getElem?_eq_some_iff.1 h).1
  refine ⟨Nat.le_of_ble_eq_true h1, ?_, ?_, ?_, ?_, ?_, ?_⟩
  · intro i o j ho hj
    have := h2 i (hlt ho)
    rw [ho] at this
    simp only [Bool.and_eq_true, List.all_eq_true] at this
    exact blt_iff.1 (this.1 j hj)
  · intro i o t ho ht
    have := h2 i (hlt ho)
    rw [ho] at this
    simp only [Bool.and_eq_true, ht] at this
    exact blt_iff.1 this.2
  · intro i j o p d hi hj ho hp hd he
    have := h3 i hi
    rw [ho] at this
    simp only [List.all_eq_true, List.mem_range] at this
    have := this j hj
    rw [hp] at this
    simp only [he, hd, Bool.or_eq_true, Bool.and_eq_true] at this
    rcases this with h | h
    · exact Nat.eq_of_beq_eq_true h
    · have := h.1; rw [Nat.beq_refl] at this; cases this
  · intro i j o p d hi hj hne ho hp hd he
    have := h3 i hi
    rw [ho] at this
    simp only [List.all_eq_true, List.mem_range] at this
    have := this j hj
    rw [hp] at this
    simp only [hd, Bool.or_eq_true, Bool.and_eq_true] at this
    rcases this with h | h
    · exact absurd (Nat.eq_of_beq_eq_true h) hne
    · rcases h.2 with (h | h) | h
      · rw [any_beq.2 he] at h; cases h
      · exact .inl (any_beq.1 h)
      · exact .inr (any_beq.1 h)
  · intro t o ht ho
    have := h4 t (hlt ho)
    rw [ho] at this
    simp only [Bool.or_eq_true, List.all_eq_true, List.any_eq_true, List.mem_range, Bool.and_eq_true] at this
    rcases this with h | h | h
    · have := blt_iff.1 h; omega
    · obtain ⟨j, hj, h⟩ := h; exact .inl ⟨j, hj, Nat.le_of_ble_eq_true h⟩
    · refine .inr fun p hp => ?_
      rcases h p hp with h | ⟨q, hq, h, h'⟩
      · obtain ⟨x, hx, hb⟩ := h; rw [Nat.eq_of_beq_eq_true hb]; exact .inl hx
      · cases ho' : ops[q]? with
        | none => rw [ho'] at h'; cases h'
        | some oq =>
          rw [ho'] at h'
          exact .inr ⟨q, oq, blt_iff.1 h, hq, ho', any_beq.1 h'⟩
  · intro k hk hks
    have := h5 k hks
    simp only [Bool.or_eq_true] at this
    rcases this with h | h
    · have := blt_iff.1 h; omega
    · generalize Region.ready .any ops (listedAt ops.size k) = r at h
      match r, h with
      | [j], h => rw [Nat.eq_of_beq_eq_true h]
theorem listedAt_get (N k i : Nat) (d : Bool) (hi : i < N) : (listedAt N k).getD i d = Nat.blt i k := by
  unfold listedAt
  simp [hi]
theorem listedAt_set {N k : Nat} (_h : k < N) : (listedAt N k).setIfInBounds k true = listedAt N (k + 1) := by
  apply Array.ext (by simp [listedAt])
  intro i h1 h2
  simp [listedAt] at h1 h2 ⊢
  rw [List.getElem_set]
  split
  · rename_i e; subst e; simp
  · simp only [List.getElem_map, List.getElem_range]
    rw [Bool.eq_iff_iff, blt_iff, blt_iff]; omega
theorem mem_binding {o : Oper} {e : Edge} (h : e ∈ o.after) (hb : Region.binds .any e = true) : e.on ∈ binding o :=
  List.mem_map.2 ⟨e, List.mem_filter.2 ⟨Array.mem_toList_iff.2 h, hb⟩, rfl⟩
theorem of_binding {o : Oper} {j : Nat} (h : j ∈ binding o) : ∃ e ∈ o.after, Region.binds .any e = true ∧ e.on = j := by
  obtain ⟨e, he, h⟩ := List.mem_map.1 h
  obtain ⟨he, hb⟩ := List.mem_filter.1 he
  exact ⟨e, Array.mem_toList_iff.1 he, hb, h⟩
section
variable {P : Program} {ops : Array Oper} {Q : Exit → Act → World → Prop} {av : Nat → Prop} {w0 : Ent} {m n : Nat}
theorem any_tail (hc : Chk ops m n) {K : St → Prop} (hQ : ∀ σ' β a w, σ'.n = n → K σ' → Rel av w0 n σ'.T σ'.B β a w → Q .normal a w) : ∀ (l : List Oper) (k : Nat) (σ : St) (fuel : Nat) (β : Nat → Nat) (a : Act) (w : World),
    m ≤ k → (∀ j : Nat, l[j]? = ops[k + j]?) → k + l.length = ops.size → σ.n = n → dl P ops l σ K → Rel av w0 n σ.T σ.B β a w → l.length ≤ fuel → wpAny P .any ops Q fuel (listedAt ops.size k) a w
  | [], k, σ, fuel, β, a, w, _, _, hk, hn, hd, hr, _ => by
    refine wpAny_done ?_ (hQ σ β a w hn hd hr) fuel
    refine List.eq_nil_iff_forall_not_mem.2 fun j hj => ?_
    obtain ⟨h0, o, ho, _⟩ := mem_ready.1 hj
    have hjs := (Array.getElem?_eq_some_iff.1 ho).1
    rw [listedAt_get _ _ _ _ hjs] at h0
    have : Nat.blt j k = true := blt_iff.2 (by simp at hk; omega)
    rw [this] at h0; cases h0
  | o :: l, k, σ, 0, β, a, w, _, _, _, _, _, _, hf => by simp at hf
  | o :: l, k, σ, fuel + 1, β, a, w, hmk, hl, hk, hn, hd, hr, hf => by
    have ho : ops[k]? = some o := by have := hl 0; simpa using this.symm
    have hks : k < ops.size := (Array.getElem?_eq_some_iff.1 ho).1
    refine wpAny_all (hc.rdy k hmk hks) (by simp) ?_
    intro i hi
    obtain rfl : i = k := by simpa using hi
    rw [listedAt_set hks]
    unfold wpOp
    rw [ho]
    rcases hd with ⟨e, hs, ha, hd⟩ | ⟨F, hs, hd⟩
    · refine hr.step hs (fun t ht => hc.dn i o t ho ht) (fun _ _ _ h => h) (fun _ _ h => h) ha (fun β' a' w' hr' => ?_)
      refine any_tail hc hQ l (i + 1) (σ.app o.dst e) fuel β' a' w' (by omega) (fun j => by have := hl (j + 1); rw [show i + 1 + j = i + (j + 1) from by omega]; simpa using this) (by simp at hk; omega) (by rw [app_n]; exact hn) hd ?_ (by simpa using hf)
      rw [app_T, app_B]; exact hr'
    · obtain ⟨hw, hg⟩ := hs av w0 β a w (by rw [hn]; exact hr) (fun t ht => by rw [hn]; exact hc.dn i o t ho ht)
      refine (if_pos hw).mpr (.inl (hg.wp fun v w' ⟨σ', β', hF, hn', hr'⟩ => ?_))
      exact any_tail hc hQ l (i + 1) σ' fuel β' _ w' (by omega) (fun j => by have := hl (j + 1); rw [show i + 1 + j = i + (j + 1) from by omega]; simpa using this) (by simp at hk; omega) (by rw [hn', hn]) (hd σ' hF) (by rw [← hn]; exact hr') (by simpa using hf)
def unl (listed : Array Bool) : Nat := listed.toList.countP (fun b => !b)
theorem unl_set {listed : Array Bool} {i : Nat} (hi : i < listed.size) (h : listed.getD i true = false) : unl (listed.setIfInBounds i true) + 1 = unl listed := by
  have h0 : listed.toList[i]? = some false := by
    rw [Array.getElem?_toList, Array.getElem?_eq_getElem hi]
    simp [Array.getD, hi] at h
    simpa using h
  obtain ⟨hi', e⟩ := List.getElem?_eq_some_iff.1 h0
  unfold unl
  rw [Array.toList_setIfInBounds, List.countP_set hi']
  have hpos : 0 < listed.toList.countP (fun b => !b) := List.countP_pos_iff.2 ⟨false, List.mem_of_getElem? h0, rfl⟩
  rw [e]
  generalize listed.toList.countP (fun b => !b) = c at *
  simp only [Bool.not_false, Bool.not_true, if_true, Bool.false_eq_true, if_false]
  omega
theorem unl_pos {listed : Array Bool} {i : Nat} (hi : i < listed.size) (h : listed.getD i true = false) : 1 ≤ unl listed := by
  have := unl_set hi h; omega
theorem getD_or {listed : Array Bool} {i : Nat} (hi : i < listed.size) (d d' : Bool) : listed.getD i d = listed.getD i d' := by simp [Array.getD, hi]
theorem zip_get {γ : Type} (f : Oper → Eff → γ) {l : List Oper} {es : List Eff} {j : Nat} {u : γ} (h : (List.zipWith f l es)[j]? = some u) : ∃ o e, l[j]? = some o ∧ es[j]? = some e ∧ u = f o e := by
  rw [List.getElem?_zipWith] at h
  cases h1 : l[j]? with
  | none => rw [h1] at h; cases h
  | some o =>
    cases h2 : es[j]? with
    | none => rw [h1, h2] at h; cases h
    | some e => rw [h1, h2] at h; simp at h; exact ⟨o, e, rfl, rfl, h.symm⟩
theorem chain_at (hch : chainB ops = true) {i j : Nat} {o p : Oper} (hij : i < j) (ho : ops[i]? = some o) (hp : ops[j]? = some p) (hco : isCall o = true) (hcp : isCall p = true) :
    i ∈ binding p ∨ ∃ (q : Nat) (oq : Oper), i < q ∧ q < j ∧ ops[q]? = some oq ∧ isCall oq = true ∧ q ∈ binding p := by
  unfold chainB at hch
  have h1 := List.all_eq_true.1 hch j (List.mem_range.2 (Array.getElem?_eq_some_iff.1 hp).1)
  rw [hp] at h1
  dsimp only at h1
  rw [hcp] at h1
  simp only [Bool.not_true, Bool.false_or] at h1
  have h2 := List.all_eq_true.1 h1 i (List.mem_range.2 hij)
  rw [ho] at h2
  dsimp only at h2
  rw [hco] at h2
  simp only [Bool.not_true, Bool.false_or, Bool.or_eq_true] at h2
  rcases h2 with h2 | h2
  · exact .inl (any_beq.1 h2)
  · obtain ⟨q, hq, h3⟩ := List.any_eq_true.1 h2
    simp only [Bool.and_eq_true] at h3
    obtain ⟨h3, h4⟩ := h3
    cases hoq : ops[q]? with
    | none => rw [hoq] at h4; cases h4
    | some oq =>
      rw [hoq] at h4
      simp only [Bool.and_eq_true] at h4
      exact .inr ⟨q, oq, blt_iff.1 h3, List.mem_range.1 hq, hoq, h4.1, any_beq.1 h4.2⟩
theorem chain_down (hch : chainB ops = true) {listed : Array Bool} (hcl : ∀ i o j, listed.getD i false = true → ops[i]? = some o → j ∈ binding o → listed.getD j false = true) :
    ∀ (d j i : Nat) (o p : Oper), j ≤ d → i < j → ops[i]? = some o → ops[j]? = some p → isCall o = true → isCall p = true → listed.getD j false = true → listed.getD i false = true
  | 0, j, i, o, p, hd, hij, _, _, _, _, _ => by omega
  | d + 1, j, i, o, p, hd, hij, ho, hp, hco, hcp, hj => by
    rcases chain_at hch hij ho hp hco hcp with h | ⟨q, oq, h1, h2, h3, h4, h5⟩
    · exact hcl j p i hj hp h
    · exact chain_down hch hcl d q i o oq (by omega) h1 ho h3 hco h4 (hcl j p q hj hp h5)
theorem chain_low (hch : chainB ops = true) {listed : Array Bool} (hcl : ∀ i o j, listed.getD i false = true → ops[i]? = some o → j ∈ binding o → listed.getD j false = true)
    {j i : Nat} {o p : Oper} (hij : i < j) (ho : ops[i]? = some o) (hp : ops[j]? = some p) (hco : isCall o = true) (hcp : isCall p = true) (hae : ∀ q, q ∈ binding p → listed.getD q false = true) : listed.getD i false = true := by
  rcases chain_at hch hij ho hp hco hcp with h | ⟨q, oq, h1, h2, h3, h4, h5⟩
  · exact hae i h
  · exact chain_down hch hcl q q i o oq (Nat.le_refl _) h1 ho h3 hco h4 (hae q h5)
theorem any_pre (hc : Chk ops m n) {T0 : TF} {B0 M0 : BF} {hs : List Nat} {sd : List Nat} (hM : ∀ k c, B0 k = some c → M0 k = some c) {es : List Eff} (hes : es.length = m)
    (hdis : ∀ (i j : Nat) k U cs U' cs', es[i]? = some (.s k U cs) → es[j]? = some (.s k U' cs') → i = j)
    (hmix : ∀ (i j : Nat) k U cs U' cs' x, es[i]? = some (.s k U cs) → es[j]? = some (.rs k U' cs' x) → False)
    (hall : ∀ (i : Nat) (o : Oper) (e : Eff), (ops.toList.take m)[i]? = some o → es[i]? = some e → SemQ P ops hs o (upf (fun j => decide (j < i)) 0 (uTs (ops.toList.take m) es) T0) B0 (upf (fun j => decide (j < i)) 0 (uBs (ops.toList.take m) es) M0) e ∧ (∀ k x, e ≠ .c k x) ∧ (∀ k U cs, e = .s k U cs → hs.any (Nat.beq k) = true ∧ (B0 k ≠ none ∨ k ∈ o.looksAt ops) ∧ k ∉ sd ∧ mayW o = true) ∧
      (∀ k U cs x, e = .rs k U cs x → hs.any (Nat.beq k) = true ∧ B0 k ≠ none ∧ k ∉ sd ∧ isCall o = true ∧ chainB ops = true) ∧
      (∀ U cs sl, e = .a U cs sl → ∃ d, o.dst = some d ∧ upf (fun j => decide (j < i)) 0 (uBs (ops.toList.take m) es) M0 d = none))
    (hQ : ∀ β a w fuel, ops.size - m ≤ fuel → Rel av w0 n (upf (fun _ => true) 0 (uTs (ops.toList.take m) es) T0) (upf (fun _ => true) 0 (uBs (ops.toList.take m) es) M0) β a w → wpAny P .any ops Q fuel (listedAt ops.size m) a w) :
    ∀ (fuel : Nat) (listed : Array Bool) (β : Nat → Nat) (a : Act) (w : World), listed.size = ops.size → unl listed ≤ fuel →
      (∀ i o j, listed.getD i false = true → ops[i]? = some o → j ∈ binding o → listed.getD j false = true) → (∀ t, m ≤ t → listed.getD t false = false) →
      Rel av w0 n (upf (fun j => listed.getD j false) 0 (uTs (ops.toList.take m) es) T0) (upf (fun j => listed.getD j false) 0 (uBs (ops.toList.take m) es) M0) β a w → wpAny P .any ops Q fuel listed a w := by
  have hpre : ∀ {i : Nat} {o : Oper}, i < m → ops[i]? = some o → (ops.toList.take m)[i]? = some o := by
    intro i o hi ho
    rw [List.getElem?_take, if_pos hi, Array.getElem?_toList]; exact ho
  have hpre' : ∀ {i : Nat} {o : Oper}, (ops.toList.take m)[i]? = some o → i < m ∧ ops[i]? = some o := by
    intro i o h
    rw [List.getElem?_take] at h
    split at h
    · rename_i hi; rw [Array.getElem?_toList] at h; exact ⟨hi, h⟩
    · cases h
  have hbs : ∀ (t : Nat), ∀ u ∈ uBs (ops.toList.take m) es, u t ≠ some none := by
    intro t u hu
    obtain ⟨j, hj⟩ := List.getElem?_of_mem hu
    obtain ⟨o, e, _, _, rfl⟩ := zip_get _ hj
    exact uB_some _ _ _
  have hsM : ∀ (j : Nat) k U cs, es[j]? = some (.s k U cs) → M0 k ≠ none ∨ ∃ j0 o0 U0 cs0 sl0, j0 < m ∧ ops[j0]? = some o0 ∧ es[j0]? = some (.a U0 cs0 sl0) ∧ o0.dst = some k ∧ ∀ oj, ops[j]? = some oj → j0 ∈ binding oj := by
    intro j k U cs hj
    have hjm : j < m := by rw [← hes]; exact (List.getElem?_eq_some_iff.1 hj).1
    have hjs : j < ops.size := Nat.lt_of_lt_of_le hjm hc.le
    obtain ⟨hsem, _, hh, _⟩ := hall j ops[j] _ (hpre hjm (Array.getElem?_eq_getElem hjs)) hj
    obtain ⟨_, ⟨cs0, hb⟩, _⟩ := hsem.resolve_right (by rintro ⟨_, ⟨x, hx⟩, _⟩; cases hx)
    have hb : (bif Nat.beq k k then upf (fun j' => decide (j' < j)) 0 (uBs (ops.toList.take m) es) M0 k else hid hs B0 k) = some (U, cs0) := hb
    rw [Nat.beq_refl] at hb
    have hb : upf (fun j' => decide (j' < j)) 0 (uBs (ops.toList.take m) es) M0 k = some (U, cs0) := hb
    by_cases hM0 : M0 k = none
    · refine .inr ?_
      apply Classical.byContradiction
      intro hno
      rw [upf_none _ _ _ ?_, hM0] at hb
      · cases hb
      · intro j0 u hj0 hm0
        apply Classical.byContradiction
        intro hu
        apply hno
        obtain ⟨o0, e0, h1, h2, rfl⟩ := zip_get _ hj0
        have hlt : j0 < j := by simpa using hm0
        rcases uB_who hu with ⟨U0, cs0, sl0, rfl, hd⟩ | ⟨U0, cs0, rfl⟩ | ⟨U0, cs0, x0, rfl⟩
        · refine ⟨j0, o0, U0, cs0, sl0, (hpre' h1).1, (hpre' h1).2, h2, hd, fun oj hoj => ?_⟩
          have e3 : ops[j]? = some ops[j] := Array.getElem?_eq_getElem hjs
          rw [e3] at hoj; injection hoj with hoj
          rcases (hh k U cs rfl).2.1 with h3 | h3
          · exfalso
            cases hB : B0 k with
            | none => exact h3 hB
            | some c => rw [hM k c hB] at hM0; cases hM0
          · rcases hc.dep j j0 ops[j] o0 k hjm (hpre' h1).1 (by omega) e3 (hpre' h1).2 hd h3 with h4 | h4
            · rw [← hoj]; exact h4
            · have := hc.low j0 o0 j (hpre' h1).2 h4; omega
        · have := hdis j0 j k U0 cs0 U cs h2 hj
          omega
        · exact (hmix j j0 k U cs U0 cs0 x0 hj h2).elim
    · exact .inl hM0
  have hlen : (ops.toList.take m).length = m := by have := hc.le; rw [List.length_take, Array.length_toList]; omega
  intro fuel
  induction fuel with
  | zero =>
    intro listed β a w hsz hu hcl hp hr
    have hm : m = ops.size := by
      rcases Nat.lt_or_ge m ops.size with h | h
      · have := unl_pos (listed := listed) (i := m) (by omega) (by rw [getD_or (by omega) true false]; exact hp m (Nat.le_refl _)); omega
      · exact Nat.le_antisymm hc.le h
    have hl : ∀ i, i < m → listed.getD i false = true := fun i hi => by
      cases h : listed.getD i false with
      | true => rfl
      | false => have := unl_pos (listed := listed) (i := i) (by omega) (by rw [getD_or (by omega) true false]; exact h); omega
    have e : listed = listedAt ops.size m := by
      apply Array.ext (by simp [listedAt, hsz])
      intro i h1 h2
      have h3 := hl i (by omega)
      simp [Array.getD, h1] at h3
      rw [h3]; simp [listedAt]; omega
    rw [e]
    refine hQ β a w 0 (by omega) (hr.congr (fun t => upf_same _ _ _ _ rfl ?_) (fun t => upf_same _ _ _ _ rfl ?_))
    · intro j u hj _
      obtain ⟨o, e, h1, _, _⟩ := zip_get _ hj
      rw [Nat.zero_add]; exact (hl j (hpre' h1).1).symm
    · intro j u hj _
      obtain ⟨o, e, h1, _, _⟩ := zip_get _ hj
      rw [Nat.zero_add]; exact (hl j (hpre' h1).1).symm
  | succ fuel ih =>
    intro listed β a w hsz hu hcl hp hr
    by_cases hl : ∀ i, i < m → listed.getD i false = true
    · have e : listed = listedAt ops.size m := by
        apply Array.ext (by simp [listedAt, hsz])
        intro i h1 h2
        by_cases him : i < m
        · have h3 := hl i him
          simp [Array.getD, h1] at h3
          rw [h3]; simp [listedAt, him]
        · have h3 := hp i (by omega)
          simp [Array.getD, h1] at h3
          rw [h3]; simp [listedAt]
          cases hb : Nat.blt i m with
          | false => rfl
          | true => have := blt_iff.1 hb; omega
      have hun : ops.size - m ≤ unl listed := by
        rw [e]
        unfold unl listedAt
        have : (List.map (fun i => Nat.blt i m) (List.range ops.size)) = List.replicate m true ++ List.replicate (ops.size - m) false := by
          apply List.ext_getElem (by simp; have := hc.le; omega)
          intro i h1 h2
          simp at h1
          by_cases him : i < m
          · rw [List.getElem_append_left (by simpa using him)]; simp [him]
          · rw [List.getElem_append_right (by simpa using him)]
            simp
            cases hb : Nat.blt i m with
            | false => rfl
            | true => have := blt_iff.1 hb; omega
        simp [this, List.countP_append, List.countP_replicate]
      rw [e]
      refine hQ β a w (fuel + 1) (by omega) (hr.congr (fun t => upf_same _ _ _ _ rfl ?_) (fun t => upf_same _ _ _ _ rfl ?_))
      · intro j u hj _
        obtain ⟨o, e, h1, _, _⟩ := zip_get _ hj
        rw [Nat.zero_add]; exact (hl j (hpre' h1).1).symm
      · intro j u hj _
        obtain ⟨o, e, h1, _, _⟩ := zip_get _ hj
        rw [Nat.zero_add]; exact (hl j (hpre' h1).1).symm
    · refine ⟨fun h0 => ?_, fun i hi => ?_⟩
      · -- something may come up: the least that is not listed
        exfalso
        have hex : ∃ p, p < m ∧ listed.getD p false = false ∧ ∀ q, q < p → listed.getD q false = true := by
          have key : ∀ d p, p ≤ d → p < m → listed.getD p false = false → ∃ p, p < m ∧ listed.getD p false = false ∧ ∀ q, q < p → listed.getD q false = true := by
            intro d
            induction d with
            | zero =>
              intro p hd hpm hpf
              exact ⟨p, hpm, hpf, fun q hq => by omega⟩
            | succ d ih2 =>
              intro p hd hpm hpf
              by_cases hq : ∀ q, q < p → listed.getD q false = true
              · exact ⟨p, hpm, hpf, hq⟩
              · obtain ⟨q, hq⟩ := Classical.not_forall.1 hq
                obtain ⟨hqp, hq⟩ := Classical.not_imp.1 hq
                exact ih2 q (by omega) (by omega) (by simpa using hq)
          obtain ⟨p, hp'⟩ := Classical.not_forall.1 hl
          obtain ⟨hpm, hp'⟩ := Classical.not_imp.1 hp'
          exact key p p (Nat.le_refl _) hpm (by simpa using hp')
        obtain ⟨p, hpm, hpf, hq⟩ := hex
        have hps : p < ops.size := by have := hc.le; omega
        have hin : p ∈ Region.ready .any ops listed := mem_ready.2 ⟨by rw [getD_or (by omega) true false]; exact hpf, ops[p], Array.getElem?_eq_getElem hps, fun e he hb =>
          hq e.on (hc.low p _ e.on (Array.getElem?_eq_getElem hps) (mem_binding he hb))⟩
        rw [h0] at hin; cases hin
      · obtain ⟨hif, o, ho, hae⟩ := mem_ready.1 hi
        have his : i < ops.size := (Array.getElem?_eq_some_iff.1 ho).1
        have hif' : listed.getD i false = false := by rw [getD_or (by omega) false true]; exact hif
        have him : i < m := by
          rcases Nat.lt_or_ge i m with h | h
          · exact h
          · exfalso
            rcases hc.tl i o h ho with ⟨j, hj, hmj⟩ | hcov
            · obtain ⟨e, he, hb, rfl⟩ := of_binding hj
              have := hae e he hb
              rw [hp _ hmj] at this; cases this
            · apply hl
              have key : ∀ d p, m - p ≤ d → p < m → listed.getD p false = true := by
                intro d
                induction d with
                | zero => intro p hd hpm; omega
                | succ d ih2 =>
                  intro p hd hpm
                  rcases hcov p hpm with hb | ⟨q, oq, hpq, hqm, hoq, hb⟩
                  · obtain ⟨e, he, hb2, e2⟩ := of_binding hb
                    rw [← e2]; exact hae e he hb2
                  · exact hcl q oq p (ih2 q (by omega) hqm) hoq hb
              exact fun p hpm => key (m - p) p (Nat.le_refl _) hpm
        obtain ⟨e, he⟩ : ∃ e, es[i]? = some e := ⟨es[i]'(by omega), List.getElem?_eq_getElem (by omega)⟩
        obtain ⟨hsm, hce, hns, hrsi, hfr⟩ := hall i o e (hpre him ho) he
        have hwr : ∀ (t j : Nat) u, (uTs (ops.toList.take m) es)[j]? = some u → u t ≠ none → ∃ oj ej, j < m ∧ ops[j]? = some oj ∧ es[j]? = some ej ∧ oj.dst = some t ∧ u = uT oj.dst ej := by
          intro t j u hj hu
          obtain ⟨oj, ej, h1, h2, rfl⟩ := zip_get _ hj
          refine ⟨oj, ej, (hpre' h1).1, (hpre' h1).2, h2, ?_, rfl⟩
          unfold uT at hu
          split at hu
          · assumption
          · exact absurd rfl hu
        have hwb : ∀ (t j : Nat) u, (uBs (ops.toList.take m) es)[j]? = some u → u t ≠ none → ∃ oj ej, j < m ∧ ops[j]? = some oj ∧ es[j]? = some ej ∧ ((∃ U cs sl, ej = .a U cs sl ∧ oj.dst = some t ∧ M0 t = none) ∨ (∃ U cs, ej = .s t U cs) ∨ ∃ U cs x, ej = .rs t U cs x) ∧ u = uB oj.dst ej := by
          intro t j u hj hu
          obtain ⟨oj, ej, h1, h2, rfl⟩ := zip_get _ hj
          refine ⟨oj, ej, (hpre' h1).1, (hpre' h1).2, h2, ?_, rfl⟩
          rcases uB_who hu with ⟨U, cs, sl, rfl, hd⟩ | ⟨U, cs, rfl⟩ | ⟨U, cs, x, rfl⟩
          · refine .inl ⟨U, cs, sl, rfl, hd, ?_⟩
            obtain ⟨d, hd', hnone⟩ := (hall j oj _ h1 h2).2.2.2.2 U cs sl rfl
            have : d = t := by rw [hd] at hd'; injection hd' with e; exact e.symm
            subst this
            cases hM0 : M0 d with
            | none => rfl
            | some c => exact absurd hnone (upf_isSome _ _ _ (by rw [hM0]; simp) (hbs d))
          · exact .inr (.inl ⟨U, cs, rfl⟩)
          · exact .inr (.inr ⟨U, cs, x, rfl⟩)
        have hub : ∀ (t j j' : Nat) u u', (uBs (ops.toList.take m) es)[j]? = some u → (uBs (ops.toList.take m) es)[j']? = some u' → u t ≠ none → u' t ≠ none → j = j' ∨ (∀ o', ops[j']? = some o' → j ∈ binding o') ∨ (∀ o', ops[j]? = some o' → j' ∈ binding o') ∨ (chainB ops = true ∧ (∀ o', ops[j]? = some o' → isCall o' = true) ∧ ∀ o', ops[j']? = some o' → isCall o' = true) := by
          intro t j j' u u' hj hj' hu hu'
          obtain ⟨oj, ej, hjm, hoj, hej, hk, _⟩ := hwb t j u hj hu
          obtain ⟨oj', ej', hjm', hoj', hej', hk', _⟩ := hwb t j' u' hj' hu'
          have hrn : ∀ (j : Nat) oj (U : TypeId) cs x, j < m → ops[j]? = some oj → es[j]? = some (.rs t U cs x) → M0 t ≠ none ∧ isCall oj = true ∧ chainB ops = true := by
            intro j oj U cs x hjm hoj hej
            obtain ⟨_, h2, _, h4, h5⟩ := (hall j oj _ (hpre hjm hoj) hej).2.2.2.1 t U cs x rfl
            refine ⟨fun h => ?_, h4, h5⟩
            cases hB : B0 t with
            | none => exact h2 hB
            | some c => rw [hM t c hB] at h; cases h
          rcases hk with ⟨U, cs, sl, rfl, hd, hn⟩ | ⟨U, cs, rfl⟩ | ⟨U, cs, x, rfl⟩ <;> rcases hk' with ⟨U', cs', sl', rfl, hd', hn'⟩ | ⟨U', cs', rfl⟩ | ⟨U', cs', x', rfl⟩
          · exact .inl (hc.dist j j' oj oj' t hjm hjm' hoj hoj' hd hd')
          · rcases hsM j' t U' cs' hej' with h | ⟨j0, o0, U0, cs0, sl0, h1, h2, h3, h4, h5⟩
            · exact absurd hn h
            · rw [hc.dist j j0 oj o0 t hjm h1 hoj h2 hd h4]; exact .inr (.inl h5)
          · exact absurd hn (hrn j' oj' U' cs' x' hjm' hoj' hej').1
          · rcases hsM j t U cs hej with h | ⟨j0, o0, U0, cs0, sl0, h1, h2, h3, h4, h5⟩
            · exact absurd hn' h
            · rw [hc.dist j' j0 oj' o0 t hjm' h1 hoj' h2 hd' h4]; exact .inr (.inr (.inl h5))
          · exact .inl (hdis j j' t U cs U' cs' hej hej')
          · exact (hmix j j' t U cs U' cs' x' hej hej').elim
          · exact absurd hn' (hrn j oj U cs x hjm hoj hej).1
          · exact (hmix j' j t U' cs' U cs x hej' hej).elim
          · refine .inr (.inr (.inr ⟨(hrn j oj U cs x hjm hoj hej).2.2, fun o' h => ?_, fun o' h => ?_⟩))
            · rw [hoj] at h; injection h with h; subst h; exact (hrn j oj U cs x hjm hoj hej).2.1
            · rw [hoj'] at h; injection h with h; subst h; exact (hrn j' oj' U' cs' x' hjm' hoj' hej').2.1
        have hi2 : (uBs (ops.toList.take m) es)[i]? = some (uB o.dst e) := by
          unfold uBs
          rw [List.getElem?_zipWith, hpre him ho, he]
        have hrel : ∀ (t j : Nat) u, (uBs (ops.toList.take m) es)[j]? = some u → u t ≠ none → uB o.dst e t ≠ none → listed.getD j false = decide (j < i) := by
          intro t j u hj hu hi
          obtain ⟨oj, ej, hjm, hoj, hej, _, _⟩ := hwb t j u hj hu
          rcases hub t j i u _ hj hi2 hu hi with h | h | h | ⟨hch, hcj, hci⟩
          · subst h; rw [hif']; simp
          · have h1 := h o ho
            have h2 := hc.low i o j ho h1
            obtain ⟨e', he', hb', rfl⟩ := of_binding h1
            rw [hae e' he' hb']; simpa using h2
          · have h1 := h oj hoj
            have h2 := hc.low j oj i hoj h1
            have h3 : listed.getD j false = false := by
              cases hlj : listed.getD j false with
              | false => rfl
              | true => have := hcl j oj i hlj hoj h1; rw [hif'] at this; cases this
            rw [h3]; simp; omega
          · by_cases hji : j = i
            · subst hji; rw [hif']; simp
            · rcases Nat.lt_or_gt_of_ne hji with hlt | hlt
              · rw [chain_low hch hcl hlt hoj ho (hcj oj hoj) (hci o ho) (fun q hq => by
                  obtain ⟨e', he', hb', rfl⟩ := of_binding hq
                  exact hae e' he' hb')]
                simpa using hlt
              · have h3 : listed.getD j false = false := by
                  cases hlj : listed.getD j false with
                  | false => rfl
                  | true => have := chain_down hch hcl j j i o oj (Nat.le_refl _) hlt ho hoj (hci o ho) (hcj oj hoj) hlj; rw [hif'] at this; cases this
                rw [h3]; simp; omega
        have hmi : ∀ j, (listed.setIfInBounds i true).getD j false = if j = i then true else listed.getD j false := by
          intro j
          by_cases hji : j = i
          · subst hji; simp [Array.getD, hsz, his]
          · rw [if_neg hji, getD_set_ne false (fun e => hji e.symm)]
        unfold wpOp
        rw [ho]
        have hsm2 : ∃ Bs : BF, Sem P ops o (upf (fun j => decide (j < i)) 0 (uTs (ops.toList.take m) es) T0) Bs e ∧ ∀ k c, Bs k = some c → upf (fun j => listed.getD j false) 0 (uBs (ops.toList.take m) es) M0 k = some c := by
          rcases hsm with hsm | ⟨hvis, _, hsm⟩
          rotate_left
          · refine ⟨_, hsm, fun k c hB => ?_⟩
            rw [← hM k c hB]
            refine upf_none _ _ _ fun j u hj hm => ?_
            apply Classical.byContradiction
            intro hu
            rw [Nat.zero_add] at hm
            obtain ⟨oj, ej, hjm, hoj, hej, hk2, _⟩ := hwb k j u hj hu
            have hno : mayW oj = true → False := fun hw => by
              have := hcl j oj i hm hoj (vis_at hvis ho hoj hw)
              rw [hif'] at this; cases this
            rcases hk2 with ⟨U, cs, sl, rfl, hd, hn⟩ | ⟨U, cs, rfl⟩ | ⟨U, cs, x, rfl⟩
            · rw [hM k c hB] at hn; cases hn
            · exact hno ((hall j oj _ (hpre hjm hoj) hej).2.2.1 k U cs rfl).2.2.2
            · exact hno (call_mayW ((hall j oj _ (hpre hjm hoj) hej).2.2.2.1 k U cs x rfl).2.2.2.1)
          refine ⟨_, hsm, ?_⟩
          intro k c hk
          have hplain : hid hs B0 k = some c → upf (fun j => listed.getD j false) 0 (uBs (ops.toList.take m) es) M0 k = some c := by
            intro hk
            unfold hid at hk
            cases hb : hs.any (Nat.beq k) with
            | true => rw [hb] at hk; cases hk
            | false =>
              rw [hb] at hk
              have hB : B0 k = some c := hk
              rw [← hM k c hB]
              refine upf_none _ _ _ fun j u hj hm => ?_
              apply Classical.byContradiction
              intro hu
              obtain ⟨oj, ej, hjm, hoj, hej, hk2, _⟩ := hwb k j u hj hu
              rcases hk2 with ⟨U, cs, sl, rfl, hd, hn⟩ | ⟨U, cs, rfl⟩ | ⟨U, cs, x, rfl⟩
              · rw [hM k c hB] at hn; cases hn
              · have := ((hall j oj _ (hpre hjm hoj) hej).2.2.1 k U cs rfl).1
                rw [hb] at this; cases this
              · have := ((hall j oj _ (hpre hjm hoj) hej).2.2.2.1 k U cs x rfl).1
                rw [hb] at this; cases this
          cases e with
          | s k' U cs =>
            replace hk : (bif Nat.beq k k' then upf (fun j => decide (j < i)) 0 (uBs (ops.toList.take m) es) M0 k else hid hs B0 k) = some c := hk
            cases hb : Nat.beq k k' with
            | false => rw [hb] at hk; exact hplain hk
            | true =>
              rw [hb] at hk
              have hkk := Nat.eq_of_beq_eq_true hb
              subst hkk
              replace hk : upf (fun j => decide (j < i)) 0 (uBs (ops.toList.take m) es) M0 k = some c := hk
              rw [← hk]
              refine upf_same _ _ _ _ rfl fun j u hj hu => ?_
              rw [Nat.zero_add]
              exact hrel k j u hj hu (by unfold uB; simp)
          | rs k' U cs x =>
            replace hk : (bif Nat.beq k k' then upf (fun j => decide (j < i)) 0 (uBs (ops.toList.take m) es) M0 k else hid hs B0 k) = some c := hk
            cases hb : Nat.beq k k' with
            | false => rw [hb] at hk; exact hplain hk
            | true =>
              rw [hb] at hk
              have hkk := Nat.eq_of_beq_eq_true hb
              subst hkk
              replace hk : upf (fun j => decide (j < i)) 0 (uBs (ops.toList.take m) es) M0 k = some c := hk
              rw [← hk]
              refine upf_same _ _ _ _ rfl fun j u hj hu => ?_
              rw [Nat.zero_add]
              exact hrel k j u hj hu (by unfold uB; simp)
          | r x => exact hplain hk
          | a U cs sl => exact hplain hk
          | c k x => exact hplain hk
          | skip => exact hplain hk
        obtain ⟨Bs, hsm3, hBs⟩ := hsm2
        refine hr.step hsm3 (fun t ht => hc.dn i o t ho ht) ?_ hBs ?_ (fun β' a' w' hr' => ?_)
        · intro t x hlk hx
          rw [← hx]
          refine (upf_same _ _ _ _ rfl fun j u hj hu => ?_)
          obtain ⟨oj, ej, hjm, hoj, _, hdj, _⟩ := hwr t j u hj hu
          rw [Nat.zero_add]
          by_cases hji : j = i
          · subst hji; rw [hif']; simp
          · rcases hc.dep i j o oj t him hjm (fun e => hji e.symm) ho hoj hdj hlk with hb | hb
            · have hji2 := hc.low i o j ho hb
              obtain ⟨e', he', hb', rfl⟩ := of_binding hb
              rw [hae e' he' hb']; simpa using hji2
            · have hji2 := hc.low j oj i hoj hb
              have h1 : listed.getD j false = false := by
                cases hlj : listed.getD j false with
                | false => rfl
                | true => have := hcl j oj i hlj hoj hb; rw [hif'] at this; cases this
              rw [h1]; simp; omega
        · intro U cs sl hE
          obtain ⟨d, hd, hnone⟩ := hfr U cs sl hE
          refine ⟨d, hd, ?_⟩
          rw [← hnone]
          refine upf_same _ _ _ _ rfl fun j u hj hu => ?_
          rw [Nat.zero_add]
          exact hrel d j u hj hu (by rw [hE]; unfold uB; dsimp only; rw [if_pos hd]; simp)
        · refine ih (listed.setIfInBounds i true) β' a' w' (by simpa using hsz) (by have := unl_set (listed := listed) (i := i) (by omega) hif; omega) ?_ ?_ ?_
          · intro i' o' j' h1 h2 h3
            rw [hmi] at h1 ⊢
            by_cases hji : j' = i
            · rw [if_pos hji]
            · rw [if_neg hji]
              by_cases hii : i' = i
              · subst hii
                rw [ho] at h2
                injection h2 with h2
                subst h2
                obtain ⟨e', he', hb', rfl⟩ := of_binding h3
                exact hae e' he' hb'
              · rw [if_neg hii] at h1
                exact hcl i' o' j' h1 h2 h3
          · intro t ht
            rw [hmi, if_neg (by omega)]
            exact hp t ht
          · refine hr'.congr (fun t => ?_) (fun k => ?_)
            · rw [show e.tf o.dst (upf (fun j => listed.getD j false) 0 (uTs (ops.toList.take m) es) T0) t = (uT o.dst e t).getD (upf (fun j => listed.getD j false) 0 (uTs (ops.toList.take m) es) T0 t) from (congrFun (uT_tf o.dst e _ hce) t).symm]
              by_cases hdt : o.dst = some t
              · rw [show uT o.dst e t = some (some (ent t e)) from by unfold uT; rw [if_pos hdt]]
                show _ = some (ent t e)
                refine upf_hit (u := uT o.dst e) _ _ _ i ?_ ?_ ?_ ?_
                · unfold uTs
                  rw [List.getElem?_zipWith, hpre him ho, he]
                · unfold uT; rw [if_pos hdt]
                · rw [Nat.zero_add, hmi, if_pos rfl]
                · intro j' u' hj' hne
                  cases hu' : u' t with
                  | none => rfl
                  | some x' =>
                    obtain ⟨oj', ej', hjm', hoj', _, hdj', _⟩ := hwr t j' u' hj' (by rw [hu']; simp)
                    exact absurd (hc.dist j' i oj' o t hjm' him hoj' ho hdj' hdt) hne
              · rw [show uT o.dst e t = none from by unfold uT; rw [if_neg hdt]]
                show _ = upf (fun j => listed.getD j false) 0 (uTs (ops.toList.take m) es) T0 t
                refine upf_same _ _ _ _ rfl fun j u hj hu => ?_
                obtain ⟨oj, ej, hjm, hoj, _, hdj, _⟩ := hwr t j u hj hu
                rw [Nat.zero_add, hmi, if_neg]
                intro e; subst e
                rw [ho] at hoj; injection hoj with hoj; subst hoj
                exact hdt hdj
            · rw [show e.bf o.dst (upf (fun j => listed.getD j false) 0 (uBs (ops.toList.take m) es) M0) k = (uB o.dst e k).getD (upf (fun j => listed.getD j false) 0 (uBs (ops.toList.take m) es) M0 k) from (congrFun (uB_bf o.dst e _ hce) k).symm]
              cases hu : uB o.dst e k with
              | some x =>
                show _ = x
                refine upf_last (u := uB o.dst e) _ _ _ i hi2 hu ?_ ?_
                · rw [Nat.zero_add, hmi, if_pos rfl]
                · intro j' u' hj' hlt hmj
                  cases hu' : u' k with
                  | none => rfl
                  | some x' =>
                    have := hrel k j' u' hj' (by rw [hu']; simp) (by rw [hu]; simp)
                    rw [Nat.zero_add, hmi, if_neg (by omega), this] at hmj
                    simp at hmj; omega
              | none =>
                show _ = upf (fun j => listed.getD j false) 0 (uBs (ops.toList.take m) es) M0 k
                refine upf_same _ _ _ _ rfl fun j u hj hu2 => ?_
                obtain ⟨oj, ej, hjm, hoj, hej, _, rfl⟩ := hwb k j u hj hu2
                rw [Nat.zero_add, hmi, if_neg]
                intro e2; subst e2
                rw [ho] at hoj; injection hoj with hoj; subst hoj
                rw [he] at hej; injection hej with hej; subst hej
                exact hu2 hu
end
end Go.Proofs.YthlnndkgpgfbnaaGreat
