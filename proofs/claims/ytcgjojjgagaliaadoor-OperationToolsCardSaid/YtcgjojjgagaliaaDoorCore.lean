/- Small words for memory that all of this seat's walks share: a slice that reads as a list of cells. No condition. -/
import Derived.WalkKit
import Derived.Below
import Derived.Laws.OwnMore
import Derived.Deep.Draws
import Derived.WalkSmall
import Derived.Lib.Hide
namespace Go.Proofs.YtcgjojjgagaliaaDoor
open Go.RowKit

theorem ret_int {k : IntKind} {a b : Int} (h : a = b) : Ending.returned (.int k a) = .returned (.int k b) := by rw [h]
theorem ret_bool {a b : Bool} (h : a = b) : Ending.returned (.bool a) = .returned (.bool b) := by rw [h]

theorem Below.drewN' {B : Nat} {a w : World} (h : Below B a w) (n : Nat) : Below B a (w.drewN n) := ⟨h.os, h.tape, h.output, h.size, h.block⟩

/-- The slice with address A and n elements (of sz cells each) reads as the cells xs, all in blocks of w. -/
def Rd (w : World) (sz : Nat) (A : Option Addr) (n : Nat) (xs : List Value) : Prop :=
  xs.length = n * sz ∧ (0 < n → ∃ b off, A = some ⟨b, off, none⟩ ∧ b < w.heap.size ∧ ∀ j u, xs[j]? = some u → w.cell? ⟨b, off + j, none⟩ = some u)

section
variable {w w' : World} {sz n : Nat} {A : Option Addr} {xs : List Value}
theorem Rd.nil : Rd w sz A 0 [] := ⟨by simp, fun h => absurd h (by omega)⟩
theorem Rd.len (h : Rd w sz A n xs) : xs.length = n * sz := h.1
theorem Rd.below (h : Rd w sz A n xs) (hb : Below w.heap.size w w') : Rd w' sz A n xs :=
  ⟨h.1, fun hn => by
    obtain ⟨b, off, e, hlt, hc⟩ := h.2 hn
    exact ⟨b, off, e, Nat.lt_of_lt_of_le hlt hb.size, fun j u hu => (hb.cell (p := ⟨b, off + j, none⟩) hlt).trans (hc j u hu)⟩⟩
theorem Rd.drew (h : Rd w sz A n xs) : Rd w.drew sz A n xs := h
theorem Rd.drewN (h : Rd w sz A n xs) (k : Nat) : Rd (w.drewN k) sz A n xs := h
theorem Rd.alloc (h : Rd w sz A n xs) (o : Obj) : Rd (w.alloc o) sz A n xs := h.below ((Below.refl _ _).alloc (Nat.le_refl _) o)
theorem Rd.own {base : Nat} {e : TypeId} {c : Nat} (h : w.ownsRow base e sz (.slice A n c) n xs) : Rd w sz A n xs := by
  refine ⟨h.1, fun hn => ?_⟩
  rcases h.2 with ⟨_, h0⟩ | ⟨g, cap, cur, hv, _, hg, hnc, _, hcs, htake⟩
  · omega
  · have hA : A = some ⟨g, 0, none⟩ := by injection hv
    subst hA
    have hlt : g < w.heap.size := by
      rcases Nat.lt_or_ge g w.heap.size with h1 | h1
      · exact h1
      · rw [Array.getElem?_eq_none h1] at hg; cases hg
    refine ⟨g, 0, rfl, hlt, fun j u hu => ?_⟩
    rw [Nat.zero_add, cell_of_row w g j cur e (0, 0) hg]
    rw [← htake, List.getElem?_take] at hu
    split at hu
    · simpa using hu
    · cases hu
/-- The one cell k of a slice of one-cell elements. -/
theorem Rd.at_ (h : Rd w 1 A n xs) {k : Nat} (hk : k < n) : ∃ b off u, A = some ⟨b, off, none⟩ ∧ b < w.heap.size ∧ xs[k]? = some u ∧ w.cell? ⟨b, off + k, none⟩ = some u := by
  obtain ⟨b, off, e, hlt, hc⟩ := h.2 (by omega)
  have hl : k < xs.length := by have := h.1; omega
  exact ⟨b, off, xs[k], e, hlt, List.getElem?_eq_getElem hl, hc k _ (List.getElem?_eq_getElem hl)⟩
end
theorem own_ge {w : World} {base sz n : Nat} {e : TypeId} {v : Value} {xs : List Value} (h : w.ownsRow base e sz v n xs) : ∀ g, v.ownBlock = some g → base ≤ g := by
  intro g hg
  rcases h.2 with ⟨rfl, _⟩ | ⟨g', cap, cur, rfl, hb, _⟩
  · simp [Value.ownBlock] at hg
  · simp [Value.ownBlock] at hg; omega
theorem own_below {w wr : World} {base sz n : Nat} {e : TypeId} {v : Value} {xs : List Value} (h : w.ownsRow base e sz v n xs) (hb : Below w.heap.size w wr) : wr.ownsRow base e sz v n xs := by
  refine ⟨h.1, ?_⟩
  rcases h.2 with h0 | ⟨g, cap, cur, hv, hg, hh, r⟩
  · exact .inl h0
  · have hlt : g < w.heap.size := by
      rcases Nat.lt_or_ge g w.heap.size with h1 | h1
      · exact h1
      · rw [Array.getElem?_eq_none h1] at hh; cases hh
    exact .inr ⟨g, cap, cur, hv, hg, (hb.block g hlt).trans hh, r⟩
/-- Behind an append to a row of the call's own (the element laid in a block of its own first). -/
theorem below_append {w wr w1 : World} {base sz n : Nat} {e : TypeId} {v : Value} {xs : List Value} {o : Obj} (h : wr.ownsRow base e sz v n xs) (hb : Below base w wr) (hz : base ≤ wr.heap.size)
    (hg : (wr.alloc o).grownBy w1 v.ownBlock) : Below base w w1 :=
  (hb.alloc hz o).grown hg (by simp; omega) (own_ge h)
theorem own_nil (w : World) (base sz : Nat) (e : TypeId) : w.ownsRow base e sz (.slice none 0 0) 0 [] := ⟨by simp, .inl ⟨rfl, rfl⟩⟩
theorem cell_keep {w w' : World} (hb : Below w.heap.size w w') {a : Addr} {v : Value} (hc : w.cell? a = some v) : w'.cell? a = some v := (hb.cell (World.block_lt_of_cell? w a hc)).trans hc
/-- Block g is just the cells cs of element type t, none frozen. -/
def Bk (w : World) (g : Nat) (t : TypeId) (cs : Array Value) : Prop := w.heap[g]? = some (.cells cs t (0, 0))
section
variable {w w' : World} {g : Nat} {t : TypeId} {cs : Array Value}
theorem Bk.lt (h : Bk w g t cs) : g < w.heap.size := by
  rcases Nat.lt_or_ge g w.heap.size with h1 | h1
  · exact h1
  · unfold Bk at h; rw [Array.getElem?_eq_none h1] at h; cases h
theorem Bk.cell (h : Bk w g t cs) (i : Nat) : w.cell? ⟨g, i, none⟩ = cs[i]? := cell_of_row w g i cs t (0, 0) h
theorem Bk.frozen (h : Bk w g t cs) (i : Nat) : w.frozen? ⟨g, i, none⟩ = false := by unfold Bk at h; simp [World.frozen?, h]
theorem Bk.new (w : World) (t : TypeId) (cs : Array Value) : Bk (w.alloc (.cells cs t)) w.heap.size t cs := heap_alloc_new w _
theorem Bk.drewN (h : Bk w g t cs) (n : Nat) : Bk (w.drewN n) g t cs := h
theorem Bk.alloc (h : Bk w g t cs) (o : Obj) : Bk (w.alloc o) g t cs := (Below.heap_alloc w o g h.lt).trans h
theorem Bk.below (h : Bk w g t cs) (hb : Below w.heap.size w w') : Bk w' g t cs := (hb.block g h.lt).trans h
theorem Bk.grown {row : Option Nat} (h : Bk w g t cs) (hb : w.grownBy w' row) (hg : some g ≠ row) : Bk w' g t cs := (hb.block g h.lt hg).trans h
theorem Bk.ne_own {base n sz : Nat} {e : TypeId} {v : Value} {xs : List Value} (hg : Bk w g t cs) (h : w.ownsRow base e sz v n xs) (hne : e ≠ t) : some g ≠ v.ownBlock := by
  rcases h.2 with ⟨rfl, _⟩ | ⟨g', cap, cur, rfl, _, hh, _⟩
  · simp [Value.ownBlock]
  · intro he
    have e2 : g = g' := by simpa [Value.ownBlock] using he
    subst e2
    unfold Bk at hg
    rw [hh] at hg
    injection hg with hg
    injection hg with _ ht
    exact hne ht
/-- A block of one type is kept over an append to a row of another type. -/
theorem Bk.append {base n sz : Nat} {e : TypeId} {v : Value} {xs : List Value} {o : Obj} {w1 : World} (hg : Bk w g t cs) (h : w.ownsRow base e sz v n xs) (hne : e ≠ t) (hb : (w.alloc o).grownBy w1 v.ownBlock) : Bk w1 g t cs :=
  (hg.alloc o).grown hb (hg.ne_own h hne)
end
theorem cells_new2 (w : World) (o : Obj) (a b : Value) (t : TypeId) : ∀ j u, [a, b][j]? = some u → ((w.alloc o).alloc (.cells #[a, b] t)).cell? ((⟨w.heap.size + 1, 0, none⟩ : Addr).add j) = some u := by
  have h := cell_two_new (w.alloc o) a b t
  simpa using h
/-- A slice of integers of one kind. -/
def RdI (k : IntKind) (w : World) (A : Option Addr) (n : Nat) (xs : List Int) : Prop := Rd w 1 A n (xs.map (Value.int k))
section
variable {k : IntKind} {w w' : World} {n : Nat} {A : Option Addr} {xs : List Int}
theorem RdI.len (h : RdI k w A n xs) : xs.length = n := by have := h.1; simpa using this
theorem RdI.below (h : RdI k w A n xs) (hb : Below w.heap.size w w') : RdI k w' A n xs := Rd.below h hb
theorem RdI.at_ (h : RdI k w A n xs) {i : Nat} (hi : i < n) : ∃ b off x, A = some ⟨b, off, none⟩ ∧ b < w.heap.size ∧ Hid (xs[i]? = some x) ∧ w.cell? ⟨b, off + i, none⟩ = some (.int k x) := by
  obtain ⟨b, off, u, e, hlt, hx, hc⟩ := Rd.at_ h hi
  rw [List.getElem?_map] at hx
  cases hq : xs[i]? with
  | none => rw [hq] at hx; cases hx
  | some q => rw [hq] at hx; simp at hx; exact ⟨b, off, q, e, hlt, rfl, by rw [hc, hx]⟩
/-- A slice literal of integers. -/
theorem RdI.lit (w : World) (t : TypeId) (k : IntKind) (xs : List Int) (cs : Array Value) (b n : Nat) (hb : w.heap.size = b) (hcs : cs = (xs.map (Value.int k)).toArray) (hn : xs.length = n) : RdI k (w.alloc (.cells cs t)) (some ⟨b, 0, none⟩) n xs := by
  subst hb hcs hn
  refine ⟨by simp, fun _ => ⟨w.heap.size, 0, rfl, by simp, fun j u hu => ?_⟩⟩
  rw [Nat.zero_add, (Bk.new w t _).cell j]
  simpa using hu
theorem own_form {w : World} {base sz n : Nat} {e : TypeId} {v : Value} {xs : List Value} (h : w.ownsRow base e sz v n xs) : ∃ A c, v = .slice A n c := by
  rcases h.2 with ⟨rfl, rfl⟩ | ⟨g, cap, cur, rfl, _⟩
  · exact ⟨none, 0, rfl⟩
  · exact ⟨_, cap, rfl⟩
theorem take_succ_of {α : Type} {xs : List α} {k : Nat} {x : α} (h : xs[k]? = some x) : xs.take (k + 1) = xs.take k ++ [x] := by
  rw [List.take_add_one, h]; rfl
end
end Go.Proofs.YtcgjojjgagaliaaDoor
