/- Layer 28: a slice of operations that reads as a list of records. No condition. -/
import Derived.Test.YtcgjojjgagaliaaDoorCore
namespace Go.Proofs.YtcgjojjgagaliaaDoor
open Go.RowKit
/-- An operation as it lies in memory: its numbers, and the slice of its depths with what that reads as. -/
structure OpR where
  kind : Int
  feat : Int
  tool : Int
  da : Option Addr
  dn : Nat
  dc : Nat
  leave : Int
  ds : List Int
  deriving Inhabited
def OpR.cells (o : OpR) : List Value := [.int .i64 o.kind, .int .i64 o.feat, .int .i64 o.tool, .slice o.da o.dn o.dc, .int .i64 o.leave]
def OpR.fits (o : OpR) : Prop := -9223372036854775808 ≤ o.kind ∧ o.kind ≤ 9223372036854775807 ∧ o.dn ≤ 9223372036854775807
def RdO (w : World) (A : Option Addr) (n : Nat) (os : List OpR) : Prop :=
  os.length = n ∧ (0 < n → ∃ b off, A = some ⟨b, off, none⟩ ∧ b < w.heap.size ∧ ∀ i o, os[i]? = some o → ∀ j u, o.cells[j]? = some u → w.cell? ⟨b, off + i * 5 + j, none⟩ = some u) ∧
  ∀ o ∈ os, RdI .i64 w o.da o.dn o.ds
section
variable {w w' : World} {n : Nat} {A : Option Addr} {os : List OpR}
theorem RdO.below (h : RdO w A n os) (hb : Below w.heap.size w w') : RdO w' A n os :=
  ⟨h.1, fun hn => by
    obtain ⟨b, off, e, hlt, hc⟩ := h.2.1 hn
    exact ⟨b, off, e, Nat.lt_of_lt_of_le hlt hb.size, fun i o ho j u hu => (hb.cell (p := ⟨b, off + i * 5 + j, none⟩) hlt).trans (hc i o ho j u hu)⟩,
   fun o ho => (h.2.2 o ho).below hb⟩
theorem RdO.take (h : RdO w A n os) (k : Nat) (hk : k ≤ n) : RdO w A k (os.take k) :=
  ⟨by rw [List.length_take, h.1]; omega, (fun hk0 => by
    obtain ⟨b, off, e, hlt, hc⟩ := h.2.1 (by omega)
    refine ⟨b, off, e, hlt, fun i o ho => hc i o ?_⟩
    rw [List.getElem?_take] at ho
    split at ho
    · exact ho
    · cases ho), fun o ho => h.2.2 o (List.mem_of_mem_take ho)⟩
theorem RdO.at_ (h : RdO w A n os) {i : Nat} (hi : i < n) : ∃ b off o, A = some ⟨b, off, none⟩ ∧ b < w.heap.size ∧ Hid (os[i]? = some o) ∧
    w.cell? ⟨b, off + i * 5, none⟩ = some (.int .i64 o.kind) ∧ w.cell? ⟨b, off + i * 5 + 1, none⟩ = some (.int .i64 o.feat) ∧ w.cell? ⟨b, off + i * 5 + 2, none⟩ = some (.int .i64 o.tool) ∧
    w.cell? ⟨b, off + i * 5 + 3, none⟩ = some (.slice o.da o.dn o.dc) ∧ w.cell? ⟨b, off + i * 5 + 4, none⟩ = some (.int .i64 o.leave) ∧ RdI .i64 w o.da o.dn o.ds := by
  obtain ⟨b, off, e, hlt, hc⟩ := h.2.1 (by omega)
  have hl : i < os.length := by have := h.1; omega
  have ho : os[i]? = some os[i] := List.getElem?_eq_getElem hl
  have hq := hc i _ ho
  exact ⟨b, off, os[i], e, hlt, ho, hq 0 _ rfl, hq 1 _ rfl, hq 2 _ rfl, hq 3 _ rfl, hq 4 _ rfl, h.2.2 _ (List.getElem_mem hl)⟩
end
/-- Whether operation a must come before operation b. -/
def bfr (a b : OpR) : Bool := (b.kind == 5 && a.kind != 5) || (a.feat == b.feat && a.kind == 1 && (b.kind == 2 || b.kind == 4))
/-- The pairs (i, j) with j below k. -/
def row (os : List OpR) (a : OpR) (i k : Nat) : List (Nat × Nat) := ((List.range k).filter fun j => bfr a (os.getD j default)).map fun j => (i, j)
def need (os : List OpR) (i : Nat) : List (Nat × Nat) := (List.range i).flatMap fun a => row os (os.getD a default) a os.length
def pairCells (l : List (Nat × Nat)) : List Value := l.flatMap fun p => [.int .i64 p.1, .int .i64 p.2]
theorem row_yes {os : List OpR} {a b : OpR} {i k : Nat} (hb : os[k]? = some b) (h : bfr a b = true) : row os a i (k + 1) = row os a i k ++ [(i, k)] := by
  unfold row
  rw [List.range_succ, List.filter_append, List.map_append]
  simp [hb, h]
theorem row_no {os : List OpR} {a b : OpR} {i k : Nat} (hb : os[k]? = some b) (h : bfr a b = false) : row os a i (k + 1) = row os a i k := by
  unfold row
  rw [List.range_succ, List.filter_append, List.map_append]
  simp [hb, h]
theorem need_succ {os : List OpR} {a : OpR} {i n : Nat} (ha : os[i]? = some a) (hn : os.length = n) : need os (i + 1) = need os i ++ row os a i n := by
  unfold need
  rw [List.range_succ, List.flatMap_append]
  simp [ha, hn]
theorem row_le (os : List OpR) (a : OpR) (i k : Nat) : (row os a i k).length ≤ k := by
  unfold row; rw [List.length_map]; exact Nat.le_trans (List.length_filter_le _ _) (by simp)
theorem need_le (os : List OpR) (i : Nat) : (need os i).length ≤ i * os.length := by
  unfold need
  induction i with
  | zero => simp
  | succ i ih => rw [List.range_succ, List.flatMap_append, List.length_append]; simp only [List.flatMap_cons, List.flatMap_nil, List.append_nil]; have := row_le os (os.getD i default) i os.length; rw [Nat.add_mul]; omega
/-- A slice of pairs. -/
def RdP (w : World) (A : Option Addr) (n : Nat) (l : List (Nat × Nat)) : Prop := Rd w 2 A n (pairCells l)
theorem pairCells_len (l : List (Nat × Nat)) : (pairCells l).length = l.length * 2 := by
  induction l with
  | nil => rfl
  | cons x l ih => rw [pairCells, List.flatMap_cons, List.length_append, ← pairCells, ih]; simp; omega
theorem pairCells_get (l : List (Nat × Nat)) (k : Nat) (x : Nat × Nat) (h : l[k]? = some x) : (pairCells l)[k * 2]? = some (.int .i64 x.1) ∧ (pairCells l)[k * 2 + 1]? = some (.int .i64 x.2) := by
  induction l generalizing k with
  | nil => simp at h
  | cons y l ih =>
    cases k with
    | zero => simp at h; subst h; exact ⟨rfl, rfl⟩
    | succ k =>
      have h' := ih k (by simpa using h)
      have e : pairCells (y :: l) = .int .i64 y.1 :: .int .i64 y.2 :: pairCells l := rfl
      rw [e, show (k + 1) * 2 = k * 2 + 1 + 1 from by omega]
      simpa using h'
section
variable {w w' : World} {n : Nat} {A : Option Addr} {l : List (Nat × Nat)}
theorem RdP.len (h : RdP w A n l) : l.length = n := by have := h.1; rw [pairCells_len] at this; omega
theorem RdP.below (h : RdP w A n l) (hb : Below w.heap.size w w') : RdP w' A n l := Rd.below h hb
theorem RdP.at_ (h : RdP w A n l) {k : Nat} (hk : k < n) : ∃ b off x, A = some ⟨b, off, none⟩ ∧ b < w.heap.size ∧ Hid (l[k]? = some x) ∧ w.cell? ⟨b, off + k * 2, none⟩ = some (.int .i64 x.1) ∧ w.cell? ⟨b, off + k * 2 + 1, none⟩ = some (.int .i64 x.2) := by
  obtain ⟨b, off, e, hlt, hc⟩ := h.2 (by omega)
  have hl : k < l.length := by have := h.len; omega
  have hx : l[k]? = some l[k] := List.getElem?_eq_getElem hl
  obtain ⟨g1, g2⟩ := pairCells_get l k _ hx
  exact ⟨b, off, l[k], e, hlt, hx, hc _ _ g1, hc _ _ g2⟩
end
/-- A tool as it lies in memory: eight numbers. -/
structure ToolR where
  num : Int
  rest : List Value
  len : rest.length = 7
  one : ∀ u ∈ rest, u.oneCell' = true
def ToolR.cells (t : ToolR) : List Value := .int .i64 t.num :: t.rest
def RdT (w : World) (A : Option Addr) (n : Nat) (ts : List ToolR) : Prop :=
  ts.length = n ∧ (0 < n → ∃ b off, A = some ⟨b, off, none⟩ ∧ b < w.heap.size ∧ ∀ i t, ts[i]? = some t → ∀ j u, t.cells[j]? = some u → w.cell? ⟨b, off + i * 8 + j, none⟩ = some u)
section
variable {w w' : World} {n : Nat} {A : Option Addr} {ts : List ToolR}
theorem RdT.below (h : RdT w A n ts) (hb : Below w.heap.size w w') : RdT w' A n ts :=
  ⟨h.1, fun hn => by
    obtain ⟨b, off, e, hlt, hc⟩ := h.2 hn
    exact ⟨b, off, e, Nat.lt_of_lt_of_le hlt hb.size, fun i o ho j u hu => (hb.cell (p := ⟨b, off + i * 8 + j, none⟩) hlt).trans (hc i o ho j u hu)⟩⟩
theorem RdT.at_ (h : RdT w A n ts) {i : Nat} (hi : i < n) : ∃ b off t, A = some ⟨b, off, none⟩ ∧ b < w.heap.size ∧ Hid (ts[i]? = some t) ∧ w.cell? ⟨b, off + i * 8, none⟩ = some (.int .i64 t.num) := by
  obtain ⟨b, off, e, hlt, hc⟩ := h.2 (by omega)
  have hl : i < ts.length := by have := h.1; omega
  have ho : ts[i]? = some ts[i] := List.getElem?_eq_getElem hl
  exact ⟨b, off, ts[i], e, hlt, ho, hc i _ ho 0 _ rfl⟩
end
/-- The tools' numbers, if each is an index. -/
def okTools (os : List OpR) (m : Nat) : Bool := os.all fun o => decide (0 ≤ o.tool) && decide (o.tool < m)
def toolNum (ts : List ToolR) (o : OpR) : Int := match ts[o.tool.toNat]? with | some t => t.num | none => 0
def toolNums (os : List OpR) (ts : List ToolR) : List Int := os.map (toolNum ts)
end Go.Proofs.YtcgjojjgagaliaaDoor
