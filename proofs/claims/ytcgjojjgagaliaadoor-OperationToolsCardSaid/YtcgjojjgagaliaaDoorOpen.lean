/- Arguments opened: a slice of integers, of operations, of tools, as they read in memory. No condition. -/
import Derived.Test.YtcgjojjgagaliaaDoorOps
import Derived.Test.YtcgjojjgagaliaaDoorOpH
import Derived.Deep.Slices
import Derived.Deep.Fields
import Derived.ChangeSame
import Derived.OpenShut
namespace Go.Proofs.YtcgjojjgagaliaaDoor
open Go.ChangeShapes Go.WideShapes Go.RowKit Go.Deep
section
variable {H : Type} {enc : TypeId × Value → H} {P : Program} {w : World} {base : Nat} {spare : Nat → Bool} {held : Bool}
theorem list_of {α : Type} {p : Nat → α → Prop} : ∀ (n : Nat), (∀ i, i < n → ∃ a, p i a) → ∃ l : List α, l.length = n ∧ ∀ i a, l[i]? = some a → p i a
  | 0, _ => ⟨[], rfl, fun i a h => by simp at h⟩
  | n + 1, h => by
    obtain ⟨l, hl, hp⟩ := list_of n (fun i hi => h i (by omega))
    obtain ⟨a, ha⟩ := h n (by omega)
    refine ⟨l ++ [a], by simp [hl], fun i b hb => ?_⟩
    rcases Nat.lt_or_ge i n with h1 | h1
    · rw [List.getElem?_append_left (by omega)] at hb; exact hp i b hb
    · rw [List.getElem?_append_right (by omega)] at hb
      have : i = n := by
        rcases Nat.lt_or_ge (i - l.length) 1 with h2 | h2
        · omega
        · rw [List.getElem?_eq_none (by simpa using h2)] at hb; cases hb
      subst this
      rw [hl] at hb; simp at hb; subst hb; exact ha
theorem add_at (a : Addr) (k : Nat) (v : Value) (h : w.cell? (a.add k) = some v) : w.cell? ⟨a.block, a.off + k, none⟩ = some v := by
  obtain ⟨b, off, spot⟩ := a
  by_cases hk : k = 0
  · subst hk
    have hs : spot = none := by simpa [Addr.add] using World.cell?_spot h
    subst hs
    simpa [Addr.add] using h
  · simpa [Addr.add, hk] using h
theorem spot_of (a : Addr) (v : Value) (h : w.cell? (a.add 0) = some v) : a = ⟨a.block, a.off, none⟩ := by
  obtain ⟨b, off, spot⟩ := a
  have hs : spot = none := by simpa [Addr.add] using World.cell?_spot h
  subst hs; rfl
theorem lt_of (b off : Nat) (v : Value) (h : w.cell? ⟨b, off, none⟩ = some v) : b < w.heap.size := World.block_lt_of_cell? w _ h
theorem wf_b {n : Int} (h : (Lit.int .i64 n).wf = true) : i64b n := by
  simp [Lit.wf, IntKind.min, IntKind.max, IntKind.signed, IntKind.bits] at h
  exact ⟨by omega, by omega⟩
/-- A slice of int64s that was read. -/
theorem ints_of {t e : TypeId} {fuel : Nat} {v : Value} {x : DataW H × List MemPlace} (ht : P.underlying t = some (.slice e)) (he : P.underlying e = some (.int .i64)) (hc : P.cellsOf e = 1)
    (h : DataW.trod enc P w base spare held fuel t [v] = some x) :
    ∃ A n c xs, v = .slice A n c ∧ RdI .i64 w A n xs ∧ (A = none → n = 0) ∧ n ≤ 9223372036854775807 ∧ ∀ d ∈ xs, i64b d := by
  rcases open_ints ht he hc h with ⟨hcs, _⟩ | ⟨a, len, cap, zs, hcs, _, hl, hm, hz, _, hcell, hwf⟩
  · simp at hcs; subst hcs
    exact ⟨none, 0, 0, [], rfl, Rd.nil, fun _ => rfl, by omega, fun d hd => by cases hd⟩
  · simp at hcs; subst hcs
    have hlz : len ≤ zs.length := by rw [hz]; split <;> omega
    unfold maxLen at hm
    refine ⟨some a, len, cap, zs.take len, rfl, ⟨by simp; omega, fun h0 => ?_⟩, fun h => (by cases h), by omega, fun d hd => wf_b (hwf d (List.mem_of_mem_take hd))⟩
    have c0 := hcell 0 (by omega)
    have ea := spot_of a _ c0
    refine ⟨a.block, a.off, by rw [← ea], lt_of _ _ _ (add_at a 0 _ c0), fun j u hu => ?_⟩
    rw [List.getElem?_map, List.getElem?_take] at hu
    split at hu
    · rename_i hj
      have hjz : j < zs.length := by omega
      rw [List.getElem?_eq_getElem hjz] at hu
      simp at hu
      have cj := add_at a j _ (hcell j hjz)
      rw [cj, ← hu, List.getD_eq_getElem?_getD, List.getElem?_eq_getElem hjz]; rfl
    · simp at hu
/-- A slice of structs of one-cell fields that was read: each row's cells, and each field's reading. -/
theorem rows_of {t e : TypeId} {fs : Array Field} {fuel : Nat} {v : Value} {x : DataW H × List MemPlace} (ht : P.underlying t = some (.slice e)) (he : P.underlying e = some (.struct fs))
    (hone : oneCellFields P fs = true) (hC : P.cellsOf e = fs.size) (h : DataW.trod enc P w base spare held fuel t [v] = some x) :
    v = .slice none 0 0 ∨ ∃ a len cap, v = .slice (some a) len cap ∧ len ≤ cap ∧ cap ≤ maxLen ∧
      ∀ i, i < len → ∃ (cs : List Value) (n : Nat), cs.length = fs.size ∧ (∀ j u, cs[j]? = some u → w.cell? (a.add (i * fs.size + j)) = some u) ∧
        ∀ (j : Nat) (f : Field) (u : Value), fs[j]? = some f → cs[j]? = some u → ∃ y, DataW.trod enc P w base spare held n f.type [u] = some y := by
  rcases open_slice ht h with ⟨hcs, _⟩ | ⟨a, len, cap, m, n, D, Pl, hcs, _, hl, hm, hmm, _, hi⟩
  · simp at hcs; exact .inl hcs
  · simp at hcs; subst hcs
    refine .inr ⟨a, len, cap, rfl, hl, hm, fun i hil => ?_⟩
    obtain ⟨cs, hc, htr⟩ := hi i (by rw [hmm]; split <;> omega)
    rw [hC] at hc
    obtain ⟨xs, n', _, _, hcl, hxl, hf⟩ := DataW.trod_struct he htr
    obtain ⟨_, hcl', hat⟩ := World.cells?_some hc
    refine ⟨cs, n', hcl', fun j u hu => ?_, fun j f u hj hu => ?_⟩
    · have hjl : j < fs.size := by
        rcases Nat.lt_or_ge j fs.size with h1 | h1
        · exact h1
        · rw [List.getElem?_eq_none (by omega)] at hu; cases hu
      rw [← hu, ← hat j hjl, Go.Deep.add_add]
    · obtain ⟨ho, hk⟩ := hone_of hone j f hj
      have h1 := hf j f hj
      have hjl : j < fs.size := (Array.getElem?_eq_some_iff.1 hj).1
      rw [ho, hk] at h1
      have hjc : j < cs.length := by omega
      have hone' : (cs.drop j).take 1 = [u] := by
        rw [List.drop_eq_getElem_cons hjc]
        rw [List.getElem?_eq_getElem hjc] at hu
        simp at hu
        simp [hu]
      rw [hone'] at h1
      exact ⟨xs[j]'(by omega), h1.trans (List.getElem?_eq_getElem (by omega))⟩
end
/-- Operations that were read. -/
theorem ops_of {H : Type} {enc : TypeId × Value → H} {w : World} {base : Nat} {spare : Nat → Bool} {held : Bool} {fuel : Nat} {v : Value} {x : DataW H × List MemPlace}
    (h : DataW.trod enc Tryd.prog w base spare held fuel 29 [v] = some x) :
    ∃ A n c os, v = .slice A n c ∧ RdO w A n os ∧ (A = none → n = 0) ∧ n ≤ 9223372036854775807 ∧ ∀ o ∈ os, i64b o.feat ∧ i64b o.tool ∧ i64b o.leave ∧ ∀ d ∈ o.ds, i64b d := by
  rcases rows_of Tryd.underlying29 Tryd.underlying37 (by kernel_rfl) (by kernel_rfl) h with rfl | ⟨a, len, cap, rfl, hl, hm, hi⟩
  · exact ⟨none, 0, 0, [], rfl, ⟨rfl, fun h => absurd h (by omega), fun o ho => by cases ho⟩, fun _ => rfl, by omega, fun o ho => by cases ho⟩
  · have key : ∀ i, i < len → ∃ o : OpR, (∀ j u, o.cells[j]? = some u → w.cell? (a.add (i * 5 + j)) = some u) ∧ RdI .i64 w o.da o.dn o.ds ∧ (i64b o.feat ∧ i64b o.tool ∧ i64b o.leave ∧ ∀ d ∈ o.ds, i64b d) := by
      intro i hil
      obtain ⟨cs, n, hcl, hc, hf⟩ := hi i hil
      match cs, hcl with
      | [c0, c1, c2, c3, c4], _ =>
        obtain ⟨y0, h0⟩ := hf 0 _ c0 rfl rfl
        obtain ⟨y1, h1⟩ := hf 1 _ c1 rfl rfl
        obtain ⟨y2, h2⟩ := hf 2 _ c2 rfl rfl
        obtain ⟨y3, h3⟩ := hf 3 _ c3 rfl rfl
        obtain ⟨y4, h4⟩ := hf 4 _ c4 rfl rfl
        obtain ⟨k0, e0, _, w0⟩ := DataW.trod_int Tryd.underlying3 h0
        obtain ⟨k1, e1, _, w1⟩ := DataW.trod_int Tryd.underlying3 h1
        obtain ⟨k2, e2, _, w2⟩ := DataW.trod_int Tryd.underlying3 h2
        obtain ⟨k4, e4, _, w4⟩ := DataW.trod_int Tryd.underlying2 h4
        obtain ⟨A3, n3, c3', xs3, e3, r3, _, _, b3⟩ := ints_of Tryd.underlying23 Tryd.underlying2 (by kernel_rfl) h3
        simp at e0 e1 e2 e4
        subst e0 e1 e2 e3 e4
        exact ⟨⟨k0, k1, k2, A3, n3, c3', k4, xs3⟩, hc, r3, wf_b w1, wf_b w2, wf_b w4, b3⟩
    obtain ⟨os, hol, hos⟩ := list_of len key
    unfold maxLen at hm
    refine ⟨some a, len, cap, os, rfl, ⟨hol, fun h0 => ?_, fun o ho => ?_⟩, fun h => (by cases h), by omega, fun o ho => ?_⟩
    · have ho0 : os[0]? = some (os[0]'(by omega)) := List.getElem?_eq_getElem (by omega)
      have c0 := (hos 0 _ ho0).1 0 _ rfl
      have ea := spot_of a _ c0
      refine ⟨a.block, a.off, by rw [← ea], lt_of _ _ _ (add_at a 0 _ c0), fun i o ho j u hu => ?_⟩
      have := add_at a _ _ ((hos i o ho).1 j u hu)
      rwa [← Nat.add_assoc] at this
    · obtain ⟨i, hi', rfl⟩ := List.mem_iff_getElem.1 ho
      exact (hos i _ (List.getElem?_eq_getElem hi')).2.1
    · obtain ⟨i, hi', rfl⟩ := List.mem_iff_getElem.1 ho
      exact (hos i _ (List.getElem?_eq_getElem hi')).2.2
/-- Tools that were read. -/
theorem tools_of {H : Type} {enc : TypeId × Value → H} {w : World} {base : Nat} {spare : Nat → Bool} {held : Bool} {fuel : Nat} {v : Value} {x : DataW H × List MemPlace}
    (h : DataW.trod enc Tryd.prog w base spare held fuel 40 [v] = some x) :
    ∃ A n c ts, v = .slice A n c ∧ RdT w A n ts ∧ (A = none → n = 0) ∧ n ≤ 9223372036854775807 := by
  rcases rows_of Tryd.underlying40 Tryd.underlying46 (by kernel_rfl) (by kernel_rfl) h with rfl | ⟨a, len, cap, rfl, hl, hm, hi⟩
  · exact ⟨none, 0, 0, [], rfl, ⟨rfl, fun h => absurd h (by omega)⟩, fun _ => rfl, by omega⟩
  · have key : ∀ i, i < len → ∃ t : ToolR, (∀ j u, t.cells[j]? = some u → w.cell? (a.add (i * 8 + j)) = some u) := by
      intro i hil
      obtain ⟨cs, n, hcl, hc, hf⟩ := hi i hil
      match cs, hcl with
      | [c0, c1, c2, c3, c4, c5, c6, c7], _ =>
        obtain ⟨y0, h0⟩ := hf 0 _ c0 rfl rfl
        obtain ⟨y1, h1⟩ := hf 1 _ c1 rfl rfl
        obtain ⟨y2, h2⟩ := hf 2 _ c2 rfl rfl
        obtain ⟨y3, h3⟩ := hf 3 _ c3 rfl rfl
        obtain ⟨y4, h4⟩ := hf 4 _ c4 rfl rfl
        obtain ⟨y5, h5⟩ := hf 5 _ c5 rfl rfl
        obtain ⟨y6, h6⟩ := hf 6 _ c6 rfl rfl
        obtain ⟨y7, h7⟩ := hf 7 _ c7 rfl rfl
        obtain ⟨k0, e0, _, _⟩ := DataW.trod_int Tryd.underlying3 h0
        obtain ⟨k1, e1, _, _⟩ := DataW.trod_int Tryd.underlying3 h1
        obtain ⟨k2, e2, _, _⟩ := DataW.trod_int Tryd.underlying2 h2
        obtain ⟨k3, e3, _, _⟩ := DataW.trod_int Tryd.underlying2 h3
        obtain ⟨k4, e4, _, _⟩ := DataW.trod_int Tryd.underlying2 h4
        obtain ⟨k5, e5, _, _⟩ := DataW.trod_int Tryd.underlying2 h5
        obtain ⟨k6, e6, _, _⟩ := DataW.trod_int Tryd.underlying2 h6
        obtain ⟨k7, e7, _, _⟩ := DataW.trod_int Tryd.underlying2 h7
        simp at e0 e1 e2 e3 e4 e5 e6 e7
        subst e0 e1 e2 e3 e4 e5 e6 e7
        exact ⟨⟨k0, _, rfl, by intro u hu; simp at hu; rcases hu with rfl | rfl | rfl | rfl | rfl | rfl | rfl <;> rfl⟩, hc⟩
    obtain ⟨ts, htl, hts⟩ := list_of len key
    unfold maxLen at hm
    refine ⟨some a, len, cap, ts, rfl, ⟨htl, fun h0 => ?_⟩, fun h => (by cases h), by omega⟩
    have ht0 : ts[0]? = some (ts[0]'(by omega)) := List.getElem?_eq_getElem (by omega)
    have c0 := hts 0 _ ht0 0 _ rfl
    have ea := spot_of a _ c0
    refine ⟨a.block, a.off, by rw [← ea], lt_of _ _ _ (add_at a 0 _ c0), fun i o ho j u hu => ?_⟩
    have := add_at a _ _ (hts i o ho j u hu)
    rwa [← Nat.add_assoc] at this
end Go.Proofs.YtcgjojjgagaliaaDoor
