/- Layer 28: what the reference's Few and slices.Clone at operations return. Clone: at most 1000 operations. -/
import Derived.Test.YtcgjojjgagaliaaDoorProg
import Derived.Test.YtcgjojjgagaliaaDoorOps
import Derived.WalkKit
import Derived.WalkSpells
import Derived.WalkLawsBesides
import Derived.StillTactics
import Derived.Outline
namespace Go.Proofs.YtcgjojjgagaliaaDoor
open Go.RowKit
def fewB (os : List OpR) (m : Nat) : Bool := os.all (fun o => decide (o.dn ≤ m)) && decide (os.length ≤ m)
set_option maxHeartbeats 400000 in
theorem few_any (A : Option Addr) (n c m : Nat) (os : List OpR) (w : World) (ha : RdO w A n os) (hn : n ≤ 9223372036854775807) :
    Calls Tryd.prog 12 #[.slice A n c, .int .i64 m] w fun e w' => e = .returned (.bool (fewB os m)) ∧ Below w.heap.size w w' := by
  have hlen := ha.1
  go_enter Tryd.func12, Tryd.ntmps12
  go_wp2
  go_loopw [5] (fun i wr => ∃ k : Nat, k ≤ n ∧ i = .int .i64 k ∧ Below w.heap.size w wr ∧ Hid ((os.take k).all (fun o => decide (o.dn ≤ m)) = true)) (fun i _ => n - (intOf i).toNat)
  case atStart => exact ⟨0, Nat.zero_le _, rfl, Below.refl _ _, by show _ = _; simp⟩
  case round =>
    obtain ⟨k, hk, rfl, hbel, H⟩ := hrel
    by_cases hlt : k < n
    · obtain ⟨b, off, q, rfl, hb, hoq, hd0, hd1, hd2, hd3, hd4, _⟩ := (ha.below hbel).at_ hlt
      by_cases hq : q.dn ≤ m
      · have Ht : Hid ((os.take (k + 1)).all (fun o => decide (o.dn ≤ m)) = true) := by
          show _ = _
          rw [take_succ_of hoq.out, List.all_append, H.out]
          simpa using hq
        go_wp2
        go_roundw
        case rel => exact ⟨k + 1, by omega, by go_num, hbel, Ht⟩
        case measure => simp [intOf]; omega
      · have Ht : Hid (fewB os m = false) := by
          show _ = _
          unfold fewB
          rw [Bool.and_eq_false_iff]
          left
          rw [List.all_eq_false]
          exact ⟨q, List.mem_of_getElem? hoq.out, by simpa using hq⟩
        go_wp2
        go_ret
        exact ⟨ret_bool Ht.out.symm, hbel⟩
    · have Ht : Hid (fewB os m = decide (n ≤ m)) := by
        show _ = _
        unfold fewB
        have h := H.out
        rw [List.take_of_length_le (by omega)] at h
        rw [h, hlen, Bool.true_and]
      go_wp2
      go_ret
      exact ⟨ret_bool (by rw [Ht.out]; try simp), hbel⟩
theorem info_op : (Tryd.prog.info? 37).map (fun i => (i.zero, i.size, i.bytes)) = some (some (.agg #[.int .i64 0, .int .i64 0, .int .i64 0, .slice none 0 0, .int .i64 0]), 5, 56) := by kernel_rfl
theorem opCells_len (os : List OpR) : (os.flatMap OpR.cells).length = os.length * 5 := by
  induction os with
  | nil => rfl
  | cons o os ih => rw [List.flatMap_cons, List.length_append, ih]; simp [OpR.cells]; omega
theorem opCells_get (os : List OpR) (i j : Nat) (o : OpR) (u : Value) (ho : os[i]? = some o) (hu : o.cells[j]? = some u) : (os.flatMap OpR.cells)[i * 5 + j]? = some u := by
  induction os generalizing i with
  | nil => simp at ho
  | cons p os ih =>
    have hl : p.cells.length = 5 := rfl
    have hj : j < 5 := by
      rcases Nat.lt_or_ge j 5 with h | h
      · exact h
      · rw [List.getElem?_eq_none (by show 5 ≤ j; exact h)] at hu; cases hu
    rw [List.flatMap_cons]
    cases i with
    | zero => simp at ho; subst ho; rw [List.getElem?_append_left (by omega), Nat.zero_mul, Nat.zero_add]; exact hu
    | succ i =>
      have h := ih i (by simpa using ho)
      rw [List.getElem?_append_right (by omega), show (i + 1) * 5 + j - p.cells.length = i * 5 + j from by omega]
      exact h
theorem RdO.cellsAt {w : World} {A : Option Addr} {n : Nat} {os : List OpR} (h : RdO w A n os) (b off : Nat) (hA : A = some ⟨b, off, none⟩) (hn : 0 < n) : ∀ j u, (os.flatMap OpR.cells)[j]? = some u → w.cell? ⟨b, off + j, none⟩ = some u := by
  obtain ⟨b', off', e, _, hc⟩ := h.2.1 hn
  obtain ⟨rfl, rfl⟩ : b = b' ∧ off = off' := by rw [hA] at e; simpa using e
  intro j u hu
  have hj : j < os.length * 5 := by
    rcases Nat.lt_or_ge j (os.length * 5) with h1 | h1
    · exact h1
    · rw [List.getElem?_eq_none (by rw [opCells_len]; exact h1)] at hu; cases hu
  have hi : j / 5 < os.length := by omega
  have ho : os[j / 5]? = some os[j / 5] := List.getElem?_eq_getElem hi
  have hr : j % 5 < 5 := by omega
  have hcu : (os[j / 5]).cells[j % 5]? = some ((os[j / 5]).cells[j % 5]'(by show j % 5 < 5; exact hr)) := List.getElem?_eq_getElem _
  have e1 := opCells_get os _ _ _ _ ho hcu
  have e2 := hc _ _ ho _ _ hcu
  rw [show j / 5 * 5 + j % 5 = j from by omega] at e1
  rw [show off + j / 5 * 5 + j % 5 = off + j from by omega] at e2
  rw [e1] at hu
  rw [e2, hu]
/-- What the call owns as rows of operations reads as those operations. -/
theorem RdO.own {w : World} {base c n : Nat} {e : TypeId} {A : Option Addr} {os : List OpR} (h : w.ownsRow base e 5 (.slice A n c) n (os.flatMap OpR.cells)) (hd : ∀ o ∈ os, RdI .i64 w o.da o.dn o.ds) : RdO w A n os := by
  have hr := Rd.own h
  have hl : os.length = n := by have := hr.1; rw [opCells_len] at this; omega
  refine ⟨hl, fun hn => ?_, hd⟩
  obtain ⟨b, off, e, hlt, hc⟩ := hr.2 hn
  refine ⟨b, off, e, hlt, fun i o ho j u hu => ?_⟩
  rw [Nat.add_assoc]
  exact hc _ _ (opCells_get os i j o u ho hu)
def RetOps (w : World) (n : Nat) (os : List OpR) (e : Ending) (w' : World) : Prop := ∃ A c, e = .returned (.slice A n c) ∧ (A = none → n = 0) ∧ RdO w' A n os ∧ Below w.heap.size w w'
set_option maxHeartbeats 400000 in
theorem clone_ops (A : Option Addr) (n c : Nat) (os : List OpR) (w : World) (ha : RdO w A n os) (hn : n ≤ 1000) (hA : A = none → n = 0) :
    Calls Tryd.prog 15 #[.slice A n c] w (RetOps w n os) := by
  have hlen := ha.1
  obtain ⟨i0, hi0, hz0, hz1, hz2⟩ := info_parts info_op
  have hnil := fun (w : World) => Lib.run_eql_slice_nil (P := Tryd.prog) w 29 37 A n c 0 0 Tryd.underlying29
  cases A with
  | none =>
    have hn0 := hA rfl
    subst hn0
    go_enter Tryd.func15, Tryd.ntmps15
    go_wp2
    go_ret
    exact ⟨none, 0, rfl, fun _ => rfl, ha, Below.refl _ _⟩
  | some ad =>
    have hnews : ∀ (w1 : World), Below w.heap.size w w1 → ∀ j u, (os.flatMap OpR.cells)[j]? = some u → w1.cell? (ad.add j) = some u := by
      intro w1 hb j u hu
      have hn0 : 0 < n := by
        rcases Nat.eq_zero_or_pos n with h | h
        · rw [h] at hlen; rw [List.length_eq_zero_iff.1 hlen] at hu; simp at hu
        · exact h
      obtain ⟨b, off, e, hlt, hc⟩ := ha.2.1 hn0
      have hq := ha.cellsAt b off e hn0 j u hu
      have e' : ad = ⟨b, off, none⟩ := by simpa using e
      subst e'
      have ea : (⟨b, off, none⟩ : Addr).add j = ⟨b, off + j, none⟩ := by unfold Addr.add; split <;> simp_all
      rw [ea]
      exact (hb.cell (p := ⟨b, off + j, none⟩) hlt).trans hq
    have Hnews := Lib.hid hnews; clear hnews hA
    have h0 : (w.alloc (.cells #[] 37)).ownsRow w.heap.size 37 5 (.slice (some ⟨w.heap.size, 0, none⟩) 0 0) 0 [] := World.ownsRow_lit w #[] 0 (Nat.le_refl _) (by decide) rfl
    have hb0 : Below w.heap.size w (w.alloc (.cells #[] 37)) := (Below.refl _ _).alloc (Nat.le_refl _) _
    go_enter Tryd.func15, Tryd.ntmps15
    go_wp2_with (at_builtin; go_must (refine wpList_append_own _ rfl _ _ 29 rfl w.heap.size 37 i0 _ 5 56 Tryd.underlying29 hi0 hz0 hz1 hz2 rfl (by decide) _ _ _ rfl h0 ad n c (os.flatMap OpR.cells) rfl (by rw [opCells_len, hlen]) (Hnews.out _ hb0) (by intro u hu; simp [OpR.cells] at hu; obtain ⟨o, _, h⟩ := hu; rcases h with h | h | h | h | h <;> subst h <;> rfl) (by unfold maxLen; omega) (by omega) (by simp) ?_); intro v' w1 hown' hgrow _)
    have hbw : Below w.heap.size w w1 := hb0.grown hgrow (by simp) (own_ge h0)
    go_ret
    rw [Nat.zero_add, List.nil_append] at hown'
    rcases hown'.2 with ⟨rfl, h00⟩ | ⟨g, cap, cur, rfl, _⟩
    · subst h00
      exact ⟨none, 0, rfl, fun _ => rfl, ⟨hlen, fun h => absurd h (by omega), by rw [List.length_eq_zero_iff.1 hlen]; intro o ho; cases ho⟩, hbw⟩
    · exact ⟨_, cap, rfl, fun h => (by cases h), RdO.own hown' (fun o ho => (ha.2.2 o ho).below hbw), hbw⟩
end Go.Proofs.YtcgjojjgagaliaaDoor
