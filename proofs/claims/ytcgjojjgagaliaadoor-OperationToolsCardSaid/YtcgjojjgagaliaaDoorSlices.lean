/- What slices.Equal returns over slices of integers. The length is at most 2^63 - 1. -/
import Derived.Test.YtcgjojjgagaliaaDoorProg
import Derived.Test.YtcgjojjgagaliaaDoorCore
import Derived.WalkKit
import Derived.WalkSpells
import Derived.WalkLawsBesides
import Derived.StillTactics
import Derived.Outline
import Derived.Deep.QuietTactic
import Derived.BigQuiet
namespace Go.Proofs.YtcgjojjgagaliaaDoor
open Go.RowKit

/-- Equal at slices.Equal[[]int64,int64]: whether the lists are equal. -/
theorem equal_i64 (A B : Option Addr) (n m ca cb : Nat) (xs ys : List Int) (w : World) (ha : RdI .i64 w A n xs) (hb : RdI .i64 w B m ys) (hn : n ≤ 9223372036854775807) :
    Calls Tryd.prog 11 #[.slice A n ca, .slice B m cb] w fun e w' => e = .returned (.bool (decide (xs = ys))) ∧ Below w.heap.size w w' := by
  have hla := ha.len
  have hlb := hb.len
  by_cases hnm : n = m
  · subst hnm
    go_enter Tryd.func11, Tryd.ntmps11
    go_wp2
    go_loopw [13] (fun i wr => ∃ k : Nat, k ≤ n ∧ i = .int .i64 k ∧ Below w.heap.size w wr ∧ Hid (xs.take k = ys.take k)) (fun i _ => n - (intOf i).toNat)
    case atStart => exact ⟨0, Nat.zero_le _, rfl, Below.refl _ _, by show _ = _; simp⟩
    case round =>
      obtain ⟨k, hk, rfl, hbel, H⟩ := hrel
      by_cases hlt : k < n
      · obtain ⟨b1, o1, x, rfl, hlt1, hx, hc1⟩ := (ha.below hbel).at_ hlt
        obtain ⟨b2, o2, y, rfl, hlt2, hy, hc2⟩ := (hb.below hbel).at_ hlt
        by_cases hxy : x = y
        · subst hxy
          have hx' : (x != x) = false := by simp
          have Ht : Hid (xs.take (k + 1) = ys.take (k + 1)) := by
            show _ = _
            rw [take_succ_of hx.out, take_succ_of hy.out, H.out]
          go_wp2_with (fail)
          go_quiet (fail)
          go_wp2
          go_roundw
          case rel => exact ⟨k + 1, by omega, by go_num, Below.drewN' hbel _, Ht⟩
          case measure => simp [intOf]; omega
        · have hx' : (x != y) = true := by simpa using hxy
          have Hn : Hid (xs ≠ ys) := by
            show _ ≠ _
            intro h; rw [h] at hx; have := hx.out.symm.trans hy.out; simp at this; exact hxy this
          clear hxy
          go_wp2_with (fail)
          go_quiet (fail)
          go_wp2
          go_ret
          exact ⟨ret_bool (by simp [Hn.out]), Below.drewN' hbel _⟩
      · have Hn : Hid (xs = ys) := by
          have h := H.out
          rwa [List.take_of_length_le (by omega), List.take_of_length_le (by omega)] at h
        go_wp2
        go_ret
        exact ⟨ret_bool (by simp [Hn.out]), hbel⟩
  · have Hn : Hid (xs ≠ ys) := fun h => hnm (by rw [← hla, ← hlb, h])
    have hb' : ((n : Int) != (m : Int)) = true := by simp; omega
    go_enter Tryd.func11, Tryd.ntmps11
    go_wp2
    go_ret
    exact ⟨ret_bool (by simp [Hn.out]), Below.refl _ _⟩


/-- Equal at slices.Equal[[]int,int]: whether the lists are equal. -/
theorem equal_int (A B : Option Addr) (n m ca cb : Nat) (xs ys : List Int) (w : World) (ha : RdI .i64 w A n xs) (hb : RdI .i64 w B m ys) (hn : n ≤ 9223372036854775807) :
    Calls Tryd.prog 22 #[.slice A n ca, .slice B m cb] w fun e w' => e = .returned (.bool (decide (xs = ys))) ∧ Below w.heap.size w w' := by
  have hla := ha.len
  have hlb := hb.len
  by_cases hnm : n = m
  · subst hnm
    go_enter Tryd.func22, Tryd.ntmps22
    go_wp2
    go_loopw [13] (fun i wr => ∃ k : Nat, k ≤ n ∧ i = .int .i64 k ∧ Below w.heap.size w wr ∧ Hid (xs.take k = ys.take k)) (fun i _ => n - (intOf i).toNat)
    case atStart => exact ⟨0, Nat.zero_le _, rfl, Below.refl _ _, by show _ = _; simp⟩
    case round =>
      obtain ⟨k, hk, rfl, hbel, H⟩ := hrel
      by_cases hlt : k < n
      · obtain ⟨b1, o1, x, rfl, hlt1, hx, hc1⟩ := (ha.below hbel).at_ hlt
        obtain ⟨b2, o2, y, rfl, hlt2, hy, hc2⟩ := (hb.below hbel).at_ hlt
        by_cases hxy : x = y
        · subst hxy
          have hx' : (x != x) = false := by simp
          have Ht : Hid (xs.take (k + 1) = ys.take (k + 1)) := by
            show _ = _
            rw [take_succ_of hx.out, take_succ_of hy.out, H.out]
          go_wp2_with (fail)
          go_quiet (fail)
          go_wp2
          go_roundw
          case rel => exact ⟨k + 1, by omega, by go_num, Below.drewN' hbel _, Ht⟩
          case measure => simp [intOf]; omega
        · have hx' : (x != y) = true := by simpa using hxy
          have Hn : Hid (xs ≠ ys) := by
            show _ ≠ _
            intro h; rw [h] at hx; have := hx.out.symm.trans hy.out; simp at this; exact hxy this
          clear hxy
          go_wp2_with (fail)
          go_quiet (fail)
          go_wp2
          go_ret
          exact ⟨ret_bool (by simp [Hn.out]), Below.drewN' hbel _⟩
      · have Hn : Hid (xs = ys) := by
          have h := H.out
          rwa [List.take_of_length_le (by omega), List.take_of_length_le (by omega)] at h
        go_wp2
        go_ret
        exact ⟨ret_bool (by simp [Hn.out]), hbel⟩
  · have Hn : Hid (xs ≠ ys) := fun h => hnm (by rw [← hla, ← hlb, h])
    have hb' : ((n : Int) != (m : Int)) = true := by simp; omega
    go_enter Tryd.func22, Tryd.ntmps22
    go_wp2
    go_ret
    exact ⟨ret_bool (by simp [Hn.out]), Below.refl _ _⟩

end Go.Proofs.YtcgjojjgagaliaaDoor
