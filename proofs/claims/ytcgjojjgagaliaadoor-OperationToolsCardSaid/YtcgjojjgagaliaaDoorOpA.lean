/- Layer 28: what operation.up and operation.Passes return. -/
import Derived.Test.YtcgjojjgagaliaaDoorProg
import Derived.Test.YtcgjojjgagaliaaDoorPlain
import Derived.WalkKit
import Derived.WalkSpells
import Derived.WalkLawsBesides
import Derived.StillTactics
import Derived.Outline
import Derived.Deep.RegionWith
import Derived.Lib.Hide
namespace Go.Proofs.YtcgjojjgagaliaaDoor
open Go.RowKit

theorem up_any (a b q : Int) (w : World) (hq : (a + b - 1) / b = q) (ha : 1 ≤ a) (ha' : a ≤ 1000000000000000000) (hb : 1 ≤ b) (hb' : b ≤ 1000000000) :
    Calls Tryd.prog 25 #[.int .i64 a, .int .i64 b] w fun e w' => e = .returned (.int .i64 q) ∧ w = w' := by
  have H := Lib.hid hq; clear hq
  go_enter Tryd.func25, Tryd.ntmps25
  go_wp2
  go_ret
  exact ⟨ret_int H.out, rfl⟩

theorem passes_bad (d s : Int) (w : World) (h : d < 1 ∨ 10000000 < d ∨ s < 1 ∨ 10000000 < s) :
    Calls Tryd.prog 9 #[.int .i64 d, .int .i64 s] w fun e w' => e = .returned (.tuple #[.slice none 0 0, .int .i64 1]) ∧ w = w' := by
  by_cases h1 : d < 1
  · clear h
    go_enter Tryd.func9, Tryd.ntmps9
    go_wp2
    go_ret2
    exact ⟨rfl, rfl⟩
  · by_cases h2 : 10000000 < d
    · clear h
      go_enter Tryd.func9, Tryd.ntmps9
      go_wp2
      go_ret2
      exact ⟨rfl, rfl⟩
    · by_cases h3 : s < 1
      · clear h
        go_enter Tryd.func9, Tryd.ntmps9
        go_wp2
        go_ret2
        exact ⟨rfl, rfl⟩
      · have h4 : 10000000 < s := by omega
        clear h
        go_enter Tryd.func9, Tryd.ntmps9
        go_wp2
        go_ret2
        exact ⟨rfl, rfl⟩

theorem passes_large (d s : Int) (w : World) (h1 : 1 ≤ d) (h2 : d ≤ 10000000) (h3 : 1 ≤ s) (h4 : s ≤ 10000000) (h : 1000 < (d + s - 1) / s) :
    Calls Tryd.prog 9 #[.int .i64 d, .int .i64 s] w fun e w' => e = .returned (.tuple #[.slice none 0 0, .int .i64 3]) ∧ w = w' := by
  go_enter Tryd.func9, Tryd.ntmps9
  go_wp2_with (go_at_call 25; refine (up_any _ _ _ _ rfl (by omega) (by omega) (by omega) (by omega)).mono ?_; rintro e w' ⟨rfl, rfl⟩)
  go_ret2
  exact ⟨rfl, rfl⟩

theorem info_i64 : (Tryd.prog.info? 2).map (fun i => (i.zero, i.size, i.bytes)) = some (some (.int .i64 0), 1, 8) := by kernel_rfl

set_option maxHeartbeats 400000 in
theorem passes_ok (d s : Int) (n : Nat) (w : World) (h1 : 1 ≤ d) (h2 : d ≤ 10000000) (h3 : 1 ≤ s) (h4 : s ≤ 10000000) (h : (d + s - 1) / s = n) (h5 : n ≤ 1000) (h6 : 1 ≤ n) :
    Calls Tryd.prog 9 #[.int .i64 d, .int .i64 s] w fun e w' => ∃ v, e = .returned (.tuple #[v, .int .i64 0]) ∧ w'.ownsRow w.heap.size 2 1 v n ((deps d n n).map (Value.int .i64)) ∧ Below w.heap.size w w' := by
  obtain ⟨i0, hi0, hz0, hz1, hz2⟩ := info_parts info_i64
  have H := Lib.hid h; clear h
  go_enter Tryd.func9, Tryd.ntmps9
  go_wp2_with (first
    | (go_at_call 25; refine (up_any _ _ n _ H.out (by omega) (by omega) (by omega) (by omega)).mono ?_; rintro e w' ⟨rfl, rfl⟩)
    | (at_make; refine wpList_make_full _ rfl _ _ 23 rfl w.heap.size 2 i0 (.int .i64 0) 1 Tryd.underlying23 hi0 hz0 hz1 _ _ _ _ n rfl rfl rfl rfl (by rw [hz2]; omega) (by unfold maxLen; omega) (Nat.le_refl _) ?_; intro w1 hown hgrow))
  go_loopw [32] (fun i wr => ∃ k : Nat, k ≤ n ∧ i = .int .i64 k ∧ wr.ownsRow w.heap.size 2 1 (.slice (some ⟨w.heap.size, 0, none⟩) n n) n ((deps d n k).map (Value.int .i64)) ∧ Below w.heap.size w wr)
    (fun i _ => n - (intOf i).toNat)
  case atStart =>
    refine ⟨0, Nat.zero_le _, rfl, ?_, (Below.refl _ _).grown hgrow (Nat.le_refl _) (by simp)⟩
    have e : (madeCells (Value.int .i64 0).cells (n * 1)).toList = (deps d n 0).map (Value.int .i64) := by
      rw [Nat.mul_one]; exact (toList_madeCells_one _ n).trans (by simp [deps])
    rw [← e]; exact hown
  case round =>
    obtain ⟨k, hk, rfl, hown', hbel⟩ := hrel
    have hz := hbel.size
    by_cases hlt : k < n
    · have hfz := hown'.frozenAt k
      have hcell := hown'.cellAt k (by omega)
      obtain ⟨x, hx⟩ : ∃ x, ((deps d n k).map (Value.int .i64))[k]? = some x := ⟨_, List.getElem?_eq_getElem (by simp [deps_len d n k hk]; omega)⟩
      rw [hx] at hcell; clear hx
      have hst := hown'.stored k (.int .i64 (dep d n k))
      have hb0 : 0 ≤ ((k : Int) + 1) * d := Int.mul_nonneg (by omega) (by omega)
      have hb1 : 1 ≤ ((k : Int) + 1) * d := by
        have := Int.mul_le_mul (show (1 : Int) ≤ k + 1 by omega) h1 (by omega) (by omega); omega
      have hb2 : ((k : Int) + 1) * d ≤ 10000000000 := by
        have := Int.mul_le_mul (show ((k : Int) + 1) ≤ 1000 by omega) h2 (by omega) (by omega); omega
      go_wp2_with (go_at_call 25; refine (up_any _ _ (dep d n k) _ rfl (by omega) (by omega) (by omega) (by omega)).mono ?_; rintro e w' ⟨rfl, rfl⟩)
      go_roundw
      case rel =>
        refine ⟨k + 1, by omega, by go_num, ?_, hbel.grown hst.2 hz (by simp)⟩
        have h1 := hst.1
        rwa [← List.map_set, deps_set d n k hlt] at h1
      case measure => simp [intOf]; omega
    · obtain rfl : k = n := by omega
      go_wp2
      go_ret2
      exact ⟨_, rfl, hown', hbel⟩
end Go.Proofs.YtcgjojjgagaliaaDoor
