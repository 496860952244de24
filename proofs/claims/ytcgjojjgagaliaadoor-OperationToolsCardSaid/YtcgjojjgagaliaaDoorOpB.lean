/- Layer 28: what the reference's Passes returns. -/
import Derived.Test.YtcgjojjgagaliaaDoorOpA
namespace Go.Proofs.YtcgjojjgagaliaaDoor
open Go.RowKit

theorem rpasses_bad (d s : Int) (w : World) (h : d < 1 ∨ 10000000 < d ∨ s < 1 ∨ 10000000 < s) :
    Calls Tryd.prog 10 #[.int .i64 d, .int .i64 s] w fun e w' => e = .returned (.tuple #[.slice none 0 0, .int .i64 1]) ∧ w = w' := by
  by_cases h1 : d < 1
  · clear h
    go_enter Tryd.func10, Tryd.ntmps10
    go_wp2
    go_ret2
    exact ⟨rfl, rfl⟩
  · by_cases h2 : 10000000 < d
    · clear h
      go_enter Tryd.func10, Tryd.ntmps10
      go_wp2
      go_ret2
      exact ⟨rfl, rfl⟩
    · by_cases h3 : s < 1
      · clear h
        go_enter Tryd.func10, Tryd.ntmps10
        go_wp2
        go_ret2
        exact ⟨rfl, rfl⟩
      · have h4 : 10000000 < s := by omega
        clear h
        go_enter Tryd.func10, Tryd.ntmps10
        go_wp2
        go_ret2
        exact ⟨rfl, rfl⟩

theorem mul_bd (k d a b : Int) (hk : 0 ≤ k) (hk' : k ≤ a) (hd : 0 ≤ d) (hd' : d ≤ b) : 0 ≤ k * d ∧ k * d ≤ a * b :=
  ⟨Int.mul_nonneg hk hd, Int.mul_le_mul hk' hd' hd (by omega)⟩

set_option maxHeartbeats 400000 in
theorem rpasses_large (d s : Int) (w : World) (h1 : 1 ≤ d) (h2 : d ≤ 10000000) (h3 : 1 ≤ s) (h4 : s ≤ 10000000) (h : 1000 < (d + s - 1) / s) :
    Calls Tryd.prog 10 #[.int .i64 d, .int .i64 s] w fun e w' => e = .returned (.tuple #[.slice none 0 0, .int .i64 3]) ∧ w = w' := by
  have hlt : ∀ m : Int, m ≤ 1000 → m * s < d := fun m hm => (passes_lt d s _ m h3 rfl).2 (by omega)
  have Hlt := Lib.hid hlt; clear hlt h
  go_enter Tryd.func10, Tryd.ntmps10
  go_wp2
  go_loop [6] (fun i => ∃ k : Int, 1 ≤ k ∧ k ≤ 1000 ∧ i = .int .i64 k) (fun i => 1001 - (intOf i).toNat)
  case atStart => exact ⟨1, by omega, by omega, rfl⟩
  case round =>
    obtain ⟨k, hk, hk', rfl⟩ := hrel
    have hb := mul_bd k s 1000 10000000 (by omega) hk' (by omega) h4
    obtain ⟨hb1, hb2⟩ := hb
    have hlt := Hlt.out k hk'
    by_cases hk2 : k < 1000
    · go_wp2
      go_round
      case rel => exact ⟨k + 1, by omega, by omega, rfl⟩
      case measure => simp [intOf]; omega
    · go_wp2
      go_ret2
      exact ⟨rfl, rfl⟩

set_option maxHeartbeats 400000 in
theorem rpasses_ok (d s : Int) (n : Nat) (w : World) (h1 : 1 ≤ d) (h2 : d ≤ 10000000) (h3 : 1 ≤ s) (h4 : s ≤ 10000000) (h : (d + s - 1) / s = n) (h5 : n ≤ 1000) (h6 : 1 ≤ n) :
    Calls Tryd.prog 10 #[.int .i64 d, .int .i64 s] w fun e w' => ∃ v, e = .returned (.tuple #[v, .int .i64 0]) ∧ w'.ownsRow w.heap.size 2 1 v n ((deps d n n).map (Value.int .i64)) ∧ Below w.heap.size w w' := by
  obtain ⟨i0, hi0, hz0, hz1, hz2⟩ := info_parts info_i64
  have hlt : ∀ m : Int, m * s < d ↔ m < n := fun m => passes_lt d s n m h3 h
  have Hlt := Lib.hid hlt; clear hlt h
  go_enter Tryd.func10, Tryd.ntmps10
  go_wp2
  go_loop [6] (fun i => ∃ k : Int, 1 ≤ k ∧ k ≤ n ∧ i = .int .i64 k) (fun i => n - (intOf i).toNat)
  case atStart => exact ⟨1, by omega, by omega, rfl⟩
  case round =>
    obtain ⟨k, hk, hk', rfl⟩ := hrel
    obtain ⟨hb1, hb2⟩ := mul_bd k s 1000 10000000 (by omega) (by omega) (by omega) h4
    by_cases hk2 : k < n
    · have hlt : (k : Int) * s < d := (Hlt.out k).2 (by omega)
      go_wp2
      go_round
      case rel => exact ⟨k + 1, by omega, by omega, by go_num⟩
      case measure => simp [intOf]; omega
    · have hlt : d ≤ (n : Int) * s := by have := (Hlt.out n).1; omega
      obtain rfl : k = n := by omega
      clear hk2
      go_wp2
      go_loopw [7, 8] (fun v i wr => ∃ k : Nat, k ≤ n ∧ i = .int .i64 (k + 1) ∧ wr.ownsRow w.heap.size 2 1 v k (((List.range k).map (dep d n)).map (Value.int .i64)) ∧ Below w.heap.size w wr)
        (fun _ i _ => n + 1 - (intOf i).toNat)
      case atStart => exact ⟨0, by omega, rfl, ⟨rfl, .inl ⟨rfl, rfl⟩⟩, Below.refl _ _⟩
      case round =>
        obtain ⟨k, hk, rfl, hown, hbel⟩ := hrel
        have hz := hbel.size
        by_cases hlt2 : k < n
        · obtain ⟨hc1, hc2⟩ := mul_bd (k + 1) d 1000 10000000 (by omega) (by omega) (by omega) h2
          have hdep := dep_ref d n k h6
          obtain ⟨q, hq⟩ : ∃ q, ((k : Int) + 1) * d / n = q := ⟨_, rfl⟩
          have hq0 : 0 ≤ q := by rw [← hq]; exact Int.ediv_nonneg hc1 (by omega)
          have hq1 : q ≤ ((k : Int) + 1) * d := by rw [← hq]; exact Int.ediv_le_self _ hc1
          rw [hq] at hdep
          obtain ⟨hq2, hq3⟩ := mul_bd q n 10000000000 1000 hq0 (by omega) (by omega) (by omega)
          obtain ⟨x, hx⟩ : ∃ x, dep d n k = x := ⟨_, rfl⟩
          have Hx := Lib.hid hx
          rw [hx] at hdep; clear hx
          by_cases hex : q * n < ((k : Int) + 1) * d
          all_goals
            first | rw [if_pos hex] at hdep | rw [if_neg hex] at hdep
            subst hdep
            go_wp2_with (at_builtin; refine wpList_append_own _ rfl _ _ 23 rfl w.heap.size 2 i0 (.int .i64 0) 1 8 Tryd.underlying23 hi0 hz0 hz1 hz2 rfl (by decide) _ _ _ rfl (hown.alloc _) ⟨wr.heap.size, 0, none⟩ 1 1 [.int .i64 _] rfl rfl (cell_one_new _ _ _) (by simp [Value.oneCell']) (by unfold maxLen; omega) (by omega) (by simp; omega) ?_; intro v' w1 hown' hgrow _)
            go_roundw
            case rel =>
              refine ⟨k + 1, by omega, by go_num, ?_, below_append hown hbel hz hgrow⟩
              have e := deps_take d n k hlt2
              rw [Hx.out] at e
              rw [e, List.map_append]
              exact hown'
            case measure => simp [intOf]; omega
        · obtain rfl : k = n := by omega
          rw [← deps_full] at hown
          go_wp2
          go_ret2
          exact ⟨_, rfl, hown, hbel⟩
end Go.Proofs.YtcgjojjgagaliaaDoor
