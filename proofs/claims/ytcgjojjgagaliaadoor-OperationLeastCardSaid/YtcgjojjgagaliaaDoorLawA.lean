/- Layer 28: the laws OperationPasses and OperationLeast return true for every depth and step. The table of powers of ten is as its initialiser lays it. -/
import Derived.Test.YtcgjojjgagaliaaDoorAwake
namespace Go.Proofs.YtcgjojjgagaliaaDoor
open Go.RowKit
theorem passes_pos (d s : Int) (h1 : 1 ≤ d) (h3 : 1 ≤ s) : 1 ≤ (d + s - 1) / s := by
  rw [Int.le_ediv_iff_mul_le (by omega)]; omega
set_option maxHeartbeats 1000000 in
theorem law_passes (d s : Int) (w : World) (hp : Pow w) :
    Calls Tryd.prog 3 #[.int .i64 d, .int .i64 s] w fun e w' => e = .returned (.bool true) ∧ Below w.heap.size w w' := by
  by_cases hbad : d < 1 ∨ 10000000 < d ∨ s < 1 ∨ 10000000 < s
  · go_enter Tryd.func3, Tryd.ntmps3
    go_wp2_with (first
      | (go_at_call 8; refine (awake_any w hp).mono ?_; rintro e w1 ⟨rfl, hb1⟩)
      | (go_at_call 9; refine (passes_bad d s w1 hbad).mono ?_; rintro e w2 ⟨rfl, rfl⟩)
      | (go_at_call 10; refine (rpasses_bad d s w1 hbad).mono ?_; rintro e w2 ⟨rfl, rfl⟩)
      | (go_at_call 11; refine (equal_i64 none none 0 0 0 0 [] [] w1 Rd.nil Rd.nil (by omega)).mono ?_; rintro e w4 ⟨rfl, hb4⟩))
    go_ret
    exact ⟨rfl, hb1.trans (hb4.mono hb1.size)⟩
  · have h1 : 1 ≤ d := by omega
    have h2 : d ≤ 10000000 := by omega
    have h3 : 1 ≤ s := by omega
    have h4 : s ≤ 10000000 := by omega
    clear hbad
    by_cases hbig : 1000 < (d + s - 1) / s
    · go_enter Tryd.func3, Tryd.ntmps3
      go_wp2_with (first
        | (go_at_call 8; refine (awake_any w hp).mono ?_; rintro e w1 ⟨rfl, hb1⟩)
        | (go_at_call 9; refine (passes_large d s w1 h1 h2 h3 h4 hbig).mono ?_; rintro e w2 ⟨rfl, rfl⟩)
        | (go_at_call 10; refine (rpasses_large d s w1 h1 h2 h3 h4 hbig).mono ?_; rintro e w2 ⟨rfl, rfl⟩)
        | (go_at_call 11; refine (equal_i64 none none 0 0 0 0 [] [] w1 Rd.nil Rd.nil (by omega)).mono ?_; rintro e w4 ⟨rfl, hb4⟩))
      go_ret
      exact ⟨rfl, hb1.trans (hb4.mono hb1.size)⟩
    · have hpos := passes_pos d s h1 h3
      obtain ⟨n, hn⟩ := Int.eq_ofNat_of_zero_le (show 0 ≤ (d + s - 1) / s by omega)
      have h5 : n ≤ 1000 := by omega
      have h6 : 1 ≤ n := by omega
      have Hn := Lib.hid hn
      clear hn hbig hpos
      go_enter Tryd.func3, Tryd.ntmps3
      go_wp2_with fail
      refine (awake_any w hp).mono ?_
      rintro e w1 ⟨rfl, hb1⟩
      go_wp2_with fail
      refine (passes_ok d s n w1 h1 h2 h3 h4 Hn.out h5 h6).mono ?_
      rintro e w2 ⟨v2, rfl, hown2, hb2⟩
      obtain ⟨A2, c2, rfl⟩ := own_form hown2
      go_wp2_with fail
      refine (rpasses_ok d s n w2 h1 h2 h3 h4 Hn.out h5 h6).mono ?_
      rintro e w3 ⟨v3, rfl, hown3, hb3⟩
      obtain ⟨A3, c3, rfl⟩ := own_form hown3
      have r2 : RdI .i64 w2 A2 n (deps d n n) := Rd.own hown2
      have r3 : RdI .i64 w3 A3 n (deps d n n) := Rd.own hown3
      have hbA := hb1.trans (hb2.mono hb1.size)
      have hbB := hbA.trans (hb3.mono hbA.size)
      clear hown2 hown3
      go_wp2_with (go_at_call 11; refine (equal_i64 A2 A3 n n c2 c3 _ _ w3 (r2.below hb3) r3 (by omega)).mono ?_; rintro e w4 ⟨rfl, hb4⟩)
      go_ret
      exact ⟨ret_bool (by simp), hbB.trans (hb4.mono hbB.size)⟩
end Go.Proofs.YtcgjojjgagaliaaDoor
