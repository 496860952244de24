/- Layer 28: the law OperationLeast returns true for every depth and step. The table of powers of ten is as its initialiser lays it. -/
import Derived.Test.YtcgjojjgagaliaaDoorAwake
import Derived.Test.YtcgjojjgagaliaaDoorLawA
namespace Go.Proofs.YtcgjojjgagaliaaDoor
open Go.RowKit
/-- The depth before number k. -/
def bef (d : Int) (n k : Nat) : Int := ((k : Int) * d + n - 1) / n
theorem bef_succ (d : Int) (n k : Nat) : dep d n k = bef d n (k + 1) := by unfold dep bef; rw [Int.natCast_add]; rfl
theorem bef_zero (d : Int) (n : Nat) (h : 1 ≤ n) : bef d n 0 = 0 := by
  unfold bef; exact Int.ediv_eq_zero_of_lt (by omega) (by omega)
theorem bef_full (d : Int) (n : Nat) (h : 1 ≤ n) : bef d n n = d := by
  unfold bef
  rw [show (n : Int) * d + n - 1 = (n - 1) + n * d from by omega, Int.add_mul_ediv_left _ _ (by omega), Int.ediv_eq_zero_of_lt (by omega) (by omega)]; omega
theorem bef_lt (d s : Int) (n k : Nat) (hn : 1 ≤ n) (h : (n : Int) ≤ d) : bef d n k < bef d n (k + 1) := by
  have e : bef d n k + 1 = ((k : Int) * d + n - 1 + n * 1) / n := by unfold bef; rw [Int.add_mul_ediv_left _ _ (by omega)]
  have h2 : ((k : Int) * d + n - 1 + n * 1) / n ≤ bef d n (k + 1) := by
    unfold bef
    exact Int.ediv_le_ediv (by omega) (by rw [Int.natCast_add, Int.add_mul]; omega)
  omega
theorem bef_step (d s : Int) (n k : Nat) (hn : 1 ≤ n) (h : d ≤ (n : Int) * s) : bef d n (k + 1) - bef d n k ≤ s := by
  have e : bef d n k + s = ((k : Int) * d + n - 1 + n * s) / n := by unfold bef; rw [Int.add_mul_ediv_left _ _ (by omega)]
  have h2 : bef d n (k + 1) ≤ ((k : Int) * d + n - 1 + n * s) / n := by
    unfold bef
    exact Int.ediv_le_ediv (by omega) (by rw [Int.natCast_add, Int.add_mul]; omega)
  omega
theorem bef_bd (d : Int) (n k : Nat) (hn : 1 ≤ n) (hk : k ≤ n) (h1 : 1 ≤ d) (h2 : d ≤ 10000000) : 0 ≤ bef d n k ∧ bef d n k ≤ 10000000 := by
  have h0 : 0 ≤ (k : Int) * d := Int.mul_nonneg (by omega) (by omega)
  have hm : (k : Int) * d ≤ n * d := Int.mul_le_mul_of_nonneg_right (by omega) (by omega)
  have := bef_full d n hn
  refine ⟨by unfold bef; exact Int.ediv_nonneg (by omega) (by omega), ?_⟩
  have h3 : bef d n k ≤ bef d n n := by unfold bef; exact Int.ediv_le_ediv (by omega) (by omega)
  omega
theorem n_le_d (d s : Int) (n : Nat) (h1 : 1 ≤ d) (h3 : 1 ≤ s) (h : (d + s - 1) / s = n) : (n : Int) ≤ d := by
  have := (passes_lt d s n (n - 1) h3 h).2 (by omega)
  have h4 : (n - 1 : Int) * 1 ≤ (n - 1) * s ∨ (n : Int) < 1 := by
    rcases Int.lt_or_le (n : Int) 1 with h5 | h5
    · exact .inr h5
    · exact .inl (Int.mul_le_mul_of_nonneg_left h3 (by omega))
  omega
set_option maxHeartbeats 1000000 in
theorem law_least (d s : Int) (w : World) (hp : Pow w) :
    Calls Tryd.prog 4 #[.int .i64 d, .int .i64 s] w fun e w' => e = .returned (.bool true) ∧ Below w.heap.size w w' := by
  by_cases hbad : d < 1 ∨ 10000000 < d ∨ s < 1 ∨ 10000000 < s
  · go_enter Tryd.func4, Tryd.ntmps4
    go_wp2_with (first
      | (go_at_call 8; refine (awake_any w hp).mono ?_; rintro e w1 ⟨rfl, hb1⟩)
      | (go_at_call 9; refine (passes_bad d s w1 hbad).mono ?_; rintro e w2 ⟨rfl, rfl⟩))
    go_ret
    exact ⟨rfl, hb1⟩
  · have h1 : 1 ≤ d := by omega
    have h2 : d ≤ 10000000 := by omega
    have h3 : 1 ≤ s := by omega
    have h4 : s ≤ 10000000 := by omega
    clear hbad
    by_cases hbig : 1000 < (d + s - 1) / s
    · go_enter Tryd.func4, Tryd.ntmps4
      go_wp2_with (first
        | (go_at_call 8; refine (awake_any w hp).mono ?_; rintro e w1 ⟨rfl, hb1⟩)
        | (go_at_call 9; refine (passes_large d s w1 h1 h2 h3 h4 hbig).mono ?_; rintro e w2 ⟨rfl, rfl⟩))
      go_ret
      exact ⟨rfl, hb1⟩
    · have hpos := passes_pos d s h1 h3
      obtain ⟨n, hn⟩ := Int.eq_ofNat_of_zero_le (show 0 ≤ (d + s - 1) / s by omega)
      have h5 : n ≤ 1000 := by omega
      have h6 : 1 ≤ n := by omega
      have hnd := n_le_d d s n h1 h3 hn
      have hns : d ≤ (n : Int) * s := by have := (passes_lt d s n n h3 hn).1; omega
      have hlast : ((n : Int) - 1) * s < d := (passes_lt d s n (n - 1) h3 hn).2 (by omega)
      have hmb := mul_bd ((n : Int) - 1) s 1000 10000000 (by omega) (by omega) (by omega) h4
      obtain ⟨hmb1, hmb2⟩ := hmb
      have Hns := Lib.hid hns
      have Hn := Lib.hid hn
      clear hn hbig hpos hns
      go_enter Tryd.func4, Tryd.ntmps4
      go_wp2_with fail
      refine (awake_any w hp).mono ?_
      rintro e w1 ⟨rfl, hb1⟩
      go_wp2_with fail
      refine (passes_ok d s n w1 h1 h2 h3 h4 Hn.out h5 h6).mono ?_
      rintro e w2 ⟨v2, rfl, hown2, hb2⟩
      obtain ⟨A2, c2, rfl⟩ := own_form hown2
      have r2 : RdI .i64 w2 A2 n (deps d n n) := Rd.own hown2
      have hbA := hb1.trans (hb2.mono hb1.size)
      clear hown2 hb1 hb2
      go_wp2
      go_loopw [7, 25] (fun v i wr => ∃ (k : Nat) (x : Int), k ≤ n ∧ i = .int .i64 k ∧ v = .int .i64 x ∧ Hid (x = bef d n k) ∧ Below w2.heap.size w2 wr) (fun _ i _ => n - (intOf i).toNat)
      case atStart => exact ⟨0, 0, Nat.zero_le _, rfl, rfl, (bef_zero d n h6).symm, Below.refl _ _⟩
      case round =>
        obtain ⟨k, x, hk, rfl, rfl, Hx, hbel⟩ := hrel
        have hxb := bef_bd d n k h6 hk h1 h2
        rw [← Hx.out] at hxb
        obtain ⟨hx0, hx1⟩ := hxb
        by_cases hlt : k < n
        · obtain ⟨b, off, y, rfl, hlt1, hy, hc⟩ := (r2.below hbel).at_ hlt
          have hye : y = bef d n (k + 1) := by
            have h := hy.out
            rw [deps_full] at h
            simp [hlt] at h
            rw [← bef_succ, h]
          have hyb := bef_bd d n (k + 1) h6 hlt h1 h2
          have hlt3 := bef_lt d s n k h6 hnd
          have hstep := bef_step d s n k h6 Hns.out
          rw [← hye, ← Hx.out] at hlt3 hstep
          rw [← hye] at hyb
          obtain ⟨hy0, hy1⟩ := hyb
          have Hy := Lib.hid hye
          clear hye
          go_wp2
          go_roundw
          case rel => exact ⟨k + 1, y, by omega, by go_num, rfl, Hy, hbel⟩
          case measure => simp [intOf]; omega
        · obtain rfl : k = n := by omega
          have hxd : x = d := by rw [Hx.out, bef_full d k h6]
          subst hxd
          go_wp2
          go_ret
          exact ⟨rfl, hbA.trans (hbel.mono hbA.size)⟩
end Go.Proofs.YtcgjojjgagaliaaDoor
