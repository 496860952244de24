/- filter.scaled. -/
import Derived.Test.YthlnndkgpgfbnaaGreatRsJ
import Derived.Test.YthlnndkgpgfbnaaGreatProg
namespace Go.Proofs.YthlnndkgpgfbnaaGreat
open Go Go.RowKit
theorem fScaled_ok {x y : Int} (h0 : -9223372036854775808 ≤ x) (h1 : x ≤ 9223372036854775807) (h2 : -9223372036854775808 ≤ y) (h3 : y ≤ 9223372036854775807) : Ok Tryz.prog 119 [.c (.i .i64 x), .c (.i .i64 y)] [.c (.i .i64 (if scBig x y then 0 else scLo x y)), .c (.i .i64 (if scBig x y then 0 else scHi x y)), .c (.b (scOk x y))] := by
  obtain ⟨p, hp⟩ : ∃ p, scP x y = p := ⟨_, rfl⟩
  have hp' : (x.natAbs : Int) * (y.natAbs : Int) = p := hp
  have hp0 : 0 ≤ p := by rw [← hp']; exact Int.mul_nonneg (by omega) (by omega)
  have hp1 : p ≤ 9223372036854775808 * 9223372036854775808 := by rw [← hp']; exact Int.mul_le_mul (by omega) (by omega) (by omega) (by decide)
  have hmul : Ok Tryz.prog 128 [.c (.i .u64 (x.natAbs : Int)), .c (.i .u64 (y.natAbs : Int))] [.c (.i .u64 (p / 18446744073709551616)), .c (.i .u64 (p % 18446744073709551616))] := by rw [← hp']; exact bMul64_ok (by omega) (by omega) (by omega) (by omega)
  have big : p / 65536 > 2305843009213693952 → scBig x y = true := fun h => by unfold scBig; rw [hp]; exact decide_eq_true h
  have small : ¬ p / 65536 > 2305843009213693952 → scBig x y = false := fun h => by unfold scBig; rw [hp]; exact decide_eq_false h
  refine Ok.of (by kernel_rfl) Tryz.func119 rfl rfl ?_
  rw [show Tryz.f119.ntmps = 56 from rfl, show Tryz.f119.results.toList = [.tmp 4, .tmp 5, .tmp 6] from rfl]
  refine dw_seq <| dw_region (by kernel_rfl) <| dl_r (sem_assign rfl rfl) <| dl_r (sem_assign rfl rfl) <| dl_r (sem_assign rfl rfl) <| dl_end <| dw_seq <| dw_region (by kernel_rfl) ?_
  refine dl_r (sem_move rfl rfl) <| dl_r (sem_call rfl rfl (fAbs_ok (by omega) (by omega)) rfl) <| dl_r (sem_move rfl rfl) <| dl_r (sem_call rfl rfl (fAbs_ok (by omega) (by omega)) rfl) <| dl_r (sem_call rfl rfl (hmul) rfl) <| dl_r (sem_move rfl rfl) <| dl_r (sem_extract rfl rfl rfl) <| dl_r (sem_extract rfl rfl rfl) ?_
  refine dl_r (sem_assign rfl rfl) <| dl_r (sem_assign rfl rfl) <| dl_end <| dw_seq <| dw_seq <| dw_region (by kernel_rfl) <| dl_r (sem_move rfl rfl) <| dl_r (sem_shr (r := p / 18446744073709551616 / 65536) rfl rfl (by decide) (shr16) rfl) ?_
  refine dl_r (sem_cmp rfl rfl rfl rfl) <| dl_end ?_
  refine dw_cond rfl (fun hc1 => ?_) (fun hc1 => ?_)
  · have g1 := nz_t hc1
    refine dw_seq <| dw_region (by kernel_rfl) <| dl_r (sem_assign rfl rfl) <| dl_r (sem_assign rfl rfl) <| dl_r (sem_assign rfl rfl) <| dl_end <| dw_ret ?_
    rw [show scOk x y = false from by unfold scOk; rw [big (by omega)]; rfl, big (by omega), if_pos rfl, if_pos rfl]
    exact ⟨.inr rfl, (resL_tmp rfl (resL_tmp rfl (resL_tmp rfl resL_nil)))⟩
  · have g1 := nz_f hc1
    refine dw_skip <| dw_seq <| dw_region (by kernel_rfl) <| dl_r (sem_move rfl rfl) <| dl_r (sem_shl (r := (p / 18446744073709551616) * 281474976710656) rfl rfl (by decide) (shl48 (by omega) (by omega)) rfl) <| dl_r (sem_move rfl rfl) <| dl_r (sem_shr (r := p % 18446744073709551616 / 65536) rfl rfl (by decide) (shr16) rfl) <| dl_r (sem_or (r := p / 65536) rfl rfl ((or48 (by omega) (by omega) (by omega) (by omega)).trans (by omega)) rfl) ?_
    refine dl_r (sem_assign rfl rfl) <| dl_end <| dw_seq <| dw_seq <| dw_region (by kernel_rfl) <| dl_r (sem_move rfl rfl) <| dl_r (sem_cmp rfl rfl rfl rfl) <| dl_end ?_
    refine dw_cond rfl (fun hc2 => ?_) (fun hc2 => ?_)
    · refine dw_seq <| dw_region (by kernel_rfl) <| dl_r (sem_assign rfl rfl) <| dl_r (sem_assign rfl rfl) <| dl_r (sem_assign rfl rfl) <| dl_end <| dw_ret ?_
      rw [show scOk x y = false from by unfold scOk; rw [big (dec_t hc2)]; rfl, big (dec_t hc2), if_pos rfl, if_pos rfl]
      exact ⟨.inr rfl, (resL_tmp rfl (resL_tmp rfl (resL_tmp rfl resL_nil)))⟩
    · have g2 := dec_f hc2
      refine dw_skip <| dw_seq <| dw_region (by kernel_rfl) <| dl_r (sem_move rfl rfl) <| dl_r (sem_conv' (r := p / 65536) und69 und2 rfl (nw64 (by omega) (by omega)) rfl) <| dl_r (sem_move rfl rfl) <| dl_r (sem_conv' (r := p / 65536) und69 und2 rfl (nw64 (by omega) (by omega)) rfl) <| dl_r (sem_assign rfl rfl) ?_
      refine dl_r (sem_assign rfl rfl) <| dl_end <| dw_seq <| dw_seq <| dw_region (by kernel_rfl) <| dl_r (sem_move rfl rfl) <| dl_r (sem_and (r := p % 18446744073709551616 % 65536) rfl rfl (and16 (by omega) (by omega)) rfl) <| dl_r (sem_cmp rfl rfl rfl rfl) ?_
      refine dl_end ?_
      refine dw_cond rfl (fun hc3 => ?_) (fun hc3 => ?_)
      · have hu := scUp_t hc3
        refine dw_region (by kernel_rfl) <| dl_r (sem_move rfl rfl) <| dl_r (sem_ari (r := (p / 65536) + 1) rfl rfl (ari_i64_add (by omega) (by omega)) rfl) <| dl_r (sem_assign rfl rfl) <| dl_end <| dw_seq <| dw_seq <| dw_region (by kernel_rfl) ?_
        refine dl_r (sem_move rfl rfl) <| dl_r (sem_cmp rfl rfl rfl rfl) <| dl_r (sem_move rfl rfl) <| dl_r (sem_cmp rfl rfl rfl rfl) <| dl_r (sem_bneq rfl rfl ty_bool rfl) <| dl_end ?_
        refine dw_cond rfl (fun hc4 => ?_) (fun hc4 => ?_)
        · -- region 11
          refine dw_region (by kernel_rfl) <| dl_r (sem_move rfl rfl) <| dl_r (sem_neg' (r := -(p / 65536 + 1)) rfl (by rw [nw64 (by omega) (by omega)]; omega) rfl) <| dl_r (sem_move rfl rfl) <| dl_r (sem_neg' (r := -(p / 65536)) rfl (by rw [nw64 (by omega) (by omega)]; omega) rfl) <| dl_r (sem_assign rfl rfl) <| dl_r (sem_assign rfl rfl) <| dl_end ?_
          refine dw_seq <| dw_region (by kernel_rfl) <| dl_r (sem_move rfl rfl) <| dl_r (sem_move rfl rfl) <| dl_r (sem_move rfl rfl) <| dl_r (sem_cmp rfl rfl rfl rfl) ?_
          refine dl_rb (sem_move rfl rfl) (fun c5 hb5 => ?_)
          cases c5
          · refine dl_skip (sem_skip rfl) <| dl_skip (sem_skip rfl) <| dl_r (sem_pick rfl rfl rfl rfl) <| dl_r (sem_assign rfl rfl) <| dl_r (sem_assign rfl rfl) <| dl_r (sem_assign rfl rfl) <| dl_end <| dw_ret ?_
            unfold scOk
            rw [small (dec_f hc2), if_neg (by decide), if_neg (by decide), Bool.not_false, Bool.true_and]
            rw [show scLo x y = -(p / 65536 + 1) from by unfold scLo; rw [hp, hu, if_pos hc4], show scHi x y = -(p / 65536) from by unfold scHi; rw [hp, hu, if_pos hc4]]
            rw [hb5, Bool.false_and]
            exact ⟨.inr rfl, (resL_tmp rfl (resL_tmp rfl (resL_tmp rfl resL_nil)))⟩
          · refine dl_r (sem_move rfl rfl) <| dl_r (sem_cmp rfl rfl rfl rfl) <| dl_r (sem_pick rfl rfl rfl rfl) <| dl_r (sem_assign rfl rfl) <| dl_r (sem_assign rfl rfl) <| dl_r (sem_assign rfl rfl) <| dl_end <| dw_ret ?_
            unfold scOk
            rw [small (dec_f hc2), if_neg (by decide), if_neg (by decide), Bool.not_false, Bool.true_and]
            rw [show scLo x y = -(p / 65536 + 1) from by unfold scLo; rw [hp, hu, if_pos hc4], show scHi x y = -(p / 65536) from by unfold scHi; rw [hp, hu, if_pos hc4]]
            rw [hb5, Bool.true_and]
            exact ⟨.inr rfl, (resL_tmp rfl (resL_tmp rfl (resL_tmp rfl resL_nil)))⟩
        · refine dw_skip <| dw_seq <| dw_region (by kernel_rfl) <| dl_r (sem_move rfl rfl) <| dl_r (sem_move rfl rfl) <| dl_r (sem_move rfl rfl) <| dl_r (sem_cmp rfl rfl rfl rfl) ?_
          refine dl_rb (sem_move rfl rfl) (fun c6 hb6 => ?_)
          cases c6
          · refine dl_skip (sem_skip rfl) <| dl_skip (sem_skip rfl) <| dl_r (sem_pick rfl rfl rfl rfl) <| dl_r (sem_assign rfl rfl) <| dl_r (sem_assign rfl rfl) <| dl_r (sem_assign rfl rfl) <| dl_end <| dw_ret ?_
            unfold scOk
            rw [small (dec_f hc2), if_neg (by decide), if_neg (by decide), Bool.not_false, Bool.true_and]
            rw [show scLo x y = p / 65536 from by unfold scLo; rw [hp, hu, if_neg (by rw [hc4]; decide)], show scHi x y = p / 65536 + 1 from by unfold scHi; rw [hp, hu, if_neg (by rw [hc4]; decide)]]
            rw [hb6, Bool.false_and]
            exact ⟨.inr rfl, (resL_tmp rfl (resL_tmp rfl (resL_tmp rfl resL_nil)))⟩
          · refine dl_r (sem_move rfl rfl) <| dl_r (sem_cmp rfl rfl rfl rfl) <| dl_r (sem_pick rfl rfl rfl rfl) <| dl_r (sem_assign rfl rfl) <| dl_r (sem_assign rfl rfl) <| dl_r (sem_assign rfl rfl) <| dl_end <| dw_ret ?_
            unfold scOk
            rw [small (dec_f hc2), if_neg (by decide), if_neg (by decide), Bool.not_false, Bool.true_and]
            rw [show scLo x y = p / 65536 from by unfold scLo; rw [hp, hu, if_neg (by rw [hc4]; decide)], show scHi x y = p / 65536 + 1 from by unfold scHi; rw [hp, hu, if_neg (by rw [hc4]; decide)]]
            rw [hb6, Bool.true_and]
            exact ⟨.inr rfl, (resL_tmp rfl (resL_tmp rfl (resL_tmp rfl resL_nil)))⟩
      · have hu := scUp_f hc3
        refine dw_skip <| dw_seq <| dw_seq <| dw_region (by kernel_rfl) <| dl_r (sem_move rfl rfl) <| dl_r (sem_cmp rfl rfl rfl rfl) <| dl_r (sem_move rfl rfl) <| dl_r (sem_cmp rfl rfl rfl rfl) ?_
        refine dl_r (sem_bneq rfl rfl ty_bool rfl) <| dl_end ?_
        refine dw_cond rfl (fun hc7 => ?_) (fun hc7 => ?_)
        · -- region 11
          refine dw_region (by kernel_rfl) <| dl_r (sem_move rfl rfl) <| dl_r (sem_neg' (r := -(p / 65536)) rfl (by rw [nw64 (by omega) (by omega)]; omega) rfl) <| dl_r (sem_move rfl rfl) <| dl_r (sem_neg' (r := -(p / 65536)) rfl (by rw [nw64 (by omega) (by omega)]; omega) rfl) <| dl_r (sem_assign rfl rfl) <| dl_r (sem_assign rfl rfl) <| dl_end ?_
          refine dw_seq <| dw_region (by kernel_rfl) <| dl_r (sem_move rfl rfl) <| dl_r (sem_move rfl rfl) <| dl_r (sem_move rfl rfl) <| dl_r (sem_cmp rfl rfl rfl rfl) ?_
          refine dl_rb (sem_move rfl rfl) (fun c8 hb8 => ?_)
          cases c8
          · refine dl_skip (sem_skip rfl) <| dl_skip (sem_skip rfl) <| dl_r (sem_pick rfl rfl rfl rfl) <| dl_r (sem_assign rfl rfl) <| dl_r (sem_assign rfl rfl) <| dl_r (sem_assign rfl rfl) <| dl_end <| dw_ret ?_
            unfold scOk
            rw [small (dec_f hc2), if_neg (by decide), if_neg (by decide), Bool.not_false, Bool.true_and]
            rw [show scLo x y = -(p / 65536) from by unfold scLo; rw [hp, hu, if_pos hc7], show scHi x y = -(p / 65536) from by unfold scHi; rw [hp, hu, if_pos hc7]]
            rw [hb8, Bool.false_and]
            exact ⟨.inr rfl, (resL_tmp rfl (resL_tmp rfl (resL_tmp rfl resL_nil)))⟩
          · refine dl_r (sem_move rfl rfl) <| dl_r (sem_cmp rfl rfl rfl rfl) <| dl_r (sem_pick rfl rfl rfl rfl) <| dl_r (sem_assign rfl rfl) <| dl_r (sem_assign rfl rfl) <| dl_r (sem_assign rfl rfl) <| dl_end <| dw_ret ?_
            unfold scOk
            rw [small (dec_f hc2), if_neg (by decide), if_neg (by decide), Bool.not_false, Bool.true_and]
            rw [show scLo x y = -(p / 65536) from by unfold scLo; rw [hp, hu, if_pos hc7], show scHi x y = -(p / 65536) from by unfold scHi; rw [hp, hu, if_pos hc7]]
            rw [hb8, Bool.true_and]
            exact ⟨.inr rfl, (resL_tmp rfl (resL_tmp rfl (resL_tmp rfl resL_nil)))⟩
        · refine dw_skip <| dw_seq <| dw_region (by kernel_rfl) <| dl_r (sem_move rfl rfl) <| dl_r (sem_move rfl rfl) <| dl_r (sem_move rfl rfl) <| dl_r (sem_cmp rfl rfl rfl rfl) ?_
          refine dl_rb (sem_move rfl rfl) (fun c9 hb9 => ?_)
          cases c9
          · refine dl_skip (sem_skip rfl) <| dl_skip (sem_skip rfl) <| dl_r (sem_pick rfl rfl rfl rfl) <| dl_r (sem_assign rfl rfl) <| dl_r (sem_assign rfl rfl) <| dl_r (sem_assign rfl rfl) <| dl_end <| dw_ret ?_
            unfold scOk
            rw [small (dec_f hc2), if_neg (by decide), if_neg (by decide), Bool.not_false, Bool.true_and]
            rw [show scLo x y = p / 65536 from by unfold scLo; rw [hp, hu, if_neg (by rw [hc7]; decide)], show scHi x y = p / 65536 from by unfold scHi; rw [hp, hu, if_neg (by rw [hc7]; decide)]]
            rw [hb9, Bool.false_and]
            exact ⟨.inr rfl, (resL_tmp rfl (resL_tmp rfl (resL_tmp rfl resL_nil)))⟩
          · refine dl_r (sem_move rfl rfl) <| dl_r (sem_cmp rfl rfl rfl rfl) <| dl_r (sem_pick rfl rfl rfl rfl) <| dl_r (sem_assign rfl rfl) <| dl_r (sem_assign rfl rfl) <| dl_r (sem_assign rfl rfl) <| dl_end <| dw_ret ?_
            unfold scOk
            rw [small (dec_f hc2), if_neg (by decide), if_neg (by decide), Bool.not_false, Bool.true_and]
            rw [show scLo x y = p / 65536 from by unfold scLo; rw [hp, hu, if_neg (by rw [hc7]; decide)], show scHi x y = p / 65536 from by unfold scHi; rw [hp, hu, if_neg (by rw [hc7]; decide)]]
            rw [hb9, Bool.true_and]
            exact ⟨.inr rfl, (resL_tmp rfl (resL_tmp rfl (resL_tmp rfl resL_nil)))⟩
def sgI (x y : Int) : Int := if x > 0 then 1 else if y < 0 then -1 else 0
def skI (x y : Int) : Bool := decide (x > 0) || (decide (y < 0) || (x == 0 && y == 0))
theorem sg_p {x y : Int} (h : decide (x > 0) = true) : sgI x y = 1 ∧ skI x y = true := by
  unfold sgI skI; rw [if_pos (by simpa using h), h]; exact ⟨rfl, rfl⟩
theorem sg_n {x y : Int} (h : decide (x > 0) = false) (h2 : decide (y < 0) = true) : sgI x y = -1 ∧ skI x y = true := by
  unfold sgI skI; rw [if_neg (by simpa using h), if_pos (by simpa using h2), h, h2]; exact ⟨rfl, rfl⟩
theorem sg_z {x y : Int} (h : decide (x > 0) = false) (h2 : decide (y < 0) = false) : sgI x y = 0 ∧ skI x y = (x == 0 && y == 0) := by
  unfold sgI skI; rw [if_neg (by simpa using h), if_neg (by simpa using h2), h, h2]; exact ⟨rfl, rfl⟩
theorem fSign_ok {x y : Int} : Ok Tryz.prog 95 [.a ([.i .i64 x] ++ [.i .i64 y])] [.c (.i .i64 (sgI x y)), .c (.b (skI x y))] := by
  refine Ok.of (by kernel_rfl) Tryz.func95 rfl rfl ?_
  rw [show Tryz.f95.ntmps = 20 from rfl, show Tryz.f95.results.toList = [.tmp 2, .tmp 3] from rfl]
  refine dw_seq <| dw_region (by kernel_rfl) <| dl_new (sem_box_a rfl rfl) rfl <| dl_r (sem_assign rfl rfl) <| dl_r (sem_assign rfl rfl) <| dl_end <| dw_seq <| dw_block ?_
  refine dw_seq <| dw_region (by kernel_rfl) <| dl_r (sem_field fd103_0 rfl rfl) <| dl_r (sem_load1 ty2 rfl rfl rfl rfl) <| dl_r (sem_cmp rfl rfl rfl rfl) <| dl_r (sem_assign rfl rfl) <| dl_end ?_
  refine dw_cond rfl (fun hc1 => ?_) (fun hc1 => ?_)
  · refine dw_seq <| dw_region (by kernel_rfl) <| dl_r (sem_assign rfl rfl) <| dl_r (sem_assign rfl rfl) <| dl_end <| dw_ret ?_
    rw [(sg_p hc1).1, (sg_p hc1).2]
    exact ⟨.inr rfl, (resL_tmp rfl (resL_tmp rfl resL_nil))⟩
  · refine dw_seq <| dw_region (by kernel_rfl) <| dl_r (sem_field fd103_1 rfl rfl) <| dl_r (sem_load1 ty2 rfl rfl rfl rfl) <| dl_r (sem_cmp rfl rfl rfl rfl) <| dl_r (sem_assign rfl rfl) <| dl_end ?_
    refine dw_cond rfl (fun hc2 => ?_) (fun hc2 => ?_)
    · refine dw_seq <| dw_region (by kernel_rfl) <| dl_r (sem_assign rfl rfl) <| dl_r (sem_assign rfl rfl) <| dl_end <| dw_ret ?_
      rw [(sg_n hc1 hc2).1, (sg_n hc1 hc2).2]
      exact ⟨.inr rfl, (resL_tmp rfl (resL_tmp rfl resL_nil))⟩
    · refine dw_skip <| dw_seq <| dw_draw 10 [] follows_mixed (by kernel_rfl) rfl rfl <| dq_r (sem_field fd103_0 rfl rfl) <| dq_r (sem_load1 ty2 rfl rfl rfl rfl) <| dq_r (sem_cmp rfl rfl rfl rfl) ?_
      refine dq_rb (sem_move rfl rfl) (fun c3 hb3 => ?_)
      cases c3
      · refine dq_skip (sem_skip rfl) <| dq_skip (sem_skip rfl) <| dq_skip (sem_skip rfl) <| dq_r (sem_pick rfl rfl rfl rfl) <| dq_r (sem_assign rfl rfl) <| dq_r (sem_assign rfl rfl) <| dq_end <| dl_start0 ?_
        refine dl_end <| dw_ret ?_
        rw [(sg_z hc1 hc2).1, (sg_z hc1 hc2).2, hb3, Bool.false_and]
        exact ⟨.inr rfl, (resL_tmp rfl (resL_tmp rfl resL_nil))⟩
      · refine dq_r (sem_field fd103_1 rfl rfl) <| dq_r (sem_load1 ty2 rfl rfl rfl rfl) <| dq_r (sem_cmp rfl rfl rfl rfl) <| dq_r (sem_pick rfl rfl rfl rfl) <| dq_r (sem_assign rfl rfl) <| dq_r (sem_assign rfl rfl) <| dq_end <| dl_start0 ?_
        refine dl_end <| dw_ret ?_
        rw [(sg_z hc1 hc2).1, (sg_z hc1 hc2).2, hb3, Bool.true_and]
        exact ⟨.inr rfl, (resL_tmp rfl (resL_tmp rfl resL_nil))⟩
def sel (x y : Int) (k : Nat) : Int := if k = 0 then x else y
theorem sel_get {x y : Int} {k : Nat} (h : k < 2) : ([CellD.i .i64 x, .i .i64 y])[k * 1]? = some (.i .i64 (sel x y k)) := by
  have : k = 0 ∨ k = 1 := by omega
  rcases this with rfl | rfl <;> rfl
theorem sel_bd {x y : Int} {k : Nat} (h0 : -2305843009213693952 ≤ x) (h1 : x ≤ 2305843009213693952) (h2 : -2305843009213693952 ≤ y) (h3 : y ≤ 2305843009213693952) : -2305843009213693952 ≤ sel x y k ∧ sel x y k ≤ 2305843009213693952 := by
  unfold sel; split <;> omega
def loN (x y u v : Int) : Nat → Int
  | 0 => 2305843009213693952
  | n + 1 => min (loN x y u v n) (scLo (sel x y (n / 2)) (sel u v (n % 2)))
def hiN (x y u v : Int) : Nat → Int
  | 0 => -2305843009213693952
  | n + 1 => max (hiN x y u v n) (scHi (sel x y (n / 2)) (sel u v (n % 2)))
def okN (x y u v : Int) : Nat → Bool
  | 0 => true
  | n + 1 => okN x y u v n && scOk (sel x y (n / 2)) (sel u v (n % 2))
theorem sc_big {x y : Int} (h : scOk x y = true) : ¬ scBig x y = true := by
  unfold scOk at h
  rw [Bool.and_eq_true] at h
  intro e
  rw [e] at h
  exact absurd h.1 (by decide)
theorem ok_false {x y u v : Int} {n : Nat} (h : okN x y u v n = false) (m : Nat) : okN x y u v (n + m) = false := by
  induction m with
  | zero => exact h
  | succ m ih => show (okN x y u v (n + m) && _) = false; rw [ih]; rfl
theorem lo_step {x y u v : Int} {k j : Nat} (hj : j < 2) (h : scOk (sel x y k) (sel u v j) = true) : min (loN x y u v (2 * k + j)) (if scBig (sel x y k) (sel u v j) then 0 else scLo (sel x y k) (sel u v j)) = loN x y u v (2 * k + (j + 1)) := by
  rw [if_neg (sc_big h)]
  show _ = min (loN x y u v (2 * k + j)) (scLo (sel x y ((2 * k + j) / 2)) (sel u v ((2 * k + j) % 2)))
  rw [show (2 * k + j) / 2 = k from by omega, show (2 * k + j) % 2 = j from by omega]
theorem hi_step {x y u v : Int} {k j : Nat} (hj : j < 2) (h : scOk (sel x y k) (sel u v j) = true) : max (hiN x y u v (2 * k + j)) (if scBig (sel x y k) (sel u v j) then 0 else scHi (sel x y k) (sel u v j)) = hiN x y u v (2 * k + (j + 1)) := by
  rw [if_neg (sc_big h)]
  show _ = max (hiN x y u v (2 * k + j)) (scHi (sel x y ((2 * k + j) / 2)) (sel u v ((2 * k + j) % 2)))
  rw [show (2 * k + j) / 2 = k from by omega, show (2 * k + j) % 2 = j from by omega]
theorem ok_step {x y u v : Int} {k j : Nat} (hj : j < 2) : okN x y u v (2 * k + (j + 1)) = (okN x y u v (2 * k + j) && scOk (sel x y k) (sel u v j)) := by
  show (okN x y u v (2 * k + j) && scOk (sel x y ((2 * k + j) / 2)) (sel u v ((2 * k + j) % 2))) = _
  rw [show (2 * k + j) / 2 = k from by omega, show (2 * k + j) % 2 = j from by omega]
theorem fMul_ok {x y u v : Int} (h0 : -2305843009213693952 ≤ x) (h1 : x ≤ 2305843009213693952) (h2 : -2305843009213693952 ≤ y) (h3 : y ≤ 2305843009213693952) (h4 : -2305843009213693952 ≤ u) (h5 : u ≤ 2305843009213693952) (h6 : -2305843009213693952 ≤ v) (h7 : v ≤ 2305843009213693952) : Ok Tryz.prog 93 [.a ([.i .i64 x] ++ [.i .i64 y]), .a ([.i .i64 u] ++ [.i .i64 v])] [.a ([.i .i64 (if okN x y u v 4 then loN x y u v 4 else 0)] ++ [.i .i64 (if okN x y u v 4 then hiN x y u v 4 else 0)]), .c (.b (okN x y u v 4))] := by
  refine Ok.of (by kernel_rfl) Tryz.func93 rfl rfl ?_
  rw [show Tryz.f93.ntmps = 56 from rfl, show Tryz.f93.results.toList = [.cell 4 103, .tmp 5] from rfl]
  refine dw_seq <| dw_region (by kernel_rfl) <| dl_new (sem_box_a rfl rfl) rfl <| dl_new (sem_box_a rfl rfl) rfl <| dl_new (sem_alloc zc103 rfl) rfl <| dl_r (sem_assign rfl rfl) <| dl_end <| dw_seq ?_
  refine dw_region (by kernel_rfl) <| dl_r (sem_assign rfl rfl) <| dl_r (sem_assign rfl rfl) <| dl_end <| dw_seq <| dw_seq <| dw_region (by kernel_rfl) <| dl_r (sem_field fd103_0 rfl rfl) ?_
  refine dl_r (sem_load1 ty2 rfl rfl rfl rfl) <| dl_r (sem_field fd103_1 rfl rfl) <| dl_r (sem_load1 ty2 rfl rfl rfl rfl) <| dl_mk (sem_slit (us := [.i .i64 x, .i .i64 y]) el117 rfl rfl (by decide) (by decide) rfl) rfl <| dl_r (sem_len_o sl117 rfl rfl) <| dl_r (sem_move rfl rfl) <| dl_end <| dw_block ?_
  refine dw_loop (ι := {k : Nat // k ≤ 2 ∧ okN x y u v (2 * k) = true}) (fun i => ⟨56, [(2, .p 2 0), (3, .p 3 0), (4, .p 4 0), (6, .v (.c (.i .i64 (loN x y u v (2 * i.1))))), (7, .v (.c (.i .i64 (hiN x y u v (2 * i.1))))), (19, .o 19 2 2), (20, .v (.c (.i .i64 (2 : Int)))), (21, .v (.c (.i .i64 (i.1 : Int))))], [(2, 103, ([.i .i64 x] ++ [.i .i64 y])), (3, 103, ([.i .i64 u] ++ [.i .i64 v])), (4, 103, ([.i .i64 0] ++ [.i .i64 0])), (19, 2, [.i .i64 x, .i .i64 y])]⟩) (fun i => 2 - i.1) ⟨0, by omega, rfl⟩ (sub_of ⟨rfl, rfl, rfl, rfl, rfl, rfl, rfl, rfl, trivial⟩ ⟨rfl, rfl, rfl, rfl, trivial⟩ rfl) ?_
  rintro ⟨k, hk0, hok⟩
  replace hk0 : k ≤ 2 := hk0
  replace hok : okN x y u v (2 * k) = true := hok
  have gx := sel_bd (k := k) h0 h1 h2 h3
  show Dw _ _ ⟨56, [(2, .p 2 0), (3, .p 3 0), (4, .p 4 0), (6, .v (.c (.i .i64 (loN x y u v (2 * k))))), (7, .v (.c (.i .i64 (hiN x y u v (2 * k))))), (19, .o 19 2 2), (20, .v (.c (.i .i64 (2 : Int)))), (21, .v (.c (.i .i64 (k : Int))))], [(2, 103, ([.i .i64 x] ++ [.i .i64 y])), (3, 103, ([.i .i64 u] ++ [.i .i64 v])), (4, 103, ([.i .i64 0] ++ [.i .i64 0])), (19, 2, [.i .i64 x, .i .i64 y])]⟩ _
  refine dw_seq <| dw_region (by kernel_rfl) <| dl_r (sem_cmp rfl rfl rfl rfl) <| dl_end <| dw_seq ?_
  refine dw_cond rfl (fun hc1 => ?_) (fun hc1 => ?_)
  · have hk : k < 2 := by have := dec_t hc1; omega
    refine dw_skip <| dw_seq <| dw_block <| dw_seq <| dw_region (by kernel_rfl) <| dl_r (sem_index_o sl117 rfl rfl (by omega) rfl) <| dl_r (sem_load1 ty2 rfl rfl (sel_get (x := x) (y := y) (k := k) (by omega)) rfl) <| dl_r (sem_assign rfl rfl) ?_
    refine dl_end <| dw_seq <| dw_region (by kernel_rfl) <| dl_r (sem_field fd103_0 rfl rfl) <| dl_r (sem_load1 ty2 rfl rfl rfl rfl) <| dl_r (sem_field fd103_1 rfl rfl) <| dl_r (sem_load1 ty2 rfl rfl rfl rfl) <| dl_mk (sem_slit (us := [.i .i64 u, .i .i64 v]) el117 rfl rfl (by decide) (by decide) rfl) rfl ?_
    refine dl_r (sem_len_o sl117 rfl rfl) <| dl_r (sem_move rfl rfl) <| dl_end <| dw_block <| dw_loop (ι := {j : Nat // j ≤ 2 ∧ okN x y u v (2 * k + j) = true}) (fun i => ⟨56, [(2, .p 2 0), (3, .p 3 0), (4, .p 4 0), (6, .v (.c (.i .i64 (loN x y u v (2 * k + i.1))))), (7, .v (.c (.i .i64 (hiN x y u v (2 * k + i.1))))), (19, .o 19 2 2), (20, .v (.c (.i .i64 (2 : Int)))), (21, .v (.c (.i .i64 (k : Int)))), (9, .v (.c (.i .i64 (sel x y k)))), (29, .o 29 2 2), (30, .v (.c (.i .i64 (2 : Int)))), (31, .v (.c (.i .i64 (i.1 : Int))))], [(2, 103, ([.i .i64 x] ++ [.i .i64 y])), (3, 103, ([.i .i64 u] ++ [.i .i64 v])), (4, 103, ([.i .i64 0] ++ [.i .i64 0])), (19, 2, [.i .i64 x, .i .i64 y]), (29, 2, [.i .i64 u, .i .i64 v])]⟩) (fun i => 2 - i.1) ⟨0, by omega, hok⟩ (sub_of ⟨rfl, rfl, rfl, rfl, rfl, rfl, rfl, rfl, rfl, rfl, rfl, rfl, trivial⟩ ⟨rfl, rfl, rfl, rfl, rfl, trivial⟩ rfl) ?_
    rintro ⟨j, hj0, hokj⟩
    replace hj0 : j ≤ 2 := hj0
    replace hokj : okN x y u v (2 * k + j) = true := hokj
    have gu := sel_bd (k := j) h4 h5 h6 h7
    show Dw _ _ ⟨56, [(2, .p 2 0), (3, .p 3 0), (4, .p 4 0), (6, .v (.c (.i .i64 (loN x y u v (2 * k + j))))), (7, .v (.c (.i .i64 (hiN x y u v (2 * k + j))))), (19, .o 19 2 2), (20, .v (.c (.i .i64 (2 : Int)))), (21, .v (.c (.i .i64 (k : Int)))), (9, .v (.c (.i .i64 (sel x y k)))), (29, .o 29 2 2), (30, .v (.c (.i .i64 (2 : Int)))), (31, .v (.c (.i .i64 (j : Int))))], [(2, 103, ([.i .i64 x] ++ [.i .i64 y])), (3, 103, ([.i .i64 u] ++ [.i .i64 v])), (4, 103, ([.i .i64 0] ++ [.i .i64 0])), (19, 2, [.i .i64 x, .i .i64 y]), (29, 2, [.i .i64 u, .i .i64 v])]⟩ _
    refine dw_seq <| dw_region (by kernel_rfl) <| dl_r (sem_cmp rfl rfl rfl rfl) <| dl_end <| dw_seq ?_
    refine dw_cond rfl (fun hc2 => ?_) (fun hc2 => ?_)
    · have hj : j < 2 := by have := dec_t hc2; omega
      refine dw_skip <| dw_seq <| dw_block <| dw_seq <| dw_region (by kernel_rfl) <| dl_r (sem_index_o sl117 rfl rfl (by omega) rfl) <| dl_r (sem_load1 ty2 rfl rfl (sel_get (x := u) (y := v) (k := j) (by omega)) rfl) <| dl_r (sem_assign rfl rfl) ?_
      refine dl_end <| dw_seq <| dw_region (by kernel_rfl) <| dl_r (sem_move rfl rfl) <| dl_r (sem_move rfl rfl) <| dl_r (sem_call rfl rfl (fScaled_ok (by omega) (by omega) (by omega) (by omega)) rfl) <| dl_r (sem_move rfl rfl) <| dl_r (sem_extract rfl rfl rfl) ?_
      refine dl_r (sem_extract rfl rfl rfl) <| dl_r (sem_extract rfl rfl rfl) <| dl_r (sem_assign rfl rfl) <| dl_r (sem_assign rfl rfl) <| dl_r (sem_assign rfl rfl) <| dl_end <| dw_seq <| dw_seq ?_
      refine dw_region (by kernel_rfl) <| dl_r (sem_move rfl rfl) <| dl_r (sem_not rfl rfl) <| dl_end ?_
      refine dw_cond rfl (fun hc3 => ?_) (fun hc3 => ?_)
      · have hbad : okN x y u v 4 = false := by
          have h8 := ok_false (n := 2 * k + (j + 1)) (by rw [ok_step hj, not_t hc3, Bool.and_false]) (4 - (2 * k + (j + 1)))
          rw [show 2 * k + (j + 1) + (4 - (2 * k + (j + 1))) = 4 from by omega] at h8; exact h8
        refine dw_seq <| dw_region (by kernel_rfl) <| dl_r (sem_build (us := ([.i .i64 0] ++ [.i .i64 0])) fs103 zc103 rfl rfl rfl) <| dl_st (sem_store_a ty103 rfl rfl rfl rfl rfl rfl) <| dl_r (sem_assign rfl rfl) <| dl_end <| dw_ret ?_
        rw [hbad, if_neg (by decide), if_neg (by decide)]
        exact ⟨.inr rfl, (resL_cell (us := ([.i .i64 0] ++ [.i .i64 0])) ty103 rfl rfl rfl rfl (resL_tmp rfl resL_nil))⟩
      · have hsc := not_f hc3
        refine dw_skip <| dw_region (by kernel_rfl) <| dl_r (sem_move rfl rfl) <| dl_r (sem_move rfl rfl) <| dl_r (sem_min rfl rfl rfl) <| dl_r (sem_move rfl rfl) <| dl_r (sem_move rfl rfl) <| dl_r (sem_max rfl rfl rfl) ?_
        refine dl_r (sem_assign rfl rfl) <| dl_r (sem_assign rfl rfl) <| dl_end <| dw_region (by kernel_rfl) <| dl_r (sem_ari (r := (j : Int) + 1) rfl rfl (ari_i64_add (by omega) (by omega)) rfl) <| dl_r (sem_move rfl rfl) <| dl_end ?_
        exact ⟨⟨j + 1, by omega, by rw [ok_step hj, hokj, hsc]; rfl⟩, sub_of ⟨rfl, rfl, rfl, by rw [← lo_step hj hsc]; rfl, by rw [← hi_step hj hsc]; rfl, rfl, rfl, rfl, rfl, rfl, rfl, by rw [show ((j + 1 : Nat) : Int) = (j : Int) + 1 from by omega]; rfl, trivial⟩ ⟨rfl, rfl, rfl, rfl, rfl, trivial⟩ rfl, by show 2 - (j + 1) < 2 - j; omega⟩
    · have hj2 : 2 * k + j = 2 * k + 2 := by have := dec_f hc2; omega
      refine dw_exit <| dw_region (by kernel_rfl) <| dl_r (sem_ari (r := (k : Int) + 1) rfl rfl (ari_i64_add (by omega) (by omega)) rfl) <| dl_r (sem_move rfl rfl) <| dl_end ?_
      exact ⟨⟨k + 1, by omega, by rw [show 2 * (k + 1) = 2 * k + 2 from by omega, ← hj2]; exact hokj⟩, sub_of ⟨rfl, rfl, rfl, by rw [show 2 * (k + 1) = 2 * k + 2 from by omega, ← hj2]; rfl, by rw [show 2 * (k + 1) = 2 * k + 2 from by omega, ← hj2]; rfl, rfl, rfl, by rw [show ((k + 1 : Nat) : Int) = (k : Int) + 1 from by omega]; rfl, trivial⟩ ⟨rfl, rfl, rfl, rfl, trivial⟩ rfl, by show 2 - (k + 1) < 2 - k; omega⟩
  · have hk2 : 2 * k = 4 := by have := dec_f hc1; omega
    refine dw_exit <| dw_seq <| dw_region (by kernel_rfl) <| dl_r (sem_move rfl rfl) <| dl_r (sem_move rfl rfl) <| dl_r (sem_build (us := ([.i .i64 (loN x y u v (2 * k))] ++ [.i .i64 (hiN x y u v (2 * k))])) fs103 zc103 rfl rfl rfl) <| dl_st (sem_store_a ty103 rfl rfl rfl rfl rfl rfl) <| dl_r (sem_assign rfl rfl) ?_
    refine dl_end <| dw_ret ?_
    rw [hk2] at hok
    have e1 : loN x y u v 4 = loN x y u v (2 * k) := by rw [hk2]
    have e2 : hiN x y u v 4 = hiN x y u v (2 * k) := by rw [hk2]
    rw [hok, if_pos rfl, if_pos rfl, e1, e2]
    exact ⟨.inr rfl, (resL_cell (us := ([.i .i64 (loN x y u v (2 * k))] ++ [.i .i64 (hiN x y u v (2 * k))])) ty103 rfl rfl rfl rfl (resL_tmp rfl resL_nil))⟩
theorem frHi_nonneg {c : Rat} (h : ¬ c < 0) : 0 ≤ frHi c := by
  unfold frHi
  have h0 : 0 ≤ c := Rat.not_lt.1 h
  have h1 : 0 ≤ c * ((65536 : Int) : Rat) := Rat.mul_nonneg h0 (by decide)
  have h2 : 0 ≤ (c * ((65536 : Int) : Rat)).num := Rat.num_nonneg.2 h1
  have h3 := den_pos (-(c * ((65536 : Int) : Rat)))
  rw [Int.fdiv_eq_ediv_of_nonneg _ (by omega), Rat.neg_num]
  have h4 : (-(c * ((65536 : Int) : Rat)).num) / ((-(c * ((65536 : Int) : Rat))).den : Int) ≤ 0 := by
    have h5 := Int.ediv_le_ediv h3 (show -(c * ((65536 : Int) : Rat)).num ≤ 0 by omega)
    rw [Int.zero_ediv] at h5; exact h5
  omega
theorem ok_bd {lo hi : Int} (h : okI lo hi = true) : -2305843009213693952 ≤ lo ∧ hi ≤ 2305843009213693952 := by unfold okI at h; simpa using h
theorem fr_le (c : Rat) : frLo c ≤ frHi c := by
  unfold frLo frHi
  have h3 := den_pos (c * ((65536 : Int) : Rat))
  rw [Rat.neg_num, Rat.neg_den, Int.fdiv_eq_ediv_of_nonneg _ (by omega), Int.fdiv_eq_ediv_of_nonneg _ (by omega)]
  generalize (c * ((65536 : Int) : Rat)).num = n at *
  generalize ((c * ((65536 : Int) : Rat)).den : Int) = d at *
  have e1 := Int.mul_ediv_add_emod n d
  have e2 := Int.mul_ediv_add_emod (-n) d
  have m1 := Int.emod_nonneg n (show d ≠ 0 by omega)
  have m2 := Int.emod_nonneg (-n) (show d ≠ 0 by omega)
  have h4 : d * (n / d + (-n) / d) ≤ d * 0 := by rw [Int.mul_add]; omega
  have := Int.le_of_mul_le_mul_left h4 h3
  omega
theorem fr_bd {c : Rat} (h : frOk c = true) : -2305843009213693952 ≤ frLo c ∧ frLo c ≤ 2305843009213693952 ∧ -2305843009213693952 ≤ frHi c ∧ frHi c ≤ 2305843009213693952 := by
  unfold frOk at h
  simp only [Bool.and_eq_true] at h
  have h1 := ok_bd h.2.2
  have h2 := fr_le c
  omega
theorem sq_bd {x y : Int} (h1 : x ≤ 2305843009213693952) (h2 : 0 ≤ y) (h3 : y ≤ 2305843009213693952) : 0 ≤ sqLo x ∧ sqLo x ≤ 549755813889 ∧ 0 ≤ sqHi y ∧ sqHi y ≤ 549755813889 := by
  have b1 := isq_bd (n := max x 0) (by omega) (by omega)
  have b2 := isq_bd (n := y) h2 h3
  unfold sqLo sqHi
  refine ⟨b1.1, by omega, ?_, ?_⟩ <;> split <;> omega
theorem n_bd {x y u v : Int} (n : Nat) (h : okN x y u v n = true) : -2305843009213693952 ≤ loN x y u v n ∧ loN x y u v n ≤ 2305843009213693952 ∧ -2305843009213693952 ≤ hiN x y u v n ∧ hiN x y u v n ≤ 2305843009213693952 := by
  induction n with
  | zero => show _ ≤ (2305843009213693952 : Int) ∧ (2305843009213693952 : Int) ≤ _ ∧ _ ≤ (-2305843009213693952 : Int) ∧ (-2305843009213693952 : Int) ≤ _; omega
  | succ n ih =>
    have h' : (okN x y u v n && scOk (sel x y (n / 2)) (sel u v (n % 2))) = true := h
    rw [Bool.and_eq_true] at h'
    have i := ih h'.1
    have s1 := h'.2
    unfold scOk at s1
    simp only [Bool.and_eq_true, decide_eq_true_eq] at s1
    show _ ≤ min _ _ ∧ min _ _ ≤ _ ∧ _ ≤ max _ _ ∧ max _ _ ≤ _
    omega
def rtMo (b c : Rat) : Bool := okN (frLo b) (frHi b) (sqLo (frLo c)) (sqHi (frHi c)) 4
def rtMl (b c : Rat) : Int := loN (frLo b) (frHi b) (sqLo (frLo c)) (sqHi (frHi c)) 4
def rtMh (b c : Rat) : Int := hiN (frLo b) (frHi b) (sqLo (frLo c)) (sqHi (frHi c)) 4
def rtX (a b c : Rat) : Bool := frOk b && (frOk c && (!decide (cmpR c 0 < 0) && (rtMo b c && okI (frLo a + rtMl b c) (frHi a + rtMh b c))))
def rtOk (a b c : Rat) : Bool := frOk a && ((cmpR b 0 == 0) || rtX a b c)
def rtLo (a b c : Rat) : Int := if rtOk a b c then (if (cmpR b 0 == 0) = true then frLo a else frLo a + rtMl b c) else 0
def rtHi (a b c : Rat) : Int := if rtOk a b c then (if (cmpR b 0 == 0) = true then frHi a else frHi a + rtMh b c) else 0
theorem rt_no {a b c : Rat} (h : rtOk a b c = false) : rtLo a b c = 0 ∧ rtHi a b c = 0 := by
  unfold rtLo rtHi; rw [h]; exact ⟨rfl, rfl⟩
theorem rt_a {a b c : Rat} (h : frOk a = false) : rtOk a b c = false := by unfold rtOk; rw [h]; rfl
theorem rt_x {a b c : Rat} (h : (cmpR b 0 == 0) = false) (hx : rtX a b c = false) : rtOk a b c = false := by unfold rtOk; rw [h, hx]; cases frOk a <;> rfl
theorem rt_b {a b c : Rat} (h : frOk a = true) (h2 : (cmpR b 0 == 0) = true) : rtLo a b c = frLo a ∧ rtHi a b c = frHi a ∧ rtOk a b c = true := by
  have e : rtOk a b c = true := by unfold rtOk; rw [h, h2]; rfl
  unfold rtLo rtHi; rw [e, if_pos rfl, if_pos rfl, if_pos h2, if_pos h2]; exact ⟨rfl, rfl, rfl⟩
theorem rt_f {a b c : Rat} (h : frOk a = true) (h2 : (cmpR b 0 == 0) = false) (h3 : frOk b = true) (h4 : frOk c = true) (h5 : decide (cmpR c 0 < 0) = false) (h6 : rtMo b c = true) :
    rtLo a b c = (if okI (frLo a + rtMl b c) (frHi a + rtMh b c) then frLo a + rtMl b c else 0) ∧ rtHi a b c = (if okI (frLo a + rtMl b c) (frHi a + rtMh b c) then frHi a + rtMh b c else 0) ∧ rtOk a b c = okI (frLo a + rtMl b c) (frHi a + rtMh b c) := by
  have e : rtOk a b c = okI (frLo a + rtMl b c) (frHi a + rtMh b c) := by unfold rtOk rtX; rw [h, h2, h3, h4, h5, h6]; rfl
  unfold rtLo rtHi; rw [e, h2]; exact ⟨rfl, rfl, rfl⟩
theorem fRoot2L_ok {a b c : Rat} (ha : Rz 40000 a) (hb : Rz 40000 b) (hc : Rz 40000 c) : Ok Tryz.prog 99 [.a (cR a ++ cR b ++ cR c)] [.a ([.i .i64 (rtLo a b c)] ++ [.i .i64 (rtHi a b c)]), .c (.b (rtOk a b c))] := by
  refine Ok.of (by kernel_rfl) Tryz.func99 rfl rfl ?_
  rw [show Tryz.f99.ntmps = 72 from rfl, show Tryz.f99.results.toList = [.cell 2 103, .tmp 3] from rfl]
  refine dw_seq <| dw_region (by kernel_rfl) <| dl_new (sem_box_a rfl rfl) rfl <| dl_new (sem_alloc zc103 rfl) rfl <| dl_r (sem_assign rfl rfl) <| dl_end <| dw_seq <| dw_region (by kernel_rfl) ?_
  refine dl_r (sem_field fd28_0 rfl rfl) <| dl_r (sem_load (us := cR a) ty26 rfl rfl rfl rfl rfl) ?_
  refine dl_r (sem_call rfl rfl (fFromRatL_ok (by first | assumption | exact Rz.mono ha (by decide))) rfl) ?_
  refine dl_r (sem_move rfl rfl) <| dl_r (sem_extract rfl rfl rfl) <| dl_r (sem_extract rfl rfl rfl) <| dl_new (sem_alloc zc103 rfl) rfl <| dl_st (sem_store_a ty103 rfl rfl rfl rfl rfl rfl) <| dl_r (sem_assign rfl rfl) <| dl_end <| dw_seq ?_
  refine dw_seq <| dw_region (by kernel_rfl) <| dl_r (sem_move rfl rfl) <| dl_r (sem_not rfl rfl) ?_
  refine dl_rb (sem_move rfl rfl) (fun c1 hb1 => ?_)
  cases c1
  · have ea := not_f hb1
    refine dl_r (sem_field fd28_1 rfl rfl) <| dl_r (sem_load (us := cR b) ty26 rfl rfl rfl rfl rfl) <| dl_r (sem_call rfl rfl (pSignL_ok) rfl) <| dl_r (sem_cmp rfl rfl rfl rfl) <| dl_r (sem_pick rfl rfl rfl rfl) <| dl_end ?_
    refine dw_cond rfl (fun hc2 => ?_) (fun hc2 => ?_)
    · obtain ⟨w1, w2, w3⟩ := rt_b (c := c) ea hc2
      refine dw_seq <| dw_region (by kernel_rfl) <| dl_r (sem_load (us := ([.i .i64 (if frOk a then frLo a else 0)] ++ [.i .i64 (if frOk a then frHi a else 0)])) ty103 rfl rfl rfl rfl rfl) <| dl_r (sem_move rfl rfl) <| dl_st (sem_store_a ty103 rfl rfl rfl rfl rfl rfl) <| dl_r (sem_assign rfl rfl) <| dl_end <| dw_ret ?_
      have x1 : rtLo a b c = (if frOk a then frLo a else 0) := by rw [w1, ea]; rfl
      have x2 : rtHi a b c = (if frOk a then frHi a else 0) := by rw [w2, ea]; rfl
      have x3 : rtOk a b c = frOk a := by rw [w3, ea]
      rw [x1, x2, x3]
      exact ⟨.inr rfl, (resL_cell (us := ([.i .i64 (if frOk a then frLo a else 0)] ++ [.i .i64 (if frOk a then frHi a else 0)])) ty103 rfl rfl rfl rfl (resL_tmp rfl resL_nil))⟩
    · have hb0 := hc2
      refine dw_skip <| dw_seq <| dw_region (by kernel_rfl) <| dl_r (sem_field fd28_1 rfl rfl) <| dl_r (sem_load (us := cR b) ty26 rfl rfl rfl rfl rfl) ?_
      refine dl_r (sem_call rfl rfl (fFromRatL_ok (by first | assumption | exact Rz.mono hb (by decide))) rfl) ?_
      refine dl_r (sem_move rfl rfl) <| dl_r (sem_extract rfl rfl rfl) <| dl_r (sem_extract rfl rfl rfl) <| dl_new (sem_alloc zc103 rfl) rfl <| dl_st (sem_store_a ty103 rfl rfl rfl rfl rfl rfl) <| dl_r (sem_assign rfl rfl) <| dl_end <| dw_seq ?_
      refine dw_region (by kernel_rfl) <| dl_r (sem_field fd28_2 rfl rfl) <| dl_r (sem_load (us := cR c) ty26 rfl rfl rfl rfl rfl) ?_
      refine dl_r (sem_call rfl rfl (fFromRatL_ok (by first | assumption | exact Rz.mono hc (by decide))) rfl) ?_
      refine dl_r (sem_move rfl rfl) <| dl_r (sem_extract rfl rfl rfl) <| dl_r (sem_extract rfl rfl rfl) <| dl_new (sem_alloc zc103 rfl) rfl <| dl_st (sem_store_a ty103 rfl rfl rfl rfl rfl rfl) <| dl_r (sem_assign rfl rfl) <| dl_end <| dw_seq ?_
      refine dw_seq <| dw_region (by kernel_rfl) <| dl_r (sem_move rfl rfl) <| dl_r (sem_not rfl rfl) ?_
      refine dl_rb (sem_move rfl rfl) (fun c3 hb3 => ?_)
      cases c3
      · have eb := not_f hb3
        refine dl_r (sem_move rfl rfl) <| dl_r (sem_not rfl rfl) <| dl_r (sem_pick rfl rfl rfl rfl) ?_
        refine dl_rb (sem_move rfl rfl) (fun c4 hb4 => ?_)
        cases c4
        · have ec := not_f hb4
          refine dl_r (sem_field fd28_2 rfl rfl) <| dl_r (sem_load (us := cR c) ty26 rfl rfl rfl rfl rfl) <| dl_r (sem_call rfl rfl (pSignL_ok) rfl) <| dl_r (sem_cmp rfl rfl rfl rfl) <| dl_r (sem_pick rfl rfl rfl rfl) <| dl_end ?_
          refine dw_cond rfl (fun hc5 => ?_) (fun hc5 => ?_)
          · have hno : rtOk a b c = false := rt_x hb0 (by unfold rtX; rw [hc5, Bool.not_true, Bool.false_and, Bool.and_false, Bool.and_false])
            refine dw_seq <| dw_region (by kernel_rfl) <| dl_r (sem_build (us := ([.i .i64 0] ++ [.i .i64 0])) fs103 zc103 rfl rfl rfl) <| dl_st (sem_store_a ty103 rfl rfl rfl rfl rfl rfl) <| dl_r (sem_assign rfl rfl) <| dl_end <| dw_ret ?_
            rw [(rt_no hno).1, (rt_no hno).2, hno]
            exact ⟨.inr rfl, (resL_cell (us := ([.i .i64 0] ++ [.i .i64 0])) ty103 rfl rfl rfl rfl (resL_tmp rfl resL_nil))⟩
          · have hcn := hc5
            have bA := fr_bd ea
            have bB := fr_bd eb
            have bC := fr_bd ec
            have hH := frHi_nonneg (c := c) (r_nlt hc5)
            have bS := sq_bd (x := frLo c) (y := frHi c) (by omega) hH (by omega)
            refine Dw.weak (σ' := ⟨72, [(1, .p 1 0), (2, .p 2 0), (4, .p 4 0), (6, .p 6 0), (7, .p 7 0)], [(1, 28, (cR a ++ cR b ++ cR c)), (2, 103, ([.i .i64 0] ++ [.i .i64 0])), (4, 103, ([.i .i64 (frLo a)] ++ [.i .i64 (frHi a)])), (6, 103, ([.i .i64 (frLo b)] ++ [.i .i64 (frHi b)])), (7, 103, ([.i .i64 (frLo c)] ++ [.i .i64 (frHi c)]))]⟩) (sub_of ⟨rfl, rfl, rfl, rfl, rfl, trivial⟩ ⟨rfl, rfl, by rw [if_pos ea, if_pos ea]; rfl, by rw [if_pos eb, if_pos eb]; rfl, by rw [if_pos ec, if_pos ec]; rfl, trivial⟩ rfl) <| dw_skip <| dw_seq <| dw_seq <| dw_region (by kernel_rfl) <| dl_r (sem_load (us := ([.i .i64 (frLo c)] ++ [.i .i64 (frHi c)])) ty103 rfl rfl rfl rfl rfl) <| dl_r (sem_call rfl rfl (fSqrt_ok (by omega) (by omega) (by omega) (by omega) (by omega)) rfl) <| dl_r (sem_move rfl rfl) ?_
            refine dl_r (sem_extract rfl rfl rfl) <| dl_r (sem_extract rfl rfl rfl) <| dl_st (sem_store_a ty103 rfl rfl rfl rfl rfl rfl) <| dl_r (sem_assign rfl rfl) <| dl_end <| dw_seq <| dw_region (by kernel_rfl) <| dl_r (sem_move rfl rfl) ?_
            refine dl_r (sem_not rfl rfl) <| dl_end <| dw_false rfl <| dw_skip <| dw_seq <| dw_seq <| dw_region (by kernel_rfl) <| dl_r (sem_load (us := ([.i .i64 (frLo b)] ++ [.i .i64 (frHi b)])) ty103 rfl rfl rfl rfl rfl) ?_
            refine dl_r (sem_load ty103 rfl rfl rfl rfl rfl) <| dl_r (sem_call rfl rfl (fMul_ok (by omega) (by omega) (by omega) (by omega) (by omega) (by omega) (by omega) (by omega)) rfl) <| dl_r (sem_move rfl rfl) <| dl_r (sem_extract rfl rfl rfl) <| dl_r (sem_extract rfl rfl rfl) <| dl_st (sem_store_a ty103 rfl rfl rfl rfl rfl rfl) <| dl_r (sem_assign rfl rfl) <| dl_end ?_
            refine dw_seq <| dw_region (by kernel_rfl) <| dl_r (sem_move rfl rfl) <| dl_r (sem_not rfl rfl) <| dl_end ?_
            refine dw_cond rfl (fun hc6 => ?_) (fun hc6 => ?_)
            · have hno : rtOk a b c = false := rt_x hb0 (by unfold rtX rtMo; rw [not_t hc6, Bool.false_and, Bool.and_false, Bool.and_false, Bool.and_false])
              refine dw_seq <| dw_region (by kernel_rfl) <| dl_r (sem_build (us := ([.i .i64 0] ++ [.i .i64 0])) fs103 zc103 rfl rfl rfl) <| dl_st (sem_store_a ty103 rfl rfl rfl rfl rfl rfl) <| dl_r (sem_assign rfl rfl) <| dl_end <| dw_ret ?_
              rw [(rt_no hno).1, (rt_no hno).2, hno]
              exact ⟨.inr rfl, (resL_cell (us := ([.i .i64 0] ++ [.i .i64 0])) ty103 rfl rfl rfl rfl (resL_tmp rfl resL_nil))⟩
            · have hm : rtMo b c = true := not_f hc6
              have bM := n_bd 4 hm
              obtain ⟨w1, w2, w3⟩ := rt_f ea hb0 eb ec hcn hm
              refine Dw.weak (σ' := ⟨72, [(1, .p 1 0), (2, .p 2 0), (4, .p 4 0), (6, .p 6 0), (7, .p 7 0)], [(1, 28, (cR a ++ cR b ++ cR c)), (2, 103, ([.i .i64 0] ++ [.i .i64 0])), (4, 103, ([.i .i64 (frLo a)] ++ [.i .i64 (frHi a)])), (6, 103, ([.i .i64 (rtMl b c)] ++ [.i .i64 (rtMh b c)])), (7, 103, ([.i .i64 (sqLo (frLo c))] ++ [.i .i64 (sqHi (frHi c))]))]⟩) (sub_of ⟨rfl, rfl, rfl, rfl, rfl, trivial⟩ ⟨rfl, rfl, rfl, by rw [if_pos (not_f hc6), if_pos (not_f hc6)]; rfl, rfl, trivial⟩ rfl) <| dw_skip <| dw_seq <| dw_region (by kernel_rfl) <| dl_r (sem_load (us := ([.i .i64 (frLo a)] ++ [.i .i64 (frHi a)])) ty103 rfl rfl rfl rfl rfl) <| dl_r (sem_load (us := ([.i .i64 (rtMl b c)] ++ [.i .i64 (rtMh b c)])) ty103 rfl rfl rfl rfl rfl) <| dl_r (sem_call rfl rfl (fAdd_ok (x := frLo a) (y := frHi a) (u := rtMl b c) (v := rtMh b c) (by omega) (by omega) (by omega) (by omega) bM.1 bM.2.1 bM.2.2.1 bM.2.2.2) rfl) <| dl_r (sem_extract rfl rfl rfl) ?_
              refine dl_r (sem_extract rfl rfl rfl) <| dl_st (sem_store_a ty103 rfl rfl rfl rfl rfl rfl) <| dl_r (sem_assign rfl rfl) <| dl_end <| dw_ret ?_
              rw [w1, w2, w3]
              exact ⟨.inr rfl, (resL_cell (us := ([.i .i64 (if okI (frLo a + rtMl b c) (frHi a + rtMh b c) then frLo a + rtMl b c else 0)] ++ [.i .i64 (if okI (frLo a + rtMl b c) (frHi a + rtMh b c) then frHi a + rtMh b c else 0)])) ty103 rfl rfl rfl rfl (resL_tmp rfl resL_nil))⟩
        · have hno : rtOk a b c = false := rt_x hb0 (by unfold rtX; rw [not_t hb4, Bool.false_and, Bool.and_false])
          refine dl_skip (sem_skip rfl) <| dl_skip (sem_skip rfl) <| dl_skip (sem_skip rfl) <| dl_skip (sem_skip rfl) <| dl_r (sem_pick rfl rfl rfl rfl) <| dl_end <| dw_true rfl <| dw_seq ?_
          refine dw_region (by kernel_rfl) <| dl_r (sem_build (us := ([.i .i64 0] ++ [.i .i64 0])) fs103 zc103 rfl rfl rfl) <| dl_st (sem_store_a ty103 rfl rfl rfl rfl rfl rfl) <| dl_r (sem_assign rfl rfl) <| dl_end <| dw_ret ?_
          rw [(rt_no hno).1, (rt_no hno).2, hno]
          exact ⟨.inr rfl, (resL_cell (us := ([.i .i64 0] ++ [.i .i64 0])) ty103 rfl rfl rfl rfl (resL_tmp rfl resL_nil))⟩
      · have hno : rtOk a b c = false := rt_x hb0 (by unfold rtX; rw [not_t hb3]; rfl)
        refine dl_skip (sem_skip rfl) <| dl_skip (sem_skip rfl) <| dl_r (sem_pick rfl rfl rfl rfl) <| dl_r (sem_move rfl rfl) <| dl_skip (sem_skip rfl) <| dl_skip (sem_skip rfl) <| dl_skip (sem_skip rfl) <| dl_skip (sem_skip rfl) ?_
        refine dl_r (sem_pick rfl rfl rfl rfl) <| dl_end <| dw_true rfl <| dw_seq <| dw_region (by kernel_rfl) <| dl_r (sem_build (us := ([.i .i64 0] ++ [.i .i64 0])) fs103 zc103 rfl rfl rfl) <| dl_st (sem_store_a ty103 rfl rfl rfl rfl rfl rfl) <| dl_r (sem_assign rfl rfl) ?_
        refine dl_end <| dw_ret ?_
        rw [(rt_no hno).1, (rt_no hno).2, hno]
        exact ⟨.inr rfl, (resL_cell (us := ([.i .i64 0] ++ [.i .i64 0])) ty103 rfl rfl rfl rfl (resL_tmp rfl resL_nil))⟩
  · refine dl_skip (sem_skip rfl) <| dl_skip (sem_skip rfl) <| dl_skip (sem_skip rfl) <| dl_skip (sem_skip rfl) <| dl_r (sem_pick rfl rfl rfl rfl) <| dl_end <| dw_true rfl <| dw_seq ?_
    refine dw_region (by kernel_rfl) <| dl_r (sem_load (us := ([.i .i64 (if frOk a then frLo a else 0)] ++ [.i .i64 (if frOk a then frHi a else 0)])) ty103 rfl rfl rfl rfl rfl) <| dl_r (sem_move rfl rfl) <| dl_st (sem_store_a ty103 rfl rfl rfl rfl rfl rfl) <| dl_r (sem_assign rfl rfl) <| dl_end <| dw_ret ?_
    have hno : rtOk a b c = false := rt_a (not_t hb1)
    have x1 : rtLo a b c = (if frOk a then frLo a else 0) := by rw [(rt_no hno).1, not_t hb1]; rfl
    have x2 : rtHi a b c = (if frOk a then frHi a else 0) := by rw [(rt_no hno).2, not_t hb1]; rfl
    have x3 : rtOk a b c = frOk a := by rw [hno, not_t hb1]
    rw [x1, x2, x3]
    exact ⟨.inr rfl, (resL_cell (us := ([.i .i64 (if frOk a then frLo a else 0)] ++ [.i .i64 (if frOk a then frHi a else 0)])) ty103 rfl rfl rfl rfl (resL_tmp rfl resL_nil))⟩
def apS (o1 o2 : Bool) (l1 h1 l2 h2 : Int) : Int := if (o1 && o2) = true then (if decide (h1 < l2) = true then -1 else if decide (l1 > h2) = true then 1 else 0) else 0
def apK (o1 o2 : Bool) (l1 h1 l2 h2 : Int) : Bool := (o1 && o2) && (decide (h1 < l2) || decide (l1 > h2))
theorem xApartL_ok {a b c d e f : Rat} (ha : Rz 40000 a) (hb : Rz 40000 b) (hc : Rz 40000 c) (hd : Rz 40000 d) (he : Rz 40000 e) (hf : Rz 40000 f) : Ok Tryz.prog 66 [.a (cR a ++ cR b ++ cR c), .a (cR d ++ cR e ++ cR f)] [.c (.i .i64 (apS (rtOk a b c) (rtOk d e f) (rtLo a b c) (rtHi a b c) (rtLo d e f) (rtHi d e f))), .c (.b (apK (rtOk a b c) (rtOk d e f) (rtLo a b c) (rtHi a b c) (rtLo d e f) (rtHi d e f)))] := by
  refine Ok.of (by kernel_rfl) Tryz.func66 rfl rfl ?_
  rw [show Tryz.f66.ntmps = 39 from rfl, show Tryz.f66.results.toList = [.tmp 4, .tmp 5] from rfl]
  refine dw_seq <| dw_region (by kernel_rfl) <| dl_new (sem_box_a rfl rfl) rfl <| dl_new (sem_box_a rfl rfl) rfl <| dl_r (sem_assign rfl rfl) <| dl_r (sem_assign rfl rfl) <| dl_end <| dw_seq ?_
  refine dw_region (by kernel_rfl) <| dl_r (sem_load (us := (cR a ++ cR b ++ cR c)) ty28 rfl rfl rfl rfl rfl) <| dl_r (sem_call rfl rfl (fRoot2L_ok (by assumption) (by assumption) (by assumption)) rfl) <| dl_r (sem_move rfl rfl) <| dl_r (sem_extract rfl rfl rfl) <| dl_r (sem_extract rfl rfl rfl) <| dl_new (sem_alloc zc103 rfl) rfl <| dl_st (sem_store_a ty103 rfl rfl rfl rfl rfl rfl) ?_
  refine dl_r (sem_assign rfl rfl) <| dl_end <| dw_seq <| dw_region (by kernel_rfl) <| dl_r (sem_load (us := (cR d ++ cR e ++ cR f)) ty28 rfl rfl rfl rfl rfl) <| dl_r (sem_call rfl rfl (fRoot2L_ok (by assumption) (by assumption) (by assumption)) rfl) <| dl_r (sem_move rfl rfl) <| dl_r (sem_extract rfl rfl rfl) ?_
  refine dl_r (sem_extract rfl rfl rfl) <| dl_new (sem_alloc zc103 rfl) rfl <| dl_st (sem_store_a ty103 rfl rfl rfl rfl rfl rfl) <| dl_r (sem_assign rfl rfl) <| dl_end <| dw_seq <| dw_block <| dw_seq ?_
  refine dw_region (by kernel_rfl) <| dl_r (sem_move rfl rfl) <| dl_r (sem_not rfl rfl) ?_
  refine dl_rb (sem_move rfl rfl) (fun c1 hb1 => ?_)
  cases c1
  · refine dl_r (sem_move rfl rfl) <| dl_r (sem_not rfl rfl) <| dl_r (sem_pick rfl rfl rfl rfl) <| dl_r (sem_assign rfl rfl) <| dl_end ?_
    refine dw_cond rfl (fun hc2 => ?_) (fun hc2 => ?_)
    · refine dw_seq <| dw_region (by kernel_rfl) <| dl_r (sem_assign rfl rfl) <| dl_r (sem_assign rfl rfl) <| dl_end <| dw_ret ?_
      rw [show apS (rtOk a b c) (rtOk d e f) (rtLo a b c) (rtHi a b c) (rtLo d e f) (rtHi d e f) = 0 from by unfold apS; rw [not_f hb1, not_t hc2]; rfl, show apK (rtOk a b c) (rtOk d e f) (rtLo a b c) (rtHi a b c) (rtLo d e f) (rtHi d e f) = false from by unfold apK; rw [not_f hb1, not_t hc2]; rfl]
      exact ⟨.inr rfl, (resL_tmp rfl (resL_tmp rfl resL_nil))⟩
    · refine dw_seq <| dw_region (by kernel_rfl) <| dl_r (sem_field fd103_1 rfl rfl) <| dl_r (sem_load1 ty2 rfl rfl rfl rfl) <| dl_r (sem_field fd103_0 rfl rfl) <| dl_r (sem_load1 ty2 rfl rfl rfl rfl) <| dl_r (sem_cmp rfl rfl rfl rfl) <| dl_r (sem_assign rfl rfl) ?_
      refine dl_end ?_
      refine dw_cond rfl (fun hc3 => ?_) (fun hc3 => ?_)
      · refine dw_seq <| dw_region (by kernel_rfl) <| dl_r (sem_assign rfl rfl) <| dl_r (sem_assign rfl rfl) <| dl_end <| dw_ret ?_
        rw [show apS (rtOk a b c) (rtOk d e f) (rtLo a b c) (rtHi a b c) (rtLo d e f) (rtHi d e f) = -1 from by unfold apS; rw [not_f hb1, not_f hc2, hc3]; rfl, show apK (rtOk a b c) (rtOk d e f) (rtLo a b c) (rtHi a b c) (rtLo d e f) (rtHi d e f) = true from by unfold apK; rw [not_f hb1, not_f hc2, hc3]; rfl]
        exact ⟨.inr rfl, (resL_tmp rfl (resL_tmp rfl resL_nil))⟩
      · refine dw_seq <| dw_region (by kernel_rfl) <| dl_r (sem_field fd103_0 rfl rfl) <| dl_r (sem_load1 ty2 rfl rfl rfl rfl) <| dl_r (sem_field fd103_1 rfl rfl) <| dl_r (sem_load1 ty2 rfl rfl rfl rfl) <| dl_r (sem_cmp rfl rfl rfl rfl) <| dl_r (sem_assign rfl rfl) ?_
        refine dl_end ?_
        refine dw_cond rfl (fun hc4 => ?_) (fun hc4 => ?_)
        · refine dw_seq <| dw_region (by kernel_rfl) <| dl_r (sem_assign rfl rfl) <| dl_r (sem_assign rfl rfl) <| dl_end <| dw_ret ?_
          rw [show apS (rtOk a b c) (rtOk d e f) (rtLo a b c) (rtHi a b c) (rtLo d e f) (rtHi d e f) = 1 from by unfold apS; rw [not_f hb1, not_f hc2, hc3, hc4]; rfl, show apK (rtOk a b c) (rtOk d e f) (rtLo a b c) (rtHi a b c) (rtLo d e f) (rtHi d e f) = true from by unfold apK; rw [not_f hb1, not_f hc2, hc3, hc4]; rfl]
          exact ⟨.inr rfl, (resL_tmp rfl (resL_tmp rfl resL_nil))⟩
        · refine dw_skip <| dw_seq <| dw_region (by kernel_rfl) <| dl_r (sem_assign rfl rfl) <| dl_r (sem_assign rfl rfl) <| dl_end <| dw_ret ?_
          rw [show apS (rtOk a b c) (rtOk d e f) (rtLo a b c) (rtHi a b c) (rtLo d e f) (rtHi d e f) = 0 from by unfold apS; rw [not_f hb1, not_f hc2, hc3, hc4]; rfl, show apK (rtOk a b c) (rtOk d e f) (rtLo a b c) (rtHi a b c) (rtLo d e f) (rtHi d e f) = false from by unfold apK; rw [not_f hb1, not_f hc2, hc3, hc4]; rfl]
          exact ⟨.inr rfl, (resL_tmp rfl (resL_tmp rfl resL_nil))⟩
  · refine dl_skip (sem_skip rfl) <| dl_skip (sem_skip rfl) <| dl_r (sem_pick rfl rfl rfl rfl) <| dl_r (sem_assign rfl rfl) <| dl_end <| dw_true rfl <| dw_seq <| dw_region (by kernel_rfl) ?_
    refine dl_r (sem_assign rfl rfl) <| dl_r (sem_assign rfl rfl) <| dl_end <| dw_ret ?_
    rw [show apS (rtOk a b c) (rtOk d e f) (rtLo a b c) (rtHi a b c) (rtLo d e f) (rtHi d e f) = 0 from by unfold apS; rw [not_t hb1]; rfl, show apK (rtOk a b c) (rtOk d e f) (rtLo a b c) (rtHi a b c) (rtLo d e f) (rtHi d e f) = false from by unfold apK; rw [not_t hb1]; rfl]
    exact ⟨.inr rfl, (resL_tmp rfl (resL_tmp rfl resL_nil))⟩
theorem two_behind (w : World) (b : Nat) (v : Value) (U T : TypeId) (cs ds : Array Value) (u : Value) (hlt : b < w.heap.size) (hb : w.heap[b]? = some (.cells #[u] T (0, 0))) :
    (((w.setCell ⟨b, 0, none⟩ v).alloc (.cells cs U)).alloc (.cells ds U)).heap[w.heap.size + 1]? = some (.cells ds U (0, 0)) ∧
    (((w.setCell ⟨b, 0, none⟩ v).alloc (.cells cs U)).alloc (.cells ds U)).heap[b]? = some (.cells #[v] T (0, 0)) ∧ Mid b w (((w.setCell ⟨b, 0, none⟩ v).alloc (.cells cs U)).alloc (.cells ds U)) := by
  have hs : (w.setCell ⟨b, 0, none⟩ v).heap.size = w.heap.size := by simp
  refine ⟨?_, ?_, ?_⟩
  · have := heap_alloc_new ((w.setCell ⟨b, 0, none⟩ v).alloc (.cells cs U)) (.cells ds U)
    rw [heap_alloc_size, hs] at this
    exact this
  · rw [Below.heap_alloc _ _ _ (by rw [heap_alloc_size, hs]; omega), Below.heap_alloc _ _ _ (by rw [hs]; omega)]
    exact heap_setCell_same w b 0 #[u] T v hb
  · refine ⟨rfl, rfl, rfl, by rw [heap_alloc_size, heap_alloc_size, hs]; omega, fun c hc hne => ?_⟩
    rw [Below.heap_alloc _ _ _ (by rw [heap_alloc_size, hs]; omega), Below.heap_alloc _ _ _ (by rw [hs]; omega)]
    exact heap_setCell_other w ⟨b, 0, none⟩ c v hne
set_option maxRecDepth 10000 in
theorem with_any (b : Nat) (ok c : Bool) (lo hi : Int) (w : World) (hb : w.heap[b]? = some (.cells #[.bool ok] 101 (0, 0))) :
    Calls Tryz.prog 90 #[.pointer (some ⟨b, 0, none⟩), .agg #[.int .i64 lo, .int .i64 hi], .bool c] w fun e w' =>
      e = .returned (.agg #[.int .i64 lo, .int .i64 hi]) ∧ w'.heap[b]? = some (.cells #[.bool (ok && c)] 101 (0, 0)) ∧ Mid b w w' := by
  have hlt : b < w.heap.size := (Array.getElem?_eq_some_iff.1 hb).1
  have e1 : ((w.alloc (.cells #[.int .i64 lo, .int .i64 hi] 103)).alloc (.cells #[.int .i64 0, .int .i64 0] 103)).heap[b]? = some (.cells #[.bool ok] 101 (0, 0)) := by
    rw [Below.heap_alloc _ _ _ (by simp; omega), Below.heap_alloc _ _ _ hlt]; exact hb
  have c1 : ((w.alloc (.cells #[.int .i64 lo, .int .i64 hi] 103)).alloc (.cells #[.int .i64 0, .int .i64 0] 103)).cell? ⟨b, 0, none⟩ = some (.bool ok) := (cells_of_box e1 0).trans rfl
  have f0 : w.frozen? ⟨b, 0, none⟩ = false := Bk.frozen (t := 101) (cs := #[.bool ok]) hb 0
  cases ok
  · go_enter Tryz.func90, Tryz.ntmps90
    go_wp2_with fail
    obtain ⟨h1, h2, h3⟩ := two_behind w b (.bool false) 103 101 #[.int .i64 lo, .int .i64 hi] #[.int .i64 lo, .int .i64 hi] _ hlt hb
    have k0 := (cells_of_box h1 0).trans rfl
    have k1 := (cells_of_box h1 1).trans rfl
    refine ⟨rfl, .agg #[.int .i64 lo, .int .i64 hi], ?_, rfl, h2, h3⟩
    simp [results, Tryz.results90, go_sem, k0, k1]
    try rfl
  · go_enter Tryz.func90, Tryz.ntmps90
    go_wp2_with fail
    obtain ⟨h1, h2, h3⟩ := two_behind w b (.bool c) 103 101 #[.int .i64 lo, .int .i64 hi] #[.int .i64 lo, .int .i64 hi] _ hlt hb
    have k0 := (cells_of_box h1 0).trans rfl
    have k1 := (cells_of_box h1 1).trans rfl
    refine ⟨rfl, .agg #[.int .i64 lo, .int .i64 hi], ?_, rfl, h2, h3⟩
    simp [results, Tryz.results90, go_sem, k0, k1]
    try rfl
structure OkP (P : Program) (f : FuncId) (U : TypeId) (cs0 cs1 : List CellD) (ds rs : List D0) : Prop where
  cal : callable P f = true
  run : ∀ (V : Nat → Prop) (b : Nat) (bs : Array Value) (vs : Array Value) (vl : List Value) (w : World), vs.toList = .pointer (some ⟨b, 0, none⟩) :: vl → (∀ c, V c → c < w.heap.size) → V b → w.heap[b]? = some (.cells bs U (0, 0)) → RdCs V w bs.toList cs0 → RdL V w vl ds →
    Calls P f vs w fun e w' => ∃ v, ∃ bs' : Array Value, e = .returned v ∧ w'.heap[b]? = some (.cells bs' U (0, 0)) ∧ Mid b w w' ∧ RdCs V w' bs'.toList cs1 ∧ RdR V w' v rs
section
variable {P : Program} {ops : Array Oper} {T : TF} {B : BF}
theorem sem_callp {dst : Option Nat} {fo x : Operand} {xs : List Operand} {args : Array Operand} {at_ : Array TypeId} {ty : TypeId} {pos : String} {af : Array Edge} {g : Option (Nat × Bool)} {f : FuncId} {k : Nat} {U : TypeId} {cs0 cs1 : List CellD} {ds rs : List D0}
    (hf : opd T fo = some (.v (.c (.f f)))) (hargs : args.toList = x :: xs) (hx : opd T x = some (.p k 0)) (ha : argsD T xs = some ds) (hb : B k = some (U, cs0)) (hok : OkP P f U cs0 cs1 ds rs) (hg : gd ops ⟨dst, .call ⟨.value fo, args, at_⟩, ty, pos, af, g⟩ T = some true) :
    Sem P ops ⟨dst, .call ⟨.value fo, args, at_⟩, ty, pos, af, g⟩ T B (.rs k U cs1 (resD rs)) := by
  refine ⟨by unfold resD; split <;> rfl, ⟨_, hb⟩, fun V β a w hs => ⟨gd_want hs hg, ?_⟩⟩
  have hin : ∀ y ∈ x :: xs, y ∈ (⟨dst, .call ⟨.value fo, args, at_⟩, ty, pos, af, g⟩ : Oper).op.operands := fun y hy => by
    have hx2 : y ∈ args := Array.mem_toList_iff.1 (by rw [hargs]; exact hy)
    simp [Op.operands, Call.operands, hx2]
  have h1 := RdC.func_eq (opd_reads hs (x := fo) (by simp [Op.operands, Call.operands]) hf)
  have h2 := argsD_reads hs xs ds (fun y hy => hin y (List.mem_cons_of_mem _ hy)) ha
  have h3 : a.eval x = .pointer (some ⟨β k, 0, none⟩) := opd_reads hs (hin x (List.mem_cons_self ..)) hx
  obtain ⟨hV, bs, e, hr⟩ := hs.box k U cs0 hb
  have hc := hok.cal
  unfold callable at hc
  cases hfn : P.funcs[f]? with
  | none => rw [hfn] at hc; cases hc
  | some fn =>
    rw [hfn] at hc
    simp only [Bool.and_eq_true, bne_iff_ne, ne_eq, Bool.not_eq_true'] at hc
    have hrun : (execOp a.eval ⟨dst, .call ⟨.value fo, args, at_⟩, ty, pos, af, g⟩).run P w = .ok (.enter f (args.map a.eval)) w := by
      have hb2 : fn.body ≠ none := by have := hc.2; cases hbb : fn.body with
        | none => rw [hbb] at this; cases this
        | some c => simp
      simp [execOp, resolve, h1, Deferred.ofValue, invoke, callFunc, program, Sem.run, hfn, hc.1, hb2]
    unfold Gives
    rw [hrun]
    refine (hok.run V (β k) bs (args.map a.eval) (xs.map a.eval) w (by rw [Array.toList_map, hargs, List.map_cons, h3]) hs.av hV e hr h2).mono ?_
    rintro e w' ⟨v, bs', rfl, hbl, hm, hr1, hr2⟩
    refine ⟨v, rfl, bs', hbl, hm, hr1, ?_⟩
    unfold RdR at hr2
    split at hr2
    · exact hr2
    · rename_i hne
      have e2 : resD rs = .t rs := by
        unfold resD
        split
        · rename_i d; exact absurd rfl (hne d)
        · rfl
      rw [e2]; exact hr2
theorem sem_nilCheck {dst : Option Nat} {x : Operand} {ty : TypeId} {pos : String} {af : Array Edge} {g : Option (Nat × Bool)} {k off : Nat}
    (hx : opd T x = some (.p k off)) (hg : gd ops ⟨dst, .nilCheck x, ty, pos, af, g⟩ T = some true) : Sem P ops ⟨dst, .nilCheck x, ty, pos, af, g⟩ T B (.r (.p k off)) :=
  sem_pure hg (fun l e => opd_ptr (ops := ops) (o := ⟨dst, .nilCheck x, ty, pos, af, g⟩) (by simp [Op.operands]) hx e)
    (fun V β a w hs => by
      have hp : a.eval x = .pointer (some ⟨β k, off, none⟩) := opd_reads hs (x := x) (by simp [Op.operands]) hx
      exact ⟨_, by simp [execOp, hp], rfl⟩)
end
theorem with_ok (ok c : Bool) (lo hi : Int) : OkP Tryz.prog 90 101 [.b ok] [.b (ok && c)] [.a [.i .i64 lo, .i .i64 hi], .c (.b c)] [.a [.i .i64 lo, .i .i64 hi]] :=
  ⟨by kernel_rfl, fun V b bs vs vl w hvs hV hb hbl hcs hds => by
    obtain ⟨vs⟩ := vs
    replace hvs : vs = _ := hvs
    subst hvs
    match vl, hds with
    | [], hds => have := hds.1; simp at this
    | v1 :: vl, hds =>
    obtain ⟨h1, hds⟩ := hds.uncons
    match vl, hds with
    | [], hds => have := hds.1; simp at this
    | v2 :: vl, hds =>
    obtain ⟨h2, hds⟩ := hds.uncons
    have hn : vl = [] := List.length_eq_zero_iff.1 hds.1
    subst hn
    have h2 := RdC.bool_eq h2
    subst h2
    obtain ⟨cs, rfl, h1⟩ := h1
    obtain ⟨cs⟩ := cs
    obtain ⟨bs⟩ := bs
    match cs, h1 with
    | [], h1 => have := h1.1; simp at this
    | x1 :: cs, h1 =>
    obtain ⟨g1, h1⟩ := h1.uncons
    match cs, h1 with
    | [], h1 => have := h1.1; simp at this
    | x2 :: cs, h1 =>
    obtain ⟨g2, h1⟩ := h1.uncons
    have hn : cs = [] := List.length_eq_zero_iff.1 h1.1
    subst hn
    have g1 := RdC.int_eq g1
    have g2 := RdC.int_eq g2
    subst g1 g2
    match bs, hcs with
    | [], hcs => have := hcs.1; simp at this
    | y1 :: bs, hcs =>
    obtain ⟨g3, hcs⟩ := hcs.uncons
    have hn : bs = [] := List.length_eq_zero_iff.1 hcs.1
    subst hn
    have g3 := RdC.bool_eq g3
    subst g3
    refine (with_any b ok c lo hi w hbl).mono ?_
    rintro e w' ⟨rfl, h3, h4⟩
    exact ⟨_, _, rfl, h3, h4, RdCs.cons (.b _) RdCs.nil, _, rfl, RdCs.cons (.i _ _) (RdCs.cons (.i _ _) RdCs.nil)⟩⟩
def Bd (x : Int) : Prop := -2305843009213693952 ≤ x ∧ x ≤ 2305843009213693952
theorem Bd.zero : Bd 0 := by unfold Bd; omega
def gL (e : Rat) : Int := if frOk e then frLo e else 0
def gH (e : Rat) : Int := if frOk e then frHi e else 0
theorem gl_bd (e : Rat) : Bd (gL e) := by
  unfold gL; split
  · rename_i h; have := fr_bd h; exact ⟨this.1, this.2.1⟩
  · exact Bd.zero
theorem gh_bd (e : Rat) : Bd (gH e) := by
  unfold gH; split
  · rename_i h; have := fr_bd h; exact ⟨this.2.2.1, this.2.2.2⟩
  · exact Bd.zero
theorem g_le (e : Rat) : gL e ≤ gH e := by
  unfold gL gH; split
  · exact fr_le e
  · exact Int.le_refl _
theorem gh_nneg {e : Rat} (h : ¬ e < 0) : ¬ gH e < 0 := by
  unfold gH; split
  · have := frHi_nonneg h; omega
  · omega
theorem ml_bd (e : Rat) : Bd (sqLo (gL e)) := by
  have := sq_bd (x := gL e) (y := 0) (gl_bd e).2 (by omega) (by omega)
  unfold Bd; omega
theorem mh_bd {e : Rat} (h : ¬ e < 0) : Bd (sqHi (gH e)) := by
  have := sq_bd (x := 0) (y := gH e) (by omega) (by have := gh_nneg h; omega) (gh_bd e).2
  unfold Bd; omega
theorem sc_le (x y : Int) : scLo x y ≤ scHi x y := by
  have h : scP x y / 65536 ≤ scUp (scP x y) := by unfold scUp; split <;> omega
  unfold scLo scHi; split <;> omega
theorem lh_le (x y u v : Int) : loN x y u v 4 ≤ hiN x y u v 4 := by
  exact Int.le_trans (Int.min_le_right _ _) (Int.le_trans (sc_le _ _) (Int.le_max_right _ _))
def pL (x y u v : Int) : Int := if okN x y u v 4 then loN x y u v 4 else 0
def pH (x y u v : Int) : Int := if okN x y u v 4 then hiN x y u v 4 else 0
theorem pl_bd (x y u v : Int) : Bd (pL x y u v) := by
  unfold pL; split
  · rename_i h; have := n_bd 4 h; exact ⟨this.1, this.2.1⟩
  · exact Bd.zero
theorem ph_bd (x y u v : Int) : Bd (pH x y u v) := by
  unfold pH; split
  · rename_i h; have := n_bd 4 h; exact ⟨this.2.2.1, this.2.2.2⟩
  · exact Bd.zero
theorem p_le (x y u v : Int) : pL x y u v ≤ pH x y u v := by
  unfold pL pH; split
  · exact lh_le x y u v
  · exact Int.le_refl _
def aL (x y u v : Int) : Int := if okI (x + u) (y + v) then x + u else 0
def aH (x y u v : Int) : Int := if okI (x + u) (y + v) then y + v else 0
theorem al_bd {x y u v : Int} (h : x ≤ y) (h2 : u ≤ v) : Bd (aL x y u v) := by
  unfold aL; split
  · rename_i h3; have := ok_bd h3; unfold Bd; omega
  · exact Bd.zero
theorem ah_bd {x y u v : Int} (h : x ≤ y) (h2 : u ≤ v) : Bd (aH x y u v) := by
  unfold aH; split
  · rename_i h3; have := ok_bd h3; unfold Bd; omega
  · exact Bd.zero
theorem gFromRat_ok {e : Rat} (h : Rz 40000 e) : Ok Tryz.prog 92 [dR e] [.a ([.i .i64 (gL e)] ++ [.i .i64 (gH e)]), .c (.b (frOk e))] := fFromRatL_ok h
theorem gSqrt_ok {e : Rat} (h : ¬ e < 0) : Ok Tryz.prog 91 [.a ([.i .i64 (gL e)] ++ [.i .i64 (gH e)])] [.a ([.i .i64 (sqLo (gL e))] ++ [.i .i64 (sqHi (gH e))]), .c (.b true)] :=
  fSqrt_ok (gl_bd e).1 (gl_bd e).2 (gh_bd e).1 (gh_bd e).2 (gh_nneg h)
theorem gMul_ok {x y u v : Int} (h1 : Bd x) (h2 : Bd y) (h3 : Bd u) (h4 : Bd v) : Ok Tryz.prog 93 [.a ([.i .i64 x] ++ [.i .i64 y]), .a ([.i .i64 u] ++ [.i .i64 v])] [.a ([.i .i64 (pL x y u v)] ++ [.i .i64 (pH x y u v)]), .c (.b (okN x y u v 4))] :=
  fMul_ok h1.1 h1.2 h2.1 h2.2 h3.1 h3.2 h4.1 h4.2
theorem gAdd_ok {x y u v : Int} (h1 : Bd x) (h2 : Bd y) (h3 : Bd u) (h4 : Bd v) : Ok Tryz.prog 94 [.a ([.i .i64 x] ++ [.i .i64 y]), .a ([.i .i64 u] ++ [.i .i64 v])] [.a ([.i .i64 (aL x y u v)] ++ [.i .i64 (aH x y u v)]), .c (.b (okI (x + u) (y + v)))] :=
  fAdd_ok h1.1 h1.2 h2.1 h2.2 h3.1 h3.2 h4.1 h4.2
theorem gWith_ok {ok c : Bool} {x y : Int} : OkP Tryz.prog 90 101 [.b ok] [.b (ok && c)] [.a ([.i .i64 x] ++ [.i .i64 y]), .c (.b c)] [.a ([.i .i64 x] ++ [.i .i64 y])] := with_ok ok c x y
def qbL (B M : Rat) : Int := pL (gL B) (gH B) (sqLo (gL M)) (sqHi (gH M))
def qbH (B M : Rat) : Int := pH (gL B) (gH B) (sqLo (gL M)) (sqHi (gH M))
def qbK (B M : Rat) : Bool := okN (gL B) (gH B) (sqLo (gL M)) (sqHi (gH M)) 4
def qmnL (M N : Rat) : Int := pL (sqLo (gL M)) (sqHi (gH M)) (sqLo (gL N)) (sqHi (gH N))
def qmnH (M N : Rat) : Int := pH (sqLo (gL M)) (sqHi (gH M)) (sqLo (gL N)) (sqHi (gH N))
def qmnK (M N : Rat) : Bool := okN (sqLo (gL M)) (sqHi (gH M)) (sqLo (gL N)) (sqHi (gH N)) 4
def qdL (D M N : Rat) : Int := pL (gL D) (gH D) (qmnL M N) (qmnH M N)
def qdH (D M N : Rat) : Int := pH (gL D) (gH D) (qmnL M N) (qmnH M N)
def qdK (D M N : Rat) : Bool := okN (gL D) (gH D) (qmnL M N) (qmnH M N) 4
def qabL (A B M : Rat) : Int := aL (gL A) (gH A) (qbL B M) (qbH B M)
def qabH (A B M : Rat) : Int := aH (gL A) (gH A) (qbL B M) (qbH B M)
def qabK (A B M : Rat) : Bool := okI (gL A + qbL B M) (gH A + qbH B M)
def qcdL (C D M N : Rat) : Int := aL (qbL C N) (qbH C N) (qdL D M N) (qdH D M N)
def qcdH (C D M N : Rat) : Int := aH (qbL C N) (qbH C N) (qdL D M N) (qdH D M N)
def qcdK (C D M N : Rat) : Bool := okI (qbL C N + qdL D M N) (qbH C N + qdH D M N)
def qsL (A B C D M N : Rat) : Int := aL (qabL A B M) (qabH A B M) (qcdL C D M N) (qcdH C D M N)
def qsH (A B C D M N : Rat) : Int := aH (qabL A B M) (qabH A B M) (qcdL C D M N) (qcdH C D M N)
def qsK (A B C D M N : Rat) : Bool := okI (qabL A B M + qcdL C D M N) (qabH A B M + qcdH C D M N)
def qK1 (M N : Rat) : Bool := frOk M && frOk N
def qK2 (B C D M N : Rat) : Bool := qK1 M N && (frOk B && (qbK B M && (frOk C && (qbK C N && (frOk D && (qmnK M N && qdK D M N))))))
def qK3 (A B C D M N : Rat) : Bool := qK2 B C D M N && (frOk A && (qabK A B M && (qcdK C D M N && qsK A B C D M N)))
def qkK (A B C D M N : Rat) : Bool := qK3 A B C D M N && skI (qsL A B C D M N) (qsH A B C D M N)
def qkS (A B C D M N : Rat) : Int := if qK3 A B C D M N then sgI (qsL A B C D M N) (qsH A B C D M N) else 0
theorem qk_no {A B C D M N : Rat} (h : qK3 A B C D M N = false) : qkS A B C D M N = 0 ∧ qkK A B C D M N = false := by
  unfold qkS qkK; rw [h]; exact ⟨rfl, rfl⟩
theorem qk_yes {A B C D M N : Rat} (h : qK3 A B C D M N = true) : qkS A B C D M N = sgI (qsL A B C D M N) (qsH A B C D M N) ∧ qkK A B C D M N = skI (qsL A B C D M N) (qsH A B C D M N) := by
  unfold qkS qkK; rw [h]; exact ⟨rfl, rfl⟩
theorem qk_no2 {A B C D M N : Rat} (h : qK2 B C D M N = false) : qK3 A B C D M N = false := by unfold qK3; rw [h]; rfl
theorem qk_no1 {A B C D M N : Rat} (h : qK1 M N = false) : qK3 A B C D M N = false := qk_no2 (by unfold qK2; rw [h]; rfl)
theorem not_tf {b c : Bool} (h : (!b) = true) (e : c = b) : c = false := by rw [e]; simpa using h
theorem not_ff {b c : Bool} (h : (!b) = false) (e : c = b) : c = true := by rw [e]; simpa using h
theorem xQuickL_ok {A B C D M N : Rat} (hA : Rz 40000 A) (hB : Rz 40000 B) (hC : Rz 40000 C) (hD : Rz 40000 D) (hM : Rz 40000 M) (hN : Rz 40000 N) (hm : ¬ M < 0) (hn : ¬ N < 0) : Ok Tryz.prog 60 [.a (cR A ++ cR B ++ cR C ++ cR D ++ cR M ++ cR N)] [.c (.i .i64 (qkS A B C D M N)), .c (.b (qkK A B C D M N))] := by
  refine Ok.of (by kernel_rfl) Tryz.func60 rfl rfl ?_
  rw [show Tryz.f60.ntmps = 126 from rfl, show Tryz.f60.results.toList = [.tmp 2, .tmp 3] from rfl]
  refine dw_seq <| dw_region (by kernel_rfl) <| dl_new (sem_box_a rfl rfl) rfl <| dl_r (sem_assign rfl rfl) <| dl_r (sem_assign rfl rfl) <| dl_end <| dw_seq <| dw_region (by kernel_rfl) ?_
  refine dl_r (sem_build (us := ([.b true])) fs101 zc101 rfl rfl rfl) <| dl_new (sem_box_a rfl rfl) rfl <| dl_r (sem_assign rfl rfl) <| dl_end <| dw_seq <| dw_region (by kernel_rfl) <| dl_r (sem_move rfl rfl) <| dl_r (sem_move rfl rfl) ?_
  refine dl_r (sem_field fd53_4 rfl rfl) <| dl_r (sem_load (us := cR M) ty26 rfl rfl rfl rfl rfl) ?_
  refine dl_r (sem_call rfl rfl (gFromRat_ok (by first | assumption | exact Rz.mono hM (by decide))) rfl) ?_
  refine dl_r (sem_extract rfl rfl rfl) <| dl_r (sem_extract rfl rfl rfl) <| dl_rs (sem_callp rfl rfl rfl rfl rfl (gWith_ok) rfl) <| dl_r (sem_call rfl rfl (gSqrt_ok (by assumption)) rfl) <| dl_r (sem_extract rfl rfl rfl) <| dl_r (sem_extract rfl rfl rfl) <| dl_rs (sem_callp rfl rfl rfl rfl rfl (gWith_ok) rfl) <| dl_new (sem_alloc zc103 rfl) rfl ?_
  refine dl_st (sem_store_a ty103 rfl rfl rfl rfl rfl rfl) <| dl_end <| dw_seq <| dw_region (by kernel_rfl) <| dl_r (sem_move rfl rfl) <| dl_r (sem_move rfl rfl) <| dl_r (sem_field fd53_5 rfl rfl) <| dl_r (sem_load (us := cR N) ty26 rfl rfl rfl rfl rfl) ?_
  refine dl_r (sem_call rfl rfl (gFromRat_ok (by first | assumption | exact Rz.mono hN (by decide))) rfl) ?_
  refine dl_r (sem_extract rfl rfl rfl) <| dl_r (sem_extract rfl rfl rfl) <| dl_rs (sem_callp rfl rfl rfl rfl rfl (gWith_ok) rfl) <| dl_r (sem_call rfl rfl (gSqrt_ok (by assumption)) rfl) <| dl_r (sem_extract rfl rfl rfl) <| dl_r (sem_extract rfl rfl rfl) <| dl_rs (sem_callp rfl rfl rfl rfl rfl (gWith_ok) rfl) <| dl_new (sem_alloc zc103 rfl) rfl ?_
  refine dl_st (sem_store_a ty103 rfl rfl rfl rfl rfl rfl) <| dl_end <| dw_seq <| dw_seq <| dw_region (by kernel_rfl) <| dl_r (sem_move rfl rfl) <| dl_r (sem_nilCheck rfl rfl) <| dl_r (sem_field fd101_0 rfl rfl) ?_
  refine dl_r (sem_load1 ty4 rfl rfl rfl rfl) <| dl_r (sem_not rfl rfl) <| dl_end ?_
  refine dw_cond rfl (fun hc1 => ?_) (fun hc1 => ?_)
  · refine dw_seq <| dw_region (by kernel_rfl) <| dl_r (sem_assign rfl rfl) <| dl_r (sem_assign rfl rfl) <| dl_end <| dw_ret ?_
    have hk : qK3 A B C D M N = false := qk_no1 (not_tf hc1 (by unfold qK1; simp only [Bool.true_and, Bool.and_true]; try rfl))
    rw [(qk_no hk).1, (qk_no hk).2]
    exact ⟨.inr rfl, (resL_tmp rfl (resL_tmp rfl resL_nil))⟩
  · refine dw_skip <| dw_seq <| dw_draw 14 [12] follows_mixed (by kernel_rfl) rfl rfl <| dq_r (sem_move rfl rfl) <| dq_r (sem_move rfl rfl) <| dq_r (sem_field fd53_1 rfl rfl) <| dq_r (sem_load (us := cR B) ty26 rfl rfl rfl rfl rfl) ?_
    refine dq_r (sem_call rfl rfl (gFromRat_ok (by first | assumption | exact Rz.mono hB (by decide))) rfl) ?_
    refine dq_r (sem_extract rfl rfl rfl) <| dq_r (sem_extract rfl rfl rfl) <| dq_rs (sem_callp rfl rfl rfl rfl rfl (gWith_ok) rfl) rfl rfl rfl rfl rfl (by kernel_rfl) <| dq_r (sem_load (us := ([.i .i64 (sqLo (gL M))] ++ [.i .i64 (sqHi (gH M))])) ty103 rfl rfl rfl rfl rfl) <| dq_r (sem_call rfl rfl (gMul_ok (gl_bd _) (gh_bd _) (ml_bd _) (mh_bd (by assumption))) rfl) <| dq_r (sem_extract rfl rfl rfl) <| dq_r (sem_extract rfl rfl rfl) <| dq_rs (sem_callp rfl rfl rfl rfl rfl (gWith_ok) rfl) rfl rfl rfl rfl rfl (by kernel_rfl) ?_
    refine dq_new (sem_alloc zc103 rfl) rfl <| dq_end <| dl_start3 <| dl_st (sem_store_a ty103 rfl rfl rfl rfl rfl rfl) <| dl_end <| dw_seq <| dw_draw 14 [12] follows_mixed (by kernel_rfl) rfl rfl <| dq_r (sem_move rfl rfl) ?_
    refine dq_r (sem_move rfl rfl) <| dq_r (sem_field fd53_2 rfl rfl) <| dq_r (sem_load (us := cR C) ty26 rfl rfl rfl rfl rfl) ?_
    refine dq_r (sem_call rfl rfl (gFromRat_ok (by first | assumption | exact Rz.mono hC (by decide))) rfl) ?_
    refine dq_r (sem_extract rfl rfl rfl) <| dq_r (sem_extract rfl rfl rfl) <| dq_rs (sem_callp rfl rfl rfl rfl rfl (gWith_ok) rfl) rfl rfl rfl rfl rfl (by kernel_rfl) <| dq_r (sem_load (us := ([.i .i64 (sqLo (gL N))] ++ [.i .i64 (sqHi (gH N))])) ty103 rfl rfl rfl rfl rfl) <| dq_r (sem_call rfl rfl (gMul_ok (gl_bd _) (gh_bd _) (ml_bd _) (mh_bd (by assumption))) rfl) <| dq_r (sem_extract rfl rfl rfl) <| dq_r (sem_extract rfl rfl rfl) <| dq_rs (sem_callp rfl rfl rfl rfl rfl (gWith_ok) rfl) rfl rfl rfl rfl rfl (by kernel_rfl) ?_
    refine dq_new (sem_alloc zc103 rfl) rfl <| dq_end <| dl_start3 <| dl_st (sem_store_a ty103 rfl rfl rfl rfl rfl rfl) <| dl_end <| dw_seq <| dw_draw 20 [12] follows_mixed (by kernel_rfl) rfl rfl <| dq_r (sem_move rfl rfl) ?_
    refine dq_r (sem_move rfl rfl) <| dq_r (sem_field fd53_3 rfl rfl) <| dq_r (sem_load (us := cR D) ty26 rfl rfl rfl rfl rfl) ?_
    refine dq_r (sem_call rfl rfl (gFromRat_ok (by first | assumption | exact Rz.mono hD (by decide))) rfl) ?_
    refine dq_r (sem_extract rfl rfl rfl) <| dq_r (sem_extract rfl rfl rfl) <| dq_rs (sem_callp rfl rfl rfl rfl rfl (gWith_ok) rfl) rfl rfl rfl rfl rfl (by kernel_rfl) <| dq_r (sem_move rfl rfl) <| dq_r (sem_load (us := ([.i .i64 (sqLo (gL M))] ++ [.i .i64 (sqHi (gH M))])) ty103 rfl rfl rfl rfl rfl) <| dq_r (sem_load (us := ([.i .i64 (sqLo (gL N))] ++ [.i .i64 (sqHi (gH N))])) ty103 rfl rfl rfl rfl rfl) <| dq_r (sem_call rfl rfl (gMul_ok (ml_bd _) (mh_bd (by assumption)) (ml_bd _) (mh_bd (by assumption))) rfl) <| dq_r (sem_extract rfl rfl rfl) ?_
    refine dq_r (sem_extract rfl rfl rfl) <| dq_rs (sem_callp rfl rfl rfl rfl rfl (gWith_ok) rfl) rfl rfl rfl rfl rfl (by kernel_rfl) <| dq_r (sem_call rfl rfl (gMul_ok (gl_bd _) (gh_bd _) (pl_bd _ _ _ _) (ph_bd _ _ _ _)) rfl) <| dq_r (sem_extract rfl rfl rfl) <| dq_r (sem_extract rfl rfl rfl) <| dq_rs (sem_callp rfl rfl rfl rfl rfl (gWith_ok) rfl) rfl rfl rfl rfl rfl (by kernel_rfl) <| dq_new (sem_alloc zc103 rfl) rfl <| dq_end ?_
    refine dl_start4 <| dl_st (sem_store_a ty103 rfl rfl rfl rfl rfl rfl) <| dl_end <| dw_seq <| dw_seq <| dw_region (by kernel_rfl) <| dl_r (sem_move rfl rfl) <| dl_r (sem_nilCheck rfl rfl) ?_
    refine dl_r (sem_field fd101_0 rfl rfl) <| dl_r (sem_load1 ty4 rfl rfl rfl rfl) <| dl_r (sem_not rfl rfl) <| dl_end ?_
    refine dw_cond rfl (fun hc2 => ?_) (fun hc2 => ?_)
    · refine dw_seq <| dw_region (by kernel_rfl) <| dl_r (sem_assign rfl rfl) <| dl_r (sem_assign rfl rfl) <| dl_end <| dw_ret ?_
      have hk : qK3 A B C D M N = false := qk_no2 (not_tf hc2 (by unfold qK2 qK1; simp only [Bool.true_and, Bool.and_true, Bool.and_assoc]; try rfl))
      rw [(qk_no hk).1, (qk_no hk).2]
      exact ⟨.inr rfl, (resL_tmp rfl (resL_tmp rfl resL_nil))⟩
    · refine dw_skip <| dw_seq <| dw_draw 26 [12] follows_mixed (by kernel_rfl) rfl rfl <| dq_r (sem_move rfl rfl) <| dq_r (sem_move rfl rfl) <| dq_r (sem_move rfl rfl) <| dq_r (sem_field fd53_0 rfl rfl) <| dq_r (sem_load (us := cR A) ty26 rfl rfl rfl rfl rfl) ?_
      refine dq_r (sem_call rfl rfl (gFromRat_ok (by first | assumption | exact Rz.mono hA (by decide))) rfl) ?_
      refine dq_r (sem_extract rfl rfl rfl) <| dq_r (sem_extract rfl rfl rfl) <| dq_rs (sem_callp rfl rfl rfl rfl rfl (gWith_ok) rfl) rfl rfl rfl rfl rfl (by kernel_rfl) <| dq_r (sem_load (us := ([.i .i64 (pL (gL B) (gH B) (sqLo (gL M)) (sqHi (gH M)))] ++ [.i .i64 (pH (gL B) (gH B) (sqLo (gL M)) (sqHi (gH M)))])) ty103 rfl rfl rfl rfl rfl) <| dq_r (sem_call rfl rfl (gAdd_ok (gl_bd _) (gh_bd _) (pl_bd _ _ _ _) (ph_bd _ _ _ _)) rfl) <| dq_r (sem_extract rfl rfl rfl) <| dq_r (sem_extract rfl rfl rfl) <| dq_rs (sem_callp rfl rfl rfl rfl rfl (gWith_ok) rfl) rfl rfl rfl rfl rfl (by kernel_rfl) ?_
      refine dq_r (sem_move rfl rfl) <| dq_r (sem_load (us := ([.i .i64 (pL (gL C) (gH C) (sqLo (gL N)) (sqHi (gH N)))] ++ [.i .i64 (pH (gL C) (gH C) (sqLo (gL N)) (sqHi (gH N)))])) ty103 rfl rfl rfl rfl rfl) <| dq_r (sem_load (us := ([.i .i64 (pL (gL D) (gH D) (pL (sqLo (gL M)) (sqHi (gH M)) (sqLo (gL N)) (sqHi (gH N))) (pH (sqLo (gL M)) (sqHi (gH M)) (sqLo (gL N)) (sqHi (gH N))))] ++ [.i .i64 (pH (gL D) (gH D) (pL (sqLo (gL M)) (sqHi (gH M)) (sqLo (gL N)) (sqHi (gH N))) (pH (sqLo (gL M)) (sqHi (gH M)) (sqLo (gL N)) (sqHi (gH N))))])) ty103 rfl rfl rfl rfl rfl) <| dq_r (sem_call rfl rfl (gAdd_ok (pl_bd _ _ _ _) (ph_bd _ _ _ _) (pl_bd _ _ _ _) (ph_bd _ _ _ _)) rfl) <| dq_r (sem_extract rfl rfl rfl) <| dq_r (sem_extract rfl rfl rfl) <| dq_rs (sem_callp rfl rfl rfl rfl rfl (gWith_ok) rfl) rfl rfl rfl rfl rfl (by kernel_rfl) ?_
      refine dq_r (sem_call rfl rfl (gAdd_ok (al_bd (by first | exact g_le _ | exact p_le _ _ _ _) (by first | exact g_le _ | exact p_le _ _ _ _)) (ah_bd (by first | exact g_le _ | exact p_le _ _ _ _) (by first | exact g_le _ | exact p_le _ _ _ _)) (al_bd (by first | exact g_le _ | exact p_le _ _ _ _) (by first | exact g_le _ | exact p_le _ _ _ _)) (ah_bd (by first | exact g_le _ | exact p_le _ _ _ _) (by first | exact g_le _ | exact p_le _ _ _ _))) rfl) ?_
      refine dq_r (sem_extract rfl rfl rfl) <| dq_r (sem_extract rfl rfl rfl) <| dq_rs (sem_callp rfl rfl rfl rfl rfl (gWith_ok) rfl) rfl rfl rfl rfl rfl (by kernel_rfl) <| dq_new (sem_alloc zc103 rfl) rfl <| dq_end <| dl_start5 <| dl_st (sem_store_a ty103 rfl rfl rfl rfl rfl rfl) <| dl_end ?_
      refine dw_seq <| dw_seq <| dw_region (by kernel_rfl) <| dl_r (sem_move rfl rfl) <| dl_r (sem_nilCheck rfl rfl) <| dl_r (sem_field fd101_0 rfl rfl) <| dl_r (sem_load1 ty4 rfl rfl rfl rfl) <| dl_r (sem_not rfl rfl) ?_
      refine dl_end ?_
      refine dw_cond rfl (fun hc3 => ?_) (fun hc3 => ?_)
      · refine dw_seq <| dw_region (by kernel_rfl) <| dl_r (sem_assign rfl rfl) <| dl_r (sem_assign rfl rfl) <| dl_end <| dw_ret ?_
        have hk : qK3 A B C D M N = false := not_tf hc3 (by unfold qK3 qK2 qK1; simp only [Bool.true_and, Bool.and_true, Bool.and_assoc]; try rfl)
        rw [(qk_no hk).1, (qk_no hk).2]
        exact ⟨.inr rfl, (resL_tmp rfl (resL_tmp rfl resL_nil))⟩
      · refine dw_skip <| dw_seq <| dw_region (by kernel_rfl) <| dl_r (sem_load (us := ([.i .i64 (aL (aL (gL A) (gH A) (pL (gL B) (gH B) (sqLo (gL M)) (sqHi (gH M))) (pH (gL B) (gH B) (sqLo (gL M)) (sqHi (gH M)))) (aH (gL A) (gH A) (pL (gL B) (gH B) (sqLo (gL M)) (sqHi (gH M))) (pH (gL B) (gH B) (sqLo (gL M)) (sqHi (gH M)))) (aL (pL (gL C) (gH C) (sqLo (gL N)) (sqHi (gH N))) (pH (gL C) (gH C) (sqLo (gL N)) (sqHi (gH N))) (pL (gL D) (gH D) (pL (sqLo (gL M)) (sqHi (gH M)) (sqLo (gL N)) (sqHi (gH N))) (pH (sqLo (gL M)) (sqHi (gH M)) (sqLo (gL N)) (sqHi (gH N)))) (pH (gL D) (gH D) (pL (sqLo (gL M)) (sqHi (gH M)) (sqLo (gL N)) (sqHi (gH N))) (pH (sqLo (gL M)) (sqHi (gH M)) (sqLo (gL N)) (sqHi (gH N))))) (aH (pL (gL C) (gH C) (sqLo (gL N)) (sqHi (gH N))) (pH (gL C) (gH C) (sqLo (gL N)) (sqHi (gH N))) (pL (gL D) (gH D) (pL (sqLo (gL M)) (sqHi (gH M)) (sqLo (gL N)) (sqHi (gH N))) (pH (sqLo (gL M)) (sqHi (gH M)) (sqLo (gL N)) (sqHi (gH N)))) (pH (gL D) (gH D) (pL (sqLo (gL M)) (sqHi (gH M)) (sqLo (gL N)) (sqHi (gH N))) (pH (sqLo (gL M)) (sqHi (gH M)) (sqLo (gL N)) (sqHi (gH N))))))] ++ [.i .i64 (aH (aL (gL A) (gH A) (pL (gL B) (gH B) (sqLo (gL M)) (sqHi (gH M))) (pH (gL B) (gH B) (sqLo (gL M)) (sqHi (gH M)))) (aH (gL A) (gH A) (pL (gL B) (gH B) (sqLo (gL M)) (sqHi (gH M))) (pH (gL B) (gH B) (sqLo (gL M)) (sqHi (gH M)))) (aL (pL (gL C) (gH C) (sqLo (gL N)) (sqHi (gH N))) (pH (gL C) (gH C) (sqLo (gL N)) (sqHi (gH N))) (pL (gL D) (gH D) (pL (sqLo (gL M)) (sqHi (gH M)) (sqLo (gL N)) (sqHi (gH N))) (pH (sqLo (gL M)) (sqHi (gH M)) (sqLo (gL N)) (sqHi (gH N)))) (pH (gL D) (gH D) (pL (sqLo (gL M)) (sqHi (gH M)) (sqLo (gL N)) (sqHi (gH N))) (pH (sqLo (gL M)) (sqHi (gH M)) (sqLo (gL N)) (sqHi (gH N))))) (aH (pL (gL C) (gH C) (sqLo (gL N)) (sqHi (gH N))) (pH (gL C) (gH C) (sqLo (gL N)) (sqHi (gH N))) (pL (gL D) (gH D) (pL (sqLo (gL M)) (sqHi (gH M)) (sqLo (gL N)) (sqHi (gH N))) (pH (sqLo (gL M)) (sqHi (gH M)) (sqLo (gL N)) (sqHi (gH N)))) (pH (gL D) (gH D) (pL (sqLo (gL M)) (sqHi (gH M)) (sqLo (gL N)) (sqHi (gH N))) (pH (sqLo (gL M)) (sqHi (gH M)) (sqLo (gL N)) (sqHi (gH N))))))])) ty103 rfl rfl rfl rfl rfl) <| dl_r (sem_call rfl rfl (fSign_ok) rfl) <| dl_r (sem_extract rfl rfl rfl) <| dl_r (sem_extract rfl rfl rfl) <| dl_r (sem_assign rfl rfl) ?_
        refine dl_r (sem_assign rfl rfl) <| dl_end <| dw_ret ?_
        have hk : qK3 A B C D M N = true := not_ff hc3 (by unfold qK3 qK2 qK1; simp only [Bool.true_and, Bool.and_true, Bool.and_assoc]; try rfl)
        rw [(qk_yes hk).1, (qk_yes hk).2]
        exact ⟨.inr rfl, (resL_tmp rfl (resL_tmp rfl resL_nil))⟩
def sgnP (A B C D M N : Rat) : Int := if M < 0 ∨ N < 0 then 0 else if qkK A B C D M N = true then qkS A B C D M N else signQ A B C D M N
theorem sgnP_n {A B C D M N : Rat} (h : M < 0 ∨ N < 0) : sgnP A B C D M N = 0 := by unfold sgnP; rw [if_pos h]
theorem sgnP_q {A B C D M N : Rat} (h : ¬ M < 0) (h' : ¬ N < 0) (hq : qkK A B C D M N = true) : sgnP A B C D M N = qkS A B C D M N := by unfold sgnP; rw [if_neg (fun e => e.elim h h'), if_pos hq]
theorem sgnP_p {A B C D M N : Rat} (h : ¬ M < 0) (h' : ¬ N < 0) (hq : qkK A B C D M N = false) : sgnP A B C D M N = comb (plainS A B M) (plainS C D M * cmpR N 0) (plainS (A * A + M * (B * B) - N * (C * C + M * (D * D))) (A * B - N * (C * D) + (A * B - N * (C * D))) M) := by
  unfold sgnP; rw [if_neg (fun e => e.elim h h'), hq, if_neg (by decide), signQ_p h h']
  unfold quadA quadB
  rw [Rat.mul_comm M (B * B), Rat.mul_comm M (D * D)]
def cmpP (a b c d e f : Rat) : Int :=
  if (cmpR b 0 == 0) = true ∧ (cmpR e 0 == 0) = true then cmpR a d else
  if apK (rtOk a b c) (rtOk d e f) (rtLo a b c) (rtHi a b c) (rtLo d e f) (rtHi d e f) = true then apS (rtOk a b c) (rtOk d e f) (rtLo a b c) (rtHi a b c) (rtLo d e f) (rtHi d e f) else
  if (cmpR c f == 0) = true then plainS (a - d) (b - e) c else sgnP (a - d) b (-e) 0 c f
section
variable {a b c d e f : Rat}
theorem cmpP_r (h : (cmpR b 0 == 0) = true) (h2 : (cmpR e 0 == 0) = true) : cmpP a b c d e f = cmpR a d := by unfold cmpP; rw [if_pos ⟨h, h2⟩]
theorem cmpP_a (h : ¬ ((cmpR b 0 == 0) = true ∧ (cmpR e 0 == 0) = true)) (h2 : apK (rtOk a b c) (rtOk d e f) (rtLo a b c) (rtHi a b c) (rtLo d e f) (rtHi d e f) = true) :
    cmpP a b c d e f = apS (rtOk a b c) (rtOk d e f) (rtLo a b c) (rtHi a b c) (rtLo d e f) (rtHi d e f) := by unfold cmpP; rw [if_neg h, if_pos h2]
theorem cmpP_c (h : ¬ ((cmpR b 0 == 0) = true ∧ (cmpR e 0 == 0) = true)) (h2 : apK (rtOk a b c) (rtOk d e f) (rtLo a b c) (rtHi a b c) (rtLo d e f) (rtHi d e f) = false) (h3 : (cmpR c f == 0) = true) :
    cmpP a b c d e f = plainS (a - d) (b - e) c := by unfold cmpP; rw [if_neg h, h2, if_neg (by decide), if_pos h3]
theorem cmpP_s (h : ¬ ((cmpR b 0 == 0) = true ∧ (cmpR e 0 == 0) = true)) (h2 : apK (rtOk a b c) (rtOk d e f) (rtLo a b c) (rtHi a b c) (rtLo d e f) (rtHi d e f) = false) (h3 : (cmpR c f == 0) = false) :
    cmpP a b c d e f = sgnP (a - d) b (-e) 0 c f := by unfold cmpP; rw [if_neg h, h2, if_neg (by decide), h3, if_neg (by decide)]
theorem nb_l {b c : Bool} (h : b = false) : ¬ (b = true ∧ c = true) := fun e => by rw [h] at e; exact absurd e.1 (by decide)
theorem nb_r {b c : Bool} (h : c = false) : ¬ (b = true ∧ c = true) := fun e => by rw [h] at e; exact absurd e.2 (by decide)
end
end Go.Proofs.YthlnndkgpgfbnaaGreat
