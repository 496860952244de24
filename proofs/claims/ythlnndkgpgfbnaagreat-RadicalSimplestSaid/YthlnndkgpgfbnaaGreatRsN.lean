/- Layers 3 and 5: what the examples of radicals need. -/
import Derived.Test.YthlnndkgpgfbnaaGreatRsM
namespace Go.Proofs.YthlnndkgpgfbnaaGreat
open Go Go.RowKit
theorem rtFromRat_ok {a : Rat} : Ok Tryz.prog 70 [dR a] [.a (cR a ++ cR 0 ++ cR 0)] := by
  refine Ok.of (by kernel_rfl) Tryz.func70 rfl rfl ?_
  rw [show Tryz.f70.ntmps = 7 from rfl, show Tryz.f70.results.toList = [.cell 2 28] from rfl]
  refine dw_seq <| dw_region (by kernel_rfl) <| dl_new (sem_box_a rfl rfl) rfl <| dl_new (sem_alloc zc28 rfl) rfl <| dl_end <| dw_seq <| dw_draw 4 [] follows_mixed (by kernel_rfl) rfl rfl <| dq_r (sem_load (us := cR a) ty26 rfl rfl rfl rfl rfl) ?_
  refine dq_r (sem_call rfl rfl (rtZero_ok) rfl) <| dq_r (sem_call rfl rfl (rtZero_ok) rfl) <| dq_r (sem_build (us := (cR a ++ cR 0 ++ cR 0)) fs28 zc28 rfl rfl rfl) <| dq_end <| dl_start0 <| dl_st (sem_store_a ty28 rfl rfl rfl rfl rfl rfl) <| dl_end <| dw_ret ?_
  exact ⟨.inr rfl, (resL_cell (us := (cR a ++ cR 0 ++ cR 0)) ty28 rfl rfl rfl rfl resL_nil)⟩
theorem rtNegL_ok {a b c : Rat} (ha : Rz 60000 a) (hb : Rz 60000 b) : Ok Tryz.prog 33 [.a (cR a ++ cR b ++ cR c)] [.a (cR (-a) ++ cR (-b) ++ cR c)] := by
  refine Ok.of (by kernel_rfl) Tryz.func33 rfl rfl ?_
  rw [show Tryz.f33.ntmps = 12 from rfl, show Tryz.f33.results.toList = [.cell 2 28] from rfl]
  refine dw_seq <| dw_region (by kernel_rfl) <| dl_new (sem_box_a rfl rfl) rfl <| dl_new (sem_alloc zc28 rfl) rfl <| dl_end <| dw_seq <| dw_draw 9 [] follows_mixed (by kernel_rfl) rfl rfl <| dq_r (sem_field fd28_0 rfl rfl) ?_
  refine dq_r (sem_load (us := cR a) ty26 rfl rfl rfl rfl rfl) ?_
  refine dq_r (sem_call rfl rfl (pNegL_ok (by first | assumption | exact Rz.mono ha (by decide))) rfl) ?_
  refine dq_r (sem_field fd28_1 rfl rfl) <| dq_r (sem_load (us := cR b) ty26 rfl rfl rfl rfl rfl) ?_
  refine dq_r (sem_call rfl rfl (pNegL_ok (by first | assumption | exact Rz.mono hb (by decide))) rfl) ?_
  refine dq_r (sem_field fd28_2 rfl rfl) <| dq_r (sem_load (us := cR c) ty26 rfl rfl rfl rfl rfl) <| dq_r (sem_build (us := (cR (-a) ++ cR (-b) ++ cR c)) fs28 zc28 rfl rfl rfl) <| dq_end <| dl_start0 <| dl_st (sem_store_a ty28 rfl rfl rfl rfl rfl rfl) <| dl_end <| dw_ret ?_
  exact ⟨.inr rfl, (resL_cell (us := (cR (-a) ++ cR (-b) ++ cR c)) ty28 rfl rfl rfl rfl resL_nil)⟩
theorem rtNormL_ok {a b c : Rat} (ha : Rz 10000 a) (hb : Rz 10000 b) (hc : Rz 10000 c) : Ok Tryz.prog 109 [.a (cR a ++ cR b ++ cR c)] [dR (a * a - b * b * c)] := by
  refine Ok.of (by kernel_rfl) Tryz.func109 rfl rfl ?_
  rw [show Tryz.f109.ntmps = 17 from rfl, show Tryz.f109.results.toList = [.cell 2 26] from rfl]
  refine dw_seq <| dw_region (by kernel_rfl) <| dl_new (sem_box_a rfl rfl) rfl <| dl_new (sem_alloc zc26 rfl) rfl <| dl_end <| dw_seq <| dw_draw 14 [] follows_mixed (by kernel_rfl) rfl rfl <| dq_r (sem_field fd28_0 rfl rfl) ?_
  refine dq_r (sem_load (us := cR a) ty26 rfl rfl rfl rfl rfl) <| dq_r (sem_field fd28_0 rfl rfl) <| dq_r (sem_load (us := cR a) ty26 rfl rfl rfl rfl rfl) ?_
  refine dq_r (sem_call rfl rfl (pMulL_ok (by first | assumption | exact Rz.mono ha (by decide)) (by first | assumption | exact Rz.mono ha (by decide))) rfl) ?_
  refine dq_r (sem_field fd28_1 rfl rfl) <| dq_r (sem_load (us := cR b) ty26 rfl rfl rfl rfl rfl) <| dq_r (sem_field fd28_1 rfl rfl) <| dq_r (sem_load (us := cR b) ty26 rfl rfl rfl rfl rfl) ?_
  refine dq_r (sem_call rfl rfl (pMulL_ok (by first | assumption | exact Rz.mono hb (by decide)) (by first | assumption | exact Rz.mono hb (by decide))) rfl) ?_
  refine dq_r (sem_field fd28_2 rfl rfl) <| dq_r (sem_load (us := cR c) ty26 rfl rfl rfl rfl rfl) ?_
  refine dq_r (sem_call rfl rfl (pMulL_ok (by first | assumption | exact Rz.mono (Rz.mul hb hb) (by decide)) (by first | assumption | exact Rz.mono hc (by decide))) rfl) ?_
  refine dq_r (sem_call rfl rfl (pSubL_ok (by first | assumption | exact Rz.mono (Rz.mul ha ha) (by decide)) (by first | assumption | exact Rz.mono (Rz.mul (Rz.mul hb hb) hc) (by decide))) rfl) ?_
  refine dq_end <| dl_start0 <| dl_st (sem_store_a ty26 rfl rfl rfl rfl rfl rfl) <| dl_end <| dw_ret ?_
  exact ⟨.inr rfl, (resL_cell (us := cR ((a * a) - ((b * b) * c))) ty26 rfl rfl rfl rfl resL_nil)⟩
theorem rtSignL_ok {a b c : Rat} (ha : Rz 10000 a) (hb : Rz 10000 b) (hc : Rz 10000 c) : Ok Tryz.prog 108 [.a (cR a ++ cR b ++ cR c)] [.c (.i .i64 (rtSg a b c))] := by
  have hp := prod_bd (cmpR_bd a 0) (cmpR_bd (a * a - b * b * c) 0)
  refine Ok.of (by kernel_rfl) Tryz.func108 rfl rfl ?_
  rw [show Tryz.f108.ntmps = 29 from rfl, show Tryz.f108.results.toList = [.tmp 2] from rfl]
  refine dw_seq <| dw_region (by kernel_rfl) <| dl_new (sem_box_a rfl rfl) rfl <| dl_r (sem_assign rfl rfl) <| dl_end <| dw_seq <| dw_draw 8 [] follows_mixed (by kernel_rfl) rfl rfl <| dq_r (sem_field fd28_0 rfl rfl) ?_
  refine dq_r (sem_load (us := cR a) ty26 rfl rfl rfl rfl rfl) <| dq_r (sem_call rfl rfl (pSignL_ok) rfl) <| dq_r (sem_field fd28_1 rfl rfl) <| dq_r (sem_load (us := cR b) ty26 rfl rfl rfl rfl rfl) <| dq_r (sem_call rfl rfl (pSignL_ok) rfl) <| dq_r (sem_assign rfl rfl) <| dq_r (sem_assign rfl rfl) <| dq_end ?_
  refine dl_start0 <| dl_end <| dw_seq <| dw_block <| dw_seq <| dw_region (by kernel_rfl) <| dl_r (sem_move rfl rfl) <| dl_r (sem_cmp rfl rfl rfl rfl) ?_
  refine dl_rb (sem_move rfl rfl) (fun c1 hb1 => ?_)
  cases c1
  · refine dl_r (sem_move rfl rfl) <| dl_r (sem_move rfl rfl) <| dl_r (sem_cmp rfl rfl rfl rfl) <| dl_r (sem_pick rfl rfl rfl rfl) <| dl_r (sem_assign rfl rfl) <| dl_end ?_
    refine dw_cond rfl (fun hc2 => ?_) (fun hc2 => ?_)
    · refine dw_seq <| dw_region (by kernel_rfl) <| dl_r (sem_move rfl rfl) <| dl_r (sem_assign rfl rfl) <| dl_end <| dw_ret ?_
      rw [rtSg_e hc2]
      exact ⟨.inr rfl, (resL_tmp rfl resL_nil)⟩
    · refine dw_seq <| dw_region (by kernel_rfl) <| dl_r (sem_move rfl rfl) <| dl_r (sem_cmp rfl rfl rfl rfl) <| dl_r (sem_assign rfl rfl) <| dl_end ?_
      refine dw_cond rfl (fun hc3 => ?_) (fun hc3 => ?_)
      · refine dw_seq <| dw_region (by kernel_rfl) <| dl_r (sem_move rfl rfl) <| dl_r (sem_assign rfl rfl) <| dl_end <| dw_ret ?_
        rw [rtSg_z hb1 hc2 hc3]
        exact ⟨.inr rfl, (resL_tmp rfl resL_nil)⟩
      · refine dw_skip <| dw_seq <| dw_region (by kernel_rfl) <| dl_r (sem_move rfl rfl) <| dl_r (sem_load (us := (cR a ++ cR b ++ cR c)) ty28 rfl rfl rfl rfl rfl) <| dl_r (sem_call rfl rfl (rtNormL_ok (by assumption) (by assumption) (by assumption)) rfl) <| dl_r (sem_call rfl rfl (pSignL_ok) rfl) <| dl_r (sem_ari (r := (cmpR a 0) * (cmpR (a * a - b * b * c) 0)) rfl rfl (ari_i64_mul (by omega) (by omega)) rfl) ?_
        refine dl_r (sem_assign rfl rfl) <| dl_end <| dw_ret ?_
        rw [rtSg_n hb1 hc2 hc3]
        exact ⟨.inr rfl, (resL_tmp rfl resL_nil)⟩
  · refine dl_skip (sem_skip rfl) <| dl_skip (sem_skip rfl) <| dl_skip (sem_skip rfl) <| dl_r (sem_pick rfl rfl rfl rfl) <| dl_r (sem_assign rfl rfl) <| dl_end <| dw_true rfl <| dw_seq ?_
    refine dw_region (by kernel_rfl) <| dl_r (sem_move rfl rfl) <| dl_r (sem_assign rfl rfl) <| dl_end <| dw_ret ?_
    rw [rtSg_0 hb1]
    exact ⟨.inr rfl, (resL_tmp rfl resL_nil)⟩
theorem xLessL_ok {a b c d : Rat} (ha : Rz 60000 a) (hd : Rz 60000 d) : Ok Tryz.prog 75 [.a (cR a ++ cR b ++ cR c), dR d] [.a (cR (a - d) ++ cR b ++ cR c)] := by
  refine Ok.of (by kernel_rfl) Tryz.func75 rfl rfl ?_
  rw [show Tryz.f75.ntmps = 11 from rfl, show Tryz.f75.results.toList = [.cell 4 28] from rfl]
  refine dw_seq <| dw_region (by kernel_rfl) <| dl_new (sem_box_a rfl rfl) rfl <| dl_new (sem_box_a rfl rfl) rfl <| dl_new (sem_alloc zc28 rfl) rfl <| dl_end <| dw_seq <| dw_region (by kernel_rfl) ?_
  refine dl_r (sem_field fd28_0 rfl rfl) <| dl_r (sem_load (us := cR a) ty26 rfl rfl rfl rfl rfl) <| dl_r (sem_load (us := cR d) ty26 rfl rfl rfl rfl rfl) ?_
  refine dl_r (sem_call rfl rfl (pSubL_ok (by first | assumption | exact Rz.mono ha (by decide)) (by first | assumption | exact Rz.mono hd (by decide))) rfl) ?_
  refine dl_r (sem_field fd28_0 rfl rfl) <| dl_st (sem_store (us := (cR (a - d) ++ cR b ++ cR c)) ty26 rfl rfl rfl rfl (Nat.le_of_ble_eq_true rfl) rfl rfl) <| dl_end <| dw_seq <| dw_region (by kernel_rfl) <| dl_r (sem_load (us := (cR (a - d) ++ cR b ++ cR c)) ty28 rfl rfl rfl rfl rfl) <| dl_st (sem_store_a ty28 rfl rfl rfl rfl rfl rfl) <| dl_end ?_
  refine dw_ret ?_
  exact ⟨.inr rfl, (resL_cell (us := (cR (a - d) ++ cR b ++ cR c)) ty28 rfl rfl rfl rfl resL_nil)⟩
theorem xLess_ok {a b c d : Rat} (ha : Rz 300 a) (hd : Rz 300 d) : Ok Tryz.prog 75 [.a (cR a ++ cR b ++ cR c), dR d] [.a (cR (a - d) ++ cR b ++ cR c)] := xLessL_ok (ha.mono (by decide)) (hd.mono (by decide))
theorem xEqualL_ok {a b c d e f : Rat} (ha : Rz 20000 a) (hb : Rz 1600 b) (hc : Rz 1600 c) (hd : Rz 20000 d) (he : Rz 1600 e) (hf : Rz 1600 f) (h1 : Rz 1600 (a - d)) (c0 : 0 ≤ c) (f0 : 0 ≤ f) : Ok Tryz.prog 25 [.a (cR a ++ cR b ++ cR c), .a (cR d ++ cR e ++ cR f)] [.c (.b (signQ (a - d) b (-e) 0 c f == 0))] := by
  refine Ok.of (by kernel_rfl) Tryz.func25 rfl rfl ?_
  rw [show Tryz.f25.ntmps = 9 from rfl, show Tryz.f25.results.toList = [.tmp 4] from rfl]
  refine dw_seq <| dw_region (by kernel_rfl) <| dl_new (sem_box_a rfl rfl) rfl <| dl_new (sem_box_a rfl rfl) rfl <| dl_r (sem_assign rfl rfl) <| dl_end <| dw_seq <| dw_region (by kernel_rfl) ?_
  refine dl_r (sem_load (us := (cR a ++ cR b ++ cR c)) ty28 rfl rfl rfl rfl rfl) <| dl_r (sem_load (us := (cR d ++ cR e ++ cR f)) ty28 rfl rfl rfl rfl rfl) <| dl_r (sem_call rfl rfl (xCmpQL_ok (by assumption) (by assumption) (by assumption) (by assumption) (by assumption) (by assumption) (by assumption) (by assumption) (by assumption)) rfl) <| dl_r (sem_cmp rfl rfl rfl rfl) <| dl_r (sem_assign rfl rfl) <| dl_end <| dw_ret ?_
  exact ⟨.inr rfl, (resL_tmp rfl resL_nil)⟩
theorem xEqual_ok {a b c d e f : Rat} (ha : Rz 100 a) (hb : Rz 8 b) (hc : Rz 8 c) (hd : Rz 100 d) (he : Rz 8 e) (hf : Rz 8 f) (h1 : Rz 8 (a - d)) (c0 : 0 ≤ c) (f0 : 0 ≤ f) : Ok Tryz.prog 25 [.a (cR a ++ cR b ++ cR c), .a (cR d ++ cR e ++ cR f)] [.c (.b (signQ (a - d) b (-e) 0 c f == 0))] := xEqualL_ok (ha.mono (by decide)) (hb.mono (by decide)) (hc.mono (by decide)) (hd.mono (by decide)) (he.mono (by decide)) (hf.mono (by decide)) (h1.mono (by decide)) c0 f0
theorem xCmpRatL_ok {a b c d : Rat} (ha : Rz 20000 a) (hb : Rz 1600 b) (hc : Rz 1600 c) (hd : Rz 20000 d) (h1 : Rz 1600 (a - d)) (c0 : 0 ≤ c) : Ok Tryz.prog 30 [.a (cR a ++ cR b ++ cR c), dR d] [.c (.i .i64 (signQ (a - d) b (-0) 0 c 0))] := by
  have z0 : Rz 1600 (0 : Rat) := Rz.zero (by decide)
  refine Ok.of (by kernel_rfl) Tryz.func30 rfl rfl ?_
  rw [show Tryz.f30.ntmps = 9 from rfl, show Tryz.f30.results.toList = [.tmp 4] from rfl]
  refine dw_seq <| dw_region (by kernel_rfl) <| dl_new (sem_box_a rfl rfl) rfl <| dl_new (sem_box_a rfl rfl) rfl <| dl_r (sem_assign rfl rfl) <| dl_end <| dw_seq <| dw_draw 5 [] follows_mixed (by kernel_rfl) rfl rfl ?_
  refine dq_r (sem_load (us := (cR a ++ cR b ++ cR c)) ty28 rfl rfl rfl rfl rfl) <| dq_r (sem_load (us := cR d) ty26 rfl rfl rfl rfl rfl) <| dq_r (sem_call rfl rfl (rtFromRat_ok) rfl) <| dq_r (sem_call rfl rfl (xCmpQL_ok (by assumption) (by assumption) (by assumption) (by assumption) z0 z0 h1 c0 Rat.le_refl) rfl) <| dq_r (sem_assign rfl rfl) <| dq_end <| dl_start0 <| dl_end ?_
  refine dw_ret ?_
  exact ⟨.inr rfl, (resL_tmp rfl resL_nil)⟩
theorem xCmpRat_ok {a b c d : Rat} (ha : Rz 100 a) (hb : Rz 8 b) (hc : Rz 8 c) (hd : Rz 100 d) (h1 : Rz 8 (a - d)) (c0 : 0 ≤ c) : Ok Tryz.prog 30 [.a (cR a ++ cR b ++ cR c), dR d] [.c (.i .i64 (signQ (a - d) b (-0) 0 c 0))] := xCmpRatL_ok (ha.mono (by decide)) (hb.mono (by decide)) (hc.mono (by decide)) (hd.mono (by decide)) (h1.mono (by decide)) c0
theorem rtInvL_ok {a b c : Rat} (ha : Rz 4000 a) (hb : Rz 4000 b) (hc : Rz 4000 c) (h1 : rtSg a b c ≠ 0) (h2 : a * a - b * b * c ≠ 0) : Ok Tryz.prog 74 [.a (cR a ++ cR b ++ cR c)] [.a (cR (a * invN a b c) ++ cR (-b * invN a b c) ++ cR (zc (-b * invN a b c) c)), .c (.i .i64 0)] := by
  have o1 : Rz 60000 (1 : Rat) := rz_l (by decide +kernel)
  have n1 : Rz 20200 (a * a - b * b * c) := ((ha.mul ha).sub ((hb.mul hb).mul hc)).mono (by decide)
  have n2 : Rz 60000 (a * a - b * b * c) := n1.mono (by decide)
  have i1 : Rz 60000 (invN a b c) := (Rz.div (k := 1) (rz_l (by decide +kernel)) n1 h2).mono (by decide)
  have ka : Rz 60000 a := ha.mono (by decide)
  have kb : Rz 60000 (-b) := (hb.mono (by decide)).neg
  have wa : Rz 10000 a := ha.mono (by decide)
  have wb : Rz 10000 b := hb.mono (by decide)
  have wc : Rz 10000 c := hc.mono (by decide)
  refine Ok.of (by kernel_rfl) Tryz.func74 rfl rfl ?_
  rw [show Tryz.f74.ntmps = 31 from rfl, show Tryz.f74.results.toList = [.cell 2 28, .tmp 3] from rfl]
  refine dw_seq <| dw_region (by kernel_rfl) <| dl_new (sem_box_a rfl rfl) rfl <| dl_new (sem_alloc zc28 rfl) rfl <| dl_r (sem_assign rfl rfl) <| dl_end <| dw_seq <| dw_seq ?_
  refine dw_region (by kernel_rfl) <| dl_r (sem_load (us := (cR a ++ cR b ++ cR c)) ty28 rfl rfl rfl rfl rfl) <| dl_r (sem_call rfl rfl (rtSignL_ok wa wb wc) rfl) <| dl_r (sem_cmp rfl rfl rfl rfl) <| dl_end ?_
  refine dw_cond rfl (fun hc1 => ?_) (fun hc1 => ?_)
  · exact absurd (by simpa using hc1) h1
  · refine dw_skip <| dw_seq <| dw_draw 10 [4] follows_mixed (by kernel_rfl) rfl rfl <| dq_r (sem_call rfl rfl ((show Ok Tryz.prog 29 [.c (.i .i64 1)] [dR 1] from pFromL_ok (by omega) (by omega))) rfl) <| dq_r (sem_load (us := (cR a ++ cR b ++ cR c)) ty28 rfl rfl rfl rfl rfl) <| dq_r (sem_call rfl rfl (rtNormL_ok wa wb wc) rfl) <| dq_r (sem_call rfl rfl (pDivL_ok o1 n2 h2) rfl) <| dq_r (sem_move rfl rfl) ?_
    refine dq_r (sem_extract rfl rfl rfl) <| dq_r (sem_extract rfl rfl rfl) <| dq_new (sem_alloc zc26 rfl) rfl <| dq_sn (sem_store_a ty26 rfl rfl rfl rfl rfl rfl) rfl rfl rfl rfl <| dq_r (sem_assign rfl rfl) <| dq_end <| dl_start2 <| dl_end ?_
    refine dw_seq <| dw_seq <| dw_region (by kernel_rfl) <| dl_r (sem_move rfl rfl) <| dl_r (sem_cmp rfl rfl rfl rfl) <| dl_end <| dw_false rfl <| dw_skip ?_
    refine dw_seq <| dw_draw 10 [] follows_mixed (by kernel_rfl) rfl rfl <| dq_r (sem_field fd28_0 rfl rfl) <| dq_r (sem_load (us := cR a) ty26 rfl rfl rfl rfl rfl) <| dq_r (sem_field fd28_1 rfl rfl) <| dq_r (sem_load (us := cR b) ty26 rfl rfl rfl rfl rfl) ?_
    refine dq_r (sem_call rfl rfl (pNegL_ok (by first | assumption | exact Rz.mono hb (by decide))) rfl) ?_
    refine dq_r (sem_field fd28_2 rfl rfl) <| dq_r (sem_load (us := cR c) ty26 rfl rfl rfl rfl rfl) <| dq_r (sem_build (us := (cR a ++ cR (-b) ++ cR c)) fs28 zc28 rfl rfl rfl) <| dq_r (sem_load (us := cR (invN a b c)) ty26 rfl rfl rfl rfl rfl) <| dq_r (sem_call rfl rfl (rtScaleL_ok ka kb i1) rfl) <| dq_end <| dl_start0 <| dl_st (sem_store_a ty28 rfl rfl rfl rfl rfl rfl) ?_
    refine dl_r (sem_assign rfl rfl) <| dl_end <| dw_ret ?_
    exact ⟨.inr rfl, (resL_cell (us := (cR (a * invN a b c) ++ cR (-b * invN a b c) ++ cR (zc (-b * invN a b c) c))) ty28 rfl rfl rfl rfl (resL_tmp rfl resL_nil))⟩
theorem rtInv_ok {a b c : Rat} (ha : Rz 20 a) (hb : Rz 20 b) (hc : Rz 20 c) (h1 : rtSg a b c ≠ 0) (h2 : a * a - b * b * c ≠ 0) : Ok Tryz.prog 74 [.a (cR a ++ cR b ++ cR c)] [.a (cR (a * invN a b c) ++ cR (-b * invN a b c) ++ cR (zc (-b * invN a b c) c)), .c (.i .i64 0)] := rtInvL_ok (ha.mono (by decide)) (hb.mono (by decide)) (hc.mono (by decide)) h1 h2
theorem lwNum_ok {n : Int} (h0 : -9223372036854775808 ≤ n) (h1 : n ≤ 9223372036854775807) : Ok Tryz.prog 15 [.c (.i .i64 n)] [dR (((n : Int) : Rat))] := by
  refine Ok.of (by kernel_rfl) Tryz.func15 rfl rfl ?_
  rw [show Tryz.f15.ntmps = 5 from rfl, show Tryz.f15.results.toList = [.cell 2 26] from rfl]
  refine dw_seq <| dw_region (by kernel_rfl) <| dl_new (sem_alloc zc26 rfl) rfl <| dl_end <| dw_seq <| dw_region (by kernel_rfl) <| dl_r (sem_move rfl rfl) <| dl_r (sem_call rfl rfl (sFrom_ok h0 h1) rfl) ?_
  refine dl_st (sem_store_a ty26 rfl rfl rfl rfl rfl rfl) <| dl_end <| dw_ret ?_
  exact ⟨.inr rfl, (resL_cell (us := cR (((n : Int) : Rat))) ty26 rfl rfl rfl rfl resL_nil)⟩
theorem lwRt5_1_2  : Ok Tryz.prog 22 [.c (.i .i64 1), .c (.i .i64 2)] [.a (cR 0 ++ cR 1 ++ cR 2)] := by
  refine Ok.of (by kernel_rfl) Tryz.func22 rfl rfl ?_
  rw [show Tryz.f22.ntmps = 11 from rfl, show Tryz.f22.results.toList = [.cell 4 28] from rfl]
  refine dw_seq <| dw_region (by kernel_rfl) <| dl_new (sem_alloc zc28 rfl) rfl <| dl_end <| dw_seq <| dw_region (by kernel_rfl) <| dl_r (sem_call rfl rfl (rcast1 (x' := 0) (lwNum_ok (by decide) (by decide)) (by decide +kernel)) rfl) <| dl_r (sem_move rfl rfl) ?_
  refine dl_r (sem_call rfl rfl (rcast1 (x' := 1) (lwNum_ok (by decide) (by decide)) (by decide +kernel)) rfl) <| dl_r (sem_move rfl rfl) <| dl_r (sem_call rfl rfl (rcast1 (x' := 2) (lwNum_ok (by decide) (by decide)) (by decide +kernel)) rfl) <| dl_r (sem_build (us := (cR 0 ++ cR 1 ++ cR 2)) fs28 zc28 rfl rfl rfl) <| dl_st (sem_store_a ty28 rfl rfl rfl rfl rfl rfl) <| dl_end <| dw_ret ?_
  exact ⟨.inr rfl, (resL_cell (us := (cR 0 ++ cR 1 ++ cR 2)) ty28 rfl rfl rfl rfl resL_nil)⟩
theorem lwRt5_1_3  : Ok Tryz.prog 22 [.c (.i .i64 1), .c (.i .i64 3)] [.a (cR 0 ++ cR 1 ++ cR 3)] := by
  refine Ok.of (by kernel_rfl) Tryz.func22 rfl rfl ?_
  rw [show Tryz.f22.ntmps = 11 from rfl, show Tryz.f22.results.toList = [.cell 4 28] from rfl]
  refine dw_seq <| dw_region (by kernel_rfl) <| dl_new (sem_alloc zc28 rfl) rfl <| dl_end <| dw_seq <| dw_region (by kernel_rfl) <| dl_r (sem_call rfl rfl (rcast1 (x' := 0) (lwNum_ok (by decide) (by decide)) (by decide +kernel)) rfl) <| dl_r (sem_move rfl rfl) ?_
  refine dl_r (sem_call rfl rfl (rcast1 (x' := 1) (lwNum_ok (by decide) (by decide)) (by decide +kernel)) rfl) <| dl_r (sem_move rfl rfl) <| dl_r (sem_call rfl rfl (rcast1 (x' := 3) (lwNum_ok (by decide) (by decide)) (by decide +kernel)) rfl) <| dl_r (sem_build (us := (cR 0 ++ cR 1 ++ cR 3)) fs28 zc28 rfl rfl rfl) <| dl_st (sem_store_a ty28 rfl rfl rfl rfl rfl rfl) <| dl_end <| dw_ret ?_
  exact ⟨.inr rfl, (resL_cell (us := (cR 0 ++ cR 1 ++ cR 3)) ty28 rfl rfl rfl rfl resL_nil)⟩
theorem lwRt5_1_8  : Ok Tryz.prog 22 [.c (.i .i64 1), .c (.i .i64 8)] [.a (cR 0 ++ cR 1 ++ cR 8)] := by
  refine Ok.of (by kernel_rfl) Tryz.func22 rfl rfl ?_
  rw [show Tryz.f22.ntmps = 11 from rfl, show Tryz.f22.results.toList = [.cell 4 28] from rfl]
  refine dw_seq <| dw_region (by kernel_rfl) <| dl_new (sem_alloc zc28 rfl) rfl <| dl_end <| dw_seq <| dw_region (by kernel_rfl) <| dl_r (sem_call rfl rfl (rcast1 (x' := 0) (lwNum_ok (by decide) (by decide)) (by decide +kernel)) rfl) <| dl_r (sem_move rfl rfl) ?_
  refine dl_r (sem_call rfl rfl (rcast1 (x' := 1) (lwNum_ok (by decide) (by decide)) (by decide +kernel)) rfl) <| dl_r (sem_move rfl rfl) <| dl_r (sem_call rfl rfl (rcast1 (x' := 8) (lwNum_ok (by decide) (by decide)) (by decide +kernel)) rfl) <| dl_r (sem_build (us := (cR 0 ++ cR 1 ++ cR 8)) fs28 zc28 rfl rfl rfl) <| dl_st (sem_store_a ty28 rfl rfl rfl rfl rfl rfl) <| dl_end <| dw_ret ?_
  exact ⟨.inr rfl, (resL_cell (us := (cR 0 ++ cR 1 ++ cR 8)) ty28 rfl rfl rfl rfl resL_nil)⟩
theorem lwRt5_2_2  : Ok Tryz.prog 22 [.c (.i .i64 2), .c (.i .i64 2)] [.a (cR 0 ++ cR 2 ++ cR 2)] := by
  refine Ok.of (by kernel_rfl) Tryz.func22 rfl rfl ?_
  rw [show Tryz.f22.ntmps = 11 from rfl, show Tryz.f22.results.toList = [.cell 4 28] from rfl]
  refine dw_seq <| dw_region (by kernel_rfl) <| dl_new (sem_alloc zc28 rfl) rfl <| dl_end <| dw_seq <| dw_region (by kernel_rfl) <| dl_r (sem_call rfl rfl (rcast1 (x' := 0) (lwNum_ok (by decide) (by decide)) (by decide +kernel)) rfl) <| dl_r (sem_move rfl rfl) ?_
  refine dl_r (sem_call rfl rfl (rcast1 (x' := 2) (lwNum_ok (by decide) (by decide)) (by decide +kernel)) rfl) <| dl_r (sem_move rfl rfl) <| dl_r (sem_call rfl rfl (rcast1 (x' := 2) (lwNum_ok (by decide) (by decide)) (by decide +kernel)) rfl) <| dl_r (sem_build (us := (cR 0 ++ cR 2 ++ cR 2)) fs28 zc28 rfl rfl rfl) <| dl_st (sem_store_a ty28 rfl rfl rfl rfl rfl rfl) <| dl_end <| dw_ret ?_
  exact ⟨.inr rfl, (resL_cell (us := (cR 0 ++ cR 2 ++ cR 2)) ty28 rfl rfl rfl rfl resL_nil)⟩
theorem cSum  : Ok Tryz.prog 21 [dR 25, dR 4, dR 1, dR 2] [.c (.i .i64 0), .c (.i .i64 0)] := by
  refine Ok.of (by kernel_rfl) Tryz.func21 rfl rfl ?_
  rw [show Tryz.f21.ntmps = 48 from rfl, show Tryz.f21.results.toList = [.tmp 8, .tmp 9] from rfl]
  refine dw_seq <| dw_region (by kernel_rfl) <| dl_new (sem_box_a rfl rfl) rfl <| dl_new (sem_box_a rfl rfl) rfl <| dl_new (sem_box_a rfl rfl) rfl <| dl_new (sem_box_a rfl rfl) rfl <| dl_r (sem_assign rfl rfl) <| dl_r (sem_assign rfl rfl) ?_
  refine dl_end <| dw_seq <| dw_seq <| dw_region (by kernel_rfl) <| dl_r (sem_load (us := cR 25) ty26 rfl rfl rfl rfl rfl) <| dl_r (sem_load (us := cR 4) ty26 rfl rfl rfl rfl rfl) <| dl_r (sem_load (us := cR 1) ty26 rfl rfl rfl rfl rfl) <| dl_r (sem_load (us := cR 2) ty26 rfl rfl rfl rfl rfl) ?_
  refine dl_r (sem_slit_D (n := 4) (us := cR 25 ++ cR 4 ++ cR 1 ++ cR 2) el78 rfl rfl rfl (by decide) (by decide) rfl) <| dl_r (sem_len sl78 rfl rfl) <| dl_r (sem_move rfl rfl) <| dl_end <| dw_block ?_
  refine dw_loop (ι := Nat) (fun i => match i with | 0 => ⟨48, [(4, .p 4 0), (5, .p 5 0), (6, .p 6 0), (7, .p 7 0), (8, .v (.c (.i .i64 0))), (9, .v (.c (.i .i64 0))), (18, .v (.c (.s 4 (cR 25 ++ cR 4 ++ cR 1 ++ cR 2)))), (19, .v (.c (.i .i64 4))), (20, .v (.c (.i .i64 0)))], [(4, 26, cR 25), (5, 26, cR 4), (6, 26, cR 1), (7, 26, cR 2)]⟩ | 1 => ⟨48, [(4, .p 4 0), (5, .p 5 0), (6, .p 6 0), (7, .p 7 0), (8, .v (.c (.i .i64 0))), (9, .v (.c (.i .i64 0))), (18, .v (.c (.s 4 (cR 25 ++ cR 4 ++ cR 1 ++ cR 2)))), (19, .v (.c (.i .i64 4))), (20, .v (.c (.i .i64 1)))], [(4, 26, cR 25), (5, 26, cR 4), (6, 26, cR 1), (7, 26, cR 2)]⟩ | 2 => ⟨48, [(4, .p 4 0), (5, .p 5 0), (6, .p 6 0), (7, .p 7 0), (8, .v (.c (.i .i64 0))), (9, .v (.c (.i .i64 0))), (18, .v (.c (.s 4 (cR 25 ++ cR 4 ++ cR 1 ++ cR 2)))), (19, .v (.c (.i .i64 4))), (20, .v (.c (.i .i64 2)))], [(4, 26, cR 25), (5, 26, cR 4), (6, 26, cR 1), (7, 26, cR 2)]⟩ | 3 => ⟨48, [(4, .p 4 0), (5, .p 5 0), (6, .p 6 0), (7, .p 7 0), (8, .v (.c (.i .i64 0))), (9, .v (.c (.i .i64 0))), (18, .v (.c (.s 4 (cR 25 ++ cR 4 ++ cR 1 ++ cR 2)))), (19, .v (.c (.i .i64 4))), (20, .v (.c (.i .i64 3)))], [(4, 26, cR 25), (5, 26, cR 4), (6, 26, cR 1), (7, 26, cR 2)]⟩ | _ + 4 => ⟨48, [(4, .p 4 0), (5, .p 5 0), (6, .p 6 0), (7, .p 7 0), (8, .v (.c (.i .i64 0))), (9, .v (.c (.i .i64 0))), (18, .v (.c (.s 4 (cR 25 ++ cR 4 ++ cR 1 ++ cR 2)))), (19, .v (.c (.i .i64 4))), (20, .v (.c (.i .i64 4)))], [(4, 26, cR 25), (5, 26, cR 4), (6, 26, cR 1), (7, 26, cR 2)]⟩) (fun i => 4 - i) 0 (sub_of ⟨rfl, rfl, rfl, rfl, rfl, rfl, rfl, rfl, rfl, trivial⟩ ⟨rfl, rfl, rfl, rfl, trivial⟩ rfl) ?_
  intro i
  match i with
  | 0 =>
    show Dw _ _ ⟨48, [(4, .p 4 0), (5, .p 5 0), (6, .p 6 0), (7, .p 7 0), (8, .v (.c (.i .i64 0))), (9, .v (.c (.i .i64 0))), (18, .v (.c (.s 4 (cR 25 ++ cR 4 ++ cR 1 ++ cR 2)))), (19, .v (.c (.i .i64 4))), (20, .v (.c (.i .i64 0)))], [(4, 26, cR 25), (5, 26, cR 4), (6, 26, cR 1), (7, 26, cR 2)]⟩ _
    refine dw_seq <| dw_region (by kernel_rfl) <| dl_r (sem_cmp rfl rfl rfl rfl) <| dl_end <| dw_seq <| dw_true rfl <| dw_skip <| dw_seq ?_
    refine dw_block <| dw_seq <| dw_region (by kernel_rfl) <| dl_r (sem_index sl78 rfl rfl (by decide) rfl rfl rfl) <| dl_r (sem_loadq (us := cR 25) ty26 rfl rfl rfl rfl) <| dl_new (sem_alloc zc26 rfl) rfl <| dl_st (sem_store_a ty26 rfl rfl rfl rfl rfl rfl) <| dl_end ?_
    refine dw_seq <| dw_region (by kernel_rfl) <| dl_r (sem_load (us := cR 25) ty26 rfl rfl rfl rfl rfl) <| dl_r (sem_call rfl rfl (rcasti (c := 1) pSign_ok (by decide +kernel)) rfl) <| dl_r (sem_cmp rfl rfl rfl rfl) <| dl_end <| dw_false rfl <| dw_skip ?_
    refine dw_region (by kernel_rfl) <| dl_r (sem_ari (r := 1) rfl rfl rfl rfl) <| dl_r (sem_move rfl rfl) <| dl_end ?_
    exact ⟨1, sub_of ⟨rfl, rfl, rfl, rfl, rfl, rfl, rfl, rfl, rfl, trivial⟩ ⟨rfl, rfl, rfl, rfl, trivial⟩ rfl, by show 4 - 1 < 4 - 0; decide⟩
  | 1 =>
    show Dw _ _ ⟨48, [(4, .p 4 0), (5, .p 5 0), (6, .p 6 0), (7, .p 7 0), (8, .v (.c (.i .i64 0))), (9, .v (.c (.i .i64 0))), (18, .v (.c (.s 4 (cR 25 ++ cR 4 ++ cR 1 ++ cR 2)))), (19, .v (.c (.i .i64 4))), (20, .v (.c (.i .i64 1)))], [(4, 26, cR 25), (5, 26, cR 4), (6, 26, cR 1), (7, 26, cR 2)]⟩ _
    refine dw_seq <| dw_region (by kernel_rfl) <| dl_r (sem_cmp rfl rfl rfl rfl) <| dl_end <| dw_seq <| dw_true rfl <| dw_skip <| dw_seq ?_
    refine dw_block <| dw_seq <| dw_region (by kernel_rfl) <| dl_r (sem_index sl78 rfl rfl (by decide) rfl rfl rfl) <| dl_r (sem_loadq (us := cR 4) ty26 rfl rfl rfl rfl) <| dl_new (sem_alloc zc26 rfl) rfl <| dl_st (sem_store_a ty26 rfl rfl rfl rfl rfl rfl) <| dl_end ?_
    refine dw_seq <| dw_region (by kernel_rfl) <| dl_r (sem_load (us := cR 4) ty26 rfl rfl rfl rfl rfl) <| dl_r (sem_call rfl rfl (rcasti (c := 1) pSign_ok (by decide +kernel)) rfl) <| dl_r (sem_cmp rfl rfl rfl rfl) <| dl_end <| dw_false rfl <| dw_skip ?_
    refine dw_region (by kernel_rfl) <| dl_r (sem_ari (r := 2) rfl rfl rfl rfl) <| dl_r (sem_move rfl rfl) <| dl_end ?_
    exact ⟨2, sub_of ⟨rfl, rfl, rfl, rfl, rfl, rfl, rfl, rfl, rfl, trivial⟩ ⟨rfl, rfl, rfl, rfl, trivial⟩ rfl, by show 4 - 2 < 4 - 1; decide⟩
  | 2 =>
    show Dw _ _ ⟨48, [(4, .p 4 0), (5, .p 5 0), (6, .p 6 0), (7, .p 7 0), (8, .v (.c (.i .i64 0))), (9, .v (.c (.i .i64 0))), (18, .v (.c (.s 4 (cR 25 ++ cR 4 ++ cR 1 ++ cR 2)))), (19, .v (.c (.i .i64 4))), (20, .v (.c (.i .i64 2)))], [(4, 26, cR 25), (5, 26, cR 4), (6, 26, cR 1), (7, 26, cR 2)]⟩ _
    refine dw_seq <| dw_region (by kernel_rfl) <| dl_r (sem_cmp rfl rfl rfl rfl) <| dl_end <| dw_seq <| dw_true rfl <| dw_skip <| dw_seq ?_
    refine dw_block <| dw_seq <| dw_region (by kernel_rfl) <| dl_r (sem_index sl78 rfl rfl (by decide) rfl rfl rfl) <| dl_r (sem_loadq (us := cR 1) ty26 rfl rfl rfl rfl) <| dl_new (sem_alloc zc26 rfl) rfl <| dl_st (sem_store_a ty26 rfl rfl rfl rfl rfl rfl) <| dl_end ?_
    refine dw_seq <| dw_region (by kernel_rfl) <| dl_r (sem_load (us := cR 1) ty26 rfl rfl rfl rfl rfl) <| dl_r (sem_call rfl rfl (rcasti (c := 1) pSign_ok (by decide +kernel)) rfl) <| dl_r (sem_cmp rfl rfl rfl rfl) <| dl_end <| dw_false rfl <| dw_skip ?_
    refine dw_region (by kernel_rfl) <| dl_r (sem_ari (r := 3) rfl rfl rfl rfl) <| dl_r (sem_move rfl rfl) <| dl_end ?_
    exact ⟨3, sub_of ⟨rfl, rfl, rfl, rfl, rfl, rfl, rfl, rfl, rfl, trivial⟩ ⟨rfl, rfl, rfl, rfl, trivial⟩ rfl, by show 4 - 3 < 4 - 2; decide⟩
  | 3 =>
    show Dw _ _ ⟨48, [(4, .p 4 0), (5, .p 5 0), (6, .p 6 0), (7, .p 7 0), (8, .v (.c (.i .i64 0))), (9, .v (.c (.i .i64 0))), (18, .v (.c (.s 4 (cR 25 ++ cR 4 ++ cR 1 ++ cR 2)))), (19, .v (.c (.i .i64 4))), (20, .v (.c (.i .i64 3)))], [(4, 26, cR 25), (5, 26, cR 4), (6, 26, cR 1), (7, 26, cR 2)]⟩ _
    refine dw_seq <| dw_region (by kernel_rfl) <| dl_r (sem_cmp rfl rfl rfl rfl) <| dl_end <| dw_seq <| dw_true rfl <| dw_skip <| dw_seq ?_
    refine dw_block <| dw_seq <| dw_region (by kernel_rfl) <| dl_r (sem_index sl78 rfl rfl (by decide) rfl rfl rfl) <| dl_r (sem_loadq (us := cR 2) ty26 rfl rfl rfl rfl) <| dl_new (sem_alloc zc26 rfl) rfl <| dl_st (sem_store_a ty26 rfl rfl rfl rfl rfl rfl) <| dl_end ?_
    refine dw_seq <| dw_region (by kernel_rfl) <| dl_r (sem_load (us := cR 2) ty26 rfl rfl rfl rfl rfl) <| dl_r (sem_call rfl rfl (rcasti (c := 1) pSign_ok (by decide +kernel)) rfl) <| dl_r (sem_cmp rfl rfl rfl rfl) <| dl_end <| dw_false rfl <| dw_skip ?_
    refine dw_region (by kernel_rfl) <| dl_r (sem_ari (r := 4) rfl rfl rfl rfl) <| dl_r (sem_move rfl rfl) <| dl_end ?_
    exact ⟨4, sub_of ⟨rfl, rfl, rfl, rfl, rfl, rfl, rfl, rfl, rfl, trivial⟩ ⟨rfl, rfl, rfl, rfl, trivial⟩ rfl, by show 4 - 4 < 4 - 3; decide⟩
  | z + 4 =>
    show Dw _ _ ⟨48, [(4, .p 4 0), (5, .p 5 0), (6, .p 6 0), (7, .p 7 0), (8, .v (.c (.i .i64 0))), (9, .v (.c (.i .i64 0))), (18, .v (.c (.s 4 (cR 25 ++ cR 4 ++ cR 1 ++ cR 2)))), (19, .v (.c (.i .i64 4))), (20, .v (.c (.i .i64 4)))], [(4, 26, cR 25), (5, 26, cR 4), (6, 26, cR 1), (7, 26, cR 2)]⟩ _
    refine dw_seq <| dw_region (by kernel_rfl) <| dl_r (sem_cmp rfl rfl rfl rfl) <| dl_end <| dw_seq <| dw_false rfl <| dw_exit <| dw_seq ?_
    refine dw_draw 10 [] follows_mixed (by kernel_rfl) rfl rfl <| dq_r (sem_load (us := cR 25) ty26 rfl rfl rfl rfl rfl) <| dq_r (sem_load (us := cR 4) ty26 rfl rfl rfl rfl rfl) <| dq_r (sem_call rfl rfl (rcast1 (x' := 21) (pSub_ok (rz_l (by decide +kernel)) (rz_l (by decide +kernel))) (by decide +kernel)) rfl) <| dq_r (sem_load (us := cR 1) ty26 rfl rfl rfl rfl rfl) <| dq_r (sem_call rfl rfl (rcast1 (x' := 20) (pSub_ok (rz_l (by decide +kernel)) (rz_l (by decide +kernel))) (by decide +kernel)) rfl) <| dq_r (sem_load (us := cR 2) ty26 rfl rfl rfl rfl rfl) <| dq_r (sem_load (us := cR 2) ty26 rfl rfl rfl rfl rfl) ?_
    refine dq_r (sem_call rfl rfl (rcast1 (x' := 4) (pMul_ok (rz_l (by decide +kernel)) (rz_l (by decide +kernel))) (by decide +kernel)) rfl) <| dq_r (sem_call rfl rfl (rcast1 (x' := 16) (pSub_ok (rz_l (by decide +kernel)) (rz_l (by decide +kernel))) (by decide +kernel)) rfl) <| dq_new (sem_alloc zc26 rfl) rfl <| dq_end <| dl_start1 <| dl_st (sem_store_a ty26 rfl rfl rfl rfl rfl rfl) <| dl_end <| dw_seq ?_
    refine dw_draw 4 [] follows_mixed (by kernel_rfl) rfl rfl <| dq_r (sem_call rfl rfl (rcast1 (x' := -2) (pFrom_ok (by decide) (by decide)) (by decide +kernel)) rfl) <| dq_r (sem_load (us := cR 2) ty26 rfl rfl rfl rfl rfl) <| dq_r (sem_call rfl rfl (rcast1 (x' := -4) (pMul_ok (rz_l (by decide +kernel)) (rz_l (by decide +kernel))) (by decide +kernel)) rfl) <| dq_new (sem_alloc zc26 rfl) rfl <| dq_end <| dl_start1 <| dl_st (sem_store_a ty26 rfl rfl rfl rfl rfl rfl) ?_
    refine dl_end <| dw_seq <| dw_draw 10 [] follows_mixed (by kernel_rfl) rfl rfl <| dq_r (sem_load (us := cR 16) ty26 rfl rfl rfl rfl rfl) <| dq_r (sem_load (us := cR (-4)) ty26 rfl rfl rfl rfl rfl) <| dq_r (sem_load (us := cR (-4)) ty26 rfl rfl rfl rfl rfl) <| dq_r (sem_call rfl rfl (rcast1 (x' := -2) (pFrom_ok (by decide) (by decide)) (by decide +kernel)) rfl) <| dq_r (sem_load (us := cR 4) ty26 rfl rfl rfl rfl rfl) ?_
    refine dq_r (sem_load (us := cR 1) ty26 rfl rfl rfl rfl rfl) <| dq_r (sem_build (us := (cR 16 ++ cR (-4) ++ cR (-4) ++ cR (-2) ++ cR 4 ++ cR 1)) fs53 zc53 rfl rfl rfl) <| dq_r (sem_call rfl rfl (rcasti (c := 0) (xSignQ_ok (rz_l (by decide +kernel)) (rz_l (by decide +kernel)) (rz_l (by decide +kernel)) (rz_l (by decide +kernel)) (rz_l (by decide +kernel)) (rz_l (by decide +kernel))) (by decide +kernel)) rfl) <| dq_r (sem_assign rfl rfl) <| dq_r (sem_assign rfl rfl) <| dq_end <| dl_start0 <| dl_end ?_
    refine dw_ret ?_
    exact ⟨.inr rfl, (resL_tmp rfl (resL_tmp rfl resL_nil))⟩
theorem cbt1  : Ok Tryz.prog 32 [.a (cR (1 / 2) ++ cR (1 / 2) ++ cR 3), .a (cR 1 ++ cR 1 ++ cR 2)] [dR 2] := by
  refine Ok.of (by kernel_rfl) Tryz.func32 rfl rfl ?_
  rw [show Tryz.f32.ntmps = 74 from rfl, show Tryz.f32.results.toList = [.cell 4 26] from rfl]
  refine dw_seq <| dw_region (by kernel_rfl) <| dl_new (sem_box_a rfl rfl) rfl <| dl_new (sem_box_a rfl rfl) rfl <| dl_new (sem_alloc zc26 rfl) rfl <| dl_end <| dw_seq <| dw_region (by kernel_rfl) ?_
  refine dl_r (sem_call rfl rfl (rcast1 (x' := 1) (pFrom_ok (by decide) (by decide)) (by decide +kernel)) rfl) <| dl_new (sem_alloc zc26 rfl) rfl <| dl_st (sem_store_a ty26 rfl rfl rfl rfl rfl rfl) <| dl_end <| dw_seq <| dw_region (by kernel_rfl) <| dl_r (sem_load (us := (cR (1 / 2) ++ cR (1 / 2) ++ cR 3)) ty28 rfl rfl rfl rfl rfl) <| dl_r (sem_call rfl rfl (icast1 (x' := 1) (rtFloor_ok (rz_l (by decide +kernel)) (rz_l (by decide +kernel)) (rz_l (by decide +kernel))) (by decide +kernel)) rfl) ?_
  refine dl_r (sem_call rfl rfl ((show Ok Tryz.prog 69 [.c (.i .i64 1)] [dI 1] from iFrom_ok (by decide) (by decide))) rfl) <| dl_r (sem_call rfl rfl (rcast1l (x' := 1) (pMake_ok (Sz.small (by decide) (by decide) (by decide)) (Sz.small (by decide) (by decide) (by decide)) (by decide)) (by decide +kernel)) rfl) <| dl_r (sem_move rfl rfl) <| dl_r (sem_extract rfl rfl rfl) <| dl_r (sem_extract rfl rfl rfl) <| dl_new (sem_alloc zc26 rfl) rfl <| dl_st (sem_store_a ty26 rfl rfl rfl rfl rfl rfl) <| dl_r (sem_assign rfl rfl) ?_
  refine dl_end <| dw_seq <| dw_region (by kernel_rfl) <| dl_r (sem_load (us := cR 1) ty26 rfl rfl rfl rfl rfl) <| dl_r (sem_load (us := cR 1) ty26 rfl rfl rfl rfl rfl) <| dl_r (sem_call rfl rfl (rcast1 (x' := 2) (pAdd_ok (rz_l (by decide +kernel)) (rz_l (by decide +kernel))) (by decide +kernel)) rfl) <| dl_new (sem_alloc zc26 rfl) rfl <| dl_st (sem_store_a ty26 rfl rfl rfl rfl rfl rfl) ?_
  refine dl_end <| dw_seq <| dw_seq <| dw_region (by kernel_rfl) <| dl_r (sem_load (us := (cR 1 ++ cR 1 ++ cR 2)) ty28 rfl rfl rfl rfl rfl) <| dl_r (sem_load (us := cR 2) ty26 rfl rfl rfl rfl rfl) <| dl_r (sem_call rfl rfl (rcasti (c := 1) (xCmpRat_ok (rz_l (by decide +kernel)) (rz_l (by decide +kernel)) (rz_l (by decide +kernel)) (rz_l (by decide +kernel)) (rz_l (by decide +kernel)) (by decide +kernel)) (by decide +kernel)) rfl) <| dl_r (sem_cmp rfl rfl rfl rfl) ?_
  refine dl_end <| dw_true rfl <| dw_seq <| dw_region (by kernel_rfl) <| dl_r (sem_load (us := cR 2) ty26 rfl rfl rfl rfl rfl) <| dl_st (sem_store_a ty26 rfl rfl rfl rfl rfl rfl) <| dl_end <| dw_ret ?_
  exact ⟨.inr rfl, (resL_cell (us := cR 2) ty26 rfl rfl rfl rfl resL_nil)⟩
theorem cbt2  : Ok Tryz.prog 32 [.a (cR 0 ++ cR 1 ++ cR 2), .a (cR 0 ++ cR 1 ++ cR 3)] [dR (3 / 2)] := by
  refine Ok.of (by kernel_rfl) Tryz.func32 rfl rfl ?_
  rw [show Tryz.f32.ntmps = 74 from rfl, show Tryz.f32.results.toList = [.cell 4 26] from rfl]
  refine dw_seq <| dw_region (by kernel_rfl) <| dl_new (sem_box_a rfl rfl) rfl <| dl_new (sem_box_a rfl rfl) rfl <| dl_new (sem_alloc zc26 rfl) rfl <| dl_end <| dw_seq <| dw_region (by kernel_rfl) ?_
  refine dl_r (sem_call rfl rfl (rcast1 (x' := 1) (pFrom_ok (by decide) (by decide)) (by decide +kernel)) rfl) <| dl_new (sem_alloc zc26 rfl) rfl <| dl_st (sem_store_a ty26 rfl rfl rfl rfl rfl rfl) <| dl_end <| dw_seq <| dw_region (by kernel_rfl) <| dl_r (sem_load (us := (cR 0 ++ cR 1 ++ cR 2)) ty28 rfl rfl rfl rfl rfl) <| dl_r (sem_call rfl rfl (icast1 (x' := 1) (rtFloor_ok (rz_l (by decide +kernel)) (rz_l (by decide +kernel)) (rz_l (by decide +kernel))) (by decide +kernel)) rfl) ?_
  refine dl_r (sem_call rfl rfl ((show Ok Tryz.prog 69 [.c (.i .i64 1)] [dI 1] from iFrom_ok (by decide) (by decide))) rfl) <| dl_r (sem_call rfl rfl (rcast1l (x' := 1) (pMake_ok (Sz.small (by decide) (by decide) (by decide)) (Sz.small (by decide) (by decide) (by decide)) (by decide)) (by decide +kernel)) rfl) <| dl_r (sem_move rfl rfl) <| dl_r (sem_extract rfl rfl rfl) <| dl_r (sem_extract rfl rfl rfl) <| dl_new (sem_alloc zc26 rfl) rfl <| dl_st (sem_store_a ty26 rfl rfl rfl rfl rfl rfl) <| dl_r (sem_assign rfl rfl) ?_
  refine dl_end <| dw_seq <| dw_region (by kernel_rfl) <| dl_r (sem_load (us := cR 1) ty26 rfl rfl rfl rfl rfl) <| dl_r (sem_load (us := cR 1) ty26 rfl rfl rfl rfl rfl) <| dl_r (sem_call rfl rfl (rcast1 (x' := 2) (pAdd_ok (rz_l (by decide +kernel)) (rz_l (by decide +kernel))) (by decide +kernel)) rfl) <| dl_new (sem_alloc zc26 rfl) rfl <| dl_st (sem_store_a ty26 rfl rfl rfl rfl rfl rfl) ?_
  refine dl_end <| dw_seq <| dw_seq <| dw_region (by kernel_rfl) <| dl_r (sem_load (us := (cR 0 ++ cR 1 ++ cR 3)) ty28 rfl rfl rfl rfl rfl) <| dl_r (sem_load (us := cR 2) ty26 rfl rfl rfl rfl rfl) <| dl_r (sem_call rfl rfl (rcasti (c := -1) (xCmpRat_ok (rz_l (by decide +kernel)) (rz_l (by decide +kernel)) (rz_l (by decide +kernel)) (rz_l (by decide +kernel)) (rz_l (by decide +kernel)) (by decide +kernel)) (by decide +kernel)) rfl) <| dl_r (sem_cmp rfl rfl rfl rfl) ?_
  refine dl_end <| dw_false rfl <| dw_skip <| dw_seq <| dw_region (by kernel_rfl) <| dl_r (sem_load (us := (cR 0 ++ cR 1 ++ cR 3)) ty28 rfl rfl rfl rfl rfl) <| dl_r (sem_load (us := cR 1) ty26 rfl rfl rfl rfl rfl) <| dl_r (sem_call rfl rfl (rcast3 (x' := -1) (y' := 1) (z' := 3) (xLess_ok (rz_l (by decide +kernel)) (rz_l (by decide +kernel))) (by decide +kernel) rfl rfl) rfl) ?_
  refine dl_r (sem_call rfl rfl (rcast3l (x' := 1 / 2) (y' := 1 / 2) (z' := 3) (rtInv_ok (rz_l (by decide +kernel)) (rz_l (by decide +kernel)) (rz_l (by decide +kernel)) (by decide +kernel) (by decide +kernel)) (by decide +kernel) (by decide +kernel) (by decide +kernel)) rfl) <| dl_r (sem_move rfl rfl) <| dl_r (sem_extract rfl rfl rfl) <| dl_r (sem_extract rfl rfl rfl) <| dl_new (sem_alloc zc28 rfl) rfl <| dl_st (sem_store_a ty28 rfl rfl rfl rfl rfl rfl) <| dl_r (sem_assign rfl rfl) <| dl_end ?_
  refine dw_seq <| dw_region (by kernel_rfl) <| dl_new (sem_alloc zc26 rfl) rfl <| dl_end <| dw_seq <| dw_seq <| dw_region (by kernel_rfl) <| dl_r (sem_load (us := (cR 0 ++ cR 1 ++ cR 2)) ty28 rfl rfl rfl rfl rfl) ?_
  refine dl_r (sem_load (us := cR 1) ty26 rfl rfl rfl rfl rfl) <| dl_r (sem_call rfl rfl (rcasti (c := 1) (xCmpRat_ok (rz_l (by decide +kernel)) (rz_l (by decide +kernel)) (rz_l (by decide +kernel)) (rz_l (by decide +kernel)) (rz_l (by decide +kernel)) (by decide +kernel)) (by decide +kernel)) rfl) <| dl_r (sem_cmp rfl rfl rfl rfl) <| dl_end <| dw_false rfl <| dw_seq <| dw_region (by kernel_rfl) <| dl_r (sem_load (us := (cR 0 ++ cR 1 ++ cR 2)) ty28 rfl rfl rfl rfl rfl) ?_
  refine dl_r (sem_load (us := cR 1) ty26 rfl rfl rfl rfl rfl) <| dl_r (sem_call rfl rfl (rcast3 (x' := -1) (y' := 1) (z' := 2) (xLess_ok (rz_l (by decide +kernel)) (rz_l (by decide +kernel))) (by decide +kernel) rfl rfl) rfl) <| dl_r (sem_call rfl rfl (rcast3l (x' := 1) (y' := 1) (z' := 2) (rtInv_ok (rz_l (by decide +kernel)) (rz_l (by decide +kernel)) (rz_l (by decide +kernel)) (by decide +kernel) (by decide +kernel)) (by decide +kernel) (by decide +kernel) (by decide +kernel)) rfl) <| dl_r (sem_move rfl rfl) <| dl_r (sem_extract rfl rfl rfl) <| dl_r (sem_extract rfl rfl rfl) <| dl_new (sem_alloc zc28 rfl) rfl <| dl_st (sem_store_a ty28 rfl rfl rfl rfl rfl rfl) ?_
  refine dl_r (sem_assign rfl rfl) <| dl_end <| dw_region (by kernel_rfl) <| dl_r (sem_load (us := (cR (1 / 2) ++ cR (1 / 2) ++ cR 3)) ty28 rfl rfl rfl rfl rfl) <| dl_r (sem_load (us := (cR 1 ++ cR 1 ++ cR 2)) ty28 rfl rfl rfl rfl rfl) <| dl_r (sem_call rfl rfl (cbt1) rfl) <| dl_st (sem_store_a ty26 rfl rfl rfl rfl rfl rfl) <| dl_end ?_
  refine dw_seq <| dw_region (by kernel_rfl) <| dl_r (sem_load (us := cR 1) ty26 rfl rfl rfl rfl rfl) <| dl_r (sem_load (us := cR 2) ty26 rfl rfl rfl rfl rfl) <| dl_r (sem_call rfl rfl (rcast1l (x' := 1 / 2) (pDiv_ok (rz_l (by decide +kernel)) (rz_l (by decide +kernel)) (by decide +kernel)) (by decide +kernel)) rfl) <| dl_r (sem_move rfl rfl) <| dl_r (sem_extract rfl rfl rfl) <| dl_r (sem_extract rfl rfl rfl) ?_
  refine dl_new (sem_alloc zc26 rfl) rfl <| dl_st (sem_store_a ty26 rfl rfl rfl rfl rfl rfl) <| dl_r (sem_assign rfl rfl) <| dl_end <| dw_seq <| dw_region (by kernel_rfl) <| dl_r (sem_load (us := cR 1) ty26 rfl rfl rfl rfl rfl) <| dl_r (sem_load (us := cR (1 / 2)) ty26 rfl rfl rfl rfl rfl) ?_
  refine dl_r (sem_call rfl rfl (rcast1 (x' := 3 / 2) (pAdd_ok (rz_l (by decide +kernel)) (rz_l (by decide +kernel))) (by decide +kernel)) rfl) <| dl_st (sem_store_a ty26 rfl rfl rfl rfl rfl rfl) <| dl_end <| dw_ret ?_
  exact ⟨.inr rfl, (resL_cell (us := cR (3 / 2)) ty26 rfl rfl rfl rfl resL_nil)⟩
theorem cBt1  : Ok Tryz.prog 7 [.a (cR 0 ++ cR 1 ++ cR 2), .a (cR 0 ++ cR 1 ++ cR 3)] [dR (3 / 2), .c (.i .i64 0)] := by
  refine Ok.of (by kernel_rfl) Tryz.func7 rfl rfl ?_
  rw [show Tryz.f7.ntmps = 39 from rfl, show Tryz.f7.results.toList = [.cell 4 26, .tmp 5] from rfl]
  refine dw_seq <| dw_region (by kernel_rfl) <| dl_new (sem_box_a rfl rfl) rfl <| dl_new (sem_box_a rfl rfl) rfl <| dl_new (sem_alloc zc26 rfl) rfl <| dl_r (sem_assign rfl rfl) <| dl_end <| dw_seq ?_
  refine dw_seq <| dw_region (by kernel_rfl) <| dl_r (sem_load (us := (cR 0 ++ cR 1 ++ cR 2)) ty28 rfl rfl rfl rfl rfl) <| dl_r (sem_load (us := (cR 0 ++ cR 1 ++ cR 3)) ty28 rfl rfl rfl rfl rfl) <| dl_r (sem_call rfl rfl (rcasti (c := -1) (xCmpQ_ok (rz_l (by decide +kernel)) (rz_l (by decide +kernel)) (rz_l (by decide +kernel)) (rz_l (by decide +kernel)) (rz_l (by decide +kernel)) (rz_l (by decide +kernel)) (rz_l (by decide +kernel)) (by decide +kernel) (by decide +kernel)) (by decide +kernel)) rfl) <| dl_r (sem_cmp rfl rfl rfl rfl) <| dl_end <| dw_false rfl ?_
  refine dw_skip <| dw_seq <| dw_region (by kernel_rfl) <| dl_r (sem_call rfl rfl (rcast1 (x' := 0) (pFrom_ok (by decide) (by decide)) (by decide +kernel)) rfl) <| dl_new (sem_alloc zc26 rfl) rfl <| dl_st (sem_store_a ty26 rfl rfl rfl rfl rfl rfl) <| dl_end <| dw_seq ?_
  refine dw_block <| dw_seq <| dw_region (by kernel_rfl) <| dl_r (sem_load (us := (cR 0 ++ cR 1 ++ cR 2)) ty28 rfl rfl rfl rfl rfl) <| dl_r (sem_load (us := cR 0) ty26 rfl rfl rfl rfl rfl) <| dl_r (sem_call rfl rfl (rcasti (c := 1) (xCmpRat_ok (rz_l (by decide +kernel)) (rz_l (by decide +kernel)) (rz_l (by decide +kernel)) (rz_l (by decide +kernel)) (rz_l (by decide +kernel)) (by decide +kernel)) (by decide +kernel)) rfl) <| dl_r (sem_cmp rfl rfl rfl rfl) <| dl_r (sem_move rfl rfl) ?_
  refine dl_skip (sem_skip rfl) <| dl_skip (sem_skip rfl) <| dl_skip (sem_skip rfl) <| dl_skip (sem_skip rfl) <| dl_r (sem_pick rfl rfl rfl rfl) <| dl_r (sem_assign rfl rfl) <| dl_end <| dw_false rfl ?_
  refine dw_seq <| dw_region (by kernel_rfl) <| dl_r (sem_load (us := (cR 0 ++ cR 1 ++ cR 3)) ty28 rfl rfl rfl rfl rfl) <| dl_r (sem_load (us := cR 0) ty26 rfl rfl rfl rfl rfl) <| dl_r (sem_call rfl rfl (rcasti (c := 1) (xCmpRat_ok (rz_l (by decide +kernel)) (rz_l (by decide +kernel)) (rz_l (by decide +kernel)) (rz_l (by decide +kernel)) (rz_l (by decide +kernel)) (by decide +kernel)) (by decide +kernel)) rfl) <| dl_r (sem_cmp rfl rfl rfl rfl) <| dl_r (sem_assign rfl rfl) <| dl_end ?_
  refine dw_false rfl <| dw_skip <| dw_seq <| dw_region (by kernel_rfl) <| dl_r (sem_load (us := (cR 0 ++ cR 1 ++ cR 2)) ty28 rfl rfl rfl rfl rfl) <| dl_r (sem_load (us := (cR 0 ++ cR 1 ++ cR 3)) ty28 rfl rfl rfl rfl rfl) <| dl_r (sem_call rfl rfl (cbt2) rfl) <| dl_st (sem_store_a ty26 rfl rfl rfl rfl rfl rfl) ?_
  refine dl_r (sem_assign rfl rfl) <| dl_end <| dw_ret ?_
  exact ⟨.inr rfl, (resL_cell (us := cR (3 / 2)) ty26 rfl rfl rfl rfl (resL_tmp rfl resL_nil))⟩
theorem cBt2  : Ok Tryz.prog 7 [.a (cR (-5 / 2) ++ cR 0 ++ cR 0), .a (cR 0 ++ cR 1 ++ cR 2)] [dR 0, .c (.i .i64 0)] := by
  refine Ok.of (by kernel_rfl) Tryz.func7 rfl rfl ?_
  rw [show Tryz.f7.ntmps = 39 from rfl, show Tryz.f7.results.toList = [.cell 4 26, .tmp 5] from rfl]
  refine dw_seq <| dw_region (by kernel_rfl) <| dl_new (sem_box_a rfl rfl) rfl <| dl_new (sem_box_a rfl rfl) rfl <| dl_new (sem_alloc zc26 rfl) rfl <| dl_r (sem_assign rfl rfl) <| dl_end <| dw_seq ?_
  refine dw_seq <| dw_region (by kernel_rfl) <| dl_r (sem_load (us := (cR (-5 / 2) ++ cR 0 ++ cR 0)) ty28 rfl rfl rfl rfl rfl) <| dl_r (sem_load (us := (cR 0 ++ cR 1 ++ cR 2)) ty28 rfl rfl rfl rfl rfl) <| dl_r (sem_call rfl rfl (rcasti (c := -1) (xCmpQ_ok (rz_l (by decide +kernel)) (rz_l (by decide +kernel)) (rz_l (by decide +kernel)) (rz_l (by decide +kernel)) (rz_l (by decide +kernel)) (rz_l (by decide +kernel)) (rz_l (by decide +kernel)) (by decide +kernel) (by decide +kernel)) (by decide +kernel)) rfl) <| dl_r (sem_cmp rfl rfl rfl rfl) <| dl_end <| dw_false rfl ?_
  refine dw_skip <| dw_seq <| dw_region (by kernel_rfl) <| dl_r (sem_call rfl rfl (rcast1 (x' := 0) (pFrom_ok (by decide) (by decide)) (by decide +kernel)) rfl) <| dl_new (sem_alloc zc26 rfl) rfl <| dl_st (sem_store_a ty26 rfl rfl rfl rfl rfl rfl) <| dl_end <| dw_seq ?_
  refine dw_block <| dw_seq <| dw_region (by kernel_rfl) <| dl_r (sem_load (us := (cR (-5 / 2) ++ cR 0 ++ cR 0)) ty28 rfl rfl rfl rfl rfl) <| dl_r (sem_load (us := cR 0) ty26 rfl rfl rfl rfl rfl) <| dl_r (sem_call rfl rfl (rcasti (c := -1) (xCmpRat_ok (rz_l (by decide +kernel)) (rz_l (by decide +kernel)) (rz_l (by decide +kernel)) (rz_l (by decide +kernel)) (rz_l (by decide +kernel)) (by decide +kernel)) (by decide +kernel)) rfl) <| dl_r (sem_cmp rfl rfl rfl rfl) <| dl_r (sem_move rfl rfl) ?_
  refine dl_r (sem_load (us := (cR 0 ++ cR 1 ++ cR 2)) ty28 rfl rfl rfl rfl rfl) <| dl_r (sem_load (us := cR 0) ty26 rfl rfl rfl rfl rfl) <| dl_r (sem_call rfl rfl (rcasti (c := 1) (xCmpRat_ok (rz_l (by decide +kernel)) (rz_l (by decide +kernel)) (rz_l (by decide +kernel)) (rz_l (by decide +kernel)) (rz_l (by decide +kernel)) (by decide +kernel)) (by decide +kernel)) rfl) <| dl_r (sem_cmp rfl rfl rfl rfl) <| dl_r (sem_pick rfl rfl rfl rfl) <| dl_r (sem_assign rfl rfl) <| dl_end <| dw_true rfl ?_
  refine dw_seq <| dw_region (by kernel_rfl) <| dl_r (sem_load (us := cR 0) ty26 rfl rfl rfl rfl rfl) <| dl_st (sem_store_a ty26 rfl rfl rfl rfl rfl rfl) <| dl_r (sem_assign rfl rfl) <| dl_end <| dw_ret ?_
  exact ⟨.inr rfl, (resL_cell (us := cR 0) ty26 rfl rfl rfl rfl (resL_tmp rfl resL_nil))⟩
theorem awake5_ok  : Ok Tryz.prog 5 [] [.c (.b true)] := by
  refine Ok.of (by kernel_rfl) Tryz.func5 rfl rfl ?_
  rw [show Tryz.f5.ntmps = 81 from rfl, show Tryz.f5.results.toList = [.tmp 0] from rfl]
  refine dw_seq <| dw_region (by kernel_rfl) <| dl_r (sem_assign rfl rfl) <| dl_end <| dw_seq <| dw_region (by kernel_rfl) <| dl_r (sem_call rfl rfl (rcast1 (x' := 25) (lwNum_ok (by decide) (by decide)) (by decide +kernel)) rfl) <| dl_r (sem_call rfl rfl (rcast1 (x' := 4) (lwNum_ok (by decide) (by decide)) (by decide +kernel)) rfl) ?_
  refine dl_r (sem_call rfl rfl (rcast1 (x' := 1) (lwNum_ok (by decide) (by decide)) (by decide +kernel)) rfl) <| dl_r (sem_call rfl rfl (rcast1 (x' := 2) (lwNum_ok (by decide) (by decide)) (by decide +kernel)) rfl) <| dl_r (sem_call rfl rfl (cSum) rfl) <| dl_r (sem_move rfl rfl) <| dl_r (sem_extract rfl rfl rfl) <| dl_r (sem_extract rfl rfl rfl) <| dl_r (sem_assign rfl rfl) <| dl_r (sem_assign rfl rfl) ?_
  refine dl_end <| dw_seq <| dw_region (by kernel_rfl) <| dl_r (sem_call rfl rfl (lwRt5_1_2) rfl) <| dl_r (sem_call rfl rfl (lwRt5_1_3) rfl) <| dl_r (sem_call rfl rfl (cBt1) rfl) <| dl_r (sem_move rfl rfl) <| dl_r (sem_extract rfl rfl rfl) ?_
  refine dl_r (sem_extract rfl rfl rfl) <| dl_new (sem_alloc zc26 rfl) rfl <| dl_st (sem_store_a ty26 rfl rfl rfl rfl rfl rfl) <| dl_r (sem_assign rfl rfl) <| dl_end <| dw_seq <| dw_region (by kernel_rfl) <| dl_r (sem_call rfl rfl (rcast1 (x' := -5 / 2) (sFrac_ok (by decide) (by decide) (by decide) (by decide) (by decide)) (by decide +kernel)) rfl) ?_
  refine dl_r (sem_call rfl rfl (rcast1 (x' := 0) (lwNum_ok (by decide) (by decide)) (by decide +kernel)) rfl) <| dl_r (sem_call rfl rfl (rcast1 (x' := 0) (lwNum_ok (by decide) (by decide)) (by decide +kernel)) rfl) <| dl_r (sem_build (us := (cR (-5 / 2) ++ cR 0 ++ cR 0)) fs28 zc28 rfl rfl rfl) <| dl_r (sem_call rfl rfl (lwRt5_1_2) rfl) <| dl_r (sem_call rfl rfl (cBt2) rfl) <| dl_r (sem_move rfl rfl) <| dl_r (sem_extract rfl rfl rfl) <| dl_r (sem_extract rfl rfl rfl) ?_
  refine dl_new (sem_alloc zc26 rfl) rfl <| dl_st (sem_store_a ty26 rfl rfl rfl rfl rfl rfl) <| dl_r (sem_assign rfl rfl) <| dl_end <| dw_seq <| dw_draw 52 [] follows_mixed (by kernel_rfl) rfl rfl <| dq_r (sem_call rfl rfl (rcast1 (x' := -3) (lwNum_ok (by decide) (by decide)) (by decide +kernel)) rfl) <| dq_r (sem_call rfl rfl (rcast1 (x' := 1) (lwNum_ok (by decide) (by decide)) (by decide +kernel)) rfl) ?_
  refine dq_r (sem_call rfl rfl (rcast1 (x' := 1) (lwNum_ok (by decide) (by decide)) (by decide +kernel)) rfl) <| dq_r (sem_call rfl rfl (rcast1 (x' := 0) (lwNum_ok (by decide) (by decide)) (by decide +kernel)) rfl) <| dq_r (sem_call rfl rfl (rcast1 (x' := 2) (lwNum_ok (by decide) (by decide)) (by decide +kernel)) rfl) <| dq_r (sem_call rfl rfl (rcast1 (x' := 3) (lwNum_ok (by decide) (by decide)) (by decide +kernel)) rfl) <| dq_r (sem_build (us := (cR (-3) ++ cR 1 ++ cR 1 ++ cR 0 ++ cR 2 ++ cR 3)) fs53 zc53 rfl rfl rfl) <| dq_r (sem_call rfl rfl (rcasti (c := 1) (xSignQ_ok (rz_l (by decide +kernel)) (rz_l (by decide +kernel)) (rz_l (by decide +kernel)) (rz_l (by decide +kernel)) (rz_l (by decide +kernel)) (rz_l (by decide +kernel))) (by decide +kernel)) rfl) <| dq_r (sem_cmp rfl rfl rfl rfl) <| dq_r (sem_move rfl rfl) ?_
  refine dq_r (sem_call rfl rfl (rcast1 (x' := 5) (lwNum_ok (by decide) (by decide)) (by decide +kernel)) rfl) <| dq_r (sem_call rfl rfl (rcast1 (x' := 0) (lwNum_ok (by decide) (by decide)) (by decide +kernel)) rfl) <| dq_r (sem_call rfl rfl (rcast1 (x' := 0) (lwNum_ok (by decide) (by decide)) (by decide +kernel)) rfl) <| dq_r (sem_call rfl rfl (rcast1 (x' := -2) (lwNum_ok (by decide) (by decide)) (by decide +kernel)) rfl) <| dq_r (sem_call rfl rfl (rcast1 (x' := 2) (lwNum_ok (by decide) (by decide)) (by decide +kernel)) rfl) <| dq_r (sem_call rfl rfl (rcast1 (x' := 3) (lwNum_ok (by decide) (by decide)) (by decide +kernel)) rfl) <| dq_r (sem_build (us := (cR 5 ++ cR 0 ++ cR 0 ++ cR (-2) ++ cR 2 ++ cR 3)) fs53 zc53 rfl rfl rfl) <| dq_r (sem_call rfl rfl (rcasti (c := 1) (xSignQ_ok (rz_l (by decide +kernel)) (rz_l (by decide +kernel)) (rz_l (by decide +kernel)) (rz_l (by decide +kernel)) (rz_l (by decide +kernel)) (rz_l (by decide +kernel))) (by decide +kernel)) rfl) ?_
  refine dq_r (sem_cmp rfl rfl rfl rfl) <| dq_r (sem_pick rfl rfl rfl rfl) <| dq_r (sem_move rfl rfl) <| dq_r (sem_call rfl rfl (lwRt5_1_8) rfl) <| dq_r (sem_call rfl rfl (lwRt5_2_2) rfl) <| dq_r (sem_call rfl rfl (rcastb (c := true) (xEqual_ok (rz_l (by decide +kernel)) (rz_l (by decide +kernel)) (rz_l (by decide +kernel)) (rz_l (by decide +kernel)) (rz_l (by decide +kernel)) (rz_l (by decide +kernel)) (rz_l (by decide +kernel)) (by decide +kernel) (by decide +kernel)) (by decide +kernel)) rfl) <| dq_r (sem_pick rfl rfl rfl rfl) <| dq_r (sem_move rfl rfl) ?_
  refine dq_r (sem_move rfl rfl) <| dq_r (sem_cmp rfl rfl rfl rfl) <| dq_r (sem_pick rfl rfl rfl rfl) <| dq_r (sem_move rfl rfl) <| dq_r (sem_move rfl rfl) <| dq_r (sem_cmp rfl rfl rfl rfl) <| dq_r (sem_pick rfl rfl rfl rfl) <| dq_r (sem_move rfl rfl) ?_
  refine dq_r (sem_load (us := cR (3 / 2)) ty26 rfl rfl rfl rfl rfl) <| dq_r (sem_call rfl rfl (rcast1 (x' := 3 / 2) (sFrac_ok (by decide) (by decide) (by decide) (by decide) (by decide)) (by decide +kernel)) rfl) <| dq_r (sem_call rfl rfl (rcastb (c := true) (sSame_ok (rz_l (by decide +kernel)) (rz_l (by decide +kernel))) (by decide +kernel)) rfl) <| dq_r (sem_pick rfl rfl rfl rfl) <| dq_r (sem_move rfl rfl) <| dq_r (sem_move rfl rfl) <| dq_r (sem_cmp rfl rfl rfl rfl) <| dq_r (sem_pick rfl rfl rfl rfl) ?_
  refine dq_r (sem_move rfl rfl) <| dq_r (sem_load (us := cR 0) ty26 rfl rfl rfl rfl rfl) <| dq_r (sem_call rfl rfl (rcast1 (x' := 0) (lwNum_ok (by decide) (by decide)) (by decide +kernel)) rfl) <| dq_r (sem_call rfl rfl (rcastb (c := true) (sSame_ok (rz_l (by decide +kernel)) (rz_l (by decide +kernel))) (by decide +kernel)) rfl) <| dq_r (sem_pick rfl rfl rfl rfl) <| dq_r (sem_move rfl rfl) <| dq_r (sem_move rfl rfl) <| dq_r (sem_cmp rfl rfl rfl rfl) ?_
  refine dq_r (sem_pick rfl rfl rfl rfl) <| dq_r (sem_assign rfl rfl) <| dq_end <| dl_start0 <| dl_end <| dw_ret ?_
  exact ⟨.inr rfl, (resL_tmp rfl resL_nil)⟩
theorem s2_of {r : RN} (w : r.Wf) (h : r.s 2 = true) : ∃ x : Rat, Rz 2 x ∧ cN r = cR x := s_data (k := 2) w h
theorem yCmpRat_ok {a b c d : Rat} (ha : Rz 60000 a) (hd : Rz 60000 d) (h1 : Rz 20000 (a - d)) (hb : Rz 20000 b) (hc : Rz 20000 c) : Ok Tryz.prog 10 [.a (cR a ++ cR b ++ cR c), dR d] [.c (.i .i64 (plainS (a - d) b c))] := by
  refine Ok.of (by kernel_rfl) Tryz.func10 rfl rfl ?_
  rw [show Tryz.f10.ntmps = 14 from rfl, show Tryz.f10.results.toList = [.tmp 4] from rfl]
  refine dw_seq <| dw_region (by kernel_rfl) <| dl_new (sem_box_a rfl rfl) rfl <| dl_new (sem_box_a rfl rfl) rfl <| dl_r (sem_assign rfl rfl) <| dl_end <| dw_seq <| dw_draw 10 [] follows_mixed (by kernel_rfl) rfl rfl ?_
  refine dq_r (sem_field fd28_0 rfl rfl) <| dq_r (sem_load (us := cR a) ty26 rfl rfl rfl rfl rfl) <| dq_r (sem_load (us := cR d) ty26 rfl rfl rfl rfl rfl) <| dq_r (sem_call rfl rfl (sSubL_ok ha hd) rfl) <| dq_r (sem_field fd28_1 rfl rfl) <| dq_r (sem_load (us := cR b) ty26 rfl rfl rfl rfl rfl) <| dq_r (sem_field fd28_2 rfl rfl) <| dq_r (sem_load (us := cR c) ty26 rfl rfl rfl rfl rfl) ?_
  refine dq_r (sem_call rfl rfl (yTwoL_ok h1 hb hc) rfl) <| dq_r (sem_assign rfl rfl) <| dq_end <| dl_start0 <| dl_end <| dw_ret ?_
  exact ⟨.inr rfl, (resL_tmp rfl resL_nil)⟩
theorem yWhole_ok {n : Int} : Ok Tryz.prog 55 [dI n] [dR (n : Rat)] := by
  refine Ok.of (by kernel_rfl) Tryz.func55 rfl rfl ?_
  rw [show Tryz.f55.ntmps = 6 from rfl, show Tryz.f55.results.toList = [.cell 2 26] from rfl]
  refine dw_seq <| dw_region (by kernel_rfl) <| dl_new (sem_box_a rfl rfl) rfl <| dl_new (sem_alloc zc26 rfl) rfl <| dl_end <| dw_seq <| dw_draw 3 [] follows_mixed (by kernel_rfl) rfl rfl <| dq_r (sem_load (us := cI n) ty24 rfl rfl rfl rfl rfl) ?_
  refine dq_r (sem_call rfl rfl ((show Ok Tryz.prog 45 [.c (.i .i64 1)] [dI 1] from nFrom_ok (by decide) (by decide))) rfl) <| dq_r (sem_build (us := cQ n 1) fs26 zc26 rfl rfl rfl) <| dq_end <| dl_start0 <| dl_st (sem_store_a ty26 rfl rfl rfl rfl rfl rfl) <| dl_end <| dw_ret ?_
  rw [dR_int]
  exact ⟨.inr rfl, (resL_cell (us := cQ n 1) ty26 rfl rfl rfl rfl resL_nil)⟩
theorem yMove_ok {a b c d : Rat} (ha : Rz 60000 a) (hd : Rz 60000 d) : Ok Tryz.prog 43 [.a (cR a ++ cR b ++ cR c), dR d] [.a (cR (a - d) ++ cR b ++ cR c)] := by
  refine Ok.of (by kernel_rfl) Tryz.func43 rfl rfl ?_
  rw [show Tryz.f43.ntmps = 11 from rfl, show Tryz.f43.results.toList = [.cell 4 28] from rfl]
  refine dw_seq <| dw_region (by kernel_rfl) <| dl_new (sem_box_a rfl rfl) rfl <| dl_new (sem_box_a rfl rfl) rfl <| dl_new (sem_alloc zc28 rfl) rfl <| dl_end <| dw_seq <| dw_region (by kernel_rfl) ?_
  refine dl_r (sem_field fd28_0 rfl rfl) <| dl_r (sem_load (us := cR a) ty26 rfl rfl rfl rfl rfl) <| dl_r (sem_load (us := cR d) ty26 rfl rfl rfl rfl rfl) <| dl_r (sem_call rfl rfl (sSubL_ok ha hd) rfl) <| dl_r (sem_field fd28_0 rfl rfl) <| dl_st (sem_store (us := (cR (a - d) ++ cR b ++ cR c)) ty26 rfl rfl rfl rfl (Nat.le_of_ble_eq_true rfl) rfl rfl) <| dl_end <| dw_seq ?_
  refine dw_region (by kernel_rfl) <| dl_r (sem_load (us := (cR (a - d) ++ cR b ++ cR c)) ty28 rfl rfl rfl rfl rfl) <| dl_st (sem_store_a ty28 rfl rfl rfl rfl rfl rfl) <| dl_end <| dw_ret ?_
  exact ⟨.inr rfl, (resL_cell (us := (cR (a - d) ++ cR b ++ cR c)) ty28 rfl rfl rfl rfl resL_nil)⟩
theorem yInvert_ok {a b c w : Rat} (ha : Rz 4000 a) (hb : Rz 4000 b) (hc : Rz 4000 c) (hw : (a * a - b * b * c) * w = 1) : Ok Tryz.prog 44 [.a (cR a ++ cR b ++ cR c)] [.a (cR (a * w) ++ cR (-b * w) ++ cR c)] := by
  have ka : Rz 60000 a := ha.mono (by decide)
  have kb : Rz 60000 b := hb.mono (by decide)
  have kc : Rz 60000 c := hc.mono (by decide)
  have kn : Rz 60000 (a * a - b * b * c) := ((ha.mul ha).sub ((hb.mul hb).mul hc)).mono (by decide)
  refine Ok.of (by kernel_rfl) Tryz.func44 rfl rfl ?_
  rw [show Tryz.f44.ntmps = 42 from rfl, show Tryz.f44.results.toList = [.cell 2 28] from rfl]
  refine dw_seq <| dw_region (by kernel_rfl) <| dl_new (sem_box_a rfl rfl) rfl <| dl_new (sem_alloc zc28 rfl) rfl <| dl_end <| dw_seq <| dw_draw 15 [] follows_mixed (by kernel_rfl) rfl rfl <| dq_r (sem_field fd28_0 rfl rfl) ?_
  refine dq_r (sem_load (us := cR a) ty26 rfl rfl rfl rfl rfl) <| dq_r (sem_field fd28_0 rfl rfl) <| dq_r (sem_load (us := cR a) ty26 rfl rfl rfl rfl rfl) ?_
  refine dq_r (sem_call rfl rfl (sMulL_ok (by first | assumption | exact Rz.mono ha (by decide)) (by first | assumption | exact Rz.mono ha (by decide))) rfl) ?_
  refine dq_r (sem_field fd28_1 rfl rfl) <| dq_r (sem_load (us := cR b) ty26 rfl rfl rfl rfl rfl) <| dq_r (sem_field fd28_1 rfl rfl) <| dq_r (sem_load (us := cR b) ty26 rfl rfl rfl rfl rfl) ?_
  refine dq_r (sem_call rfl rfl (sMulL_ok (by first | assumption | exact Rz.mono hb (by decide)) (by first | assumption | exact Rz.mono hb (by decide))) rfl) ?_
  refine dq_r (sem_field fd28_2 rfl rfl) <| dq_r (sem_load (us := cR c) ty26 rfl rfl rfl rfl rfl) ?_
  refine dq_r (sem_call rfl rfl (sMulL_ok (by first | assumption | exact Rz.mono (Rz.mul hb hb) (by decide)) (by first | assumption | exact Rz.mono hc (by decide))) rfl) ?_
  refine dq_r (sem_call rfl rfl (sSubL_ok (by first | assumption | exact Rz.mono (Rz.mul ha ha) (by decide)) (by first | assumption | exact Rz.mono (Rz.mul (Rz.mul hb hb) hc) (by decide))) rfl) ?_
  refine dq_new (sem_alloc zc26 rfl) rfl <| dq_end <| dl_start1 <| dl_st (sem_store_a ty26 rfl rfl rfl rfl rfl rfl) <| dl_end <| dw_seq <| dw_region (by kernel_rfl) <| dl_r (sem_field fd28_0 rfl rfl) ?_
  refine dl_r (sem_load (us := cR a) ty26 rfl rfl rfl rfl rfl) <| dl_r (sem_load (us := cR (a * a - b * b * c)) ty26 rfl rfl rfl rfl rfl) <| dl_r (sem_call rfl rfl (rcast1l (sDivL_ok ka kn (inv_w hw).2) (div_w _ hw)) rfl) <| dl_r (sem_move rfl rfl) <| dl_r (sem_extract rfl rfl rfl) <| dl_r (sem_extract rfl rfl rfl) <| dl_new (sem_alloc zc26 rfl) rfl <| dl_st (sem_store_a ty26 rfl rfl rfl rfl rfl rfl) ?_
  refine dl_r (sem_assign rfl rfl) <| dl_end <| dw_seq <| dw_draw 11 [6] follows_mixed (by kernel_rfl) rfl rfl <| dq_r (sem_field fd28_1 rfl rfl) <| dq_r (sem_load (us := cR b) ty26 rfl rfl rfl rfl rfl) <| dq_r (sem_call rfl rfl (sNegL_ok kb) rfl) <| dq_r (sem_load (us := cR (a * a - b * b * c)) ty26 rfl rfl rfl rfl rfl) ?_
  refine dq_r (sem_call rfl rfl (rcast1l (sDivL_ok kb.neg kn (inv_w hw).2) (div_w _ hw)) rfl) <| dq_r (sem_move rfl rfl) <| dq_r (sem_extract rfl rfl rfl) <| dq_r (sem_extract rfl rfl rfl) <| dq_new (sem_alloc zc26 rfl) rfl <| dq_sn (sem_store_a ty26 rfl rfl rfl rfl rfl rfl) rfl rfl rfl rfl <| dq_r (sem_assign rfl rfl) <| dq_end ?_
  refine dl_start2 <| dl_end <| dw_seq <| dw_region (by kernel_rfl) <| dl_r (sem_load (us := cR (a * w)) ty26 rfl rfl rfl rfl rfl) <| dl_r (sem_load (us := cR (-b * w)) ty26 rfl rfl rfl rfl rfl) <| dl_r (sem_field fd28_2 rfl rfl) <| dl_r (sem_load (us := cR c) ty26 rfl rfl rfl rfl rfl) ?_
  refine dl_r (sem_build (us := (cR (a * w) ++ cR (-b * w) ++ cR c)) fs28 zc28 rfl rfl rfl) <| dl_st (sem_store_a ty28 rfl rfl rfl rfl rfl rfl) <| dl_end <| dw_ret ?_
  exact ⟨.inr rfl, (resL_cell (us := (cR (a * w) ++ cR (-b * w) ++ cR c)) ty28 rfl rfl rfl rfl resL_nil)⟩
theorem i_sub1 (n : Int) : ((n - 1 : Int) : Rat) + 1 = ((n : Int) : Rat) := by rw [Rat.intCast_sub]; have : ((1 : Int) : Rat) = 1 := rfl; rw [this]; grind
theorem Sz.sub1 {k : Nat} {x : Int} (h : Sz k x) : Sz (k + 1) (x - 1) := by 
  rw [Int.sub_eq_add_neg]
  by_cases hk : 1 ≤ k
  · exact h.add (Sz.one hk).neg
  · have e : k = 0 := by omega
    subst e
    have h1 := h.1; have h2 := h.2
    have p0 : pw 0 = 1 := rfl
    have p1 : pw (0 + 1) = 1000000000 := rfl
    exact ⟨by omega, by omega⟩
theorem yfl_p0 {a b c : Rat} (ha : Rz 1600 a) (hb : Rz 1600 b) (hc : Rz 1600 c) {g : Int} (hs : cmpR b 0 = g) (hg : decide (g < 0) = false) {n : Int} (hn : Sz 5000 n) (en : ((a.num.fdiv (a.den : Int) : Int) : Rat) + ((isqI ((b * b * c).num.fdiv ((b * b * c).den : Int)) : Int) : Rat) = (n : Rat)) {c0 : Int} (ec0 : plainS (a - ((n : Int) : Rat)) b c = c0) (g0 : decide (c0 < 0) = false) {c1 : Int} (ec1 : plainS (a - ((n + 1 : Int) : Rat)) b c = c1) (g1 : decide (c1 ≥ 0) = false) : Ok Tryz.prog 19 [.a (cR a ++ cR b ++ cR c)] [dR (((n : Int) : Rat))] := by
  have o1 : Rz 60000 (1 : Rat) := rz_l (by decide +kernel)
  have ka : Rz 60000 a := ha.mono (by decide)
  have y0 : Rz 5003 ((n : Int) : Rat) := Rz.int (hn.mono (by decide)) (by decide)
  have k0 : Rz 60000 ((n : Int) : Rat) := y0.mono (by decide)
  have z0 : Rz 20000 (a - ((n : Int) : Rat)) := (ha.sub y0).mono (by decide)
  have y1 : Rz 5003 ((n + 1 : Int) : Rat) := Rz.int ((hn.add (Sz.one (k := 5000) (by decide))).mono (by decide)) (by decide)
  have k1 : Rz 60000 ((n + 1 : Int) : Rat) := y1.mono (by decide)
  have z1 : Rz 20000 (a - ((n + 1 : Int) : Rat)) := (ha.sub y1).mono (by decide)
  have pb : Rz 4800 (b * b * c) := ((hb.mul hb).mul hc).mono (by decide)
  have q1 : Rz 60000 (b * b) := (hb.mul hb).mono (by decide)
  have kb : Rz 60000 b := hb.mono (by decide)
  have kc : Rz 60000 c := hc.mono (by decide)
  have kq : Rz 60000 (b * b * c) := pb.mono (by decide)
  have fq : Sz 4800 ((b * b * c).num.fdiv ((b * b * c).den : Int)) := pb.n.fdiv
  have tq : Sz 4800 (isqI ((b * b * c).num.fdiv ((b * b * c).den : Int))) := fq.isq
  have ku : Rz 60000 ((a.num.fdiv (a.den : Int) : Int) : Rat) := (Rz.int (ha.n.fdiv (y := (a.den : Int))) (by decide)).mono (by decide)
  have kt : Rz 60000 ((isqI ((b * b * c).num.fdiv ((b * b * c).den : Int)) : Int) : Rat) := (Rz.int (k := 4800) tq (by decide)).mono (by decide)
  refine Ok.of (by kernel_rfl) Tryz.func19 rfl rfl ?_
  rw [show Tryz.f19.ntmps = 51 from rfl, show Tryz.f19.results.toList = [.cell 2 26] from rfl]
  refine dw_seq <| dw_region (by kernel_rfl) <| dl_new (sem_box_a rfl rfl) rfl <| dl_new (sem_alloc zc26 rfl) rfl <| dl_end <| dw_seq <| dw_draw 16 [3] follows_mixed (by kernel_rfl) rfl rfl <| dq_r (sem_field fd28_1 rfl rfl) ?_
  refine dq_r (sem_load (us := cR b) ty26 rfl rfl rfl rfl rfl) <| dq_r (sem_field fd28_1 rfl rfl) <| dq_r (sem_load (us := cR b) ty26 rfl rfl rfl rfl rfl) <| dq_r (sem_call rfl rfl (sMulL_ok kb kb) rfl) <| dq_r (sem_field fd28_2 rfl rfl) <| dq_r (sem_load (us := cR c) ty26 rfl rfl rfl rfl rfl) <| dq_r (sem_call rfl rfl (sMulL_ok q1 kc) rfl) <| dq_r (sem_call rfl rfl (sFloorL_ok kq) rfl) ?_
  refine dq_r (sem_call rfl rfl (nSqrt_ok (fq.mono (by decide))) rfl) <| dq_r (sem_move rfl rfl) <| dq_r (sem_extract rfl rfl rfl) <| dq_r (sem_extract rfl rfl rfl) <| dq_new (sem_alloc zc24 rfl) rfl <| dq_sn (sem_store_a ty24 rfl rfl rfl rfl rfl rfl) rfl rfl rfl rfl <| dq_r (sem_assign rfl rfl) <| dq_end ?_
  refine dl_start2 <| dl_end <| dw_seq <| dw_seq <| dw_region (by kernel_rfl) <| dl_r (sem_field fd28_1 rfl rfl) <| dl_r (sem_load (us := cR b) ty26 rfl rfl rfl rfl rfl) <| dl_r (sem_call rfl rfl (rcasti sSign_ok hs) rfl) ?_
  refine dl_r (sem_castb (sem_cmp rfl rfl rfl rfl) hg) <| dl_end <| dw_false rfl <| dw_skip <| dw_seq <| dw_region (by kernel_rfl) <| dl_r (sem_call rfl rfl ((show Ok Tryz.prog 42 [.c (.i .i64 1)] [dR 1] from sFrom_ok (by omega) (by omega))) rfl) <| dl_new (sem_alloc zc26 rfl) rfl ?_
  refine dl_st (sem_store_a ty26 rfl rfl rfl rfl rfl rfl) <| dl_end <| dw_seq <| dw_draw 8 [] follows_mixed (by kernel_rfl) rfl rfl <| dq_r (sem_field fd28_0 rfl rfl) <| dq_r (sem_load (us := cR a) ty26 rfl rfl rfl rfl rfl) <| dq_r (sem_call rfl rfl (sFloorL_ok ka) rfl) <| dq_r (sem_call rfl rfl (yWhole_ok) rfl) ?_
  refine dq_r (sem_load (us := cI (isqI ((b * b * c).num.fdiv ((b * b * c).den : Int)))) ty24 rfl rfl rfl rfl rfl) <| dq_r (sem_call rfl rfl (yWhole_ok) rfl) <| dq_r (sem_call rfl rfl (rcast1 (sAddL_ok ku kt) en) rfl) <| dq_new (sem_alloc zc26 rfl) rfl <| dq_end <| dl_start1 <| dl_st (sem_store_a ty26 rfl rfl rfl rfl rfl rfl) <| dl_end ?_
  refine dw_seq <| dw_block ?_
  refine dw_loop (ι := Nat) (fun i => match i with | _ => ⟨51, [(1, .p 1 0), (2, .p 2 0), (5, .p 5 0), (6, .p 6 0)], [(1, 28, (cR a ++ cR b ++ cR c)), (2, 26, (([.b false] ++ [.s 0 []]) ++ ([.b false] ++ [.s 0 []]))), (5, 26, cR 1), (6, 26, cR (((n : Int) : Rat)))]⟩) (fun i => 0 - i) 0 (sub_of ⟨rfl, rfl, rfl, rfl, trivial⟩ ⟨rfl, rfl, rfl, rfl, trivial⟩ rfl) ?_
  intro i
  match i with
  | _ =>
    show Dw _ _ ⟨51, [(1, .p 1 0), (2, .p 2 0), (5, .p 5 0), (6, .p 6 0)], [(1, 28, (cR a ++ cR b ++ cR c)), (2, 26, (([.b false] ++ [.s 0 []]) ++ ([.b false] ++ [.s 0 []]))), (5, 26, cR 1), (6, 26, cR (((n : Int) : Rat)))]⟩ _
    refine dw_seq <| dw_seq <| dw_region (by kernel_rfl) <| dl_r (sem_load (us := (cR a ++ cR b ++ cR c)) ty28 rfl rfl rfl rfl rfl) <| dl_r (sem_load (us := cR (((n : Int) : Rat))) ty26 rfl rfl rfl rfl rfl) <| dl_r (sem_call rfl rfl (rcasti (yCmpRat_ok ka k0 z0 (hb.mono (by decide)) (hc.mono (by decide))) ec0) rfl) <| dl_r (sem_castb (sem_cmp rfl rfl rfl rfl) g0) <| dl_end ?_
    refine dw_false rfl <| dw_exit <| dw_seq <| dw_block ?_
    refine dw_loop (ι := Nat) (fun i => match i with | _ => ⟨51, [(1, .p 1 0), (2, .p 2 0), (5, .p 5 0), (6, .p 6 0)], [(1, 28, (cR a ++ cR b ++ cR c)), (2, 26, (([.b false] ++ [.s 0 []]) ++ ([.b false] ++ [.s 0 []]))), (5, 26, cR 1), (6, 26, cR (((n : Int) : Rat)))]⟩) (fun i => 0 - i) 0 (sub_of ⟨rfl, rfl, rfl, rfl, trivial⟩ ⟨rfl, rfl, rfl, rfl, trivial⟩ rfl) ?_
    intro i
    match i with
    | _ =>
      show Dw _ _ ⟨51, [(1, .p 1 0), (2, .p 2 0), (5, .p 5 0), (6, .p 6 0)], [(1, 28, (cR a ++ cR b ++ cR c)), (2, 26, (([.b false] ++ [.s 0 []]) ++ ([.b false] ++ [.s 0 []]))), (5, 26, cR 1), (6, 26, cR (((n : Int) : Rat)))]⟩ _
      refine dw_seq <| dw_seq <| dw_draw 6 [] follows_mixed (by kernel_rfl) rfl rfl <| dq_r (sem_load (us := (cR a ++ cR b ++ cR c)) ty28 rfl rfl rfl rfl rfl) <| dq_r (sem_load (us := cR (((n : Int) : Rat))) ty26 rfl rfl rfl rfl rfl) <| dq_r (sem_load (us := cR 1) ty26 rfl rfl rfl rfl rfl) <| dq_r (sem_call rfl rfl (rcast1 (sAddL_ok k0 o1) (Rat.intCast_add n 1).symm) rfl) <| dq_r (sem_call rfl rfl (rcasti (yCmpRat_ok ka k1 z1 (hb.mono (by decide)) (hc.mono (by decide))) ec1) rfl) ?_
      refine dq_r (sem_castb (sem_cmp rfl rfl rfl rfl) g1) <| dq_end <| dl_start0 <| dl_end <| dw_false rfl <| dw_exit <| dw_seq <| dw_region (by kernel_rfl) ?_
      refine dl_r (sem_load (us := cR (((n : Int) : Rat))) ty26 rfl rfl rfl rfl rfl) <| dl_st (sem_store_a ty26 rfl rfl rfl rfl rfl rfl) <| dl_end <| dw_ret ?_
      exact ⟨.inr rfl, (resL_cell (us := cR (((n : Int) : Rat))) ty26 rfl rfl rfl rfl resL_nil)⟩
theorem yfl_pu {a b c : Rat} (ha : Rz 1600 a) (hb : Rz 1600 b) (hc : Rz 1600 c) {g : Int} (hs : cmpR b 0 = g) (hg : decide (g < 0) = false) {n : Int} (hn : Sz 5000 n) (en : ((a.num.fdiv (a.den : Int) : Int) : Rat) + ((isqI ((b * b * c).num.fdiv ((b * b * c).den : Int)) : Int) : Rat) = (n : Rat)) {c0 : Int} (ec0 : plainS (a - ((n : Int) : Rat)) b c = c0) (g0 : decide (c0 < 0) = false) {c1 : Int} (ec1 : plainS (a - ((n + 1 : Int) : Rat)) b c = c1) (g1 : decide (c1 ≥ 0) = true) {c2 : Int} (ec2 : plainS (a - ((n + 1 + 1 : Int) : Rat)) b c = c2) (g2 : decide (c2 ≥ 0) = false) : Ok Tryz.prog 19 [.a (cR a ++ cR b ++ cR c)] [dR (((n + 1 : Int) : Rat))] := by
  have o1 : Rz 60000 (1 : Rat) := rz_l (by decide +kernel)
  have ka : Rz 60000 a := ha.mono (by decide)
  have y0 : Rz 5003 ((n : Int) : Rat) := Rz.int (hn.mono (by decide)) (by decide)
  have k0 : Rz 60000 ((n : Int) : Rat) := y0.mono (by decide)
  have z0 : Rz 20000 (a - ((n : Int) : Rat)) := (ha.sub y0).mono (by decide)
  have y1 : Rz 5003 ((n + 1 : Int) : Rat) := Rz.int ((hn.add (Sz.one (k := 5000) (by decide))).mono (by decide)) (by decide)
  have k1 : Rz 60000 ((n + 1 : Int) : Rat) := y1.mono (by decide)
  have z1 : Rz 20000 (a - ((n + 1 : Int) : Rat)) := (ha.sub y1).mono (by decide)
  have y3 : Rz 5003 ((n + 1 + 1 : Int) : Rat) := Rz.int (((hn.add (Sz.one (k := 5000) (by decide))).add (Sz.one (k := 5001) (by decide))).mono (by decide)) (by decide)
  have k3 : Rz 60000 ((n + 1 + 1 : Int) : Rat) := y3.mono (by decide)
  have z3 : Rz 20000 (a - ((n + 1 + 1 : Int) : Rat)) := (ha.sub y3).mono (by decide)
  have pb : Rz 4800 (b * b * c) := ((hb.mul hb).mul hc).mono (by decide)
  have q1 : Rz 60000 (b * b) := (hb.mul hb).mono (by decide)
  have kb : Rz 60000 b := hb.mono (by decide)
  have kc : Rz 60000 c := hc.mono (by decide)
  have kq : Rz 60000 (b * b * c) := pb.mono (by decide)
  have fq : Sz 4800 ((b * b * c).num.fdiv ((b * b * c).den : Int)) := pb.n.fdiv
  have tq : Sz 4800 (isqI ((b * b * c).num.fdiv ((b * b * c).den : Int))) := fq.isq
  have ku : Rz 60000 ((a.num.fdiv (a.den : Int) : Int) : Rat) := (Rz.int (ha.n.fdiv (y := (a.den : Int))) (by decide)).mono (by decide)
  have kt : Rz 60000 ((isqI ((b * b * c).num.fdiv ((b * b * c).den : Int)) : Int) : Rat) := (Rz.int (k := 4800) tq (by decide)).mono (by decide)
  refine Ok.of (by kernel_rfl) Tryz.func19 rfl rfl ?_
  rw [show Tryz.f19.ntmps = 51 from rfl, show Tryz.f19.results.toList = [.cell 2 26] from rfl]
  refine dw_seq <| dw_region (by kernel_rfl) <| dl_new (sem_box_a rfl rfl) rfl <| dl_new (sem_alloc zc26 rfl) rfl <| dl_end <| dw_seq <| dw_draw 16 [3] follows_mixed (by kernel_rfl) rfl rfl <| dq_r (sem_field fd28_1 rfl rfl) ?_
  refine dq_r (sem_load (us := cR b) ty26 rfl rfl rfl rfl rfl) <| dq_r (sem_field fd28_1 rfl rfl) <| dq_r (sem_load (us := cR b) ty26 rfl rfl rfl rfl rfl) <| dq_r (sem_call rfl rfl (sMulL_ok kb kb) rfl) <| dq_r (sem_field fd28_2 rfl rfl) <| dq_r (sem_load (us := cR c) ty26 rfl rfl rfl rfl rfl) <| dq_r (sem_call rfl rfl (sMulL_ok q1 kc) rfl) <| dq_r (sem_call rfl rfl (sFloorL_ok kq) rfl) ?_
  refine dq_r (sem_call rfl rfl (nSqrt_ok (fq.mono (by decide))) rfl) <| dq_r (sem_move rfl rfl) <| dq_r (sem_extract rfl rfl rfl) <| dq_r (sem_extract rfl rfl rfl) <| dq_new (sem_alloc zc24 rfl) rfl <| dq_sn (sem_store_a ty24 rfl rfl rfl rfl rfl rfl) rfl rfl rfl rfl <| dq_r (sem_assign rfl rfl) <| dq_end ?_
  refine dl_start2 <| dl_end <| dw_seq <| dw_seq <| dw_region (by kernel_rfl) <| dl_r (sem_field fd28_1 rfl rfl) <| dl_r (sem_load (us := cR b) ty26 rfl rfl rfl rfl rfl) <| dl_r (sem_call rfl rfl (rcasti sSign_ok hs) rfl) ?_
  refine dl_r (sem_castb (sem_cmp rfl rfl rfl rfl) hg) <| dl_end <| dw_false rfl <| dw_skip <| dw_seq <| dw_region (by kernel_rfl) <| dl_r (sem_call rfl rfl ((show Ok Tryz.prog 42 [.c (.i .i64 1)] [dR 1] from sFrom_ok (by omega) (by omega))) rfl) <| dl_new (sem_alloc zc26 rfl) rfl ?_
  refine dl_st (sem_store_a ty26 rfl rfl rfl rfl rfl rfl) <| dl_end <| dw_seq <| dw_draw 8 [] follows_mixed (by kernel_rfl) rfl rfl <| dq_r (sem_field fd28_0 rfl rfl) <| dq_r (sem_load (us := cR a) ty26 rfl rfl rfl rfl rfl) <| dq_r (sem_call rfl rfl (sFloorL_ok ka) rfl) <| dq_r (sem_call rfl rfl (yWhole_ok) rfl) ?_
  refine dq_r (sem_load (us := cI (isqI ((b * b * c).num.fdiv ((b * b * c).den : Int)))) ty24 rfl rfl rfl rfl rfl) <| dq_r (sem_call rfl rfl (yWhole_ok) rfl) <| dq_r (sem_call rfl rfl (rcast1 (sAddL_ok ku kt) en) rfl) <| dq_new (sem_alloc zc26 rfl) rfl <| dq_end <| dl_start1 <| dl_st (sem_store_a ty26 rfl rfl rfl rfl rfl rfl) <| dl_end ?_
  refine dw_seq <| dw_block ?_
  refine dw_loop (ι := Nat) (fun i => match i with | _ => ⟨51, [(1, .p 1 0), (2, .p 2 0), (5, .p 5 0), (6, .p 6 0)], [(1, 28, (cR a ++ cR b ++ cR c)), (2, 26, (([.b false] ++ [.s 0 []]) ++ ([.b false] ++ [.s 0 []]))), (5, 26, cR 1), (6, 26, cR (((n : Int) : Rat)))]⟩) (fun i => 0 - i) 0 (sub_of ⟨rfl, rfl, rfl, rfl, trivial⟩ ⟨rfl, rfl, rfl, rfl, trivial⟩ rfl) ?_
  intro i
  match i with
  | _ =>
    show Dw _ _ ⟨51, [(1, .p 1 0), (2, .p 2 0), (5, .p 5 0), (6, .p 6 0)], [(1, 28, (cR a ++ cR b ++ cR c)), (2, 26, (([.b false] ++ [.s 0 []]) ++ ([.b false] ++ [.s 0 []]))), (5, 26, cR 1), (6, 26, cR (((n : Int) : Rat)))]⟩ _
    refine dw_seq <| dw_seq <| dw_region (by kernel_rfl) <| dl_r (sem_load (us := (cR a ++ cR b ++ cR c)) ty28 rfl rfl rfl rfl rfl) <| dl_r (sem_load (us := cR (((n : Int) : Rat))) ty26 rfl rfl rfl rfl rfl) <| dl_r (sem_call rfl rfl (rcasti (yCmpRat_ok ka k0 z0 (hb.mono (by decide)) (hc.mono (by decide))) ec0) rfl) <| dl_r (sem_castb (sem_cmp rfl rfl rfl rfl) g0) <| dl_end ?_
    refine dw_false rfl <| dw_exit <| dw_seq <| dw_block ?_
    refine dw_loop (ι := Nat) (fun i => match i with | 0 => ⟨51, [(1, .p 1 0), (2, .p 2 0), (5, .p 5 0), (6, .p 6 0)], [(1, 28, (cR a ++ cR b ++ cR c)), (2, 26, (([.b false] ++ [.s 0 []]) ++ ([.b false] ++ [.s 0 []]))), (5, 26, cR 1), (6, 26, cR (((n : Int) : Rat)))]⟩ | _ + 1 => ⟨51, [(1, .p 1 0), (2, .p 2 0), (5, .p 5 0), (6, .p 6 0)], [(1, 28, (cR a ++ cR b ++ cR c)), (2, 26, (([.b false] ++ [.s 0 []]) ++ ([.b false] ++ [.s 0 []]))), (5, 26, cR 1), (6, 26, cR (((n + 1 : Int) : Rat)))]⟩) (fun i => 1 - i) 0 (sub_of ⟨rfl, rfl, rfl, rfl, trivial⟩ ⟨rfl, rfl, rfl, rfl, trivial⟩ rfl) ?_
    intro i
    match i with
    | 0 =>
      show Dw _ _ ⟨51, [(1, .p 1 0), (2, .p 2 0), (5, .p 5 0), (6, .p 6 0)], [(1, 28, (cR a ++ cR b ++ cR c)), (2, 26, (([.b false] ++ [.s 0 []]) ++ ([.b false] ++ [.s 0 []]))), (5, 26, cR 1), (6, 26, cR (((n : Int) : Rat)))]⟩ _
      refine dw_seq <| dw_seq <| dw_draw 6 [] follows_mixed (by kernel_rfl) rfl rfl <| dq_r (sem_load (us := (cR a ++ cR b ++ cR c)) ty28 rfl rfl rfl rfl rfl) <| dq_r (sem_load (us := cR (((n : Int) : Rat))) ty26 rfl rfl rfl rfl rfl) <| dq_r (sem_load (us := cR 1) ty26 rfl rfl rfl rfl rfl) <| dq_r (sem_call rfl rfl (rcast1 (sAddL_ok k0 o1) (Rat.intCast_add n 1).symm) rfl) <| dq_r (sem_call rfl rfl (rcasti (yCmpRat_ok ka k1 z1 (hb.mono (by decide)) (hc.mono (by decide))) ec1) rfl) ?_
      refine dq_r (sem_castb (sem_cmp rfl rfl rfl rfl) g1) <| dq_end <| dl_start0 <| dl_end <| dw_true rfl <| dw_skip <| dw_block <| dw_region (by kernel_rfl) ?_
      refine dl_r (sem_load (us := cR (((n : Int) : Rat))) ty26 rfl rfl rfl rfl rfl) <| dl_r (sem_load (us := cR 1) ty26 rfl rfl rfl rfl rfl) <| dl_r (sem_call rfl rfl (rcast1 (sAddL_ok k0 o1) (Rat.intCast_add n 1).symm) rfl) <| dl_st (sem_store_a ty26 rfl rfl rfl rfl rfl rfl) <| dl_end ?_
      exact ⟨1, sub_of ⟨rfl, rfl, rfl, rfl, trivial⟩ ⟨rfl, rfl, rfl, rfl, trivial⟩ rfl, by show 1 - 1 < 1 - 0; decide⟩
    | z + 1 =>
      show Dw _ _ ⟨51, [(1, .p 1 0), (2, .p 2 0), (5, .p 5 0), (6, .p 6 0)], [(1, 28, (cR a ++ cR b ++ cR c)), (2, 26, (([.b false] ++ [.s 0 []]) ++ ([.b false] ++ [.s 0 []]))), (5, 26, cR 1), (6, 26, cR (((n + 1 : Int) : Rat)))]⟩ _
      refine dw_seq <| dw_seq <| dw_draw 6 [] follows_mixed (by kernel_rfl) rfl rfl <| dq_r (sem_load (us := (cR a ++ cR b ++ cR c)) ty28 rfl rfl rfl rfl rfl) <| dq_r (sem_load (us := cR (((n + 1 : Int) : Rat))) ty26 rfl rfl rfl rfl rfl) <| dq_r (sem_load (us := cR 1) ty26 rfl rfl rfl rfl rfl) <| dq_r (sem_call rfl rfl (rcast1 (sAddL_ok k1 o1) (Rat.intCast_add (n + 1) 1).symm) rfl) <| dq_r (sem_call rfl rfl (rcasti (yCmpRat_ok ka k3 z3 (hb.mono (by decide)) (hc.mono (by decide))) ec2) rfl) ?_
      refine dq_r (sem_castb (sem_cmp rfl rfl rfl rfl) g2) <| dq_end <| dl_start0 <| dl_end <| dw_false rfl <| dw_exit <| dw_seq <| dw_region (by kernel_rfl) ?_
      refine dl_r (sem_load (us := cR (((n + 1 : Int) : Rat))) ty26 rfl rfl rfl rfl rfl) <| dl_st (sem_store_a ty26 rfl rfl rfl rfl rfl rfl) <| dl_end <| dw_ret ?_
      exact ⟨.inr rfl, (resL_cell (us := cR (((n + 1 : Int) : Rat))) ty26 rfl rfl rfl rfl resL_nil)⟩
theorem yfl_n0 {a b c : Rat} (ha : Rz 1600 a) (hb : Rz 1600 b) (hc : Rz 1600 c) {g : Int} (hs : cmpR b 0 = g) (hg : decide (g < 0) = true) {n : Int} (hn : Sz 5000 n) (en : ((a.num.fdiv (a.den : Int) : Int) : Rat) + ((-(isqI ((b * b * c).num.fdiv ((b * b * c).den : Int))) : Int) : Rat) = (n : Rat)) {c0 : Int} (ec0 : plainS (a - ((n : Int) : Rat)) b c = c0) (g0 : decide (c0 < 0) = false) {c1 : Int} (ec1 : plainS (a - ((n + 1 : Int) : Rat)) b c = c1) (g1 : decide (c1 ≥ 0) = false) : Ok Tryz.prog 19 [.a (cR a ++ cR b ++ cR c)] [dR (((n : Int) : Rat))] := by
  have o1 : Rz 60000 (1 : Rat) := rz_l (by decide +kernel)
  have ka : Rz 60000 a := ha.mono (by decide)
  have y0 : Rz 5003 ((n : Int) : Rat) := Rz.int (hn.mono (by decide)) (by decide)
  have k0 : Rz 60000 ((n : Int) : Rat) := y0.mono (by decide)
  have z0 : Rz 20000 (a - ((n : Int) : Rat)) := (ha.sub y0).mono (by decide)
  have y1 : Rz 5003 ((n + 1 : Int) : Rat) := Rz.int ((hn.add (Sz.one (k := 5000) (by decide))).mono (by decide)) (by decide)
  have k1 : Rz 60000 ((n + 1 : Int) : Rat) := y1.mono (by decide)
  have z1 : Rz 20000 (a - ((n + 1 : Int) : Rat)) := (ha.sub y1).mono (by decide)
  have pb : Rz 4800 (b * b * c) := ((hb.mul hb).mul hc).mono (by decide)
  have q1 : Rz 60000 (b * b) := (hb.mul hb).mono (by decide)
  have kb : Rz 60000 b := hb.mono (by decide)
  have kc : Rz 60000 c := hc.mono (by decide)
  have kq : Rz 60000 (b * b * c) := pb.mono (by decide)
  have fq : Sz 4800 ((b * b * c).num.fdiv ((b * b * c).den : Int)) := pb.n.fdiv
  have tq : Sz 4800 (isqI ((b * b * c).num.fdiv ((b * b * c).den : Int))) := fq.isq
  have ku : Rz 60000 ((a.num.fdiv (a.den : Int) : Int) : Rat) := (Rz.int (ha.n.fdiv (y := (a.den : Int))) (by decide)).mono (by decide)
  have kt : Rz 60000 ((-(isqI ((b * b * c).num.fdiv ((b * b * c).den : Int))) : Int) : Rat) := (Rz.int (k := 4800) tq.neg (by decide)).mono (by decide)
  refine Ok.of (by kernel_rfl) Tryz.func19 rfl rfl ?_
  rw [show Tryz.f19.ntmps = 51 from rfl, show Tryz.f19.results.toList = [.cell 2 26] from rfl]
  refine dw_seq <| dw_region (by kernel_rfl) <| dl_new (sem_box_a rfl rfl) rfl <| dl_new (sem_alloc zc26 rfl) rfl <| dl_end <| dw_seq <| dw_draw 16 [3] follows_mixed (by kernel_rfl) rfl rfl <| dq_r (sem_field fd28_1 rfl rfl) ?_
  refine dq_r (sem_load (us := cR b) ty26 rfl rfl rfl rfl rfl) <| dq_r (sem_field fd28_1 rfl rfl) <| dq_r (sem_load (us := cR b) ty26 rfl rfl rfl rfl rfl) <| dq_r (sem_call rfl rfl (sMulL_ok kb kb) rfl) <| dq_r (sem_field fd28_2 rfl rfl) <| dq_r (sem_load (us := cR c) ty26 rfl rfl rfl rfl rfl) <| dq_r (sem_call rfl rfl (sMulL_ok q1 kc) rfl) <| dq_r (sem_call rfl rfl (sFloorL_ok kq) rfl) ?_
  refine dq_r (sem_call rfl rfl (nSqrt_ok (fq.mono (by decide))) rfl) <| dq_r (sem_move rfl rfl) <| dq_r (sem_extract rfl rfl rfl) <| dq_r (sem_extract rfl rfl rfl) <| dq_new (sem_alloc zc24 rfl) rfl <| dq_sn (sem_store_a ty24 rfl rfl rfl rfl rfl rfl) rfl rfl rfl rfl <| dq_r (sem_assign rfl rfl) <| dq_end ?_
  refine dl_start2 <| dl_end <| dw_seq <| dw_seq <| dw_region (by kernel_rfl) <| dl_r (sem_field fd28_1 rfl rfl) <| dl_r (sem_load (us := cR b) ty26 rfl rfl rfl rfl rfl) <| dl_r (sem_call rfl rfl (rcasti sSign_ok hs) rfl) ?_
  refine dl_r (sem_castb (sem_cmp rfl rfl rfl rfl) hg) <| dl_end <| dw_true rfl <| dw_region (by kernel_rfl) <| dl_r (sem_load (us := cI (isqI ((b * b * c).num.fdiv ((b * b * c).den : Int)))) ty24 rfl rfl rfl rfl rfl) <| dl_r (sem_call rfl rfl (nNeg_ok (tq.mono (by decide))) rfl) <| dl_st (sem_store_a ty24 rfl rfl rfl rfl rfl rfl) <| dl_end ?_
  refine dw_seq <| dw_region (by kernel_rfl) <| dl_r (sem_call rfl rfl ((show Ok Tryz.prog 42 [.c (.i .i64 1)] [dR 1] from sFrom_ok (by omega) (by omega))) rfl) <| dl_new (sem_alloc zc26 rfl) rfl <| dl_st (sem_store_a ty26 rfl rfl rfl rfl rfl rfl) <| dl_end <| dw_seq <| dw_draw 8 [] follows_mixed (by kernel_rfl) rfl rfl ?_
  refine dq_r (sem_field fd28_0 rfl rfl) <| dq_r (sem_load (us := cR a) ty26 rfl rfl rfl rfl rfl) <| dq_r (sem_call rfl rfl (sFloorL_ok ka) rfl) <| dq_r (sem_call rfl rfl (yWhole_ok) rfl) <| dq_r (sem_load (us := cI (-(isqI ((b * b * c).num.fdiv ((b * b * c).den : Int))))) ty24 rfl rfl rfl rfl rfl) <| dq_r (sem_call rfl rfl (yWhole_ok) rfl) <| dq_r (sem_call rfl rfl (rcast1 (sAddL_ok ku kt) en) rfl) <| dq_new (sem_alloc zc26 rfl) rfl ?_
  refine dq_end <| dl_start1 <| dl_st (sem_store_a ty26 rfl rfl rfl rfl rfl rfl) <| dl_end <| dw_seq <| dw_block ?_
  refine dw_loop (ι := Nat) (fun i => match i with | _ => ⟨51, [(1, .p 1 0), (2, .p 2 0), (5, .p 5 0), (6, .p 6 0)], [(1, 28, (cR a ++ cR b ++ cR c)), (2, 26, (([.b false] ++ [.s 0 []]) ++ ([.b false] ++ [.s 0 []]))), (5, 26, cR 1), (6, 26, cR (((n : Int) : Rat)))]⟩) (fun i => 0 - i) 0 (sub_of ⟨rfl, rfl, rfl, rfl, trivial⟩ ⟨rfl, rfl, rfl, rfl, trivial⟩ rfl) ?_
  intro i
  match i with
  | _ =>
    show Dw _ _ ⟨51, [(1, .p 1 0), (2, .p 2 0), (5, .p 5 0), (6, .p 6 0)], [(1, 28, (cR a ++ cR b ++ cR c)), (2, 26, (([.b false] ++ [.s 0 []]) ++ ([.b false] ++ [.s 0 []]))), (5, 26, cR 1), (6, 26, cR (((n : Int) : Rat)))]⟩ _
    refine dw_seq <| dw_seq <| dw_region (by kernel_rfl) <| dl_r (sem_load (us := (cR a ++ cR b ++ cR c)) ty28 rfl rfl rfl rfl rfl) <| dl_r (sem_load (us := cR (((n : Int) : Rat))) ty26 rfl rfl rfl rfl rfl) <| dl_r (sem_call rfl rfl (rcasti (yCmpRat_ok ka k0 z0 (hb.mono (by decide)) (hc.mono (by decide))) ec0) rfl) <| dl_r (sem_castb (sem_cmp rfl rfl rfl rfl) g0) <| dl_end ?_
    refine dw_false rfl <| dw_exit <| dw_seq <| dw_block ?_
    refine dw_loop (ι := Nat) (fun i => match i with | _ => ⟨51, [(1, .p 1 0), (2, .p 2 0), (5, .p 5 0), (6, .p 6 0)], [(1, 28, (cR a ++ cR b ++ cR c)), (2, 26, (([.b false] ++ [.s 0 []]) ++ ([.b false] ++ [.s 0 []]))), (5, 26, cR 1), (6, 26, cR (((n : Int) : Rat)))]⟩) (fun i => 0 - i) 0 (sub_of ⟨rfl, rfl, rfl, rfl, trivial⟩ ⟨rfl, rfl, rfl, rfl, trivial⟩ rfl) ?_
    intro i
    match i with
    | _ =>
      show Dw _ _ ⟨51, [(1, .p 1 0), (2, .p 2 0), (5, .p 5 0), (6, .p 6 0)], [(1, 28, (cR a ++ cR b ++ cR c)), (2, 26, (([.b false] ++ [.s 0 []]) ++ ([.b false] ++ [.s 0 []]))), (5, 26, cR 1), (6, 26, cR (((n : Int) : Rat)))]⟩ _
      refine dw_seq <| dw_seq <| dw_draw 6 [] follows_mixed (by kernel_rfl) rfl rfl <| dq_r (sem_load (us := (cR a ++ cR b ++ cR c)) ty28 rfl rfl rfl rfl rfl) <| dq_r (sem_load (us := cR (((n : Int) : Rat))) ty26 rfl rfl rfl rfl rfl) <| dq_r (sem_load (us := cR 1) ty26 rfl rfl rfl rfl rfl) <| dq_r (sem_call rfl rfl (rcast1 (sAddL_ok k0 o1) (Rat.intCast_add n 1).symm) rfl) <| dq_r (sem_call rfl rfl (rcasti (yCmpRat_ok ka k1 z1 (hb.mono (by decide)) (hc.mono (by decide))) ec1) rfl) ?_
      refine dq_r (sem_castb (sem_cmp rfl rfl rfl rfl) g1) <| dq_end <| dl_start0 <| dl_end <| dw_false rfl <| dw_exit <| dw_seq <| dw_region (by kernel_rfl) ?_
      refine dl_r (sem_load (us := cR (((n : Int) : Rat))) ty26 rfl rfl rfl rfl rfl) <| dl_st (sem_store_a ty26 rfl rfl rfl rfl rfl rfl) <| dl_end <| dw_ret ?_
      exact ⟨.inr rfl, (resL_cell (us := cR (((n : Int) : Rat))) ty26 rfl rfl rfl rfl resL_nil)⟩
theorem yfl_nd {a b c : Rat} (ha : Rz 1600 a) (hb : Rz 1600 b) (hc : Rz 1600 c) {g : Int} (hs : cmpR b 0 = g) (hg : decide (g < 0) = true) {n : Int} (hn : Sz 5000 n) (en : ((a.num.fdiv (a.den : Int) : Int) : Rat) + ((-(isqI ((b * b * c).num.fdiv ((b * b * c).den : Int))) : Int) : Rat) = (n : Rat)) {c0 : Int} (ec0 : plainS (a - ((n : Int) : Rat)) b c = c0) (g0 : decide (c0 < 0) = true) {c1 : Int} (ec1 : plainS (a - ((n - 1 : Int) : Rat)) b c = c1) (g1 : decide (c1 < 0) = false) (g2 : decide (c0 ≥ 0) = false) : Ok Tryz.prog 19 [.a (cR a ++ cR b ++ cR c)] [dR (((n - 1 : Int) : Rat))] := by
  have o1 : Rz 60000 (1 : Rat) := rz_l (by decide +kernel)
  have ka : Rz 60000 a := ha.mono (by decide)
  have y0 : Rz 5003 ((n : Int) : Rat) := Rz.int (hn.mono (by decide)) (by decide)
  have k0 : Rz 60000 ((n : Int) : Rat) := y0.mono (by decide)
  have z0 : Rz 20000 (a - ((n : Int) : Rat)) := (ha.sub y0).mono (by decide)
  have y2 : Rz 5003 ((n - 1 : Int) : Rat) := Rz.int ((hn.sub1).mono (by decide)) (by decide)
  have k2 : Rz 60000 ((n - 1 : Int) : Rat) := y2.mono (by decide)
  have z2 : Rz 20000 (a - ((n - 1 : Int) : Rat)) := (ha.sub y2).mono (by decide)
  have pb : Rz 4800 (b * b * c) := ((hb.mul hb).mul hc).mono (by decide)
  have q1 : Rz 60000 (b * b) := (hb.mul hb).mono (by decide)
  have kb : Rz 60000 b := hb.mono (by decide)
  have kc : Rz 60000 c := hc.mono (by decide)
  have kq : Rz 60000 (b * b * c) := pb.mono (by decide)
  have fq : Sz 4800 ((b * b * c).num.fdiv ((b * b * c).den : Int)) := pb.n.fdiv
  have tq : Sz 4800 (isqI ((b * b * c).num.fdiv ((b * b * c).den : Int))) := fq.isq
  have ku : Rz 60000 ((a.num.fdiv (a.den : Int) : Int) : Rat) := (Rz.int (ha.n.fdiv (y := (a.den : Int))) (by decide)).mono (by decide)
  have kt : Rz 60000 ((-(isqI ((b * b * c).num.fdiv ((b * b * c).den : Int))) : Int) : Rat) := (Rz.int (k := 4800) tq.neg (by decide)).mono (by decide)
  refine Ok.of (by kernel_rfl) Tryz.func19 rfl rfl ?_
  rw [show Tryz.f19.ntmps = 51 from rfl, show Tryz.f19.results.toList = [.cell 2 26] from rfl]
  refine dw_seq <| dw_region (by kernel_rfl) <| dl_new (sem_box_a rfl rfl) rfl <| dl_new (sem_alloc zc26 rfl) rfl <| dl_end <| dw_seq <| dw_draw 16 [3] follows_mixed (by kernel_rfl) rfl rfl <| dq_r (sem_field fd28_1 rfl rfl) ?_
  refine dq_r (sem_load (us := cR b) ty26 rfl rfl rfl rfl rfl) <| dq_r (sem_field fd28_1 rfl rfl) <| dq_r (sem_load (us := cR b) ty26 rfl rfl rfl rfl rfl) <| dq_r (sem_call rfl rfl (sMulL_ok kb kb) rfl) <| dq_r (sem_field fd28_2 rfl rfl) <| dq_r (sem_load (us := cR c) ty26 rfl rfl rfl rfl rfl) <| dq_r (sem_call rfl rfl (sMulL_ok q1 kc) rfl) <| dq_r (sem_call rfl rfl (sFloorL_ok kq) rfl) ?_
  refine dq_r (sem_call rfl rfl (nSqrt_ok (fq.mono (by decide))) rfl) <| dq_r (sem_move rfl rfl) <| dq_r (sem_extract rfl rfl rfl) <| dq_r (sem_extract rfl rfl rfl) <| dq_new (sem_alloc zc24 rfl) rfl <| dq_sn (sem_store_a ty24 rfl rfl rfl rfl rfl rfl) rfl rfl rfl rfl <| dq_r (sem_assign rfl rfl) <| dq_end ?_
  refine dl_start2 <| dl_end <| dw_seq <| dw_seq <| dw_region (by kernel_rfl) <| dl_r (sem_field fd28_1 rfl rfl) <| dl_r (sem_load (us := cR b) ty26 rfl rfl rfl rfl rfl) <| dl_r (sem_call rfl rfl (rcasti sSign_ok hs) rfl) ?_
  refine dl_r (sem_castb (sem_cmp rfl rfl rfl rfl) hg) <| dl_end <| dw_true rfl <| dw_region (by kernel_rfl) <| dl_r (sem_load (us := cI (isqI ((b * b * c).num.fdiv ((b * b * c).den : Int)))) ty24 rfl rfl rfl rfl rfl) <| dl_r (sem_call rfl rfl (nNeg_ok (tq.mono (by decide))) rfl) <| dl_st (sem_store_a ty24 rfl rfl rfl rfl rfl rfl) <| dl_end ?_
  refine dw_seq <| dw_region (by kernel_rfl) <| dl_r (sem_call rfl rfl ((show Ok Tryz.prog 42 [.c (.i .i64 1)] [dR 1] from sFrom_ok (by omega) (by omega))) rfl) <| dl_new (sem_alloc zc26 rfl) rfl <| dl_st (sem_store_a ty26 rfl rfl rfl rfl rfl rfl) <| dl_end <| dw_seq <| dw_draw 8 [] follows_mixed (by kernel_rfl) rfl rfl ?_
  refine dq_r (sem_field fd28_0 rfl rfl) <| dq_r (sem_load (us := cR a) ty26 rfl rfl rfl rfl rfl) <| dq_r (sem_call rfl rfl (sFloorL_ok ka) rfl) <| dq_r (sem_call rfl rfl (yWhole_ok) rfl) <| dq_r (sem_load (us := cI (-(isqI ((b * b * c).num.fdiv ((b * b * c).den : Int))))) ty24 rfl rfl rfl rfl rfl) <| dq_r (sem_call rfl rfl (yWhole_ok) rfl) <| dq_r (sem_call rfl rfl (rcast1 (sAddL_ok ku kt) en) rfl) <| dq_new (sem_alloc zc26 rfl) rfl ?_
  refine dq_end <| dl_start1 <| dl_st (sem_store_a ty26 rfl rfl rfl rfl rfl rfl) <| dl_end <| dw_seq <| dw_block ?_
  refine dw_loop (ι := Nat) (fun i => match i with | 0 => ⟨51, [(1, .p 1 0), (2, .p 2 0), (5, .p 5 0), (6, .p 6 0)], [(1, 28, (cR a ++ cR b ++ cR c)), (2, 26, (([.b false] ++ [.s 0 []]) ++ ([.b false] ++ [.s 0 []]))), (5, 26, cR 1), (6, 26, cR (((n : Int) : Rat)))]⟩ | _ + 1 => ⟨51, [(1, .p 1 0), (2, .p 2 0), (5, .p 5 0), (6, .p 6 0)], [(1, 28, (cR a ++ cR b ++ cR c)), (2, 26, (([.b false] ++ [.s 0 []]) ++ ([.b false] ++ [.s 0 []]))), (5, 26, cR 1), (6, 26, cR (((n - 1 : Int) : Rat)))]⟩) (fun i => 1 - i) 0 (sub_of ⟨rfl, rfl, rfl, rfl, trivial⟩ ⟨rfl, rfl, rfl, rfl, trivial⟩ rfl) ?_
  intro i
  match i with
  | 0 =>
    show Dw _ _ ⟨51, [(1, .p 1 0), (2, .p 2 0), (5, .p 5 0), (6, .p 6 0)], [(1, 28, (cR a ++ cR b ++ cR c)), (2, 26, (([.b false] ++ [.s 0 []]) ++ ([.b false] ++ [.s 0 []]))), (5, 26, cR 1), (6, 26, cR (((n : Int) : Rat)))]⟩ _
    refine dw_seq <| dw_seq <| dw_region (by kernel_rfl) <| dl_r (sem_load (us := (cR a ++ cR b ++ cR c)) ty28 rfl rfl rfl rfl rfl) <| dl_r (sem_load (us := cR (((n : Int) : Rat))) ty26 rfl rfl rfl rfl rfl) <| dl_r (sem_call rfl rfl (rcasti (yCmpRat_ok ka k0 z0 (hb.mono (by decide)) (hc.mono (by decide))) ec0) rfl) <| dl_r (sem_castb (sem_cmp rfl rfl rfl rfl) g0) <| dl_end ?_
    refine dw_true rfl <| dw_skip <| dw_block <| dw_region (by kernel_rfl) <| dl_r (sem_load (us := cR (((n : Int) : Rat))) ty26 rfl rfl rfl rfl rfl) <| dl_r (sem_load (us := cR 1) ty26 rfl rfl rfl rfl rfl) <| dl_r (sem_call rfl rfl (rcast1 (sSubL_ok k0 o1) (Rat.intCast_sub n 1).symm) rfl) <| dl_st (sem_store_a ty26 rfl rfl rfl rfl rfl rfl) ?_
    refine dl_end ?_
    exact ⟨1, sub_of ⟨rfl, rfl, rfl, rfl, trivial⟩ ⟨rfl, rfl, rfl, rfl, trivial⟩ rfl, by show 1 - 1 < 1 - 0; decide⟩
  | z + 1 =>
    show Dw _ _ ⟨51, [(1, .p 1 0), (2, .p 2 0), (5, .p 5 0), (6, .p 6 0)], [(1, 28, (cR a ++ cR b ++ cR c)), (2, 26, (([.b false] ++ [.s 0 []]) ++ ([.b false] ++ [.s 0 []]))), (5, 26, cR 1), (6, 26, cR (((n - 1 : Int) : Rat)))]⟩ _
    refine dw_seq <| dw_seq <| dw_region (by kernel_rfl) <| dl_r (sem_load (us := (cR a ++ cR b ++ cR c)) ty28 rfl rfl rfl rfl rfl) <| dl_r (sem_load (us := cR (((n - 1 : Int) : Rat))) ty26 rfl rfl rfl rfl rfl) <| dl_r (sem_call rfl rfl (rcasti (yCmpRat_ok ka k2 z2 (hb.mono (by decide)) (hc.mono (by decide))) ec1) rfl) <| dl_r (sem_castb (sem_cmp rfl rfl rfl rfl) g1) <| dl_end ?_
    refine dw_false rfl <| dw_exit <| dw_seq <| dw_block ?_
    refine dw_loop (ι := Nat) (fun i => match i with | _ => ⟨51, [(1, .p 1 0), (2, .p 2 0), (5, .p 5 0), (6, .p 6 0)], [(1, 28, (cR a ++ cR b ++ cR c)), (2, 26, (([.b false] ++ [.s 0 []]) ++ ([.b false] ++ [.s 0 []]))), (5, 26, cR 1), (6, 26, cR (((n - 1 : Int) : Rat)))]⟩) (fun i => 0 - i) 0 (sub_of ⟨rfl, rfl, rfl, rfl, trivial⟩ ⟨rfl, rfl, rfl, rfl, trivial⟩ rfl) ?_
    intro i
    match i with
    | _ =>
      show Dw _ _ ⟨51, [(1, .p 1 0), (2, .p 2 0), (5, .p 5 0), (6, .p 6 0)], [(1, 28, (cR a ++ cR b ++ cR c)), (2, 26, (([.b false] ++ [.s 0 []]) ++ ([.b false] ++ [.s 0 []]))), (5, 26, cR 1), (6, 26, cR (((n - 1 : Int) : Rat)))]⟩ _
      refine dw_seq <| dw_seq <| dw_draw 6 [] follows_mixed (by kernel_rfl) rfl rfl <| dq_r (sem_load (us := (cR a ++ cR b ++ cR c)) ty28 rfl rfl rfl rfl rfl) <| dq_r (sem_load (us := cR (((n - 1 : Int) : Rat))) ty26 rfl rfl rfl rfl rfl) <| dq_r (sem_load (us := cR 1) ty26 rfl rfl rfl rfl rfl) <| dq_r (sem_call rfl rfl (rcast1 (sAddL_ok k2 o1) (i_sub1 n)) rfl) <| dq_r (sem_call rfl rfl (rcasti (yCmpRat_ok ka k0 z0 (hb.mono (by decide)) (hc.mono (by decide))) ec0) rfl) ?_
      refine dq_r (sem_castb (sem_cmp rfl rfl rfl rfl) g2) <| dq_end <| dl_start0 <| dl_end <| dw_false rfl <| dw_exit <| dw_seq <| dw_region (by kernel_rfl) ?_
      refine dl_r (sem_load (us := cR (((n - 1 : Int) : Rat))) ty26 rfl rfl rfl rfl rfl) <| dl_st (sem_store_a ty26 rfl rfl rfl rfl rfl rfl) <| dl_end <| dw_ret ?_
      exact ⟨.inr rfl, (resL_cell (us := cR (((n - 1 : Int) : Rat))) ty26 rfl rfl rfl rfl resL_nil)⟩
end Go.Proofs.YthlnndkgpgfbnaaGreat
