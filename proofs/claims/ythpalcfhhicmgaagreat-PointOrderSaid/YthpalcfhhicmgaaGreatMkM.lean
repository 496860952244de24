/- Package swarfref03: signs, sums, products. -/
import Derived.Test.YthpalcfhhicmgaaGreatMkL
namespace Go.Proofs.YthpalcfhhicmgaaGreat
open Go Go.RowKit
theorem rrSquare_ok {a : Rat} (ha : Rz 300 a) : Ok Tryz.prog 102 [dR a] [dR (a * a)] := by
  refine Ok.of (by kernel_rfl) Tryz.func102 rfl rfl ?_
  rw [show Tryz.f102.ntmps = 6 from rfl, show Tryz.f102.results.toList = [.cell 2 26] from rfl]
  refine dw_seq ?_
  -- region 0
  refine dw_region (by kernel_rfl) ?_
  refine dl_new (sem_box_a rfl rfl) rfl ?_
  refine dl_new (sem_alloc zc26 rfl) rfl ?_
  refine dl_end ?_
  refine dw_seq ?_
  -- region 1
  refine dw_region (by kernel_rfl) ?_
  refine dl_r (sem_load (us := cR a) ty26 rfl rfl rfl rfl rfl) ?_
  refine dl_r (sem_load (us := cR a) ty26 rfl rfl rfl rfl rfl) ?_
  refine dl_r (sem_call rfl rfl (sMul_ok (by first | assumption | exact Rz.mono ha (by decide)) (by first | assumption | exact Rz.mono ha (by decide))) rfl) ?_
  refine dl_st (sem_store_a ty26 rfl rfl rfl rfl rfl rfl) ?_
  refine dl_end ?_
  refine dw_ret ?_
  exact ⟨.inr rfl, (resL_cell (us := cR (a * a)) ty26 rfl rfl rfl rfl resL_nil)⟩
theorem rrNorm_ok {a b c : Rat} (ha : Rz 50 a) (hb : Rz 50 b) (hc : Rz 50 c) : Ok Tryz.prog 64 [.a (cR a ++ cR b ++ cR c)] [dR (a * a - b * b * c)] := by
  have ka : Rz 300 a := ha.mono (by decide)
  have kb : Rz 300 b := hb.mono (by decide)
  have kc : Rz 300 c := hc.mono (by decide)
  refine Ok.of (by kernel_rfl) Tryz.func64 rfl rfl ?_
  rw [show Tryz.f64.ntmps = 13 from rfl, show Tryz.f64.results.toList = [.cell 2 26] from rfl]
  refine dw_seq ?_
  -- region 0
  refine dw_region (by kernel_rfl) ?_
  refine dl_new (sem_box_a rfl rfl) rfl ?_
  refine dl_new (sem_alloc zc26 rfl) rfl ?_
  refine dl_end ?_
  refine dw_seq ?_
  -- region 1
  refine dw_draw 10 [] follows_mixed (by kernel_rfl) rfl rfl ?_
  refine dq_r (sem_field fd28_0 rfl rfl) ?_
  refine dq_r (sem_load (us := cR a) ty26 rfl rfl rfl rfl rfl) ?_
  refine dq_r (sem_call rfl rfl (rrSquare_ok (by first | assumption | exact Rz.mono ha (by decide))) rfl) ?_
  refine dq_r (sem_field fd28_1 rfl rfl) ?_
  refine dq_r (sem_load (us := cR b) ty26 rfl rfl rfl rfl rfl) ?_
  refine dq_r (sem_call rfl rfl (rrSquare_ok (by first | assumption | exact Rz.mono hb (by decide))) rfl) ?_
  refine dq_r (sem_field fd28_2 rfl rfl) ?_
  refine dq_r (sem_load (us := cR c) ty26 rfl rfl rfl rfl rfl) ?_
  refine dq_r (sem_call rfl rfl (sMul_ok (by first | assumption | exact Rz.mono (Rz.mul hb hb) (by decide)) (by first | assumption | exact Rz.mono hc (by decide))) rfl) ?_
  refine dq_r (sem_call rfl rfl (sSub_ok (by first | assumption | exact Rz.mono (Rz.mul ha ha) (by decide)) (by first | assumption | exact Rz.mono (Rz.mul (Rz.mul hb hb) hc) (by decide))) rfl) ?_
  refine dq_end ?_
  refine dl_start0 ?_
  refine dl_st (sem_store_a ty26 rfl rfl rfl rfl rfl rfl) ?_
  refine dl_end ?_
  refine dw_ret ?_
  exact ⟨.inr rfl, (resL_cell (us := cR ((a * a) - ((b * b) * c))) ty26 rfl rfl rfl rfl resL_nil)⟩
theorem rrSign_ok {a b c : Rat} (ha : Rz 50 a) (hb : Rz 50 b) (hc : Rz 50 c) : Ok Tryz.prog 25 [.a (cR a ++ cR b ++ cR c)] [.c (.i .i64 (s3 a b c))] := by
  refine Ok.of (by kernel_rfl) Tryz.func25 rfl rfl ?_
  rw [show Tryz.f25.ntmps = 28 from rfl, show Tryz.f25.results.toList = [.tmp 2] from rfl]
  refine dw_seq ?_
  -- region 0
  refine dw_region (by kernel_rfl) ?_
  refine dl_new (sem_box_a rfl rfl) rfl ?_
  refine dl_r (sem_assign rfl rfl) ?_
  refine dl_end ?_
  refine dw_seq ?_
  -- region 1
  refine dw_draw 8 [] follows_mixed (by kernel_rfl) rfl rfl ?_
  refine dq_r (sem_field fd28_0 rfl rfl) ?_
  refine dq_r (sem_load (us := cR a) ty26 rfl rfl rfl rfl rfl) ?_
  refine dq_r (sem_call rfl rfl (sSign_ok) rfl) ?_
  refine dq_r (sem_field fd28_1 rfl rfl) ?_
  refine dq_r (sem_load (us := cR b) ty26 rfl rfl rfl rfl rfl) ?_
  refine dq_r (sem_call rfl rfl (sSign_ok) rfl) ?_
  refine dq_r (sem_assign rfl rfl) ?_
  refine dq_r (sem_assign rfl rfl) ?_
  refine dq_end ?_
  refine dl_start0 ?_
  refine dl_end ?_
  refine dw_seq ?_
  refine dw_seq ?_
  -- region 2
  refine dw_region (by kernel_rfl) ?_
  refine dl_r (sem_move rfl rfl) ?_
  refine dl_r (sem_move rfl rfl) ?_
  refine dl_r (sem_cmp rfl rfl rfl rfl) ?_
  refine dl_rb (sem_move rfl rfl) (fun c1 hb1 => ?_)
  cases c1
  · refine dl_r (sem_move rfl rfl) ?_
    refine dl_r (sem_cmp rfl rfl rfl rfl) ?_
    refine dl_r (sem_pick rfl rfl rfl rfl) ?_
    refine dl_end ?_
    refine dw_cond rfl (fun hc2 => ?_) (fun hc2 => ?_)
    · refine dw_seq ?_
      -- region 3
      refine dw_region (by kernel_rfl) ?_
      refine dl_r (sem_move rfl rfl) ?_
      refine dl_r (sem_assign rfl rfl) ?_
      refine dl_end ?_
      refine dw_ret ?_
      rw [s3_2 hc2]
      exact ⟨.inr rfl, (resL_tmp rfl resL_nil)⟩
    · refine dw_skip ?_
      refine dw_seq ?_
      refine dw_seq ?_
      -- region 4
      refine dw_region (by kernel_rfl) ?_
      refine dl_r (sem_move rfl rfl) ?_
      refine dl_r (sem_cmp rfl rfl rfl rfl) ?_
      refine dl_end ?_
      refine dw_cond rfl (fun hc3 => ?_) (fun hc3 => ?_)
      · refine dw_seq ?_
        -- region 5
        refine dw_region (by kernel_rfl) ?_
        refine dl_r (sem_move rfl rfl) ?_
        refine dl_r (sem_assign rfl rfl) ?_
        refine dl_end ?_
        refine dw_ret ?_
        rw [s3_n hb1 hc2, if_pos (i_eq hc3)]
        exact ⟨.inr rfl, (resL_tmp rfl resL_nil)⟩
      · refine dw_skip ?_
        refine dw_seq ?_
        refine dw_seq ?_
        -- region 6
        refine dw_region (by kernel_rfl) ?_
        refine dl_r (sem_load (us := (cR a ++ cR b ++ cR c)) ty28 rfl rfl rfl rfl rfl) ?_
        refine dl_r (sem_call rfl rfl (rrNorm_ok (by assumption) (by assumption) (by assumption)) rfl) ?_
        refine dl_r (sem_call rfl rfl (sSign_ok) rfl) ?_
        refine dl_r (sem_cmp rfl rfl rfl rfl) ?_
        refine dl_end ?_
        refine dw_cond rfl (fun hc4 => ?_) (fun hc4 => ?_)
        · refine dw_seq ?_
          -- region 7
          refine dw_region (by kernel_rfl) ?_
          refine dl_r (sem_move rfl rfl) ?_
          refine dl_r (sem_assign rfl rfl) ?_
          refine dl_end ?_
          refine dw_ret ?_
          rw [s3_n hb1 hc2, if_neg (i_ne hc3), if_pos (r_gt hc4)]
          exact ⟨.inr rfl, (resL_tmp rfl resL_nil)⟩
        · refine dw_skip ?_
          refine dw_seq ?_
          -- region 8
          refine dw_region (by kernel_rfl) ?_
          refine dl_r (sem_move rfl rfl) ?_
          refine dl_r (sem_assign rfl rfl) ?_
          refine dl_end ?_
          refine dw_ret ?_
          rw [s3_n hb1 hc2, if_neg (i_ne hc3), if_neg (r_ngt hc4)]
          exact ⟨.inr rfl, (resL_tmp rfl resL_nil)⟩
  · refine dl_skip (sem_skip rfl) ?_
    refine dl_skip (sem_skip rfl) ?_
    refine dl_r (sem_pick rfl rfl rfl rfl) ?_
    refine dl_end ?_
    refine dw_true rfl ?_
    refine dw_seq ?_
    -- region 3
    refine dw_region (by kernel_rfl) ?_
    refine dl_r (sem_move rfl rfl) ?_
    refine dl_r (sem_assign rfl rfl) ?_
    refine dl_end ?_
    refine dw_ret ?_
    rw [s3_1 hb1]
    exact ⟨.inr rfl, (resL_tmp rfl resL_nil)⟩
theorem rrReduced_ok {a b c : Rat} : Ok Tryz.prog 105 [dR a, dR b, dR c] [.a (cR a ++ cR (rB b c) ++ cR (rC b c))] := by
  refine Ok.of (by kernel_rfl) Tryz.func105 rfl rfl ?_
  rw [show Tryz.f105.ntmps = 21 from rfl, show Tryz.f105.results.toList = [.cell 6 28] from rfl]
  refine dw_seq ?_
  -- region 0
  refine dw_region (by kernel_rfl) ?_
  refine dl_new (sem_box_a rfl rfl) rfl ?_
  refine dl_new (sem_box_a rfl rfl) rfl ?_
  refine dl_new (sem_box_a rfl rfl) rfl ?_
  refine dl_new (sem_alloc zc28 rfl) rfl ?_
  refine dl_end ?_
  refine dw_seq ?_
  refine dw_seq ?_
  -- region 1
  refine dw_region (by kernel_rfl) ?_
  refine dl_r (sem_load (us := cR b) ty26 rfl rfl rfl rfl rfl) ?_
  refine dl_r (sem_call rfl rfl (sSign_ok) rfl) ?_
  refine dl_r (sem_cmp rfl rfl rfl rfl) ?_
  refine dl_rb (sem_move rfl rfl) (fun c1 hb1 => ?_)
  cases c1
  · refine dl_r (sem_load (us := cR c) ty26 rfl rfl rfl rfl rfl) ?_
    refine dl_r (sem_call rfl rfl (sSign_ok) rfl) ?_
    refine dl_r (sem_cmp rfl rfl rfl rfl) ?_
    refine dl_r (sem_pick rfl rfl rfl rfl) ?_
    refine dl_end ?_
    refine dw_cond rfl (fun hc2 => ?_) (fun hc2 => ?_)
    · refine dw_seq ?_
      -- region 2
      refine dw_region (by kernel_rfl) ?_
      refine dl_r (sem_load (us := cR a) ty26 rfl rfl rfl rfl rfl) ?_
      refine dl_r (sem_call rfl rfl (rrFromRat_ok) rfl) ?_
      refine dl_st (sem_store_a ty28 rfl rfl rfl rfl rfl rfl) ?_
      refine dl_end ?_
      refine dw_ret ?_
      rw [rB_z (.inr (r_eq hc2)), rC_z (.inr (r_eq hc2))]
      exact ⟨.inr rfl, (resL_cell (us := (cR a ++ cR 0 ++ cR 0)) ty28 rfl rfl rfl rfl resL_nil)⟩
    · refine dw_skip ?_
      refine dw_seq ?_
      -- region 3
      refine dw_region (by kernel_rfl) ?_
      refine dl_r (sem_load (us := cR a) ty26 rfl rfl rfl rfl rfl) ?_
      refine dl_r (sem_load (us := cR b) ty26 rfl rfl rfl rfl rfl) ?_
      refine dl_r (sem_load (us := cR c) ty26 rfl rfl rfl rfl rfl) ?_
      refine dl_r (sem_build (us := (cR a ++ cR b ++ cR c)) fs28 zc28 rfl rfl rfl) ?_
      refine dl_st (sem_store_a ty28 rfl rfl rfl rfl rfl rfl) ?_
      refine dl_end ?_
      refine dw_ret ?_
      rw [rB_n (r_ne hb1) (r_ne hc2), rC_n (r_ne hb1) (r_ne hc2)]
      exact ⟨.inr rfl, (resL_cell (us := (cR a ++ cR b ++ cR c)) ty28 rfl rfl rfl rfl resL_nil)⟩
  · refine dl_skip (sem_skip rfl) ?_
    refine dl_skip (sem_skip rfl) ?_
    refine dl_skip (sem_skip rfl) ?_
    refine dl_r (sem_pick rfl rfl rfl rfl) ?_
    refine dl_end ?_
    refine dw_true rfl ?_
    refine dw_seq ?_
    -- region 2
    refine dw_region (by kernel_rfl) ?_
    refine dl_r (sem_load (us := cR a) ty26 rfl rfl rfl rfl rfl) ?_
    refine dl_r (sem_call rfl rfl (rrFromRat_ok) rfl) ?_
    refine dl_st (sem_store_a ty28 rfl rfl rfl rfl rfl rfl) ?_
    refine dl_end ?_
    refine dw_ret ?_
    rw [rB_z (.inl (r_eq hb1)), rC_z (.inl (r_eq hb1))]
    exact ⟨.inr rfl, (resL_cell (us := (cR a ++ cR 0 ++ cR 0)) ty28 rfl rfl rfl rfl resL_nil)⟩
theorem rrCommon_ok {a b c d e f : Rat} (hc : Rz 300 c) (hf : Rz 300 f) (hb : ¬ bad b c e f) : Ok Tryz.prog 104 [.a (cR a ++ cR b ++ cR c), .a (cR d ++ cR e ++ cR f)] [dR (cc b c f), .c (.b true)] := by
  refine Ok.of (by kernel_rfl) Tryz.func104 rfl rfl ?_
  rw [show Tryz.f104.ntmps = 26 from rfl, show Tryz.f104.results.toList = [.cell 4 26, .tmp 5] from rfl]
  refine dw_seq ?_
  -- region 0
  refine dw_region (by kernel_rfl) ?_
  refine dl_new (sem_box_a rfl rfl) rfl ?_
  refine dl_new (sem_box_a rfl rfl) rfl ?_
  refine dl_new (sem_alloc zc26 rfl) rfl ?_
  refine dl_r (sem_assign rfl rfl) ?_
  refine dl_end ?_
  refine dw_seq ?_
  refine dw_seq ?_
  -- region 1
  refine dw_region (by kernel_rfl) ?_
  refine dl_r (sem_field fd28_1 rfl rfl) ?_
  refine dl_r (sem_load (us := cR b) ty26 rfl rfl rfl rfl rfl) ?_
  refine dl_r (sem_call rfl rfl (sSign_ok) rfl) ?_
  refine dl_r (sem_cmp rfl rfl rfl rfl) ?_
  refine dl_end ?_
  refine dw_cond rfl (fun hc1 => ?_) (fun hc1 => ?_)
  · refine dw_seq ?_
    -- region 2
    refine dw_region (by kernel_rfl) ?_
    refine dl_r (sem_field fd28_2 rfl rfl) ?_
    refine dl_r (sem_load (us := cR f) ty26 rfl rfl rfl rfl rfl) ?_
    refine dl_st (sem_store_a ty26 rfl rfl rfl rfl rfl rfl) ?_
    refine dl_r (sem_assign rfl rfl) ?_
    refine dl_end ?_
    refine dw_ret ?_
    rw [cc_t (r_eq hc1)]
    exact ⟨.inr rfl, (resL_cell (us := cR f) ty26 rfl rfl rfl rfl (resL_tmp rfl resL_nil))⟩
  · refine dw_skip ?_
    refine dw_seq ?_
    -- region 3
    refine dw_draw 16 [4] follows_mixed (by kernel_rfl) rfl rfl ?_
    refine dq_r (sem_field fd28_2 rfl rfl) ?_
    refine dq_r (sem_load (us := cR c) ty26 rfl rfl rfl rfl rfl) ?_
    refine dq_r (sem_field fd28_1 rfl rfl) ?_
    refine dq_r (sem_load (us := cR e) ty26 rfl rfl rfl rfl rfl) ?_
    refine dq_r (sem_call rfl rfl (sSign_ok) rfl) ?_
    refine dq_r (sem_cmp rfl rfl rfl rfl) ?_
    refine dq_rb (sem_move rfl rfl) (fun c2 hb2 => ?_)
    cases c2
    · refine dq_r (sem_field fd28_2 rfl rfl) ?_
      refine dq_r (sem_load (us := cR c) ty26 rfl rfl rfl rfl rfl) ?_
      refine dq_r (sem_field fd28_2 rfl rfl) ?_
      refine dq_r (sem_load (us := cR f) ty26 rfl rfl rfl rfl rfl) ?_
      refine dq_r (sem_call rfl rfl (sCmp_ok (by first | assumption | exact Rz.mono hc (by decide)) (by first | assumption | exact Rz.mono hf (by decide))) rfl) ?_
      refine dq_r (sem_cmp rfl rfl rfl rfl) ?_
      refine dq_r (sem_pick rfl rfl rfl rfl) ?_
      refine dq_st (sem_store_a ty26 rfl rfl rfl rfl rfl rfl) rfl rfl rfl ?_
      refine dq_r (sem_assign rfl rfl) ?_
      refine dq_end ?_
      refine dl_start1 ?_
      refine dl_end ?_
      refine dw_ret ?_
      rw [cc_f (r_ne hc1), fit_eq hb (r_ne hc1) (r_ne hb2)]
      exact ⟨.inr rfl, (resL_cell (us := cR c) ty26 rfl rfl rfl rfl (resL_tmp rfl resL_nil))⟩
    · refine dq_skip (sem_skip rfl) ?_
      refine dq_skip (sem_skip rfl) ?_
      refine dq_skip (sem_skip rfl) ?_
      refine dq_skip (sem_skip rfl) ?_
      refine dq_skip (sem_skip rfl) ?_
      refine dq_skip (sem_skip rfl) ?_
      refine dq_r (sem_pick rfl rfl rfl rfl) ?_
      refine dq_st (sem_store_a ty26 rfl rfl rfl rfl rfl rfl) rfl rfl rfl ?_
      refine dq_r (sem_assign rfl rfl) ?_
      refine dq_end ?_
      refine dl_start1 ?_
      refine dl_end ?_
      refine dw_ret ?_
      rw [cc_f (r_ne hc1)]
      exact ⟨.inr rfl, (resL_cell (us := cR c) ty26 rfl rfl rfl rfl (resL_tmp rfl resL_nil))⟩
theorem rrAdd_ok {a b c d e f : Rat} (ha : Rz 50 a) (hb : Rz 50 b) (hc : Rz 50 c) (hd : Rz 50 d) (he : Rz 50 e) (hf : Rz 50 f) (hbad : ¬ bad b c e f) : Ok Tryz.prog 65 [.a (cR a ++ cR b ++ cR c), .a (cR d ++ cR e ++ cR f)] [.a (cR (a + d) ++ cR (rB (b + e) (cc b c f)) ++ cR (rC (b + e) (cc b c f))), .c (.i .i64 0)] := by
  have ka : Rz 300 a := ha.mono (by decide)
  have kb : Rz 300 b := hb.mono (by decide)
  have kc : Rz 300 c := hc.mono (by decide)
  have kd : Rz 300 d := hd.mono (by decide)
  have ke : Rz 300 e := he.mono (by decide)
  have kf : Rz 300 f := hf.mono (by decide)
  refine Ok.of (by kernel_rfl) Tryz.func65 rfl rfl ?_
  rw [show Tryz.f65.ntmps = 29 from rfl, show Tryz.f65.results.toList = [.cell 4 28, .tmp 5] from rfl]
  refine dw_seq ?_
  -- region 0
  refine dw_region (by kernel_rfl) ?_
  refine dl_new (sem_box_a rfl rfl) rfl ?_
  refine dl_new (sem_box_a rfl rfl) rfl ?_
  refine dl_new (sem_alloc zc28 rfl) rfl ?_
  refine dl_r (sem_assign rfl rfl) ?_
  refine dl_end ?_
  refine dw_seq ?_
  -- region 1
  refine dw_region (by kernel_rfl) ?_
  refine dl_r (sem_load (us := (cR a ++ cR b ++ cR c)) ty28 rfl rfl rfl rfl rfl) ?_
  refine dl_r (sem_load (us := (cR d ++ cR e ++ cR f)) ty28 rfl rfl rfl rfl rfl) ?_
  refine dl_r (sem_call rfl rfl (rrCommon_ok (by assumption) (by assumption) (by assumption)) rfl) ?_
  refine dl_r (sem_move rfl rfl) ?_
  refine dl_r (sem_extract rfl rfl rfl) ?_
  refine dl_r (sem_extract rfl rfl rfl) ?_
  refine dl_new (sem_alloc zc26 rfl) rfl ?_
  refine dl_st (sem_store_a ty26 rfl rfl rfl rfl rfl rfl) ?_
  refine dl_r (sem_assign rfl rfl) ?_
  refine dl_end ?_
  refine dw_seq ?_
  refine dw_seq ?_
  -- region 2
  refine dw_region (by kernel_rfl) ?_
  refine dl_r (sem_move rfl rfl) ?_
  refine dl_r (sem_not rfl rfl) ?_
  refine dl_end ?_
  refine dw_false rfl ?_
  refine dw_skip ?_
  refine dw_seq ?_
  -- region 4
  refine dw_draw 12 [] follows_mixed (by kernel_rfl) rfl rfl ?_
  refine dq_r (sem_field fd28_0 rfl rfl) ?_
  refine dq_r (sem_load (us := cR a) ty26 rfl rfl rfl rfl rfl) ?_
  refine dq_r (sem_field fd28_0 rfl rfl) ?_
  refine dq_r (sem_load (us := cR d) ty26 rfl rfl rfl rfl rfl) ?_
  refine dq_r (sem_call rfl rfl (sAdd_ok (by first | assumption | exact Rz.mono ha (by decide)) (by first | assumption | exact Rz.mono hd (by decide))) rfl) ?_
  refine dq_r (sem_field fd28_1 rfl rfl) ?_
  refine dq_r (sem_load (us := cR b) ty26 rfl rfl rfl rfl rfl) ?_
  refine dq_r (sem_field fd28_1 rfl rfl) ?_
  refine dq_r (sem_load (us := cR e) ty26 rfl rfl rfl rfl rfl) ?_
  refine dq_r (sem_call rfl rfl (sAdd_ok (by first | assumption | exact Rz.mono hb (by decide)) (by first | assumption | exact Rz.mono he (by decide))) rfl) ?_
  refine dq_r (sem_load (us := cR (cc b c f)) ty26 rfl rfl rfl rfl rfl) ?_
  refine dq_r (sem_call rfl rfl (rrReduced_ok) rfl) ?_
  refine dq_end ?_
  refine dl_start0 ?_
  refine dl_st (sem_store_a ty28 rfl rfl rfl rfl rfl rfl) ?_
  refine dl_r (sem_assign rfl rfl) ?_
  refine dl_end ?_
  refine dw_ret ?_
  exact ⟨.inr rfl, (resL_cell (us := (cR (a + d) ++ cR (rB (b + e) (cc b c f)) ++ cR (rC (b + e) (cc b c f)))) ty28 rfl rfl rfl rfl (resL_tmp rfl resL_nil))⟩
theorem rrMul_ok {a b c d e f : Rat} (ha : Rz 50 a) (hb : Rz 50 b) (hc : Rz 50 c) (hd : Rz 50 d) (he : Rz 50 e) (hf : Rz 50 f) (hbad : ¬ bad b c e f) : Ok Tryz.prog 106 [.a (cR a ++ cR b ++ cR c), .a (cR d ++ cR e ++ cR f)] [.a (cR (a * d + b * e * cc b c f) ++ cR (rB (a * e + b * d) (cc b c f)) ++ cR (rC (a * e + b * d) (cc b c f))), .c (.i .i64 0)] := by
  have ka : Rz 300 a := ha.mono (by decide)
  have kb : Rz 300 b := hb.mono (by decide)
  have kc : Rz 300 c := hc.mono (by decide)
  have kd : Rz 300 d := hd.mono (by decide)
  have ke : Rz 300 e := he.mono (by decide)
  have kf : Rz 300 f := hf.mono (by decide)
  have hcc : Rz 50 (cc b c f) := by unfold cc; split <;> assumption
  have z1 : Rz 300 (b * e) := (Rz.mul hb he).mono (by decide)
  have z2 : Rz 300 (cc b c f) := hcc.mono (by decide)
  have z3 : Rz 300 (b * e * cc b c f) := (Rz.mul (Rz.mul hb he) hcc).mono (by decide)
  refine Ok.of (by kernel_rfl) Tryz.func106 rfl rfl ?_
  rw [show Tryz.f106.ntmps = 47 from rfl, show Tryz.f106.results.toList = [.cell 4 28, .tmp 5] from rfl]
  refine dw_seq ?_
  -- region 0
  refine dw_region (by kernel_rfl) ?_
  refine dl_new (sem_box_a rfl rfl) rfl ?_
  refine dl_new (sem_box_a rfl rfl) rfl ?_
  refine dl_new (sem_alloc zc28 rfl) rfl ?_
  refine dl_r (sem_assign rfl rfl) ?_
  refine dl_end ?_
  refine dw_seq ?_
  -- region 1
  refine dw_region (by kernel_rfl) ?_
  refine dl_r (sem_load (us := (cR a ++ cR b ++ cR c)) ty28 rfl rfl rfl rfl rfl) ?_
  refine dl_r (sem_load (us := (cR d ++ cR e ++ cR f)) ty28 rfl rfl rfl rfl rfl) ?_
  refine dl_r (sem_call rfl rfl (rrCommon_ok (by assumption) (by assumption) (by assumption)) rfl) ?_
  refine dl_r (sem_move rfl rfl) ?_
  refine dl_r (sem_extract rfl rfl rfl) ?_
  refine dl_r (sem_extract rfl rfl rfl) ?_
  refine dl_new (sem_alloc zc26 rfl) rfl ?_
  refine dl_st (sem_store_a ty26 rfl rfl rfl rfl rfl rfl) ?_
  refine dl_r (sem_assign rfl rfl) ?_
  refine dl_end ?_
  refine dw_seq ?_
  refine dw_seq ?_
  -- region 2
  refine dw_region (by kernel_rfl) ?_
  refine dl_r (sem_move rfl rfl) ?_
  refine dl_r (sem_not rfl rfl) ?_
  refine dl_end ?_
  refine dw_false rfl ?_
  refine dw_skip ?_
  refine dw_seq ?_
  -- region 4
  refine dw_draw 14 [] follows_mixed (by kernel_rfl) rfl rfl ?_
  refine dq_r (sem_field fd28_0 rfl rfl) ?_
  refine dq_r (sem_load (us := cR a) ty26 rfl rfl rfl rfl rfl) ?_
  refine dq_r (sem_field fd28_0 rfl rfl) ?_
  refine dq_r (sem_load (us := cR d) ty26 rfl rfl rfl rfl rfl) ?_
  refine dq_r (sem_call rfl rfl (sMul_ok (by first | assumption | exact Rz.mono ha (by decide)) (by first | assumption | exact Rz.mono hd (by decide))) rfl) ?_
  refine dq_r (sem_field fd28_1 rfl rfl) ?_
  refine dq_r (sem_load (us := cR b) ty26 rfl rfl rfl rfl rfl) ?_
  refine dq_r (sem_field fd28_1 rfl rfl) ?_
  refine dq_r (sem_load (us := cR e) ty26 rfl rfl rfl rfl rfl) ?_
  refine dq_r (sem_call rfl rfl (sMul_ok (by first | assumption | exact Rz.mono hb (by decide)) (by first | assumption | exact Rz.mono he (by decide))) rfl) ?_
  refine dq_r (sem_load (us := cR (cc b c f)) ty26 rfl rfl rfl rfl rfl) ?_
  refine dq_r (sem_call rfl rfl (sMul_ok (by first | assumption | exact Rz.mono (Rz.mul hb he) (by decide)) (by first | assumption | exact Rz.mono (by assumption) (by decide))) rfl) ?_
  refine dq_r (sem_call rfl rfl (sAdd_ok (by first | assumption | exact Rz.mono (Rz.mul ha hd) (by decide)) (by first | assumption | exact Rz.mono (Rz.mul (Rz.mul hb he) (by assumption)) (by decide))) rfl) ?_
  refine dq_new (sem_alloc zc26 rfl) rfl ?_
  refine dq_end ?_
  refine dl_start1 ?_
  refine dl_st (sem_store_a ty26 rfl rfl rfl rfl rfl rfl) ?_
  refine dl_end ?_
  refine dw_seq ?_
  -- region 5
  refine dw_draw 12 [] follows_mixed (by kernel_rfl) rfl rfl ?_
  refine dq_r (sem_field fd28_0 rfl rfl) ?_
  refine dq_r (sem_load (us := cR a) ty26 rfl rfl rfl rfl rfl) ?_
  refine dq_r (sem_field fd28_1 rfl rfl) ?_
  refine dq_r (sem_load (us := cR e) ty26 rfl rfl rfl rfl rfl) ?_
  refine dq_r (sem_call rfl rfl (sMul_ok (by first | assumption | exact Rz.mono ha (by decide)) (by first | assumption | exact Rz.mono he (by decide))) rfl) ?_
  refine dq_r (sem_field fd28_1 rfl rfl) ?_
  refine dq_r (sem_load (us := cR b) ty26 rfl rfl rfl rfl rfl) ?_
  refine dq_r (sem_field fd28_0 rfl rfl) ?_
  refine dq_r (sem_load (us := cR d) ty26 rfl rfl rfl rfl rfl) ?_
  refine dq_r (sem_call rfl rfl (sMul_ok (by first | assumption | exact Rz.mono hb (by decide)) (by first | assumption | exact Rz.mono hd (by decide))) rfl) ?_
  refine dq_r (sem_call rfl rfl (sAdd_ok (by first | assumption | exact Rz.mono (Rz.mul ha he) (by decide)) (by first | assumption | exact Rz.mono (Rz.mul hb hd) (by decide))) rfl) ?_
  refine dq_new (sem_alloc zc26 rfl) rfl ?_
  refine dq_end ?_
  refine dl_start1 ?_
  refine dl_st (sem_store_a ty26 rfl rfl rfl rfl rfl rfl) ?_
  refine dl_end ?_
  refine dw_seq ?_
  -- region 6
  refine dw_region (by kernel_rfl) ?_
  refine dl_r (sem_load (us := cR ((a * d) + ((b * e) * (cc b c f)))) ty26 rfl rfl rfl rfl rfl) ?_
  refine dl_r (sem_load (us := cR ((a * e) + (b * d))) ty26 rfl rfl rfl rfl rfl) ?_
  refine dl_r (sem_load (us := cR (cc b c f)) ty26 rfl rfl rfl rfl rfl) ?_
  refine dl_r (sem_call rfl rfl (rrReduced_ok) rfl) ?_
  refine dl_st (sem_store_a ty28 rfl rfl rfl rfl rfl rfl) ?_
  refine dl_r (sem_assign rfl rfl) ?_
  refine dl_end ?_
  refine dw_ret ?_
  exact ⟨.inr rfl, (resL_cell (us := (cR ((a * d) + ((b * e) * (cc b c f))) ++ cR (rB ((a * e) + (b * d)) (cc b c f)) ++ cR (rC ((a * e) + (b * d)) (cc b c f)))) ty28 rfl rfl rfl rfl (resL_tmp rfl resL_nil))⟩
theorem rrAddRat_ok {a b c d : Rat} (ha : Rz 300 a) (hd : Rz 300 d) : Ok Tryz.prog 130 [.a (cR a ++ cR b ++ cR c), dR d] [.a (cR (a + d) ++ cR b ++ cR c)] := by
  refine Ok.of (by kernel_rfl) Tryz.func130 rfl rfl ?_
  rw [show Tryz.f130.ntmps = 14 from rfl, show Tryz.f130.results.toList = [.cell 4 28] from rfl]
  refine dw_seq ?_
  -- region 0
  refine dw_region (by kernel_rfl) ?_
  refine dl_new (sem_box_a rfl rfl) rfl ?_
  refine dl_new (sem_box_a rfl rfl) rfl ?_
  refine dl_new (sem_alloc zc28 rfl) rfl ?_
  refine dl_end ?_
  refine dw_seq ?_
  -- region 1
  refine dw_draw 9 [] follows_mixed (by kernel_rfl) rfl rfl ?_
  refine dq_r (sem_field fd28_0 rfl rfl) ?_
  refine dq_r (sem_load (us := cR a) ty26 rfl rfl rfl rfl rfl) ?_
  refine dq_r (sem_load (us := cR d) ty26 rfl rfl rfl rfl rfl) ?_
  refine dq_r (sem_call rfl rfl (sAdd_ok (by first | assumption | exact Rz.mono ha (by decide)) (by first | assumption | exact Rz.mono hd (by decide))) rfl) ?_
  refine dq_r (sem_field fd28_1 rfl rfl) ?_
  refine dq_r (sem_load (us := cR b) ty26 rfl rfl rfl rfl rfl) ?_
  refine dq_r (sem_field fd28_2 rfl rfl) ?_
  refine dq_r (sem_load (us := cR c) ty26 rfl rfl rfl rfl rfl) ?_
  refine dq_r (sem_build (us := (cR (a + d) ++ cR b ++ cR c)) fs28 zc28 rfl rfl rfl) ?_
  refine dq_end ?_
  refine dl_start0 ?_
  refine dl_st (sem_store_a ty28 rfl rfl rfl rfl rfl rfl) ?_
  refine dl_end ?_
  refine dw_ret ?_
  exact ⟨.inr rfl, (resL_cell (us := (cR (a + d) ++ cR b ++ cR c)) ty28 rfl rfl rfl rfl resL_nil)⟩
end Go.Proofs.YthpalcfhhicmgaaGreat
/- Points: Same, vectors, grids. -/
namespace Go.Proofs.YthpalcfhhicmgaaGreat
open Go Go.RowKit
theorem rrSame_ok {a b c d e f : Rat} (ha : Rz 300 a) (hb : Rz 300 b) (hc : Rz 300 c) (hd : Rz 300 d) (he : Rz 300 e) (hf : Rz 300 f) : Ok Tryz.prog 16 [.a (cR a ++ cR b ++ cR c), .a (cR d ++ cR e ++ cR f)] [.c (.b (rsame a b c d e f))] := by
  refine Ok.of (by kernel_rfl) Tryz.func16 rfl rfl ?_
  rw [show Tryz.f16.ntmps = 24 from rfl, show Tryz.f16.results.toList = [.tmp 4] from rfl]
  refine dw_seq ?_
  -- region 0
  refine dw_region (by kernel_rfl) ?_
  refine dl_new (sem_box_a rfl rfl) rfl ?_
  refine dl_new (sem_box_a rfl rfl) rfl ?_
  refine dl_r (sem_assign rfl rfl) ?_
  refine dl_end ?_
  refine dw_seq ?_
  -- region 1
  refine dw_region (by kernel_rfl) ?_
  refine dl_r (sem_field fd28_0 rfl rfl) ?_
  refine dl_r (sem_load (us := cR a) ty26 rfl rfl rfl rfl rfl) ?_
  refine dl_r (sem_field fd28_0 rfl rfl) ?_
  refine dl_r (sem_load (us := cR d) ty26 rfl rfl rfl rfl rfl) ?_
  refine dl_r (sem_call rfl rfl (sSame_ok (by first | assumption | exact Rz.mono ha (by decide)) (by first | assumption | exact Rz.mono hd (by decide))) rfl) ?_
  refine dl_rb (sem_move rfl rfl) (fun c1 hb1 => ?_)
  cases c1
  · refine dl_skip (sem_skip rfl) ?_
    refine dl_skip (sem_skip rfl) ?_
    refine dl_skip (sem_skip rfl) ?_
    refine dl_skip (sem_skip rfl) ?_
    refine dl_skip (sem_skip rfl) ?_
    refine dl_r (sem_pick rfl rfl rfl rfl) ?_
    refine dl_r (sem_move rfl rfl) ?_
    refine dl_skip (sem_skip rfl) ?_
    refine dl_skip (sem_skip rfl) ?_
    refine dl_skip (sem_skip rfl) ?_
    refine dl_skip (sem_skip rfl) ?_
    refine dl_skip (sem_skip rfl) ?_
    refine dl_r (sem_pick rfl rfl rfl rfl) ?_
    refine dl_r (sem_assign rfl rfl) ?_
    refine dl_end ?_
    refine dw_ret ?_
    rw [show rsame a b c d e f = false from by unfold rsame; rw [hb1]; rfl]
    exact ⟨.inr rfl, (resL_tmp rfl resL_nil)⟩
  · refine dl_r (sem_field fd28_1 rfl rfl) ?_
    refine dl_r (sem_load (us := cR b) ty26 rfl rfl rfl rfl rfl) ?_
    refine dl_r (sem_field fd28_1 rfl rfl) ?_
    refine dl_r (sem_load (us := cR e) ty26 rfl rfl rfl rfl rfl) ?_
    refine dl_r (sem_call rfl rfl (sSame_ok (by first | assumption | exact Rz.mono hb (by decide)) (by first | assumption | exact Rz.mono he (by decide))) rfl) ?_
    refine dl_r (sem_pick rfl rfl rfl rfl) ?_
    refine dl_rb (sem_move rfl rfl) (fun c2 hb2 => ?_)
    cases c2
    · refine dl_skip (sem_skip rfl) ?_
      refine dl_skip (sem_skip rfl) ?_
      refine dl_skip (sem_skip rfl) ?_
      refine dl_skip (sem_skip rfl) ?_
      refine dl_skip (sem_skip rfl) ?_
      refine dl_r (sem_pick rfl rfl rfl rfl) ?_
      refine dl_r (sem_assign rfl rfl) ?_
      refine dl_end ?_
      refine dw_ret ?_
      rw [show rsame a b c d e f = false from by unfold rsame; rw [hb1, hb2]; rfl]
      exact ⟨.inr rfl, (resL_tmp rfl resL_nil)⟩
    · refine dl_r (sem_field fd28_2 rfl rfl) ?_
      refine dl_r (sem_load (us := cR c) ty26 rfl rfl rfl rfl rfl) ?_
      refine dl_r (sem_field fd28_2 rfl rfl) ?_
      refine dl_r (sem_load (us := cR f) ty26 rfl rfl rfl rfl rfl) ?_
      refine dl_r (sem_call rfl rfl (sSame_ok (by first | assumption | exact Rz.mono hc (by decide)) (by first | assumption | exact Rz.mono hf (by decide))) rfl) ?_
      refine dl_r (sem_pick rfl rfl rfl rfl) ?_
      refine dl_r (sem_assign rfl rfl) ?_
      refine dl_end ?_
      refine dw_ret ?_
      rw [show rsame a b c d e f = decide (c = f) from by unfold rsame; rw [hb1, hb2]; rfl]
      exact ⟨.inr rfl, (resL_tmp rfl resL_nil)⟩
theorem rpSame_ok {a1 b1 a2 b2 c p1 q1 p2 q2 r : Rat} (ha1 : Rz 300 a1) (hb1 : Rz 300 b1) (ha2 : Rz 300 a2) (hb2 : Rz 300 b2) (hc : Rz 300 c) (hp1 : Rz 300 p1) (hq1 : Rz 300 q1) (hp2 : Rz 300 p2) (hq2 : Rz 300 q2) (hr : Rz 300 r) : Ok Tryz.prog 15 [.a (cR a1 ++ cR b1 ++ cR a2 ++ cR b2 ++ cR c), .a (cR p1 ++ cR q1 ++ cR p2 ++ cR q2 ++ cR r)] [.c (.b (psame a1 b1 a2 b2 c p1 q1 p2 q2 r))] := by
  refine Ok.of (by kernel_rfl) Tryz.func15 rfl rfl ?_
  rw [show Tryz.f15.ntmps = 38 from rfl, show Tryz.f15.results.toList = [.tmp 4] from rfl]
  refine dw_seq ?_
  -- region 0
  refine dw_region (by kernel_rfl) ?_
  refine dl_new (sem_box_a rfl rfl) rfl ?_
  refine dl_new (sem_box_a rfl rfl) rfl ?_
  refine dl_r (sem_assign rfl rfl) ?_
  refine dl_end ?_
  refine dw_seq ?_
  -- region 1
  refine dw_region (by kernel_rfl) ?_
  refine dl_r (sem_field fd32_0 rfl rfl) ?_
  refine dl_r (sem_load (us := cR a1) ty26 rfl rfl rfl rfl rfl) ?_
  refine dl_r (sem_field fd32_0 rfl rfl) ?_
  refine dl_r (sem_load (us := cR p1) ty26 rfl rfl rfl rfl rfl) ?_
  refine dl_r (sem_call rfl rfl (sSame_ok (by first | assumption | exact Rz.mono ha1 (by decide)) (by first | assumption | exact Rz.mono hp1 (by decide))) rfl) ?_
  refine dl_rb (sem_move rfl rfl) (fun c1 hb1 => ?_)
  cases c1
  · refine dl_skip (sem_skip rfl) ?_
    refine dl_skip (sem_skip rfl) ?_
    refine dl_skip (sem_skip rfl) ?_
    refine dl_skip (sem_skip rfl) ?_
    refine dl_skip (sem_skip rfl) ?_
    refine dl_r (sem_pick rfl rfl rfl rfl) ?_
    refine dl_r (sem_move rfl rfl) ?_
    refine dl_skip (sem_skip rfl) ?_
    refine dl_skip (sem_skip rfl) ?_
    refine dl_skip (sem_skip rfl) ?_
    refine dl_skip (sem_skip rfl) ?_
    refine dl_skip (sem_skip rfl) ?_
    refine dl_r (sem_pick rfl rfl rfl rfl) ?_
    refine dl_r (sem_move rfl rfl) ?_
    refine dl_skip (sem_skip rfl) ?_
    refine dl_skip (sem_skip rfl) ?_
    refine dl_skip (sem_skip rfl) ?_
    refine dl_skip (sem_skip rfl) ?_
    refine dl_skip (sem_skip rfl) ?_
    refine dl_r (sem_pick rfl rfl rfl rfl) ?_
    refine dl_r (sem_move rfl rfl) ?_
    refine dl_skip (sem_skip rfl) ?_
    refine dl_skip (sem_skip rfl) ?_
    refine dl_skip (sem_skip rfl) ?_
    refine dl_skip (sem_skip rfl) ?_
    refine dl_skip (sem_skip rfl) ?_
    refine dl_r (sem_pick rfl rfl rfl rfl) ?_
    refine dl_r (sem_assign rfl rfl) ?_
    refine dl_end ?_
    refine dw_ret ?_
    rw [show psame a1 b1 a2 b2 c p1 q1 p2 q2 r = false from by unfold psame; rw [hb1]; rfl]
    exact ⟨.inr rfl, (resL_tmp rfl resL_nil)⟩
  · refine dl_r (sem_field fd32_1 rfl rfl) ?_
    refine dl_r (sem_load (us := cR b1) ty26 rfl rfl rfl rfl rfl) ?_
    refine dl_r (sem_field fd32_1 rfl rfl) ?_
    refine dl_r (sem_load (us := cR q1) ty26 rfl rfl rfl rfl rfl) ?_
    refine dl_r (sem_call rfl rfl (sSame_ok (by first | assumption | exact Rz.mono hb1 (by decide)) (by first | assumption | exact Rz.mono hq1 (by decide))) rfl) ?_
    refine dl_r (sem_pick rfl rfl rfl rfl) ?_
    refine dl_rb (sem_move rfl rfl) (fun c2 hb2 => ?_)
    cases c2
    · refine dl_skip (sem_skip rfl) ?_
      refine dl_skip (sem_skip rfl) ?_
      refine dl_skip (sem_skip rfl) ?_
      refine dl_skip (sem_skip rfl) ?_
      refine dl_skip (sem_skip rfl) ?_
      refine dl_r (sem_pick rfl rfl rfl rfl) ?_
      refine dl_r (sem_move rfl rfl) ?_
      refine dl_skip (sem_skip rfl) ?_
      refine dl_skip (sem_skip rfl) ?_
      refine dl_skip (sem_skip rfl) ?_
      refine dl_skip (sem_skip rfl) ?_
      refine dl_skip (sem_skip rfl) ?_
      refine dl_r (sem_pick rfl rfl rfl rfl) ?_
      refine dl_r (sem_move rfl rfl) ?_
      refine dl_skip (sem_skip rfl) ?_
      refine dl_skip (sem_skip rfl) ?_
      refine dl_skip (sem_skip rfl) ?_
      refine dl_skip (sem_skip rfl) ?_
      refine dl_skip (sem_skip rfl) ?_
      refine dl_r (sem_pick rfl rfl rfl rfl) ?_
      refine dl_r (sem_assign rfl rfl) ?_
      refine dl_end ?_
      refine dw_ret ?_
      rw [show psame a1 b1 a2 b2 c p1 q1 p2 q2 r = false from by unfold psame; rw [hb1, hb2]; rfl]
      exact ⟨.inr rfl, (resL_tmp rfl resL_nil)⟩
    · refine dl_r (sem_field fd32_2 rfl rfl) ?_
      refine dl_r (sem_load (us := cR a2) ty26 rfl rfl rfl rfl rfl) ?_
      refine dl_r (sem_field fd32_2 rfl rfl) ?_
      refine dl_r (sem_load (us := cR p2) ty26 rfl rfl rfl rfl rfl) ?_
      refine dl_r (sem_call rfl rfl (sSame_ok (by first | assumption | exact Rz.mono ha2 (by decide)) (by first | assumption | exact Rz.mono hp2 (by decide))) rfl) ?_
      refine dl_r (sem_pick rfl rfl rfl rfl) ?_
      refine dl_rb (sem_move rfl rfl) (fun c3 hb3 => ?_)
      cases c3
      · refine dl_skip (sem_skip rfl) ?_
        refine dl_skip (sem_skip rfl) ?_
        refine dl_skip (sem_skip rfl) ?_
        refine dl_skip (sem_skip rfl) ?_
        refine dl_skip (sem_skip rfl) ?_
        refine dl_r (sem_pick rfl rfl rfl rfl) ?_
        refine dl_r (sem_move rfl rfl) ?_
        refine dl_skip (sem_skip rfl) ?_
        refine dl_skip (sem_skip rfl) ?_
        refine dl_skip (sem_skip rfl) ?_
        refine dl_skip (sem_skip rfl) ?_
        refine dl_skip (sem_skip rfl) ?_
        refine dl_r (sem_pick rfl rfl rfl rfl) ?_
        refine dl_r (sem_assign rfl rfl) ?_
        refine dl_end ?_
        refine dw_ret ?_
        rw [show psame a1 b1 a2 b2 c p1 q1 p2 q2 r = false from by unfold psame; rw [hb1, hb2, hb3]; rfl]
        exact ⟨.inr rfl, (resL_tmp rfl resL_nil)⟩
      · refine dl_r (sem_field fd32_3 rfl rfl) ?_
        refine dl_r (sem_load (us := cR b2) ty26 rfl rfl rfl rfl rfl) ?_
        refine dl_r (sem_field fd32_3 rfl rfl) ?_
        refine dl_r (sem_load (us := cR q2) ty26 rfl rfl rfl rfl rfl) ?_
        refine dl_r (sem_call rfl rfl (sSame_ok (by first | assumption | exact Rz.mono hb2 (by decide)) (by first | assumption | exact Rz.mono hq2 (by decide))) rfl) ?_
        refine dl_r (sem_pick rfl rfl rfl rfl) ?_
        refine dl_rb (sem_move rfl rfl) (fun c4 hb4 => ?_)
        cases c4
        · refine dl_skip (sem_skip rfl) ?_
          refine dl_skip (sem_skip rfl) ?_
          refine dl_skip (sem_skip rfl) ?_
          refine dl_skip (sem_skip rfl) ?_
          refine dl_skip (sem_skip rfl) ?_
          refine dl_r (sem_pick rfl rfl rfl rfl) ?_
          refine dl_r (sem_assign rfl rfl) ?_
          refine dl_end ?_
          refine dw_ret ?_
          rw [show psame a1 b1 a2 b2 c p1 q1 p2 q2 r = false from by unfold psame; rw [hb1, hb2, hb3, hb4]; rfl]
          exact ⟨.inr rfl, (resL_tmp rfl resL_nil)⟩
        · refine dl_r (sem_field fd32_4 rfl rfl) ?_
          refine dl_r (sem_load (us := cR c) ty26 rfl rfl rfl rfl rfl) ?_
          refine dl_r (sem_field fd32_4 rfl rfl) ?_
          refine dl_r (sem_load (us := cR r) ty26 rfl rfl rfl rfl rfl) ?_
          refine dl_r (sem_call rfl rfl (sSame_ok (by first | assumption | exact Rz.mono hc (by decide)) (by first | assumption | exact Rz.mono hr (by decide))) rfl) ?_
          refine dl_r (sem_pick rfl rfl rfl rfl) ?_
          refine dl_r (sem_assign rfl rfl) ?_
          refine dl_end ?_
          refine dw_ret ?_
          rw [show psame a1 b1 a2 b2 c p1 q1 p2 q2 r = decide (c = r) from by unfold psame; rw [hb1, hb2, hb3, hb4]; rfl]
          exact ⟨.inr rfl, (resL_tmp rfl resL_nil)⟩
theorem rpSameVec_ok {v w x y : Rat} (hv : Rz 300 v) (hw : Rz 300 w) (hx : Rz 300 x) (hy : Rz 300 y) : Ok Tryz.prog 39 [.a (cR v ++ cR w), .a (cR x ++ cR y)] [.c (.b (vsame v w x y))] := by
  refine Ok.of (by kernel_rfl) Tryz.func39 rfl rfl ?_
  rw [show Tryz.f39.ntmps = 17 from rfl, show Tryz.f39.results.toList = [.tmp 4] from rfl]
  refine dw_seq ?_
  -- region 0
  refine dw_region (by kernel_rfl) ?_
  refine dl_new (sem_box_a rfl rfl) rfl ?_
  refine dl_new (sem_box_a rfl rfl) rfl ?_
  refine dl_r (sem_assign rfl rfl) ?_
  refine dl_end ?_
  refine dw_seq ?_
  -- region 1
  refine dw_region (by kernel_rfl) ?_
  refine dl_r (sem_field fd42_0 rfl rfl) ?_
  refine dl_r (sem_load (us := cR v) ty26 rfl rfl rfl rfl rfl) ?_
  refine dl_r (sem_field fd42_0 rfl rfl) ?_
  refine dl_r (sem_load (us := cR x) ty26 rfl rfl rfl rfl rfl) ?_
  refine dl_r (sem_call rfl rfl (sSame_ok (by first | assumption | exact Rz.mono hv (by decide)) (by first | assumption | exact Rz.mono hx (by decide))) rfl) ?_
  refine dl_rb (sem_move rfl rfl) (fun c1 hb1 => ?_)
  cases c1
  · refine dl_skip (sem_skip rfl) ?_
    refine dl_skip (sem_skip rfl) ?_
    refine dl_skip (sem_skip rfl) ?_
    refine dl_skip (sem_skip rfl) ?_
    refine dl_skip (sem_skip rfl) ?_
    refine dl_r (sem_pick rfl rfl rfl rfl) ?_
    refine dl_r (sem_assign rfl rfl) ?_
    refine dl_end ?_
    refine dw_ret ?_
    rw [show vsame v w x y = false from by unfold vsame; rw [hb1]; rfl]
    exact ⟨.inr rfl, (resL_tmp rfl resL_nil)⟩
  · refine dl_r (sem_field fd42_1 rfl rfl) ?_
    refine dl_r (sem_load (us := cR w) ty26 rfl rfl rfl rfl rfl) ?_
    refine dl_r (sem_field fd42_1 rfl rfl) ?_
    refine dl_r (sem_load (us := cR y) ty26 rfl rfl rfl rfl rfl) ?_
    refine dl_r (sem_call rfl rfl (sSame_ok (by first | assumption | exact Rz.mono hw (by decide)) (by first | assumption | exact Rz.mono hy (by decide))) rfl) ?_
    refine dl_r (sem_pick rfl rfl rfl rfl) ?_
    refine dl_r (sem_assign rfl rfl) ?_
    refine dl_end ?_
    refine dw_ret ?_
    rw [show vsame v w x y = decide (w = y) from by unfold vsame; rw [hb1]; rfl]
    exact ⟨.inr rfl, (resL_tmp rfl resL_nil)⟩
theorem rpBack_ok {v w : Rat} (hv : Rz 300 v) (hw : Rz 300 w) : Ok Tryz.prog 33 [.a (cR v ++ cR w)] [.a (cR (-v) ++ cR (-w))] := by
  refine Ok.of (by kernel_rfl) Tryz.func33 rfl rfl ?_
  rw [show Tryz.f33.ntmps = 10 from rfl, show Tryz.f33.results.toList = [.cell 2 42] from rfl]
  refine dw_seq ?_
  -- region 0
  refine dw_region (by kernel_rfl) ?_
  refine dl_new (sem_box_a rfl rfl) rfl ?_
  refine dl_new (sem_alloc zc42 rfl) rfl ?_
  refine dl_end ?_
  refine dw_seq ?_
  -- region 1
  refine dw_draw 7 [] follows_mixed (by kernel_rfl) rfl rfl ?_
  refine dq_r (sem_field fd42_0 rfl rfl) ?_
  refine dq_r (sem_load (us := cR v) ty26 rfl rfl rfl rfl rfl) ?_
  refine dq_r (sem_call rfl rfl (sNeg_ok (by first | assumption | exact Rz.mono hv (by decide))) rfl) ?_
  refine dq_r (sem_field fd42_1 rfl rfl) ?_
  refine dq_r (sem_load (us := cR w) ty26 rfl rfl rfl rfl rfl) ?_
  refine dq_r (sem_call rfl rfl (sNeg_ok (by first | assumption | exact Rz.mono hw (by decide))) rfl) ?_
  refine dq_r (sem_build (us := (cR (-v) ++ cR (-w))) fs42 zc42 rfl rfl rfl) ?_
  refine dq_end ?_
  refine dl_start0 ?_
  refine dl_st (sem_store_a ty42 rfl rfl rfl rfl rfl rfl) ?_
  refine dl_end ?_
  refine dw_ret ?_
  exact ⟨.inr rfl, (resL_cell (us := (cR (-v) ++ cR (-w))) ty42 rfl rfl rfl rfl resL_nil)⟩
theorem rpVec_ok {x y : Int} (h0 : -9223372036854775808 ≤ x) (h1 : x ≤ 9223372036854775807) (h2 : -9223372036854775808 ≤ y) (h3 : y ≤ 9223372036854775807) : Ok Tryz.prog 49 [.c (.i .i64 x), .c (.i .i64 y)] [.a (cR (((x : Int) : Rat)) ++ cR (((y : Int) : Rat)))] := by
  refine Ok.of (by kernel_rfl) Tryz.func49 rfl rfl ?_
  rw [show Tryz.f49.ntmps = 10 from rfl, show Tryz.f49.results.toList = [.cell 4 42] from rfl]
  refine dw_seq ?_
  -- region 0
  refine dw_region (by kernel_rfl) ?_
  refine dl_new (sem_alloc zc42 rfl) rfl ?_
  refine dl_end ?_
  refine dw_seq ?_
  -- region 1
  refine dw_region (by kernel_rfl) ?_
  refine dl_r (sem_move rfl rfl) ?_
  refine dl_r (sem_call rfl rfl (sFrom_ok (by omega) (by omega)) rfl) ?_
  refine dl_r (sem_move rfl rfl) ?_
  refine dl_r (sem_call rfl rfl (sFrom_ok (by omega) (by omega)) rfl) ?_
  refine dl_r (sem_build (us := (cR (((x : Int) : Rat)) ++ cR (((y : Int) : Rat)))) fs42 zc42 rfl rfl rfl) ?_
  refine dl_st (sem_store_a ty42 rfl rfl rfl rfl rfl rfl) ?_
  refine dl_end ?_
  refine dw_ret ?_
  exact ⟨.inr rfl, (resL_cell (us := (cR (((x : Int) : Rat)) ++ cR (((y : Int) : Rat)))) ty42 rfl rfl rfl rfl resL_nil)⟩
theorem ptOfGrid_ok {x y : Int} (h0 : -9223372036854775808 ≤ x) (h1 : x ≤ 9223372036854775807) (h2 : -9223372036854775808 ≤ y) (h3 : y ≤ 9223372036854775807) : Ok Tryz.prog 35 [.a ([.i .i64 x] ++ [.i .i64 y])] [.a (cR (((x : Int) : Rat)) ++ cR 0 ++ cR (((y : Int) : Rat)) ++ cR 0 ++ cR 0)] := by
  refine Ok.of (by kernel_rfl) Tryz.func35 rfl rfl ?_
  rw [show Tryz.f35.ntmps = 11 from rfl, show Tryz.f35.results.toList = [.cell 2 32] from rfl]
  refine dw_seq ?_
  -- region 0
  refine dw_region (by kernel_rfl) ?_
  refine dl_new (sem_box_a rfl rfl) rfl ?_
  refine dl_new (sem_alloc zc32 rfl) rfl ?_
  refine dl_end ?_
  refine dw_seq ?_
  -- region 1
  refine dw_draw 8 [] follows_mixed (by kernel_rfl) rfl rfl ?_
  refine dq_r (sem_field fd60_0 rfl rfl) ?_
  refine dq_r (sem_load1 ty2 rfl rfl rfl rfl) ?_
  refine dq_r (sem_call rfl rfl (pFrom_ok (by omega) (by omega)) rfl) ?_
  refine dq_r (sem_field fd60_1 rfl rfl) ?_
  refine dq_r (sem_load1 ty2 rfl rfl rfl rfl) ?_
  refine dq_r (sem_call rfl rfl (pFrom_ok (by omega) (by omega)) rfl) ?_
  refine dq_r (sem_build (us := (cR (((x : Int) : Rat)) ++ cR (((y : Int) : Rat)))) fs42 zc42 rfl rfl rfl) ?_
  refine dq_r (sem_call rfl rfl (ptAt_ok) rfl) ?_
  refine dq_end ?_
  refine dl_start0 ?_
  refine dl_st (sem_store_a ty32 rfl rfl rfl rfl rfl rfl) ?_
  refine dl_end ?_
  refine dw_ret ?_
  exact ⟨.inr rfl, (resL_cell (us := (cR (((x : Int) : Rat)) ++ cR 0 ++ cR (((y : Int) : Rat)) ++ cR 0 ++ cR 0)) ty32 rfl rfl rfl rfl resL_nil)⟩
theorem ptRational_ok {a1 b1 a2 b2 c : Rat} (h1 : b1 = 0) (h2 : b2 = 0) : Ok Tryz.prog 37 [.a (cR a1 ++ cR b1 ++ cR a2 ++ cR b2 ++ cR c)] [.a (cR a1 ++ cR a2), .c (.b true)] := by
  refine Ok.of (by kernel_rfl) Tryz.func37 rfl rfl ?_
  rw [show Tryz.f37.ntmps = 20 from rfl, show Tryz.f37.results.toList = [.cell 2 42, .tmp 3] from rfl]
  refine dw_seq ?_
  -- region 0
  refine dw_region (by kernel_rfl) ?_
  refine dl_new (sem_box_a rfl rfl) rfl ?_
  refine dl_new (sem_alloc zc42 rfl) rfl ?_
  refine dl_r (sem_assign rfl rfl) ?_
  refine dl_end ?_
  refine dw_seq ?_
  refine dw_seq ?_
  -- region 1
  refine dw_region (by kernel_rfl) ?_
  refine dl_r (sem_field fd32_1 rfl rfl) ?_
  refine dl_r (sem_load (us := cR b1) ty26 rfl rfl rfl rfl rfl) ?_
  refine dl_r (sem_call rfl rfl (pSign_ok) rfl) ?_
  refine dl_r (sem_cmp rfl rfl rfl rfl) ?_
  refine dl_rb (sem_move rfl rfl) (fun c1 hb1 => ?_)
  cases c1
  · refine dl_r (sem_field fd32_3 rfl rfl) ?_
    refine dl_r (sem_load (us := cR b2) ty26 rfl rfl rfl rfl rfl) ?_
    refine dl_r (sem_call rfl rfl (pSign_ok) rfl) ?_
    refine dl_r (sem_cmp rfl rfl rfl rfl) ?_
    refine dl_r (sem_pick rfl rfl rfl rfl) ?_
    refine dl_end ?_
    refine dw_cond rfl (fun hc2 => ?_) (fun hc2 => ?_)
    · exact absurd h2 (r_ne' hc2)
    · refine dw_skip ?_
      refine dw_seq ?_
      -- region 3
      refine dw_region (by kernel_rfl) ?_
      refine dl_r (sem_field fd32_0 rfl rfl) ?_
      refine dl_r (sem_load (us := cR a1) ty26 rfl rfl rfl rfl rfl) ?_
      refine dl_r (sem_field fd32_2 rfl rfl) ?_
      refine dl_r (sem_load (us := cR a2) ty26 rfl rfl rfl rfl rfl) ?_
      refine dl_r (sem_build (us := (cR a1 ++ cR a2)) fs42 zc42 rfl rfl rfl) ?_
      refine dl_st (sem_store_a ty42 rfl rfl rfl rfl rfl rfl) ?_
      refine dl_r (sem_assign rfl rfl) ?_
      refine dl_end ?_
      refine dw_ret ?_
      exact ⟨.inr rfl, (resL_cell (us := (cR a1 ++ cR a2)) ty42 rfl rfl rfl rfl (resL_tmp rfl resL_nil))⟩
  · exact absurd h1 (r_ne' hb1)
theorem ptRational_bad {a1 b1 a2 b2 c : Rat} (h1 : ¬ (b1 = 0 ∧ b2 = 0)) : Ok Tryz.prog 37 [.a (cR a1 ++ cR b1 ++ cR a2 ++ cR b2 ++ cR c)] [.a (zV), .c (.b false)] := by
  refine Ok.of (by kernel_rfl) Tryz.func37 rfl rfl ?_
  rw [show Tryz.f37.ntmps = 20 from rfl, show Tryz.f37.results.toList = [.cell 2 42, .tmp 3] from rfl]
  refine dw_seq ?_
  -- region 0
  refine dw_region (by kernel_rfl) ?_
  refine dl_new (sem_box_a rfl rfl) rfl ?_
  refine dl_new (sem_alloc zc42 rfl) rfl ?_
  refine dl_r (sem_assign rfl rfl) ?_
  refine dl_end ?_
  refine dw_seq ?_
  refine dw_seq ?_
  -- region 1
  refine dw_region (by kernel_rfl) ?_
  refine dl_r (sem_field fd32_1 rfl rfl) ?_
  refine dl_r (sem_load (us := cR b1) ty26 rfl rfl rfl rfl rfl) ?_
  refine dl_r (sem_call rfl rfl (pSign_ok) rfl) ?_
  refine dl_r (sem_cmp rfl rfl rfl rfl) ?_
  refine dl_rb (sem_move rfl rfl) (fun c1 hb1 => ?_)
  cases c1
  · refine dl_r (sem_field fd32_3 rfl rfl) ?_
    refine dl_r (sem_load (us := cR b2) ty26 rfl rfl rfl rfl rfl) ?_
    refine dl_r (sem_call rfl rfl (pSign_ok) rfl) ?_
    refine dl_r (sem_cmp rfl rfl rfl rfl) ?_
    refine dl_r (sem_pick rfl rfl rfl rfl) ?_
    refine dl_end ?_
    refine dw_cond rfl (fun hc2 => ?_) (fun hc2 => ?_)
    · refine dw_seq ?_
      -- region 2
      refine dw_region (by kernel_rfl) ?_
      refine dl_r (sem_build (us := ((([.b false] ++ [.s 0 []]) ++ ([.b false] ++ [.s 0 []])) ++ (([.b false] ++ [.s 0 []]) ++ ([.b false] ++ [.s 0 []])))) fs42 zc42 rfl rfl rfl) ?_
      refine dl_st (sem_store_a ty42 rfl rfl rfl rfl rfl rfl) ?_
      refine dl_r (sem_assign rfl rfl) ?_
      refine dl_end ?_
      refine dw_ret ?_
      exact ⟨.inr rfl, resL_cell (us := zV) ty42 rfl rfl rfl rfl (resL_tmp rfl resL_nil)⟩
    · exact absurd ⟨r_eq' hb1, r_eq' hc2⟩ h1
  · refine dl_skip (sem_skip rfl) ?_
    refine dl_skip (sem_skip rfl) ?_
    refine dl_skip (sem_skip rfl) ?_
    refine dl_skip (sem_skip rfl) ?_
    refine dl_r (sem_pick rfl rfl rfl rfl) ?_
    refine dl_end ?_
    refine dw_true rfl ?_
    refine dw_seq ?_
    -- region 2
    refine dw_region (by kernel_rfl) ?_
    refine dl_r (sem_build (us := ((([.b false] ++ [.s 0 []]) ++ ([.b false] ++ [.s 0 []])) ++ (([.b false] ++ [.s 0 []]) ++ ([.b false] ++ [.s 0 []])))) fs42 zc42 rfl rfl rfl) ?_
    refine dl_st (sem_store_a ty42 rfl rfl rfl rfl rfl rfl) ?_
    refine dl_r (sem_assign rfl rfl) ?_
    refine dl_end ?_
    refine dw_ret ?_
    exact ⟨.inr rfl, resL_cell (us := zV) ty42 rfl rfl rfl rfl (resL_tmp rfl resL_nil)⟩
theorem rpOfGrid_ok {x y : Int} (h0 : -9223372036854775808 ≤ x) (h1 : x ≤ 9223372036854775807) (h2 : -9223372036854775808 ≤ y) (h3 : y ≤ 9223372036854775807) : Ok Tryz.prog 36 [.a ([.i .i64 x] ++ [.i .i64 y])] [.a (cR (((x : Int) : Rat)) ++ cR 0 ++ cR (((y : Int) : Rat)) ++ cR 0 ++ cR 0)] := by
  refine Ok.of (by kernel_rfl) Tryz.func36 rfl rfl ?_
  rw [show Tryz.f36.ntmps = 9 from rfl, show Tryz.f36.results.toList = [.cell 2 32] from rfl]
  refine dw_seq ?_
  -- region 0
  refine dw_region (by kernel_rfl) ?_
  refine dl_new (sem_box_a rfl rfl) rfl ?_
  refine dl_new (sem_alloc zc32 rfl) rfl ?_
  refine dl_end ?_
  refine dw_seq ?_
  -- region 1
  refine dw_region (by kernel_rfl) ?_
  refine dl_r (sem_field fd60_0 rfl rfl) ?_
  refine dl_r (sem_load1 ty2 rfl rfl rfl rfl) ?_
  refine dl_r (sem_field fd60_1 rfl rfl) ?_
  refine dl_r (sem_load1 ty2 rfl rfl rfl rfl) ?_
  refine dl_r (sem_call rfl rfl (rpVec_ok (by omega) (by omega) (by omega) (by omega)) rfl) ?_
  refine dl_r (sem_call rfl rfl (rpAt_ok) rfl) ?_
  refine dl_st (sem_store_a ty32 rfl rfl rfl rfl rfl rfl) ?_
  refine dl_end ?_
  refine dw_ret ?_
  exact ⟨.inr rfl, (resL_cell (us := (cR (((x : Int) : Rat)) ++ cR 0 ++ cR (((y : Int) : Rat)) ++ cR 0 ++ cR 0)) ty32 rfl rfl rfl rfl resL_nil)⟩
theorem rpRational_ok {a1 b1 a2 b2 c : Rat} (h1 : b1 = 0) (h2 : b2 = 0) : Ok Tryz.prog 38 [.a (cR a1 ++ cR b1 ++ cR a2 ++ cR b2 ++ cR c)] [.a (cR a1 ++ cR a2), .c (.b true)] := by
  refine Ok.of (by kernel_rfl) Tryz.func38 rfl rfl ?_
  rw [show Tryz.f38.ntmps = 20 from rfl, show Tryz.f38.results.toList = [.cell 2 42, .tmp 3] from rfl]
  refine dw_seq ?_
  -- region 0
  refine dw_region (by kernel_rfl) ?_
  refine dl_new (sem_box_a rfl rfl) rfl ?_
  refine dl_new (sem_alloc zc42 rfl) rfl ?_
  refine dl_r (sem_assign rfl rfl) ?_
  refine dl_end ?_
  refine dw_seq ?_
  refine dw_seq ?_
  -- region 1
  refine dw_region (by kernel_rfl) ?_
  refine dl_r (sem_field fd32_1 rfl rfl) ?_
  refine dl_r (sem_load (us := cR b1) ty26 rfl rfl rfl rfl rfl) ?_
  refine dl_r (sem_call rfl rfl (sSign_ok) rfl) ?_
  refine dl_r (sem_cmp rfl rfl rfl rfl) ?_
  refine dl_rb (sem_move rfl rfl) (fun c1 hb1 => ?_)
  cases c1
  · refine dl_r (sem_field fd32_3 rfl rfl) ?_
    refine dl_r (sem_load (us := cR b2) ty26 rfl rfl rfl rfl rfl) ?_
    refine dl_r (sem_call rfl rfl (sSign_ok) rfl) ?_
    refine dl_r (sem_cmp rfl rfl rfl rfl) ?_
    refine dl_r (sem_pick rfl rfl rfl rfl) ?_
    refine dl_end ?_
    refine dw_cond rfl (fun hc2 => ?_) (fun hc2 => ?_)
    · exact absurd h2 (r_ne' hc2)
    · refine dw_skip ?_
      refine dw_seq ?_
      -- region 3
      refine dw_region (by kernel_rfl) ?_
      refine dl_r (sem_field fd32_0 rfl rfl) ?_
      refine dl_r (sem_load (us := cR a1) ty26 rfl rfl rfl rfl rfl) ?_
      refine dl_r (sem_field fd32_2 rfl rfl) ?_
      refine dl_r (sem_load (us := cR a2) ty26 rfl rfl rfl rfl rfl) ?_
      refine dl_r (sem_build (us := (cR a1 ++ cR a2)) fs42 zc42 rfl rfl rfl) ?_
      refine dl_st (sem_store_a ty42 rfl rfl rfl rfl rfl rfl) ?_
      refine dl_r (sem_assign rfl rfl) ?_
      refine dl_end ?_
      refine dw_ret ?_
      exact ⟨.inr rfl, (resL_cell (us := (cR a1 ++ cR a2)) ty42 rfl rfl rfl rfl (resL_tmp rfl resL_nil))⟩
  · exact absurd h1 (r_ne' hb1)
theorem rpRational_bad {a1 b1 a2 b2 c : Rat} (h1 : ¬ (b1 = 0 ∧ b2 = 0)) : Ok Tryz.prog 38 [.a (cR a1 ++ cR b1 ++ cR a2 ++ cR b2 ++ cR c)] [.a (zV), .c (.b false)] := by
  refine Ok.of (by kernel_rfl) Tryz.func38 rfl rfl ?_
  rw [show Tryz.f38.ntmps = 20 from rfl, show Tryz.f38.results.toList = [.cell 2 42, .tmp 3] from rfl]
  refine dw_seq ?_
  -- region 0
  refine dw_region (by kernel_rfl) ?_
  refine dl_new (sem_box_a rfl rfl) rfl ?_
  refine dl_new (sem_alloc zc42 rfl) rfl ?_
  refine dl_r (sem_assign rfl rfl) ?_
  refine dl_end ?_
  refine dw_seq ?_
  refine dw_seq ?_
  -- region 1
  refine dw_region (by kernel_rfl) ?_
  refine dl_r (sem_field fd32_1 rfl rfl) ?_
  refine dl_r (sem_load (us := cR b1) ty26 rfl rfl rfl rfl rfl) ?_
  refine dl_r (sem_call rfl rfl (sSign_ok) rfl) ?_
  refine dl_r (sem_cmp rfl rfl rfl rfl) ?_
  refine dl_rb (sem_move rfl rfl) (fun c1 hb1 => ?_)
  cases c1
  · refine dl_r (sem_field fd32_3 rfl rfl) ?_
    refine dl_r (sem_load (us := cR b2) ty26 rfl rfl rfl rfl rfl) ?_
    refine dl_r (sem_call rfl rfl (sSign_ok) rfl) ?_
    refine dl_r (sem_cmp rfl rfl rfl rfl) ?_
    refine dl_r (sem_pick rfl rfl rfl rfl) ?_
    refine dl_end ?_
    refine dw_cond rfl (fun hc2 => ?_) (fun hc2 => ?_)
    · refine dw_seq ?_
      -- region 2
      refine dw_region (by kernel_rfl) ?_
      refine dl_r (sem_build (us := ((([.b false] ++ [.s 0 []]) ++ ([.b false] ++ [.s 0 []])) ++ (([.b false] ++ [.s 0 []]) ++ ([.b false] ++ [.s 0 []])))) fs42 zc42 rfl rfl rfl) ?_
      refine dl_st (sem_store_a ty42 rfl rfl rfl rfl rfl rfl) ?_
      refine dl_r (sem_assign rfl rfl) ?_
      refine dl_end ?_
      refine dw_ret ?_
      exact ⟨.inr rfl, resL_cell (us := zV) ty42 rfl rfl rfl rfl (resL_tmp rfl resL_nil)⟩
    · exact absurd ⟨r_eq' hb1, r_eq' hc2⟩ h1
  · refine dl_skip (sem_skip rfl) ?_
    refine dl_skip (sem_skip rfl) ?_
    refine dl_skip (sem_skip rfl) ?_
    refine dl_skip (sem_skip rfl) ?_
    refine dl_r (sem_pick rfl rfl rfl rfl) ?_
    refine dl_end ?_
    refine dw_true rfl ?_
    refine dw_seq ?_
    -- region 2
    refine dw_region (by kernel_rfl) ?_
    refine dl_r (sem_build (us := ((([.b false] ++ [.s 0 []]) ++ ([.b false] ++ [.s 0 []])) ++ (([.b false] ++ [.s 0 []]) ++ ([.b false] ++ [.s 0 []])))) fs42 zc42 rfl rfl rfl) ?_
    refine dl_st (sem_store_a ty42 rfl rfl rfl rfl rfl rfl) ?_
    refine dl_r (sem_assign rfl rfl) ?_
    refine dl_end ?_
    refine dw_ret ?_
    exact ⟨.inr rfl, resL_cell (us := zV) ty42 rfl rfl rfl rfl (resL_tmp rfl resL_nil)⟩
end Go.Proofs.YthpalcfhhicmgaaGreat
/- Roots and points in reduced form: the reference. -/
namespace Go.Proofs.YthpalcfhhicmgaaGreat
open Go Go.RowKit
theorem rrValid_R {a b c : Rat} (ha : Rz 300 a) (hb : Rz 300 b) (hc : Rz 300 c) : Ok Tryz.prog 50 [.a (cR a ++ cR b ++ cR c)] [.c (.b (vRoot b c))] := by
  refine Ok.of (by kernel_rfl) Tryz.func50 rfl rfl ?_
  rw [show Tryz.f50.ntmps = 55 from rfl, show Tryz.f50.results.toList = [.tmp 2] from rfl]
  refine dw_seq ?_
  -- region 0
  refine dw_region (by kernel_rfl) ?_
  refine dl_new (sem_box_a rfl rfl) rfl ?_
  refine dl_r (sem_assign rfl rfl) ?_
  refine dl_end ?_
  refine dw_seq ?_
  refine dw_seq ?_
  -- region 1
  refine dw_region (by kernel_rfl) ?_
  refine dl_r (sem_field fd28_0 rfl rfl) ?_
  refine dl_r (sem_load (us := cR a) ty26 rfl rfl rfl rfl rfl) ?_
  refine dl_r (sem_call rfl rfl (sValid_R (by first | assumption | exact Rz.mono ha (by decide))) rfl) ?_
  refine dl_r (sem_not rfl rfl) ?_
  refine dl_r (sem_move rfl rfl) ?_
  refine dl_r (sem_field fd28_1 rfl rfl) ?_
  refine dl_r (sem_load (us := cR b) ty26 rfl rfl rfl rfl rfl) ?_
  refine dl_r (sem_call rfl rfl (sValid_R (by first | assumption | exact Rz.mono hb (by decide))) rfl) ?_
  refine dl_r (sem_not rfl rfl) ?_
  refine dl_r (sem_pick rfl rfl rfl rfl) ?_
  refine dl_r (sem_move rfl rfl) ?_
  refine dl_r (sem_field fd28_2 rfl rfl) ?_
  refine dl_r (sem_load (us := cR c) ty26 rfl rfl rfl rfl rfl) ?_
  refine dl_r (sem_call rfl rfl (sValid_R (by first | assumption | exact Rz.mono hc (by decide))) rfl) ?_
  refine dl_r (sem_not rfl rfl) ?_
  refine dl_r (sem_pick rfl rfl rfl rfl) ?_
  refine dl_end ?_
  refine dw_false rfl ?_
  refine dw_skip ?_
  refine dw_seq ?_
  refine dw_seq ?_
  -- region 3
  refine dw_region (by kernel_rfl) ?_
  refine dl_r (sem_field fd28_1 rfl rfl) ?_
  refine dl_r (sem_load (us := cR b) ty26 rfl rfl rfl rfl rfl) ?_
  refine dl_r (sem_call rfl rfl (sSign_ok) rfl) ?_
  refine dl_r (sem_cmp rfl rfl rfl rfl) ?_
  refine dl_rb (sem_move rfl rfl) (fun c1 hb1 => ?_)
  cases c1
  · refine dl_r (sem_field fd28_2 rfl rfl) ?_
    refine dl_r (sem_load (us := cR c) ty26 rfl rfl rfl rfl rfl) ?_
    refine dl_r (sem_call rfl rfl (sSign_ok) rfl) ?_
    refine dl_r (sem_cmp rfl rfl rfl rfl) ?_
    refine dl_r (sem_pick rfl rfl rfl rfl) ?_
    refine dl_end ?_
    refine dw_cond rfl (fun hc2 => ?_) (fun hc2 => ?_)
    · refine dw_seq ?_
      -- region 4
      refine dw_region (by kernel_rfl) ?_
      refine dl_r (sem_field fd28_1 rfl rfl) ?_
      refine dl_r (sem_load (us := cR b) ty26 rfl rfl rfl rfl rfl) ?_
      refine dl_r (sem_call rfl rfl (sSign_ok) rfl) ?_
      refine dl_r (sem_cmp rfl rfl rfl rfl) ?_
      refine dl_rb (sem_move rfl rfl) (fun c3 hb3 => ?_)
      cases c3
      · refine dl_skip (sem_skip rfl) ?_
        refine dl_skip (sem_skip rfl) ?_
        refine dl_skip (sem_skip rfl) ?_
        refine dl_skip (sem_skip rfl) ?_
        refine dl_r (sem_pick rfl rfl rfl rfl) ?_
        refine dl_r (sem_assign rfl rfl) ?_
        refine dl_end ?_
        refine dw_ret ?_
        rw [vRoot_c hb1 hc2]
        exact ⟨.inr rfl, (resL_tmp rfl resL_nil)⟩
      · exact absurd hb3 (by rw [hb1]; decide)
    · refine dw_skip ?_
      refine dw_seq ?_
      -- region 5
      refine dw_region (by kernel_rfl) ?_
      refine dl_r (sem_field fd28_2 rfl rfl) ?_
      refine dl_r (sem_load (us := cR c) ty26 rfl rfl rfl rfl rfl) ?_
      refine dl_r (sem_call rfl rfl (sSqrt_ok (by first | assumption | exact Rz.mono hc (by decide))) rfl) ?_
      refine dl_r (sem_move rfl rfl) ?_
      refine dl_r (sem_extract rfl rfl rfl) ?_
      refine dl_r (sem_extract rfl rfl rfl) ?_
      refine dl_new (sem_alloc zc26 rfl) rfl ?_
      refine dl_st (sem_store_a ty26 rfl rfl rfl rfl rfl rfl) ?_
      refine dl_r (sem_assign rfl rfl) ?_
      refine dl_end ?_
      refine dw_seq ?_
      -- region 6
      refine dw_region (by kernel_rfl) ?_
      refine dl_r (sem_field fd28_2 rfl rfl) ?_
      refine dl_r (sem_load (us := cR c) ty26 rfl rfl rfl rfl rfl) ?_
      refine dl_r (sem_call rfl rfl (sSign_ok) rfl) ?_
      refine dl_r (sem_cmp rfl rfl rfl rfl) ?_
      refine dl_rb (sem_move rfl rfl) (fun c4 hb4 => ?_)
      cases c4
      · refine dl_skip (sem_skip rfl) ?_
        refine dl_skip (sem_skip rfl) ?_
        refine dl_r (sem_pick rfl rfl rfl rfl) ?_
        refine dl_r (sem_assign rfl rfl) ?_
        refine dl_end ?_
        refine dw_ret ?_
        rw [vRoot_n hb1 hc2, hb4, Bool.false_and]
        exact ⟨.inr rfl, (resL_tmp rfl resL_nil)⟩
      · refine dl_r (sem_move rfl rfl) ?_
        refine dl_r (sem_not rfl rfl) ?_
        refine dl_r (sem_pick rfl rfl rfl rfl) ?_
        refine dl_r (sem_assign rfl rfl) ?_
        refine dl_end ?_
        refine dw_ret ?_
        rw [vRoot_n hb1 hc2, hb4, Bool.true_and]
        exact ⟨.inr rfl, (resL_tmp rfl resL_nil)⟩
  · refine dl_skip (sem_skip rfl) ?_
    refine dl_skip (sem_skip rfl) ?_
    refine dl_skip (sem_skip rfl) ?_
    refine dl_skip (sem_skip rfl) ?_
    refine dl_r (sem_pick rfl rfl rfl rfl) ?_
    refine dl_end ?_
    refine dw_true rfl ?_
    refine dw_seq ?_
    -- region 4
    refine dw_region (by kernel_rfl) ?_
    refine dl_r (sem_field fd28_1 rfl rfl) ?_
    refine dl_r (sem_load (us := cR b) ty26 rfl rfl rfl rfl rfl) ?_
    refine dl_r (sem_call rfl rfl (sSign_ok) rfl) ?_
    refine dl_r (sem_cmp rfl rfl rfl rfl) ?_
    refine dl_rb (sem_move rfl rfl) (fun c5 hb5 => ?_)
    cases c5
    · exact absurd hb1 (by rw [hb5]; decide)
    · refine dl_r (sem_field fd28_2 rfl rfl) ?_
      refine dl_r (sem_load (us := cR c) ty26 rfl rfl rfl rfl rfl) ?_
      refine dl_r (sem_call rfl rfl (sSign_ok) rfl) ?_
      refine dl_r (sem_cmp rfl rfl rfl rfl) ?_
      refine dl_r (sem_pick rfl rfl rfl rfl) ?_
      refine dl_r (sem_assign rfl rfl) ?_
      refine dl_end ?_
      refine dw_ret ?_
      rw [vRoot_b hb1]
      exact ⟨.inr rfl, (resL_tmp rfl resL_nil)⟩
theorem rrSmallA {x y z : RN} {k : Int} (wx : x.Wf) (wy : y.Wf) (wz : z.Wf) (hk : k ≤ 999) (hv : (x.s k && (y.s k && z.s k)) = false) : Ok Tryz.prog 12 [.a (cN x ++ cN y ++ cN z), .c (.i .i64 k)] [.c (.b false)] := by
  refine Ok.of (by kernel_rfl) Tryz.func12 rfl rfl ?_
  rw [show Tryz.f12.ntmps = 25 from rfl, show Tryz.f12.results.toList = [.tmp 4] from rfl]
  refine dw_seq ?_
  -- region 0
  refine dw_region (by kernel_rfl) ?_
  refine dl_new (sem_box_a rfl rfl) rfl ?_
  refine dl_r (sem_assign rfl rfl) ?_
  refine dl_end ?_
  refine dw_seq ?_
  -- region 1
  refine dw_region (by kernel_rfl) ?_
  refine dl_r (sem_field fd28_0 rfl rfl) ?_
  refine dl_r (sem_load (us := cN x) ty26 rfl rfl rfl rfl rfl) ?_
  refine dl_r (sem_move rfl rfl) ?_
  refine dl_r (sem_call rfl rfl (sSmall_ok (by assumption) (by omega)) rfl) ?_
  refine dl_rb (sem_move rfl rfl) (fun c1 hb1 => ?_)
  cases c1
  · refine dl_skip (sem_skip rfl) ?_
    refine dl_skip (sem_skip rfl) ?_
    refine dl_skip (sem_skip rfl) ?_
    refine dl_skip (sem_skip rfl) ?_
    refine dl_r (sem_pick rfl rfl rfl rfl) ?_
    refine dl_r (sem_move rfl rfl) ?_
    refine dl_skip (sem_skip rfl) ?_
    refine dl_skip (sem_skip rfl) ?_
    refine dl_skip (sem_skip rfl) ?_
    refine dl_skip (sem_skip rfl) ?_
    refine dl_r (sem_pick rfl rfl rfl rfl) ?_
    refine dl_r (sem_move rfl rfl) ?_
    refine dl_skip (sem_skip rfl) ?_
    refine dl_skip (sem_skip rfl) ?_
    refine dl_r (sem_pick rfl rfl rfl rfl) ?_
    refine dl_r (sem_assign rfl rfl) ?_
    refine dl_end ?_
    refine dw_ret ?_
    exact ⟨.inr rfl, (resL_tmp rfl resL_nil)⟩
  · refine dl_r (sem_field fd28_1 rfl rfl) ?_
    refine dl_r (sem_load (us := cN y) ty26 rfl rfl rfl rfl rfl) ?_
    refine dl_r (sem_move rfl rfl) ?_
    refine dl_r (sem_call rfl rfl (sSmall_ok (by assumption) (by omega)) rfl) ?_
    refine dl_r (sem_pick rfl rfl rfl rfl) ?_
    refine dl_rb (sem_move rfl rfl) (fun c2 hb2 => ?_)
    cases c2
    · refine dl_skip (sem_skip rfl) ?_
      refine dl_skip (sem_skip rfl) ?_
      refine dl_skip (sem_skip rfl) ?_
      refine dl_skip (sem_skip rfl) ?_
      refine dl_r (sem_pick rfl rfl rfl rfl) ?_
      refine dl_r (sem_move rfl rfl) ?_
      refine dl_skip (sem_skip rfl) ?_
      refine dl_skip (sem_skip rfl) ?_
      refine dl_r (sem_pick rfl rfl rfl rfl) ?_
      refine dl_r (sem_assign rfl rfl) ?_
      refine dl_end ?_
      refine dw_ret ?_
      exact ⟨.inr rfl, (resL_tmp rfl resL_nil)⟩
    · refine dl_r (sem_field fd28_2 rfl rfl) ?_
      refine dl_r (sem_load (us := cN z) ty26 rfl rfl rfl rfl rfl) ?_
      refine dl_r (sem_move rfl rfl) ?_
      refine dl_r (sem_call rfl rfl (sSmall_ok (by assumption) (by omega)) rfl) ?_
      refine dl_r (sem_pick rfl rfl rfl rfl) ?_
      refine dl_rb (sem_move rfl rfl) (fun c3 hb3 => ?_)
      cases c3
      · refine dl_skip (sem_skip rfl) ?_
        refine dl_skip (sem_skip rfl) ?_
        refine dl_r (sem_pick rfl rfl rfl rfl) ?_
        refine dl_r (sem_assign rfl rfl) ?_
        refine dl_end ?_
        refine dw_ret ?_
        exact ⟨.inr rfl, (resL_tmp rfl resL_nil)⟩
      · exact absurd hv (by rw [hb1, hb2, hb3]; decide)
theorem rrSmall_R {a b c : Rat} {k : Nat} (hk : k ≤ 300) (ha : Rz k a) (hb : Rz k b) (hc : Rz k c) : Ok Tryz.prog 12 [.a (cR a ++ cR b ++ cR c), .c (.i .i64 (k : Int))] [.c (.b (vRoot b c))] := by
  have ka : Rz 300 a := ha.mono (by omega)
  have kb : Rz 300 b := hb.mono (by omega)
  have kc : Rz 300 c := hc.mono (by omega)
  refine Ok.of (by kernel_rfl) Tryz.func12 rfl rfl ?_
  rw [show Tryz.f12.ntmps = 25 from rfl, show Tryz.f12.results.toList = [.tmp 4] from rfl]
  refine dw_seq ?_
  -- region 0
  refine dw_region (by kernel_rfl) ?_
  refine dl_new (sem_box_a rfl rfl) rfl ?_
  refine dl_r (sem_assign rfl rfl) ?_
  refine dl_end ?_
  refine dw_seq ?_
  -- region 1
  refine dw_region (by kernel_rfl) ?_
  refine dl_r (sem_field fd28_0 rfl rfl) ?_
  refine dl_r (sem_load (us := cR a) ty26 rfl rfl rfl rfl rfl) ?_
  refine dl_r (sem_move rfl rfl) ?_
  refine dl_r (sem_call rfl rfl (sSmall_R (by assumption) (by omega)) rfl) ?_
  refine dl_r (sem_move rfl rfl) ?_
  refine dl_r (sem_field fd28_1 rfl rfl) ?_
  refine dl_r (sem_load (us := cR b) ty26 rfl rfl rfl rfl rfl) ?_
  refine dl_r (sem_move rfl rfl) ?_
  refine dl_r (sem_call rfl rfl (sSmall_R (by assumption) (by omega)) rfl) ?_
  refine dl_r (sem_pick rfl rfl rfl rfl) ?_
  refine dl_r (sem_move rfl rfl) ?_
  refine dl_r (sem_field fd28_2 rfl rfl) ?_
  refine dl_r (sem_load (us := cR c) ty26 rfl rfl rfl rfl rfl) ?_
  refine dl_r (sem_move rfl rfl) ?_
  refine dl_r (sem_call rfl rfl (sSmall_R (by assumption) (by omega)) rfl) ?_
  refine dl_r (sem_pick rfl rfl rfl rfl) ?_
  refine dl_r (sem_move rfl rfl) ?_
  refine dl_r (sem_load (us := (cR a ++ cR b ++ cR c)) ty28 rfl rfl rfl rfl rfl) ?_
  refine dl_r (sem_call rfl rfl (rrValid_R (by assumption) (by assumption) (by assumption)) rfl) ?_
  refine dl_r (sem_pick rfl rfl rfl rfl) ?_
  refine dl_r (sem_assign rfl rfl) ?_
  refine dl_end ?_
  refine dw_ret ?_
  exact ⟨.inr rfl, (resL_tmp rfl resL_nil)⟩
theorem rpValid_R {a1 b1 a2 b2 c : Rat} (ha1 : Rz 300 a1) (hb1 : Rz 300 b1) (ha2 : Rz 300 a2) (hb2 : Rz 300 b2) (hc : Rz 300 c) : Ok Tryz.prog 41 [.a (cR a1 ++ cR b1 ++ cR a2 ++ cR b2 ++ cR c)] [.c (.b (vPt b1 b2 c))] := by
  refine Ok.of (by kernel_rfl) Tryz.func41 rfl rfl ?_
  rw [show Tryz.f41.ntmps = 61 from rfl, show Tryz.f41.results.toList = [.tmp 2] from rfl]
  refine dw_seq ?_
  -- region 0
  refine dw_region (by kernel_rfl) ?_
  refine dl_new (sem_box_a rfl rfl) rfl ?_
  refine dl_r (sem_assign rfl rfl) ?_
  refine dl_end ?_
  refine dw_seq ?_
  refine dw_seq ?_
  -- region 1
  refine dw_region (by kernel_rfl) ?_
  refine dl_r (sem_field fd32_0 rfl rfl) ?_
  refine dl_r (sem_load (us := cR a1) ty26 rfl rfl rfl rfl rfl) ?_
  refine dl_r (sem_call rfl rfl (sValid_R (by first | assumption | exact Rz.mono ha1 (by decide))) rfl) ?_
  refine dl_r (sem_not rfl rfl) ?_
  refine dl_r (sem_move rfl rfl) ?_
  refine dl_r (sem_field fd32_2 rfl rfl) ?_
  refine dl_r (sem_load (us := cR a2) ty26 rfl rfl rfl rfl rfl) ?_
  refine dl_r (sem_call rfl rfl (sValid_R (by first | assumption | exact Rz.mono ha2 (by decide))) rfl) ?_
  refine dl_r (sem_not rfl rfl) ?_
  refine dl_r (sem_pick rfl rfl rfl rfl) ?_
  refine dl_r (sem_move rfl rfl) ?_
  refine dl_r (sem_field fd32_1 rfl rfl) ?_
  refine dl_r (sem_load (us := cR b1) ty26 rfl rfl rfl rfl rfl) ?_
  refine dl_r (sem_call rfl rfl (sValid_R (by first | assumption | exact Rz.mono hb1 (by decide))) rfl) ?_
  refine dl_r (sem_not rfl rfl) ?_
  refine dl_r (sem_pick rfl rfl rfl rfl) ?_
  refine dl_r (sem_move rfl rfl) ?_
  refine dl_r (sem_field fd32_3 rfl rfl) ?_
  refine dl_r (sem_load (us := cR b2) ty26 rfl rfl rfl rfl rfl) ?_
  refine dl_r (sem_call rfl rfl (sValid_R (by first | assumption | exact Rz.mono hb2 (by decide))) rfl) ?_
  refine dl_r (sem_not rfl rfl) ?_
  refine dl_r (sem_pick rfl rfl rfl rfl) ?_
  refine dl_r (sem_move rfl rfl) ?_
  refine dl_r (sem_field fd32_4 rfl rfl) ?_
  refine dl_r (sem_load (us := cR c) ty26 rfl rfl rfl rfl rfl) ?_
  refine dl_r (sem_call rfl rfl (sValid_R (by first | assumption | exact Rz.mono hc (by decide))) rfl) ?_
  refine dl_r (sem_not rfl rfl) ?_
  refine dl_r (sem_pick rfl rfl rfl rfl) ?_
  refine dl_end ?_
  refine dw_false rfl ?_
  refine dw_skip ?_
  refine dw_seq ?_
  refine dw_seq ?_
  -- region 3
  refine dw_region (by kernel_rfl) ?_
  refine dl_r (sem_field fd32_1 rfl rfl) ?_
  refine dl_r (sem_load (us := cR b1) ty26 rfl rfl rfl rfl rfl) ?_
  refine dl_r (sem_call rfl rfl (sSign_ok) rfl) ?_
  refine dl_r (sem_cmp rfl rfl rfl rfl) ?_
  refine dl_rb (sem_move rfl rfl) (fun c1 hb1 => ?_)
  cases c1
  · refine dl_skip (sem_skip rfl) ?_
    refine dl_skip (sem_skip rfl) ?_
    refine dl_skip (sem_skip rfl) ?_
    refine dl_skip (sem_skip rfl) ?_
    refine dl_r (sem_pick rfl rfl rfl rfl) ?_
    refine dl_end ?_
    refine dw_false rfl ?_
    refine dw_skip ?_
    refine dw_seq ?_
    -- region 5
    refine dw_region (by kernel_rfl) ?_
    refine dl_r (sem_field fd32_4 rfl rfl) ?_
    refine dl_r (sem_load (us := cR c) ty26 rfl rfl rfl rfl rfl) ?_
    refine dl_r (sem_call rfl rfl (sSqrt_ok (by first | assumption | exact Rz.mono hc (by decide))) rfl) ?_
    refine dl_r (sem_move rfl rfl) ?_
    refine dl_r (sem_extract rfl rfl rfl) ?_
    refine dl_r (sem_extract rfl rfl rfl) ?_
    refine dl_new (sem_alloc zc26 rfl) rfl ?_
    refine dl_st (sem_store_a ty26 rfl rfl rfl rfl rfl rfl) ?_
    refine dl_r (sem_assign rfl rfl) ?_
    refine dl_end ?_
    refine dw_seq ?_
    -- region 6
    refine dw_region (by kernel_rfl) ?_
    refine dl_r (sem_field fd32_4 rfl rfl) ?_
    refine dl_r (sem_load (us := cR c) ty26 rfl rfl rfl rfl rfl) ?_
    refine dl_r (sem_call rfl rfl (sSign_ok) rfl) ?_
    refine dl_r (sem_cmp rfl rfl rfl rfl) ?_
    refine dl_rb (sem_move rfl rfl) (fun c2 hb2 => ?_)
    cases c2
    · refine dl_skip (sem_skip rfl) ?_
      refine dl_skip (sem_skip rfl) ?_
      refine dl_r (sem_pick rfl rfl rfl rfl) ?_
      refine dl_r (sem_assign rfl rfl) ?_
      refine dl_end ?_
      refine dw_ret ?_
      rw [vPt_1 hb1, hb2, Bool.false_and]
      exact ⟨.inr rfl, (resL_tmp rfl resL_nil)⟩
    · refine dl_r (sem_move rfl rfl) ?_
      refine dl_r (sem_not rfl rfl) ?_
      refine dl_r (sem_pick rfl rfl rfl rfl) ?_
      refine dl_r (sem_assign rfl rfl) ?_
      refine dl_end ?_
      refine dw_ret ?_
      rw [vPt_1 hb1, hb2, Bool.true_and]
      exact ⟨.inr rfl, (resL_tmp rfl resL_nil)⟩
  · refine dl_r (sem_field fd32_3 rfl rfl) ?_
    refine dl_r (sem_load (us := cR b2) ty26 rfl rfl rfl rfl rfl) ?_
    refine dl_r (sem_call rfl rfl (sSign_ok) rfl) ?_
    refine dl_r (sem_cmp rfl rfl rfl rfl) ?_
    refine dl_r (sem_pick rfl rfl rfl rfl) ?_
    refine dl_end ?_
    refine dw_cond rfl (fun hc3 => ?_) (fun hc3 => ?_)
    · refine dw_seq ?_
      -- region 4
      refine dw_region (by kernel_rfl) ?_
      refine dl_r (sem_field fd32_4 rfl rfl) ?_
      refine dl_r (sem_load (us := cR c) ty26 rfl rfl rfl rfl rfl) ?_
      refine dl_r (sem_call rfl rfl (sSign_ok) rfl) ?_
      refine dl_r (sem_cmp rfl rfl rfl rfl) ?_
      refine dl_r (sem_assign rfl rfl) ?_
      refine dl_end ?_
      refine dw_ret ?_
      rw [vPt_z hb1 hc3]
      exact ⟨.inr rfl, (resL_tmp rfl resL_nil)⟩
    · refine dw_skip ?_
      refine dw_seq ?_
      -- region 5
      refine dw_region (by kernel_rfl) ?_
      refine dl_r (sem_field fd32_4 rfl rfl) ?_
      refine dl_r (sem_load (us := cR c) ty26 rfl rfl rfl rfl rfl) ?_
      refine dl_r (sem_call rfl rfl (sSqrt_ok (by first | assumption | exact Rz.mono hc (by decide))) rfl) ?_
      refine dl_r (sem_move rfl rfl) ?_
      refine dl_r (sem_extract rfl rfl rfl) ?_
      refine dl_r (sem_extract rfl rfl rfl) ?_
      refine dl_new (sem_alloc zc26 rfl) rfl ?_
      refine dl_st (sem_store_a ty26 rfl rfl rfl rfl rfl rfl) ?_
      refine dl_r (sem_assign rfl rfl) ?_
      refine dl_end ?_
      refine dw_seq ?_
      -- region 6
      refine dw_region (by kernel_rfl) ?_
      refine dl_r (sem_field fd32_4 rfl rfl) ?_
      refine dl_r (sem_load (us := cR c) ty26 rfl rfl rfl rfl rfl) ?_
      refine dl_r (sem_call rfl rfl (sSign_ok) rfl) ?_
      refine dl_r (sem_cmp rfl rfl rfl rfl) ?_
      refine dl_rb (sem_move rfl rfl) (fun c4 hb4 => ?_)
      cases c4
      · refine dl_skip (sem_skip rfl) ?_
        refine dl_skip (sem_skip rfl) ?_
        refine dl_r (sem_pick rfl rfl rfl rfl) ?_
        refine dl_r (sem_assign rfl rfl) ?_
        refine dl_end ?_
        refine dw_ret ?_
        rw [vPt_2 hc3, hb4, Bool.false_and]
        exact ⟨.inr rfl, (resL_tmp rfl resL_nil)⟩
      · refine dl_r (sem_move rfl rfl) ?_
        refine dl_r (sem_not rfl rfl) ?_
        refine dl_r (sem_pick rfl rfl rfl rfl) ?_
        refine dl_r (sem_assign rfl rfl) ?_
        refine dl_end ?_
        refine dw_ret ?_
        rw [vPt_2 hc3, hb4, Bool.true_and]
        exact ⟨.inr rfl, (resL_tmp rfl resL_nil)⟩
theorem rpSmallA {x y z u v : RN} {k : Int} (wx : x.Wf) (wy : y.Wf) (wz : z.Wf) (wu : u.Wf) (wv : v.Wf) (hk : k ≤ 999) (hv : (x.s k && (y.s k && (z.s k && (u.s k && v.s k)))) = false) : Ok Tryz.prog 58 [.a (cN x ++ cN y ++ cN z ++ cN u ++ cN v), .c (.i .i64 k)] [.c (.b false)] := by
  refine Ok.of (by kernel_rfl) Tryz.func58 rfl rfl ?_
  rw [show Tryz.f58.ntmps = 37 from rfl, show Tryz.f58.results.toList = [.tmp 4] from rfl]
  refine dw_seq ?_
  -- region 0
  refine dw_region (by kernel_rfl) ?_
  refine dl_new (sem_box_a rfl rfl) rfl ?_
  refine dl_r (sem_assign rfl rfl) ?_
  refine dl_end ?_
  refine dw_seq ?_
  -- region 1
  refine dw_region (by kernel_rfl) ?_
  refine dl_r (sem_field fd32_0 rfl rfl) ?_
  refine dl_r (sem_load (us := cN x) ty26 rfl rfl rfl rfl rfl) ?_
  refine dl_r (sem_move rfl rfl) ?_
  refine dl_r (sem_call rfl rfl (sSmall_ok (by assumption) (by omega)) rfl) ?_
  refine dl_rb (sem_move rfl rfl) (fun c1 hb1 => ?_)
  cases c1
  · refine dl_skip (sem_skip rfl) ?_
    refine dl_skip (sem_skip rfl) ?_
    refine dl_skip (sem_skip rfl) ?_
    refine dl_skip (sem_skip rfl) ?_
    refine dl_r (sem_pick rfl rfl rfl rfl) ?_
    refine dl_r (sem_move rfl rfl) ?_
    refine dl_skip (sem_skip rfl) ?_
    refine dl_skip (sem_skip rfl) ?_
    refine dl_skip (sem_skip rfl) ?_
    refine dl_skip (sem_skip rfl) ?_
    refine dl_r (sem_pick rfl rfl rfl rfl) ?_
    refine dl_r (sem_move rfl rfl) ?_
    refine dl_skip (sem_skip rfl) ?_
    refine dl_skip (sem_skip rfl) ?_
    refine dl_skip (sem_skip rfl) ?_
    refine dl_skip (sem_skip rfl) ?_
    refine dl_r (sem_pick rfl rfl rfl rfl) ?_
    refine dl_r (sem_move rfl rfl) ?_
    refine dl_skip (sem_skip rfl) ?_
    refine dl_skip (sem_skip rfl) ?_
    refine dl_skip (sem_skip rfl) ?_
    refine dl_skip (sem_skip rfl) ?_
    refine dl_r (sem_pick rfl rfl rfl rfl) ?_
    refine dl_r (sem_move rfl rfl) ?_
    refine dl_skip (sem_skip rfl) ?_
    refine dl_skip (sem_skip rfl) ?_
    refine dl_r (sem_pick rfl rfl rfl rfl) ?_
    refine dl_r (sem_assign rfl rfl) ?_
    refine dl_end ?_
    refine dw_ret ?_
    exact ⟨.inr rfl, (resL_tmp rfl resL_nil)⟩
  · refine dl_r (sem_field fd32_2 rfl rfl) ?_
    refine dl_r (sem_load (us := cN z) ty26 rfl rfl rfl rfl rfl) ?_
    refine dl_r (sem_move rfl rfl) ?_
    refine dl_r (sem_call rfl rfl (sSmall_ok (by assumption) (by omega)) rfl) ?_
    refine dl_r (sem_pick rfl rfl rfl rfl) ?_
    refine dl_rb (sem_move rfl rfl) (fun c2 hb2 => ?_)
    cases c2
    · refine dl_skip (sem_skip rfl) ?_
      refine dl_skip (sem_skip rfl) ?_
      refine dl_skip (sem_skip rfl) ?_
      refine dl_skip (sem_skip rfl) ?_
      refine dl_r (sem_pick rfl rfl rfl rfl) ?_
      refine dl_r (sem_move rfl rfl) ?_
      refine dl_skip (sem_skip rfl) ?_
      refine dl_skip (sem_skip rfl) ?_
      refine dl_skip (sem_skip rfl) ?_
      refine dl_skip (sem_skip rfl) ?_
      refine dl_r (sem_pick rfl rfl rfl rfl) ?_
      refine dl_r (sem_move rfl rfl) ?_
      refine dl_skip (sem_skip rfl) ?_
      refine dl_skip (sem_skip rfl) ?_
      refine dl_skip (sem_skip rfl) ?_
      refine dl_skip (sem_skip rfl) ?_
      refine dl_r (sem_pick rfl rfl rfl rfl) ?_
      refine dl_r (sem_move rfl rfl) ?_
      refine dl_skip (sem_skip rfl) ?_
      refine dl_skip (sem_skip rfl) ?_
      refine dl_r (sem_pick rfl rfl rfl rfl) ?_
      refine dl_r (sem_assign rfl rfl) ?_
      refine dl_end ?_
      refine dw_ret ?_
      exact ⟨.inr rfl, (resL_tmp rfl resL_nil)⟩
    · refine dl_r (sem_field fd32_1 rfl rfl) ?_
      refine dl_r (sem_load (us := cN y) ty26 rfl rfl rfl rfl rfl) ?_
      refine dl_r (sem_move rfl rfl) ?_
      refine dl_r (sem_call rfl rfl (sSmall_ok (by assumption) (by omega)) rfl) ?_
      refine dl_r (sem_pick rfl rfl rfl rfl) ?_
      refine dl_rb (sem_move rfl rfl) (fun c3 hb3 => ?_)
      cases c3
      · refine dl_skip (sem_skip rfl) ?_
        refine dl_skip (sem_skip rfl) ?_
        refine dl_skip (sem_skip rfl) ?_
        refine dl_skip (sem_skip rfl) ?_
        refine dl_r (sem_pick rfl rfl rfl rfl) ?_
        refine dl_r (sem_move rfl rfl) ?_
        refine dl_skip (sem_skip rfl) ?_
        refine dl_skip (sem_skip rfl) ?_
        refine dl_skip (sem_skip rfl) ?_
        refine dl_skip (sem_skip rfl) ?_
        refine dl_r (sem_pick rfl rfl rfl rfl) ?_
        refine dl_r (sem_move rfl rfl) ?_
        refine dl_skip (sem_skip rfl) ?_
        refine dl_skip (sem_skip rfl) ?_
        refine dl_r (sem_pick rfl rfl rfl rfl) ?_
        refine dl_r (sem_assign rfl rfl) ?_
        refine dl_end ?_
        refine dw_ret ?_
        exact ⟨.inr rfl, (resL_tmp rfl resL_nil)⟩
      · refine dl_r (sem_field fd32_3 rfl rfl) ?_
        refine dl_r (sem_load (us := cN u) ty26 rfl rfl rfl rfl rfl) ?_
        refine dl_r (sem_move rfl rfl) ?_
        refine dl_r (sem_call rfl rfl (sSmall_ok (by assumption) (by omega)) rfl) ?_
        refine dl_r (sem_pick rfl rfl rfl rfl) ?_
        refine dl_rb (sem_move rfl rfl) (fun c4 hb4 => ?_)
        cases c4
        · refine dl_skip (sem_skip rfl) ?_
          refine dl_skip (sem_skip rfl) ?_
          refine dl_skip (sem_skip rfl) ?_
          refine dl_skip (sem_skip rfl) ?_
          refine dl_r (sem_pick rfl rfl rfl rfl) ?_
          refine dl_r (sem_move rfl rfl) ?_
          refine dl_skip (sem_skip rfl) ?_
          refine dl_skip (sem_skip rfl) ?_
          refine dl_r (sem_pick rfl rfl rfl rfl) ?_
          refine dl_r (sem_assign rfl rfl) ?_
          refine dl_end ?_
          refine dw_ret ?_
          exact ⟨.inr rfl, (resL_tmp rfl resL_nil)⟩
        · refine dl_r (sem_field fd32_4 rfl rfl) ?_
          refine dl_r (sem_load (us := cN v) ty26 rfl rfl rfl rfl rfl) ?_
          refine dl_r (sem_move rfl rfl) ?_
          refine dl_r (sem_call rfl rfl (sSmall_ok (by assumption) (by omega)) rfl) ?_
          refine dl_r (sem_pick rfl rfl rfl rfl) ?_
          refine dl_rb (sem_move rfl rfl) (fun c5 hb5 => ?_)
          cases c5
          · refine dl_skip (sem_skip rfl) ?_
            refine dl_skip (sem_skip rfl) ?_
            refine dl_r (sem_pick rfl rfl rfl rfl) ?_
            refine dl_r (sem_assign rfl rfl) ?_
            refine dl_end ?_
            refine dw_ret ?_
            exact ⟨.inr rfl, (resL_tmp rfl resL_nil)⟩
          · exact absurd hv (by rw [hb1, hb2, hb3, hb4, hb5]; decide)
theorem rpSmall_R {a1 b1 a2 b2 c : Rat} {k : Nat} (hk : k ≤ 300) (ha1 : Rz k a1) (hb1 : Rz k b1) (ha2 : Rz k a2) (hb2 : Rz k b2) (hc : Rz k c) : Ok Tryz.prog 58 [.a (cR a1 ++ cR b1 ++ cR a2 ++ cR b2 ++ cR c), .c (.i .i64 (k : Int))] [.c (.b (vPt b1 b2 c))] := by
  have ka1 : Rz 300 a1 := ha1.mono (by omega)
  have kb1 : Rz 300 b1 := hb1.mono (by omega)
  have ka2 : Rz 300 a2 := ha2.mono (by omega)
  have kb2 : Rz 300 b2 := hb2.mono (by omega)
  have kc : Rz 300 c := hc.mono (by omega)
  refine Ok.of (by kernel_rfl) Tryz.func58 rfl rfl ?_
  rw [show Tryz.f58.ntmps = 37 from rfl, show Tryz.f58.results.toList = [.tmp 4] from rfl]
  refine dw_seq ?_
  -- region 0
  refine dw_region (by kernel_rfl) ?_
  refine dl_new (sem_box_a rfl rfl) rfl ?_
  refine dl_r (sem_assign rfl rfl) ?_
  refine dl_end ?_
  refine dw_seq ?_
  -- region 1
  refine dw_region (by kernel_rfl) ?_
  refine dl_r (sem_field fd32_0 rfl rfl) ?_
  refine dl_r (sem_load (us := cR a1) ty26 rfl rfl rfl rfl rfl) ?_
  refine dl_r (sem_move rfl rfl) ?_
  refine dl_r (sem_call rfl rfl (sSmall_R (by assumption) (by omega)) rfl) ?_
  refine dl_r (sem_move rfl rfl) ?_
  refine dl_r (sem_field fd32_2 rfl rfl) ?_
  refine dl_r (sem_load (us := cR a2) ty26 rfl rfl rfl rfl rfl) ?_
  refine dl_r (sem_move rfl rfl) ?_
  refine dl_r (sem_call rfl rfl (sSmall_R (by assumption) (by omega)) rfl) ?_
  refine dl_r (sem_pick rfl rfl rfl rfl) ?_
  refine dl_r (sem_move rfl rfl) ?_
  refine dl_r (sem_field fd32_1 rfl rfl) ?_
  refine dl_r (sem_load (us := cR b1) ty26 rfl rfl rfl rfl rfl) ?_
  refine dl_r (sem_move rfl rfl) ?_
  refine dl_r (sem_call rfl rfl (sSmall_R (by assumption) (by omega)) rfl) ?_
  refine dl_r (sem_pick rfl rfl rfl rfl) ?_
  refine dl_r (sem_move rfl rfl) ?_
  refine dl_r (sem_field fd32_3 rfl rfl) ?_
  refine dl_r (sem_load (us := cR b2) ty26 rfl rfl rfl rfl rfl) ?_
  refine dl_r (sem_move rfl rfl) ?_
  refine dl_r (sem_call rfl rfl (sSmall_R (by assumption) (by omega)) rfl) ?_
  refine dl_r (sem_pick rfl rfl rfl rfl) ?_
  refine dl_r (sem_move rfl rfl) ?_
  refine dl_r (sem_field fd32_4 rfl rfl) ?_
  refine dl_r (sem_load (us := cR c) ty26 rfl rfl rfl rfl rfl) ?_
  refine dl_r (sem_move rfl rfl) ?_
  refine dl_r (sem_call rfl rfl (sSmall_R (by assumption) (by omega)) rfl) ?_
  refine dl_r (sem_pick rfl rfl rfl rfl) ?_
  refine dl_r (sem_move rfl rfl) ?_
  refine dl_r (sem_load (us := (cR a1 ++ cR b1 ++ cR a2 ++ cR b2 ++ cR c)) ty32 rfl rfl rfl rfl rfl) ?_
  refine dl_r (sem_call rfl rfl (rpValid_R (by assumption) (by assumption) (by assumption) (by assumption) (by assumption)) rfl) ?_
  refine dl_r (sem_pick rfl rfl rfl rfl) ?_
  refine dl_r (sem_assign rfl rfl) ?_
  refine dl_end ?_
  refine dw_ret ?_
  exact ⟨.inr rfl, (resL_tmp rfl resL_nil)⟩
end Go.Proofs.YthpalcfhhicmgaaGreat
/- Plain: the order of points; perfect squares of fractions. -/
namespace Go.Proofs.YthpalcfhhicmgaaGreat
open Go Go.RowKit
def cmpC (a b c p q r : Rat) : Int := signQ (a - p) b (-q) 0 (zc b c) (zc q r)
def cmpPt (a1 b1 a2 b2 c p1 q1 p2 q2 r : Rat) : Int := if cmpC a1 b1 c p1 q1 r ≠ 0 then cmpC a1 b1 c p1 q1 r else cmpC a2 b2 c p2 q2 r
theorem cmpPt_t {a1 b1 a2 b2 c p1 q1 p2 q2 r : Rat} (h : (cmpC a1 b1 c p1 q1 r != 0) = true) : cmpPt a1 b1 a2 b2 c p1 q1 p2 q2 r = cmpC a1 b1 c p1 q1 r := by unfold cmpPt; rw [if_pos (by simpa using h)]
theorem cmpPt_f {a1 b1 a2 b2 c p1 q1 p2 q2 r : Rat} (h : (cmpC a1 b1 c p1 q1 r != 0) = false) : cmpPt a1 b1 a2 b2 c p1 q1 p2 q2 r = cmpC a2 b2 c p2 q2 r := by unfold cmpPt; rw [if_neg (by simpa using h)]
theorem Rz.zero {k : Nat} (hk : 1 ≤ k) : Rz k (0 : Rat) := ⟨⟨by have := pw_pos k; rw [Rat.zero_num]; omega, by have := pw_pos k; rw [Rat.zero_num]; omega⟩, by rw [Rat.zero_den]; exact Sz.one hk⟩
theorem Rz.zc {k : Nat} {b c : Rat} (h : Rz k c) (hk : 1 ≤ k) : Rz k (zc b c) := by
  unfold Go.Proofs.YthpalcfhhicmgaaGreat.zc
  split
  · exact Rz.zero hk
  · exact h
/-- the root of a fraction that is a square -/
def rt (c : Rat) : Rat := Rat.divInt (isqI c.num) (isqI (c.den : Int))
theorem rt_data {c : Rat} (h : sqR c = true) : dQ (if sqR c then isqI c.num else 0) (if sqR c then isqI (c.den : Int) else 0) = dR (rt c) := by
  rw [if_pos h, if_pos h]
  unfold sqR sqI at h
  simp only [Bool.and_eq_true, beq_iff_eq] at h
  obtain ⟨h1, h2⟩ := h
  have n0 := isqI_nonneg c.num
  have d0 := isqI_nonneg (c.den : Int)
  have dp := den_pos c
  have hd : 0 < isqI (c.den : Int) := by
    rcases Int.lt_trichotomy 0 (isqI (c.den : Int)) with e | e | e
    · exact e
    · rw [← e] at h2; simp at h2; omega
    · omega
  have hg : Int.gcd (isqI c.num) (isqI (c.den : Int)) = 1 := by
    have hr : Int.gcd c.num (c.den : Int) = 1 := c.reduced
    have d1 : Int.gcd (isqI c.num) (isqI (c.den : Int)) ∣ Int.gcd c.num (c.den : Int) := by
      refine Int.dvd_gcd ?_ ?_
      · have t : ((Int.gcd (isqI c.num) (isqI (c.den : Int)) : Nat) : Int) ∣ isqI c.num * isqI c.num := Int.dvd_mul_of_dvd_left (Int.gcd_dvd_left ..)
        rw [h1] at t; exact t
      · have t : ((Int.gcd (isqI c.num) (isqI (c.den : Int)) : Nat) : Int) ∣ isqI (c.den : Int) * isqI (c.den : Int) := Int.dvd_mul_of_dvd_left (Int.gcd_dvd_right ..)
        rw [h2] at t; exact t
    rw [hr] at d1
    exact Nat.dvd_one.1 d1
  unfold rt
  exact (dR_red1 hd (by rw [hg]; rfl)).symm
end Go.Proofs.YthpalcfhhicmgaaGreat
/- The order of points and the square of a root: the reference. -/
namespace Go.Proofs.YthpalcfhhicmgaaGreat
open Go Go.RowKit
theorem rpCompare_ok {a1 b1 a2 b2 c p1 q1 p2 q2 r : Rat} (ha1 : Rz 3 a1) (hb1 : Rz 3 b1) (ha2 : Rz 3 a2) (hb2 : Rz 3 b2) (hc : Rz 3 c) (hp1 : Rz 3 p1) (hq1 : Rz 3 q1) (hp2 : Rz 3 p2) (hq2 : Rz 3 q2) (hr : Rz 3 r) : Ok Tryz.prog 21 [.a (cR a1 ++ cR b1 ++ cR a2 ++ cR b2 ++ cR c), .a (cR p1 ++ cR q1 ++ cR p2 ++ cR q2 ++ cR r)] [.c (.i .i64 (cmpPt a1 b1 a2 b2 c p1 q1 p2 q2 r))] := by
  have kb1 : Rz 3 (zc b1 c) := Rz.zc hc (by decide)
  have kb2 : Rz 3 (zc b2 c) := Rz.zc hc (by decide)
  have kq1 : Rz 3 (zc q1 r) := Rz.zc hr (by decide)
  have kq2 : Rz 3 (zc q2 r) := Rz.zc hr (by decide)
  have e1 : cmpC a1 b1 c p1 q1 r = signQ (a1 - p1) b1 (-q1) 0 (zc b1 c) (zc q1 r) := rfl
  have e2 : cmpC a2 b2 c p2 q2 r = signQ (a2 - p2) b2 (-q2) 0 (zc b2 c) (zc q2 r) := rfl
  refine Ok.of (by kernel_rfl) Tryz.func21 rfl rfl ?_
  rw [show Tryz.f21.ntmps = 19 from rfl, show Tryz.f21.results.toList = [.tmp 4] from rfl]
  refine dw_seq ?_
  -- region 0
  refine dw_region (by kernel_rfl) ?_
  refine dl_new (sem_box_a rfl rfl) rfl ?_
  refine dl_new (sem_box_a rfl rfl) rfl ?_
  refine dl_r (sem_assign rfl rfl) ?_
  refine dl_end ?_
  refine dw_seq ?_
  refine dw_seq ?_
  -- region 1
  refine dw_draw 6 [] follows_mixed (by kernel_rfl) rfl rfl ?_
  refine dq_r (sem_load (us := (cR a1 ++ cR b1 ++ cR a2 ++ cR b2 ++ cR c)) ty32 rfl rfl rfl rfl rfl) ?_
  refine dq_r (sem_call rfl rfl (rpX_ok) rfl) ?_
  refine dq_r (sem_load (us := (cR p1 ++ cR q1 ++ cR p2 ++ cR q2 ++ cR r)) ty32 rfl rfl rfl rfl rfl) ?_
  refine dq_r (sem_call rfl rfl (rpX_ok) rfl) ?_
  refine dq_r (sem_call rfl rfl (yCmp_ok (by assumption) (by assumption) (by assumption) (by assumption) (by assumption) (by assumption)) rfl) ?_
  refine dq_r (sem_assign rfl rfl) ?_
  refine dq_end ?_
  refine dl_start0 ?_
  refine dl_end ?_
  refine dw_seq ?_
  -- region 2
  refine dw_region (by kernel_rfl) ?_
  refine dl_r (sem_move rfl rfl) ?_
  refine dl_r (sem_cmp rfl rfl rfl rfl) ?_
  refine dl_end ?_
  refine dw_cond rfl (fun hc1 => ?_) (fun hc1 => ?_)
  · refine dw_seq ?_
    -- region 3
    refine dw_region (by kernel_rfl) ?_
    refine dl_r (sem_move rfl rfl) ?_
    refine dl_r (sem_assign rfl rfl) ?_
    refine dl_end ?_
    refine dw_ret ?_
    rw [cmpPt_t hc1]
    exact ⟨.inr rfl, (resL_tmp rfl resL_nil)⟩
  · refine dw_skip ?_
    refine dw_seq ?_
    -- region 4
    refine dw_draw 6 [] follows_mixed (by kernel_rfl) rfl rfl ?_
    refine dq_r (sem_load (us := (cR a1 ++ cR b1 ++ cR a2 ++ cR b2 ++ cR c)) ty32 rfl rfl rfl rfl rfl) ?_
    refine dq_r (sem_call rfl rfl (rpY_ok) rfl) ?_
    refine dq_r (sem_load (us := (cR p1 ++ cR q1 ++ cR p2 ++ cR q2 ++ cR r)) ty32 rfl rfl rfl rfl rfl) ?_
    refine dq_r (sem_call rfl rfl (rpY_ok) rfl) ?_
    refine dq_r (sem_call rfl rfl (yCmp_ok (by assumption) (by assumption) (by assumption) (by assumption) (by assumption) (by assumption)) rfl) ?_
    refine dq_r (sem_assign rfl rfl) ?_
    refine dq_end ?_
    refine dl_start0 ?_
    refine dl_end ?_
    refine dw_ret ?_
    rw [cmpPt_f hc1]
    exact ⟨.inr rfl, (resL_tmp rfl resL_nil)⟩
theorem rpEqual_ok {a1 b1 a2 b2 c p1 q1 p2 q2 r : Rat} (ha1 : Rz 3 a1) (hb1 : Rz 3 b1) (ha2 : Rz 3 a2) (hb2 : Rz 3 b2) (hc : Rz 3 c) (hp1 : Rz 3 p1) (hq1 : Rz 3 q1) (hp2 : Rz 3 p2) (hq2 : Rz 3 q2) (hr : Rz 3 r) : Ok Tryz.prog 27 [.a (cR a1 ++ cR b1 ++ cR a2 ++ cR b2 ++ cR c), .a (cR p1 ++ cR q1 ++ cR p2 ++ cR q2 ++ cR r)] [.c (.b (cmpPt a1 b1 a2 b2 c p1 q1 p2 q2 r == 0))] := by
  refine Ok.of (by kernel_rfl) Tryz.func27 rfl rfl ?_
  rw [show Tryz.f27.ntmps = 9 from rfl, show Tryz.f27.results.toList = [.tmp 4] from rfl]
  refine dw_seq ?_
  -- region 0
  refine dw_region (by kernel_rfl) ?_
  refine dl_new (sem_box_a rfl rfl) rfl ?_
  refine dl_new (sem_box_a rfl rfl) rfl ?_
  refine dl_r (sem_assign rfl rfl) ?_
  refine dl_end ?_
  refine dw_seq ?_
  -- region 1
  refine dw_region (by kernel_rfl) ?_
  refine dl_r (sem_load (us := (cR a1 ++ cR b1 ++ cR a2 ++ cR b2 ++ cR c)) ty32 rfl rfl rfl rfl rfl) ?_
  refine dl_r (sem_load (us := (cR p1 ++ cR q1 ++ cR p2 ++ cR q2 ++ cR r)) ty32 rfl rfl rfl rfl rfl) ?_
  refine dl_r (sem_call rfl rfl (rpCompare_ok (by assumption) (by assumption) (by assumption) (by assumption) (by assumption) (by assumption) (by assumption) (by assumption) (by assumption) (by assumption)) rfl) ?_
  refine dl_r (sem_cmp rfl rfl rfl rfl) ?_
  refine dl_r (sem_assign rfl rfl) ?_
  refine dl_end ?_
  refine dw_ret ?_
  exact ⟨.inr rfl, (resL_tmp rfl resL_nil)⟩
theorem rrSq_ok {a b c : Rat} (ha : Rz 50 a) (hb : Rz 50 b) (hc : Rz 50 c) : Ok Tryz.prog 66 [.a (cR a ++ cR b ++ cR c)] [.a (cR (a * a + b * b * cc b c c) ++ cR (rB (a * b + b * a) (cc b c c)) ++ cR (rC (a * b + b * a) (cc b c c)))] := by
  have hbad : ¬ bad b c b c := fun h => h.2.2 rfl
  refine Ok.of (by kernel_rfl) Tryz.func66 rfl rfl ?_
  rw [show Tryz.f66.ntmps = 12 from rfl, show Tryz.f66.results.toList = [.cell 2 28] from rfl]
  refine dw_seq ?_
  -- region 0
  refine dw_region (by kernel_rfl) ?_
  refine dl_new (sem_box_a rfl rfl) rfl ?_
  refine dl_new (sem_alloc zc28 rfl) rfl ?_
  refine dl_end ?_
  refine dw_seq ?_
  -- region 1
  refine dw_region (by kernel_rfl) ?_
  refine dl_r (sem_load (us := (cR a ++ cR b ++ cR c)) ty28 rfl rfl rfl rfl rfl) ?_
  refine dl_r (sem_load (us := (cR a ++ cR b ++ cR c)) ty28 rfl rfl rfl rfl rfl) ?_
  refine dl_r (sem_call rfl rfl (rrMul_ok ha hb hc ha hb hc hbad) rfl) ?_
  refine dl_r (sem_move rfl rfl) ?_
  refine dl_r (sem_extract rfl rfl rfl) ?_
  refine dl_r (sem_extract rfl rfl rfl) ?_
  refine dl_new (sem_alloc zc28 rfl) rfl ?_
  refine dl_st (sem_store_a ty28 rfl rfl rfl rfl rfl rfl) ?_
  refine dl_r (sem_assign rfl rfl) ?_
  refine dl_end ?_
  refine dw_seq ?_
  -- region 2
  refine dw_region (by kernel_rfl) ?_
  refine dl_r (sem_load (us := (cR (a * a + b * b * cc b c c) ++ cR (rB (a * b + b * a) (cc b c c)) ++ cR (rC (a * b + b * a) (cc b c c)))) ty28 rfl rfl rfl rfl rfl) ?_
  refine dl_st (sem_store_a ty28 rfl rfl rfl rfl rfl rfl) ?_
  refine dl_end ?_
  refine dw_ret ?_
  exact ⟨.inr rfl, (resL_cell (us := (cR (a * a + b * b * cc b c c) ++ cR (rB (a * b + b * a) (cc b c c)) ++ cR (rC (a * b + b * a) (cc b c c)))) ty28 rfl rfl rfl rfl resL_nil)⟩
end Go.Proofs.YthpalcfhhicmgaaGreat
/- Plain: the program's order of points. -/
namespace Go.Proofs.YthpalcfhhicmgaaGreat
open Go Go.RowKit
def cmpCP (a b c p q r : Rat) : Int := cmpP a b (zc b c) p q (zc q r)
def cmpPP (a1 b1 a2 b2 c p1 q1 p2 q2 r : Rat) : Int := if cmpP a1 b1 (zc b1 c) p1 q1 (zc q1 r) ≠ 0 then cmpP a1 b1 (zc b1 c) p1 q1 (zc q1 r) else cmpP a2 b2 (zc b2 c) p2 q2 (zc q2 r)
theorem cmpPP_t {a1 b1 a2 b2 c p1 q1 p2 q2 r : Rat} (h : (cmpP a1 b1 (zc b1 c) p1 q1 (zc q1 r) != 0) = true) : cmpPP a1 b1 a2 b2 c p1 q1 p2 q2 r = cmpP a1 b1 (zc b1 c) p1 q1 (zc q1 r) := by unfold cmpPP; rw [if_pos (by simpa using h)]
theorem cmpPP_f {a1 b1 a2 b2 c p1 q1 p2 q2 r : Rat} (h : (cmpP a1 b1 (zc b1 c) p1 q1 (zc q1 r) != 0) = false) : cmpPP a1 b1 a2 b2 c p1 q1 p2 q2 r = cmpP a2 b2 (zc b2 c) p2 q2 (zc q2 r) := by unfold cmpPP; rw [if_neg (by simpa using h)]
end Go.Proofs.YthpalcfhhicmgaaGreat
/- point.Compare, Equal, Square. -/
namespace Go.Proofs.YthpalcfhhicmgaaGreat
open Go Go.RowKit
theorem ptCompare_ok {a1 b1 a2 b2 c p1 q1 p2 q2 r : Rat} (ha1 : Rz 100 a1) (hb1 : Rz 8 b1) (ha2 : Rz 100 a2) (hb2 : Rz 8 b2) (hc : Rz 8 c) (hp1 : Rz 100 p1) (hq1 : Rz 8 q1) (hp2 : Rz 100 p2) (hq2 : Rz 8 q2) (hr : Rz 8 r) (s1 : Rz 8 (a1 - p1)) (s2 : Rz 8 (a2 - p2)) : Ok Tryz.prog 20 [.a (cR a1 ++ cR b1 ++ cR a2 ++ cR b2 ++ cR c), .a (cR p1 ++ cR q1 ++ cR p2 ++ cR q2 ++ cR r)] [.c (.i .i64 (cmpPP a1 b1 a2 b2 c p1 q1 p2 q2 r))] := by
  have kb1 : Rz 8 (zc b1 c) := Rz.zc hc (by decide)
  have kb2 : Rz 8 (zc b2 c) := Rz.zc hc (by decide)
  have kq1 : Rz 8 (zc q1 r) := Rz.zc hr (by decide)
  have kq2 : Rz 8 (zc q2 r) := Rz.zc hr (by decide)
  refine Ok.of (by kernel_rfl) Tryz.func20 rfl rfl ?_
  rw [show Tryz.f20.ntmps = 19 from rfl, show Tryz.f20.results.toList = [.tmp 4] from rfl]
  refine dw_seq ?_
  -- region 0
  refine dw_region (by kernel_rfl) ?_
  refine dl_new (sem_box_a rfl rfl) rfl ?_
  refine dl_new (sem_box_a rfl rfl) rfl ?_
  refine dl_r (sem_assign rfl rfl) ?_
  refine dl_end ?_
  refine dw_seq ?_
  refine dw_seq ?_
  -- region 1
  refine dw_draw 6 [] follows_mixed (by kernel_rfl) rfl rfl ?_
  refine dq_r (sem_load (us := (cR a1 ++ cR b1 ++ cR a2 ++ cR b2 ++ cR c)) ty32 rfl rfl rfl rfl rfl) ?_
  refine dq_r (sem_call rfl rfl (ptX_ok) rfl) ?_
  refine dq_r (sem_load (us := (cR p1 ++ cR q1 ++ cR p2 ++ cR q2 ++ cR r)) ty32 rfl rfl rfl rfl rfl) ?_
  refine dq_r (sem_call rfl rfl (ptX_ok) rfl) ?_
  refine dq_r (sem_call rfl rfl (xCmp_ok (by assumption) (by assumption) (by assumption) (by assumption) (by assumption) (by assumption) (by assumption)) rfl) ?_
  refine dq_r (sem_assign rfl rfl) ?_
  refine dq_end ?_
  refine dl_start0 ?_
  refine dl_end ?_
  refine dw_seq ?_
  -- region 2
  refine dw_region (by kernel_rfl) ?_
  refine dl_r (sem_move rfl rfl) ?_
  refine dl_r (sem_cmp rfl rfl rfl rfl) ?_
  refine dl_end ?_
  refine dw_cond rfl (fun hc1 => ?_) (fun hc1 => ?_)
  · refine dw_seq ?_
    -- region 3
    refine dw_region (by kernel_rfl) ?_
    refine dl_r (sem_move rfl rfl) ?_
    refine dl_r (sem_assign rfl rfl) ?_
    refine dl_end ?_
    refine dw_ret ?_
    -- path T
    rw [cmpPP_t hc1]
    exact ⟨.inr rfl, (resL_tmp rfl resL_nil)⟩
  · refine dw_skip ?_
    refine dw_seq ?_
    -- region 4
    refine dw_draw 6 [] follows_mixed (by kernel_rfl) rfl rfl ?_
    refine dq_r (sem_load (us := (cR a1 ++ cR b1 ++ cR a2 ++ cR b2 ++ cR c)) ty32 rfl rfl rfl rfl rfl) ?_
    refine dq_r (sem_call rfl rfl (ptY_ok) rfl) ?_
    refine dq_r (sem_load (us := (cR p1 ++ cR q1 ++ cR p2 ++ cR q2 ++ cR r)) ty32 rfl rfl rfl rfl rfl) ?_
    refine dq_r (sem_call rfl rfl (ptY_ok) rfl) ?_
    refine dq_r (sem_call rfl rfl (xCmp_ok (by assumption) (by assumption) (by assumption) (by assumption) (by assumption) (by assumption) (by assumption)) rfl) ?_
    refine dq_r (sem_assign rfl rfl) ?_
    refine dq_end ?_
    refine dl_start0 ?_
    refine dl_end ?_
    refine dw_ret ?_
    -- path F
    rw [cmpPP_f hc1]
    exact ⟨.inr rfl, (resL_tmp rfl resL_nil)⟩
theorem ptEqual_ok {a1 b1 a2 b2 c p1 q1 p2 q2 r : Rat} (ha1 : Rz 100 a1) (hb1 : Rz 8 b1) (ha2 : Rz 100 a2) (hb2 : Rz 8 b2) (hc : Rz 8 c) (hp1 : Rz 100 p1) (hq1 : Rz 8 q1) (hp2 : Rz 100 p2) (hq2 : Rz 8 q2) (hr : Rz 8 r) (s1 : Rz 8 (a1 - p1)) (s2 : Rz 8 (a2 - p2)) : Ok Tryz.prog 22 [.a (cR a1 ++ cR b1 ++ cR a2 ++ cR b2 ++ cR c), .a (cR p1 ++ cR q1 ++ cR p2 ++ cR q2 ++ cR r)] [.c (.b (cmpPP a1 b1 a2 b2 c p1 q1 p2 q2 r == 0))] := by
  refine Ok.of (by kernel_rfl) Tryz.func22 rfl rfl ?_
  rw [show Tryz.f22.ntmps = 9 from rfl, show Tryz.f22.results.toList = [.tmp 4] from rfl]
  refine dw_seq ?_
  -- region 0
  refine dw_region (by kernel_rfl) ?_
  refine dl_new (sem_box_a rfl rfl) rfl ?_
  refine dl_new (sem_box_a rfl rfl) rfl ?_
  refine dl_r (sem_assign rfl rfl) ?_
  refine dl_end ?_
  refine dw_seq ?_
  -- region 1
  refine dw_region (by kernel_rfl) ?_
  refine dl_r (sem_load (us := (cR a1 ++ cR b1 ++ cR a2 ++ cR b2 ++ cR c)) ty32 rfl rfl rfl rfl rfl) ?_
  refine dl_r (sem_load (us := (cR p1 ++ cR q1 ++ cR p2 ++ cR q2 ++ cR r)) ty32 rfl rfl rfl rfl rfl) ?_
  refine dl_r (sem_call rfl rfl (ptCompare_ok (by assumption) (by assumption) (by assumption) (by assumption) (by assumption) (by assumption) (by assumption) (by assumption) (by assumption) (by assumption) (by assumption) (by assumption)) rfl) ?_
  refine dl_r (sem_cmp rfl rfl rfl rfl) ?_
  refine dl_r (sem_assign rfl rfl) ?_
  refine dl_end ?_
  refine dw_ret ?_
  -- path 
  exact ⟨.inr rfl, (resL_tmp rfl resL_nil)⟩
theorem ptSquare_ok {a1 b1 a2 b2 c : Rat} {v w : Rat} (ha1 : Rz 20 a1) (hb1 : Rz 20 b1) (ha2 : Rz 20 a2) (hb2 : Rz 20 b2) (hc : Rz 20 c) (hv : Rz 20 v) (hw : Rz 20 w) : Ok Tryz.prog 24 [.a (cR a1 ++ cR b1 ++ cR a2 ++ cR b2 ++ cR c), .a (cR v ++ cR w)] [.a (cR ((a1 - v) * (a1 - v) + (a2 - w) * (a2 - w) + (b1 * b1 + b2 * b2) * c) ++ cR (((a1 - v) * b1 + (a2 - w) * b2) + ((a1 - v) * b1 + (a2 - w) * b2)) ++ cR (zc (((a1 - v) * b1 + (a2 - w) * b2) + ((a1 - v) * b1 + (a2 - w) * b2)) c))] := by
  refine Ok.of (by kernel_rfl) Tryz.func24 rfl rfl ?_
  rw [show Tryz.f24.ntmps = 65 from rfl, show Tryz.f24.results.toList = [.cell 4 28] from rfl]
  refine dw_seq ?_
  -- region 0
  refine dw_region (by kernel_rfl) ?_
  refine dl_new (sem_box_a rfl rfl) rfl ?_
  refine dl_new (sem_box_a rfl rfl) rfl ?_
  refine dl_new (sem_alloc zc28 rfl) rfl ?_
  refine dl_end ?_
  refine dw_seq ?_
  -- region 1
  refine dw_draw 12 [] follows_mixed (by kernel_rfl) rfl rfl ?_
  refine dq_r (sem_field fd32_0 rfl rfl) ?_
  refine dq_r (sem_load (us := cR a1) ty26 rfl rfl rfl rfl rfl) ?_
  refine dq_r (sem_field fd42_0 rfl rfl) ?_
  refine dq_r (sem_load (us := cR v) ty26 rfl rfl rfl rfl rfl) ?_
  refine dq_r (sem_call rfl rfl (pSub_ok (by first | assumption | exact Rz.mono ha1 (by decide)) (by first | assumption | exact Rz.mono hv (by decide))) rfl) ?_
  refine dq_r (sem_field fd32_2 rfl rfl) ?_
  refine dq_r (sem_load (us := cR a2) ty26 rfl rfl rfl rfl rfl) ?_
  refine dq_r (sem_field fd42_1 rfl rfl) ?_
  refine dq_r (sem_load (us := cR w) ty26 rfl rfl rfl rfl rfl) ?_
  refine dq_r (sem_call rfl rfl (pSub_ok (by first | assumption | exact Rz.mono ha2 (by decide)) (by first | assumption | exact Rz.mono hw (by decide))) rfl) ?_
  refine dq_new (sem_alloc zc26 rfl) rfl ?_
  refine dq_new (sem_alloc zc26 rfl) rfl ?_
  refine dq_end ?_
  refine dl_start2 ?_
  refine dl_st (sem_store_a ty26 rfl rfl rfl rfl rfl rfl) ?_
  refine dl_st (sem_store_a ty26 rfl rfl rfl rfl rfl rfl) ?_
  refine dl_end ?_
  refine dw_seq ?_
  -- region 2
  refine dw_region (by kernel_rfl) ?_
  refine dl_r (sem_assign rfl rfl) ?_
  refine dl_end ?_
  refine dw_seq ?_
  -- region 3
  refine dw_draw 28 [] follows_mixed (by kernel_rfl) rfl rfl ?_
  refine dq_r (sem_move rfl rfl) ?_
  refine dq_r (sem_load (us := cR (a1 - v)) ty26 rfl rfl rfl rfl rfl) ?_
  refine dq_r (sem_load (us := cR (a1 - v)) ty26 rfl rfl rfl rfl rfl) ?_
  refine dq_r (sem_call rfl rfl (pMul_ok (by first | assumption | exact Rz.mono (Rz.sub ha1 hv) (by decide)) (by first | assumption | exact Rz.mono (Rz.sub ha1 hv) (by decide))) rfl) ?_
  refine dq_r (sem_move rfl rfl) ?_
  refine dq_r (sem_load (us := cR (a2 - w)) ty26 rfl rfl rfl rfl rfl) ?_
  refine dq_r (sem_load (us := cR (a2 - w)) ty26 rfl rfl rfl rfl rfl) ?_
  refine dq_r (sem_call rfl rfl (pMul_ok (by first | assumption | exact Rz.mono (Rz.sub ha2 hw) (by decide)) (by first | assumption | exact Rz.mono (Rz.sub ha2 hw) (by decide))) rfl) ?_
  refine dq_r (sem_call rfl rfl (pAdd_ok (by first | assumption | exact Rz.mono (Rz.mul (Rz.sub ha1 hv) (Rz.sub ha1 hv)) (by decide)) (by first | assumption | exact Rz.mono (Rz.mul (Rz.sub ha2 hw) (Rz.sub ha2 hw)) (by decide))) rfl) ?_
  refine dq_r (sem_move rfl rfl) ?_
  refine dq_r (sem_move rfl rfl) ?_
  refine dq_r (sem_field fd32_1 rfl rfl) ?_
  refine dq_r (sem_load (us := cR b1) ty26 rfl rfl rfl rfl rfl) ?_
  refine dq_r (sem_field fd32_1 rfl rfl) ?_
  refine dq_r (sem_load (us := cR b1) ty26 rfl rfl rfl rfl rfl) ?_
  refine dq_r (sem_call rfl rfl (pMul_ok (by first | assumption | exact Rz.mono hb1 (by decide)) (by first | assumption | exact Rz.mono hb1 (by decide))) rfl) ?_
  refine dq_r (sem_move rfl rfl) ?_
  refine dq_r (sem_field fd32_3 rfl rfl) ?_
  refine dq_r (sem_load (us := cR b2) ty26 rfl rfl rfl rfl rfl) ?_
  refine dq_r (sem_field fd32_3 rfl rfl) ?_
  refine dq_r (sem_load (us := cR b2) ty26 rfl rfl rfl rfl rfl) ?_
  refine dq_r (sem_call rfl rfl (pMul_ok (by first | assumption | exact Rz.mono hb2 (by decide)) (by first | assumption | exact Rz.mono hb2 (by decide))) rfl) ?_
  refine dq_r (sem_call rfl rfl (pAdd_ok (by first | assumption | exact Rz.mono (Rz.mul hb1 hb1) (by decide)) (by first | assumption | exact Rz.mono (Rz.mul hb2 hb2) (by decide))) rfl) ?_
  refine dq_r (sem_field fd32_4 rfl rfl) ?_
  refine dq_r (sem_load (us := cR c) ty26 rfl rfl rfl rfl rfl) ?_
  refine dq_r (sem_call rfl rfl (pMul_ok (by first | assumption | exact Rz.mono (Rz.add (Rz.mul hb1 hb1) (Rz.mul hb2 hb2)) (by decide)) (by first | assumption | exact Rz.mono hc (by decide))) rfl) ?_
  refine dq_r (sem_call rfl rfl (pAdd_ok (by first | assumption | exact Rz.mono (Rz.add (Rz.mul (Rz.sub ha1 hv) (Rz.sub ha1 hv)) (Rz.mul (Rz.sub ha2 hw) (Rz.sub ha2 hw))) (by decide)) (by first | assumption | exact Rz.mono (Rz.mul (Rz.add (Rz.mul hb1 hb1) (Rz.mul hb2 hb2)) hc) (by decide))) rfl) ?_
  refine dq_new (sem_alloc zc26 rfl) rfl ?_
  refine dq_end ?_
  refine dl_start1 ?_
  refine dl_st (sem_store_a ty26 rfl rfl rfl rfl rfl rfl) ?_
  refine dl_end ?_
  refine dw_seq ?_
  -- region 4
  refine dw_draw 12 [] follows_mixed (by kernel_rfl) rfl rfl ?_
  refine dq_r (sem_move rfl rfl) ?_
  refine dq_r (sem_load (us := cR (a1 - v)) ty26 rfl rfl rfl rfl rfl) ?_
  refine dq_r (sem_field fd32_1 rfl rfl) ?_
  refine dq_r (sem_load (us := cR b1) ty26 rfl rfl rfl rfl rfl) ?_
  refine dq_r (sem_call rfl rfl (pMul_ok (by first | assumption | exact Rz.mono (Rz.sub ha1 hv) (by decide)) (by first | assumption | exact Rz.mono hb1 (by decide))) rfl) ?_
  refine dq_r (sem_move rfl rfl) ?_
  refine dq_r (sem_load (us := cR (a2 - w)) ty26 rfl rfl rfl rfl rfl) ?_
  refine dq_r (sem_field fd32_3 rfl rfl) ?_
  refine dq_r (sem_load (us := cR b2) ty26 rfl rfl rfl rfl rfl) ?_
  refine dq_r (sem_call rfl rfl (pMul_ok (by first | assumption | exact Rz.mono (Rz.sub ha2 hw) (by decide)) (by first | assumption | exact Rz.mono hb2 (by decide))) rfl) ?_
  refine dq_r (sem_call rfl rfl (pAdd_ok (by first | assumption | exact Rz.mono (Rz.mul (Rz.sub ha1 hv) hb1) (by decide)) (by first | assumption | exact Rz.mono (Rz.mul (Rz.sub ha2 hw) hb2) (by decide))) rfl) ?_
  refine dq_new (sem_alloc zc26 rfl) rfl ?_
  refine dq_end ?_
  refine dl_start1 ?_
  refine dl_st (sem_store_a ty26 rfl rfl rfl rfl rfl rfl) ?_
  refine dl_end ?_
  refine dw_seq ?_
  -- region 5
  refine dw_draw 7 [] follows_mixed (by kernel_rfl) rfl rfl ?_
  refine dq_r (sem_load (us := cR ((((a1 - v) * (a1 - v)) + ((a2 - w) * (a2 - w))) + (((b1 * b1) + (b2 * b2)) * c))) ty26 rfl rfl rfl rfl rfl) ?_
  refine dq_r (sem_load (us := cR (((a1 - v) * b1) + ((a2 - w) * b2))) ty26 rfl rfl rfl rfl rfl) ?_
  refine dq_r (sem_load (us := cR (((a1 - v) * b1) + ((a2 - w) * b2))) ty26 rfl rfl rfl rfl rfl) ?_
  refine dq_r (sem_call rfl rfl (pAdd_ok (by first | assumption | exact Rz.mono (Rz.add (Rz.mul (Rz.sub ha1 hv) hb1) (Rz.mul (Rz.sub ha2 hw) hb2)) (by decide)) (by first | assumption | exact Rz.mono (Rz.add (Rz.mul (Rz.sub ha1 hv) hb1) (Rz.mul (Rz.sub ha2 hw) hb2)) (by decide))) rfl) ?_
  refine dq_r (sem_field fd32_4 rfl rfl) ?_
  refine dq_r (sem_load (us := cR c) ty26 rfl rfl rfl rfl rfl) ?_
  refine dq_r (sem_call rfl rfl (ptCoord_ok) rfl) ?_
  refine dq_end ?_
  refine dl_start0 ?_
  refine dl_st (sem_store_a ty28 rfl rfl rfl rfl rfl rfl) ?_
  refine dl_end ?_
  refine dw_ret ?_
  -- path 
  exact ⟨.inr rfl, (resL_cell (us := (cR ((((a1 - v) * (a1 - v)) + ((a2 - w) * (a2 - w))) + (((b1 * b1) + (b2 * b2)) * c)) ++ cR ((((a1 - v) * b1) + ((a2 - w) * b2)) + (((a1 - v) * b1) + ((a2 - w) * b2))) ++ cR (zc ((((a1 - v) * b1) + ((a2 - w) * b2)) + (((a1 - v) * b1) + ((a2 - w) * b2))) c))) ty28 rfl rfl rfl rfl resL_nil)⟩
end Go.Proofs.YthpalcfhhicmgaaGreat
/- Plain: the root of a square as a number; the zero root. -/
namespace Go.Proofs.YthpalcfhhicmgaaGreat
open Go Go.RowKit
theorem isqI_pos {x : Int} (h : 0 < x) : 0 < isqI x := by
  have h1 := isqI_lt (x := x) (by omega)
  have h2 := isqI_nonneg x
  by_cases e : isqI x = 0
  · rw [e] at h1; omega
  · omega
theorem Rz.rt {k : Nat} {c : Rat} (h : Rz k c) : Rz k (rt c) := Rz.of h.n.isq h.d.isq (by have := isqI_pos (den_pos c); omega)
theorem rt_cells {c : Rat} (h : sqR c = true) : cQ (if sqR c then isqI c.num else 0) (if sqR c then isqI (c.den : Int) else 0) = cR (rt c) := by
  have := rt_data h
  unfold dQ dR at this
  injection this
def zR : List CellD := [.b false, .s 0 [], .b false, .s 0 [], .b false, .s 0 [], .b false, .s 0 [], .b false, .s 0 [], .b false, .s 0 []]
end Go.Proofs.YthpalcfhhicmgaaGreat
/- swarfref03.Make, CmpRat. -/
namespace Go.Proofs.YthpalcfhhicmgaaGreat
open Go Go.RowKit
theorem rrMake_sq {a b c : Rat} (ha : Rz 50 a) (hb : Rz 50 b) (hc : Rz 50 c) (h0 : ¬ c < 0) (hs : sqR c = true) : Ok Tryz.prog 72 [dR a, dR b, dR c] [.a (cR (a + b * rt c) ++ cR 0 ++ cR 0), .c (.i .i64 0)] := by
  have ka : Rz 300 a := ha.mono (by decide)
  have kb : Rz 300 b := hb.mono (by decide)
  have kc : Rz 300 c := hc.mono (by decide)
  have kt : Rz 50 (rt c) := hc.rt
  
  refine Ok.of (by kernel_rfl) Tryz.func72 rfl rfl ?_
  rw [show Tryz.f72.ntmps = 30 from rfl, show Tryz.f72.results.toList = [.cell 6 28, .tmp 7] from rfl]
  refine dw_seq ?_
  -- region 0
  refine dw_region (by kernel_rfl) ?_
  refine dl_new (sem_box_a rfl rfl) rfl ?_
  refine dl_new (sem_box_a rfl rfl) rfl ?_
  refine dl_new (sem_box_a rfl rfl) rfl ?_
  refine dl_new (sem_alloc zc28 rfl) rfl ?_
  refine dl_r (sem_assign rfl rfl) ?_
  refine dl_end ?_
  refine dw_seq ?_
  refine dw_seq ?_
  -- region 1
  refine dw_region (by kernel_rfl) ?_
  refine dl_r (sem_load (us := cR c) ty26 rfl rfl rfl rfl rfl) ?_
  refine dl_r (sem_call rfl rfl (sSign_ok) rfl) ?_
  refine dl_r (sem_cmp rfl rfl rfl rfl) ?_
  refine dl_end ?_
  refine dw_cond rfl (fun hc1 => ?_) (fun hc1 => ?_)
  · exact absurd (r_lt hc1) h0
  · refine dw_skip ?_
    refine dw_seq ?_
    refine dw_seq ?_
    -- region 3
    refine dw_region (by kernel_rfl) ?_
    refine dl_r (sem_load (us := cR c) ty26 rfl rfl rfl rfl rfl) ?_
    refine dl_r (sem_call rfl rfl (sSqrt_ok (by first | assumption | exact Rz.mono hc (by decide))) rfl) ?_
    refine dl_r (sem_move rfl rfl) ?_
    refine dl_r (sem_extract rfl rfl rfl) ?_
    refine dl_r (sem_extract rfl rfl rfl) ?_
    refine dl_new (sem_alloc zc26 rfl) rfl ?_
    refine dl_st (sem_store_a ty26 rfl rfl rfl rfl rfl rfl) ?_
    refine dl_r (sem_assign rfl rfl) ?_
    refine dl_end ?_
    refine dw_seq ?_
    -- region 4
    refine dw_region (by kernel_rfl) ?_
    refine dl_r (sem_move rfl rfl) ?_
    refine dl_end ?_
    refine dw_cond rfl (fun hc2 => ?_) (fun hc2 => ?_)
    · refine Dw.weak (σ' := ⟨30, [(3, .p 3 0), (4, .p 4 0), (6, .p 6 0), (8, .p 8 0)], [(3, 26, cR a), (4, 26, cR b), (6, 28, zR), (8, 26, cR (rt c))]⟩) (sub_of ⟨rfl, rfl, rfl, rfl, trivial⟩ ⟨rfl, rfl, rfl, by rw [← rt_cells hs]; rfl, trivial⟩ rfl) ?_
      refine dw_seq ?_
      -- region 5
      refine dw_draw 6 [] follows_mixed (by kernel_rfl) rfl rfl ?_
      refine dq_r (sem_load (us := cR a) ty26 rfl rfl rfl rfl rfl) ?_
      refine dq_r (sem_load (us := cR b) ty26 rfl rfl rfl rfl rfl) ?_
      refine dq_r (sem_load (us := cR (rt c)) ty26 rfl rfl rfl rfl rfl) ?_
      refine dq_r (sem_call rfl rfl (sMul_ok (by first | assumption | exact Rz.mono hb (by decide)) (by first | assumption | exact Rz.mono (by assumption) (by decide))) rfl) ?_
      refine dq_r (sem_call rfl rfl (sAdd_ok (by first | assumption | exact Rz.mono ha (by decide)) (by first | assumption | exact Rz.mono (Rz.mul hb (by assumption)) (by decide))) rfl) ?_
      refine dq_r (sem_call rfl rfl (rrFromRat_ok) rfl) ?_
      refine dq_end ?_
      refine dl_start0 ?_
      refine dl_st (sem_store_a ty28 rfl rfl rfl rfl rfl rfl) ?_
      refine dl_r (sem_assign rfl rfl) ?_
      refine dl_end ?_
      refine dw_ret ?_
      exact ⟨.inr rfl, (resL_cell (us := (cR (a + (b * (rt c))) ++ cR 0 ++ cR 0)) ty28 rfl rfl rfl rfl (resL_tmp rfl resL_nil))⟩
    · exact absurd hs (by rw [hc2]; decide)
theorem rrMake_ns {a b c : Rat} (ha : Rz 50 a) (hb : Rz 50 b) (hc : Rz 50 c) (h0 : ¬ c < 0) (hs : sqR c = false) : Ok Tryz.prog 72 [dR a, dR b, dR c] [.a (cR a ++ cR (rB b c) ++ cR (rC b c)), .c (.i .i64 0)] := by
  have ka : Rz 300 a := ha.mono (by decide)
  have kb : Rz 300 b := hb.mono (by decide)
  have kc : Rz 300 c := hc.mono (by decide)
  have kt : Rz 50 (rt c) := hc.rt
  
  refine Ok.of (by kernel_rfl) Tryz.func72 rfl rfl ?_
  rw [show Tryz.f72.ntmps = 30 from rfl, show Tryz.f72.results.toList = [.cell 6 28, .tmp 7] from rfl]
  refine dw_seq ?_
  -- region 0
  refine dw_region (by kernel_rfl) ?_
  refine dl_new (sem_box_a rfl rfl) rfl ?_
  refine dl_new (sem_box_a rfl rfl) rfl ?_
  refine dl_new (sem_box_a rfl rfl) rfl ?_
  refine dl_new (sem_alloc zc28 rfl) rfl ?_
  refine dl_r (sem_assign rfl rfl) ?_
  refine dl_end ?_
  refine dw_seq ?_
  refine dw_seq ?_
  -- region 1
  refine dw_region (by kernel_rfl) ?_
  refine dl_r (sem_load (us := cR c) ty26 rfl rfl rfl rfl rfl) ?_
  refine dl_r (sem_call rfl rfl (sSign_ok) rfl) ?_
  refine dl_r (sem_cmp rfl rfl rfl rfl) ?_
  refine dl_end ?_
  refine dw_cond rfl (fun hc1 => ?_) (fun hc1 => ?_)
  · exact absurd (r_lt hc1) h0
  · refine dw_skip ?_
    refine dw_seq ?_
    refine dw_seq ?_
    -- region 3
    refine dw_region (by kernel_rfl) ?_
    refine dl_r (sem_load (us := cR c) ty26 rfl rfl rfl rfl rfl) ?_
    refine dl_r (sem_call rfl rfl (sSqrt_ok (by first | assumption | exact Rz.mono hc (by decide))) rfl) ?_
    refine dl_r (sem_move rfl rfl) ?_
    refine dl_r (sem_extract rfl rfl rfl) ?_
    refine dl_r (sem_extract rfl rfl rfl) ?_
    refine dl_new (sem_alloc zc26 rfl) rfl ?_
    refine dl_st (sem_store_a ty26 rfl rfl rfl rfl rfl rfl) ?_
    refine dl_r (sem_assign rfl rfl) ?_
    refine dl_end ?_
    refine dw_seq ?_
    -- region 4
    refine dw_region (by kernel_rfl) ?_
    refine dl_r (sem_move rfl rfl) ?_
    refine dl_end ?_
    refine dw_cond rfl (fun hc2 => ?_) (fun hc2 => ?_)
    · exact absurd hc2 (by rw [hs]; decide)
    · refine dw_skip ?_
      refine dw_seq ?_
      -- region 6
      refine dw_region (by kernel_rfl) ?_
      refine dl_r (sem_load (us := cR a) ty26 rfl rfl rfl rfl rfl) ?_
      refine dl_r (sem_load (us := cR b) ty26 rfl rfl rfl rfl rfl) ?_
      refine dl_r (sem_load (us := cR c) ty26 rfl rfl rfl rfl rfl) ?_
      refine dl_r (sem_call rfl rfl (rrReduced_ok) rfl) ?_
      refine dl_st (sem_store_a ty28 rfl rfl rfl rfl rfl rfl) ?_
      refine dl_r (sem_assign rfl rfl) ?_
      refine dl_end ?_
      refine dw_ret ?_
      exact ⟨.inr rfl, (resL_cell (us := (cR a ++ cR (rB b c) ++ cR (rC b c))) ty28 rfl rfl rfl rfl (resL_tmp rfl resL_nil))⟩
theorem rrCmpRat_ok {a b c d : Rat} (ha : Rz 20 a) (hb : Rz 20 b) (hc : Rz 20 c) (hd : Rz 20 d) : Ok Tryz.prog 83 [.a (cR a ++ cR b ++ cR c), dR d] [.c (.i .i64 (s3 (a + -d) b c))] := by
  have ka : Rz 300 a := ha.mono (by decide)
  have kd : Rz 300 (-d) := hd.neg.mono (by decide)
  have m1 : Rz 50 (a + -d) := (ha.add hd.neg).mono (by decide)
  have m2 : Rz 50 b := hb.mono (by decide)
  have m3 : Rz 50 c := hc.mono (by decide)
  refine Ok.of (by kernel_rfl) Tryz.func83 rfl rfl ?_
  rw [show Tryz.f83.ntmps = 10 from rfl, show Tryz.f83.results.toList = [.tmp 4] from rfl]
  refine dw_seq ?_
  -- region 0
  refine dw_region (by kernel_rfl) ?_
  refine dl_new (sem_box_a rfl rfl) rfl ?_
  refine dl_new (sem_box_a rfl rfl) rfl ?_
  refine dl_r (sem_assign rfl rfl) ?_
  refine dl_end ?_
  refine dw_seq ?_
  -- region 1
  refine dw_draw 6 [] follows_mixed (by kernel_rfl) rfl rfl ?_
  refine dq_r (sem_load (us := (cR a ++ cR b ++ cR c)) ty28 rfl rfl rfl rfl rfl) ?_
  refine dq_r (sem_load (us := cR d) ty26 rfl rfl rfl rfl rfl) ?_
  refine dq_r (sem_call rfl rfl (sNeg_ok (by first | assumption | exact Rz.mono hd (by decide))) rfl) ?_
  refine dq_r (sem_call rfl rfl (rrAddRat_ok (by assumption) (by assumption)) rfl) ?_
  refine dq_r (sem_call rfl rfl (rrSign_ok (by assumption) (by assumption) (by assumption)) rfl) ?_
  refine dq_r (sem_assign rfl rfl) ?_
  refine dq_end ?_
  refine dl_start0 ?_
  refine dl_end ?_
  refine dw_ret ?_
  exact ⟨.inr rfl, (resL_tmp rfl resL_nil)⟩
end Go.Proofs.YthpalcfhhicmgaaGreat
