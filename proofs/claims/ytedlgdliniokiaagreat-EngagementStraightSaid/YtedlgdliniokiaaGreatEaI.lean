/- Package swarfref01: the functions on numbers. -/
import Derived.Test.YtedlgdliniokiaaGreatEaH
namespace Go.Proofs.YtedlgdliniokiaaGreat
open Go Go.RowKit
theorem nSign_ok {x : Int} : Ok Tryz.prog 78 [dI x] [.c (.i .i64 (cmpI x 0))] := by
  refine Ok.of (by kernel_rfl) Tryz.func78 rfl rfl ?_
  rw [show Tryz.f78.ntmps = 9 from rfl, show Tryz.f78.results.toList = [.tmp 2] from rfl]
  refine dw_seq ?_
  -- region 0
  refine dw_region (by kernel_rfl) ?_
  refine dl_new (sem_box_a rfl rfl) rfl ?_
  refine dl_r (sem_assign rfl rfl) ?_
  refine dl_end ?_
  refine dw_seq ?_
  refine dw_seq ?_
  -- region 1
  refine dw_region (by kernel_rfl) ?_
  refine dl_r (sem_field fd26_1 rfl rfl) ?_
  refine dl_r (sem_load1 ty24 rfl rfl rfl rfl) ?_
  refine dl_r (sem_len sl24 rfl rfl) ?_
  refine dl_r (sem_cmp rfl rfl rfl rfl) ?_
  refine dl_end ?_
  refine dw_cond rfl (fun hc1 => ?_) (fun hc1 => ?_)
  · refine dw_seq ?_
    -- region 2
    refine dw_region (by kernel_rfl) ?_
    refine dl_r (sem_assign rfl rfl) ?_
    refine dl_end ?_
    refine dw_ret ?_
    -- path T
    rw [cmp_eq (by have := hc1; simp [lim_eq_nil] at this; omega)]
    exact ⟨.inr rfl, (resL_tmp rfl resL_nil)⟩
  · refine dw_skip ?_
    refine dw_seq ?_
    refine dw_seq ?_
    -- region 3
    refine dw_region (by kernel_rfl) ?_
    refine dl_r (sem_field fd26_0 rfl rfl) ?_
    refine dl_r (sem_load1 ty4 rfl rfl rfl rfl) ?_
    refine dl_end ?_
    refine dw_cond rfl (fun hc2 => ?_) (fun hc2 => ?_)
    · refine dw_seq ?_
      -- region 4
      refine dw_region (by kernel_rfl) ?_
      refine dl_r (sem_assign rfl rfl) ?_
      refine dl_end ?_
      refine dw_ret ?_
      -- path FT
      rw [cmp_lt (by simpa using hc2)]
      exact ⟨.inr rfl, (resL_tmp rfl resL_nil)⟩
    · refine dw_skip ?_
      refine dw_seq ?_
      -- region 5
      refine dw_region (by kernel_rfl) ?_
      refine dl_r (sem_assign rfl rfl) ?_
      refine dl_end ?_
      refine dw_ret ?_
      -- path FF
      rw [cmp_gt (by have := hc1; have h2 := hc2; simp [lim_eq_nil] at this h2; omega)]
      exact ⟨.inr rfl, (resL_tmp rfl resL_nil)⟩
theorem nCmp_ok {x y : Int} (hx : Sz 1000000 x) (hy : Sz 1000000 y) : Ok Tryz.prog 80 [dI x, dI y] [.c (.i .i64 (cmpI x y))] := by
  refine Ok.of (by kernel_rfl) Tryz.func80 rfl rfl ?_
  rw [show Tryz.f80.ntmps = 24 from rfl, show Tryz.f80.results.toList = [.tmp 4] from rfl]
  refine dw_seq ?_
  -- region 0
  refine dw_region (by kernel_rfl) ?_
  refine dl_new (sem_box_a rfl rfl) rfl ?_
  refine dl_new (sem_box_a rfl rfl) rfl ?_
  refine dl_r (sem_assign rfl rfl) ?_
  refine dl_end ?_
  refine dw_seq ?_
  refine dw_seq ?_
  -- region 1
  refine dw_region (by kernel_rfl) ?_
  refine dl_r (sem_field fd26_0 rfl rfl) ?_
  refine dl_r (sem_load1 ty4 rfl rfl rfl rfl) ?_
  refine dl_r (sem_field fd26_0 rfl rfl) ?_
  refine dl_r (sem_load1 ty4 rfl rfl rfl rfl) ?_
  refine dl_r (sem_bneq rfl rfl ty_bool rfl) ?_
  refine dl_end ?_
  refine dw_cond rfl (fun hc1 => ?_) (fun hc1 => ?_)
  · refine dw_seq ?_
    refine dw_seq ?_
    -- region 2
    refine dw_region (by kernel_rfl) ?_
    refine dl_r (sem_field fd26_0 rfl rfl) ?_
    refine dl_r (sem_load1 ty4 rfl rfl rfl rfl) ?_
    refine dl_end ?_
    refine dw_cond rfl (fun hc2 => ?_) (fun hc2 => ?_)
    · refine dw_seq ?_
      -- region 3
      refine dw_region (by kernel_rfl) ?_
      refine dl_r (sem_assign rfl rfl) ?_
      refine dl_end ?_
      refine dw_ret ?_
      -- path TT
      rw [cmp_lt (by have := sgn_ne hc1; have h2 := hc2; simp only [decide_eq_true_eq] at h2; omega)]
      exact ⟨.inr rfl, (resL_tmp rfl resL_nil)⟩
    · refine dw_skip ?_
      refine dw_seq ?_
      -- region 4
      refine dw_region (by kernel_rfl) ?_
      refine dl_r (sem_assign rfl rfl) ?_
      refine dl_end ?_
      refine dw_ret ?_
      -- path TF
      rw [cmp_gt (by have := sgn_ne hc1; have h2 := hc2; simp only [decide_eq_false_iff_not] at h2; omega)]
      exact ⟨.inr rfl, (resL_tmp rfl resL_nil)⟩
  · refine dw_skip ?_
    refine dw_seq ?_
    refine dw_seq ?_
    -- region 5
    refine dw_region (by kernel_rfl) ?_
    refine dl_r (sem_field fd26_0 rfl rfl) ?_
    refine dl_r (sem_load1 ty4 rfl rfl rfl rfl) ?_
    refine dl_end ?_
    refine dw_cond rfl (fun hc3 => ?_) (fun hc3 => ?_)
    · refine dw_seq ?_
      -- region 6
      refine dw_region (by kernel_rfl) ?_
      refine dl_r (sem_field fd26_1 rfl rfl) ?_
      refine dl_r (sem_load1 ty24 rfl rfl rfl rfl) ?_
      refine dl_r (sem_field fd26_1 rfl rfl) ?_
      refine dl_r (sem_load1 ty24 rfl rfl rfl rfl) ?_
      refine dl_r (sem_call rfl rfl (rCompare_c (by assumption) (by assumption)) rfl) ?_
      refine dl_r (sem_assign rfl rfl) ?_
      refine dl_end ?_
      refine dw_ret ?_
      -- path FT
      rw [← cmpI_abs_neg hc3 (by have := sgn_eq hc1; have h2 := hc3; simp only [decide_eq_true_eq] at h2; omega)]
      exact ⟨.inr rfl, (resL_tmp rfl resL_nil)⟩
    · refine dw_skip ?_
      refine dw_seq ?_
      -- region 7
      refine dw_region (by kernel_rfl) ?_
      refine dl_r (sem_field fd26_1 rfl rfl) ?_
      refine dl_r (sem_load1 ty24 rfl rfl rfl rfl) ?_
      refine dl_r (sem_field fd26_1 rfl rfl) ?_
      refine dl_r (sem_load1 ty24 rfl rfl rfl rfl) ?_
      refine dl_r (sem_call rfl rfl (rCompare_c (by assumption) (by assumption)) rfl) ?_
      refine dl_r (sem_assign rfl rfl) ?_
      refine dl_end ?_
      refine dw_ret ?_
      -- path FF
      rw [← cmpI_abs_pos hc3 (by have := sgn_eq hc1; have h2 := hc3; simp only [decide_eq_false_iff_not] at h2; omega)]
      exact ⟨.inr rfl, (resL_tmp rfl resL_nil)⟩
theorem nFrom_ok {x : Int} (h0 : -9223372036854775808 ≤ x) (h1 : x ≤ 9223372036854775807) : Ok Tryz.prog 52 [.c (.i .i64 x)] [dI x] := by
  refine Ok.of (by kernel_rfl) Tryz.func52 rfl rfl ?_
  rw [show Tryz.f52.ntmps = 14 from rfl, show Tryz.f52.results.toList = [.cell 2 26] from rfl]
  refine dw_seq ?_
  -- region 0
  refine dw_region (by kernel_rfl) ?_
  refine dl_new (sem_alloc zc26 rfl) rfl ?_
  refine dl_end ?_
  refine dw_seq ?_
  refine dw_seq ?_
  -- region 1
  refine dw_region (by kernel_rfl) ?_
  refine dl_r (sem_move rfl rfl) ?_
  refine dl_r (sem_cmp rfl rfl rfl rfl) ?_
  refine dl_end ?_
  refine dw_cond rfl (fun hc1 => ?_) (fun hc1 => ?_)
  · have hn : x < 0 := by simpa using hc1
    refine dw_seq ?_
    -- region 2
    refine dw_region (by kernel_rfl) ?_
    refine dl_r (sem_move rfl rfl) ?_
    refine dl_r (sem_conv' (r := x + 18446744073709551616) und2 und104 rfl (wu64_neg hn h0) rfl) ?_
    refine dl_r (sem_neg' (r := -x) rfl (wu64_neg2 hn h0) rfl) ?_
    refine dl_r (sem_call rfl rfl (rLimbs_ok (by omega) (by omega)) rfl) ?_
    refine dl_r (sem_call rfl rfl (rSigned_c (Sz.small3 (by omega) (by omega))) rfl) ?_
    refine dl_st (sem_store_a ty26 rfl rfl rfl rfl rfl rfl) ?_
    refine dl_end ?_
    refine dw_ret ?_
    -- path T
    have hfin : dI x = dI (sg true (((-x).natAbs : Nat) : Int)) := congrArg dI (by rw [sg_true]; omega)
    rw [hfin]
    exact ⟨.inr rfl, (resL_cell (us := cI (sg true (((-x).natAbs : Nat) : Int))) ty26 rfl rfl rfl rfl resL_nil)⟩
  · have hn : 0 ≤ x := by have := hc1; simp at this; omega
    refine dw_skip ?_
    refine dw_seq ?_
    -- region 3
    refine dw_region (by kernel_rfl) ?_
    refine dl_r (sem_move rfl rfl) ?_
    refine dl_r (sem_conv' (r := x) und2 und104 rfl (nwu64 (by omega) (by omega)) rfl) ?_
    refine dl_r (sem_call rfl rfl (rLimbs_ok (by omega) (by omega)) rfl) ?_
    refine dl_r (sem_call rfl rfl (rSigned_c (Sz.small3 (by omega) (by omega))) rfl) ?_
    refine dl_st (sem_store_a ty26 rfl rfl rfl rfl rfl rfl) ?_
    refine dl_end ?_
    refine dw_ret ?_
    -- path F
    have hfin : dI x = dI (sg false ((x.natAbs : Nat) : Int)) := congrArg dI (by rw [sg_false]; omega)
    rw [hfin]
    exact ⟨.inr rfl, (resL_cell (us := cI (sg false ((x.natAbs : Nat) : Int))) ty26 rfl rfl rfl rfl resL_nil)⟩
theorem nNeg_ok {x : Int} (hx : Sz 1000000 x) : Ok Tryz.prog 125 [dI x] [dI (-x)] := by
  refine Ok.of (by kernel_rfl) Tryz.func125 rfl rfl ?_
  rw [show Tryz.f125.ntmps = 9 from rfl, show Tryz.f125.results.toList = [.cell 2 26] from rfl]
  refine dw_seq ?_
  -- region 0
  refine dw_region (by kernel_rfl) ?_
  refine dl_new (sem_box_a rfl rfl) rfl ?_
  refine dl_new (sem_alloc zc26 rfl) rfl ?_
  refine dl_end ?_
  refine dw_seq ?_
  -- region 1
  refine dw_region (by kernel_rfl) ?_
  refine dl_r (sem_field fd26_0 rfl rfl) ?_
  refine dl_r (sem_load1 ty4 rfl rfl rfl rfl) ?_
  refine dl_r (sem_not rfl rfl) ?_
  refine dl_r (sem_field fd26_1 rfl rfl) ?_
  refine dl_r (sem_load1 ty24 rfl rfl rfl rfl) ?_
  refine dl_r (sem_call rfl rfl (rSigned_c (by assumption)) rfl) ?_
  refine dl_st (sem_store_a ty26 rfl rfl rfl rfl rfl rfl) ?_
  refine dl_end ?_
  refine dw_ret ?_
  -- path 
  rw [← sa_not (x := x)]
  exact ⟨.inr rfl, (resL_cell (us := cI (sg (!(decide (x < 0))) ((x.natAbs : Nat) : Int))) ty26 rfl rfl rfl rfl resL_nil)⟩
theorem nMul_ok {x y : Int} (hx : Sz 400000 x) (hy : Sz 400000 y) : Ok Tryz.prog 81 [dI x, dI y] [dI (x * y)] := by
  have hx6 : Sz 1000000 x := hx.mono (by decide)
  have hy6 : Sz 1000000 y := hy.mono (by decide)
  have hp : Sz 1000000 ((x.natAbs : Int) * (y.natAbs : Int)) := ((nat_sz hx).mul (nat_sz hy)).mono (by decide)
  refine Ok.of (by kernel_rfl) Tryz.func81 rfl rfl ?_
  rw [show Tryz.f81.ntmps = 16 from rfl, show Tryz.f81.results.toList = [.cell 4 26] from rfl]
  refine dw_seq ?_
  -- region 0
  refine dw_region (by kernel_rfl) ?_
  refine dl_new (sem_box_a rfl rfl) rfl ?_
  refine dl_new (sem_box_a rfl rfl) rfl ?_
  refine dl_new (sem_alloc zc26 rfl) rfl ?_
  refine dl_end ?_
  refine dw_seq ?_
  -- region 1
  refine dw_draw 11 [] follows_mixed (by kernel_rfl) rfl rfl ?_
  refine dq_r (sem_field fd26_0 rfl rfl) ?_
  refine dq_r (sem_load1 ty4 rfl rfl rfl rfl) ?_
  refine dq_r (sem_field fd26_0 rfl rfl) ?_
  refine dq_r (sem_load1 ty4 rfl rfl rfl rfl) ?_
  refine dq_r (sem_bneq rfl rfl ty_bool rfl) ?_
  refine dq_r (sem_field fd26_1 rfl rfl) ?_
  refine dq_r (sem_load1 ty24 rfl rfl rfl rfl) ?_
  refine dq_r (sem_field fd26_1 rfl rfl) ?_
  refine dq_r (sem_load1 ty24 rfl rfl rfl rfl) ?_
  refine dq_r (sem_call rfl rfl (rTimes_c (by assumption) (by assumption)) rfl) ?_
  refine dq_r (sem_call rfl rfl (rSigned_c (by assumption)) rfl) ?_
  refine dq_end ?_
  refine dl_start0 ?_
  refine dl_st (sem_store_a ty26 rfl rfl rfl rfl rfl rfl) ?_
  refine dl_end ?_
  refine dw_ret ?_
  -- path 
  rw [← sa_mul (x := x) (y := y)]
  exact ⟨.inr rfl, (resL_cell (us := cI (sg (!((decide (x < 0)) == (decide (y < 0)))) ((((x.natAbs : Int) * (y.natAbs : Int)).natAbs : Nat) : Int))) ty26 rfl rfl rfl rfl resL_nil)⟩
theorem nAdd_ok {x y : Int} (hx : Sz 900000 x) (hy : Sz 900000 y) : Ok Tryz.prog 86 [dI x, dI y] [dI (x + y)] := by
  have hx6 : Sz 1000000 x := hx.mono (by decide)
  have hy6 : Sz 1000000 y := hy.mono (by decide)
  have hp : Sz 1000000 ((x.natAbs : Int) + (y.natAbs : Int)) := ((nat_sz (hx.mono (l := 999999) (by decide))).add (nat_sz (hy.mono (by decide)))).mono (by decide)
  refine Ok.of (by kernel_rfl) Tryz.func86 rfl rfl ?_
  rw [show Tryz.f86.ntmps = 40 from rfl, show Tryz.f86.results.toList = [.cell 4 26] from rfl]
  refine dw_seq ?_
  -- region 0
  refine dw_region (by kernel_rfl) ?_
  refine dl_new (sem_box_a rfl rfl) rfl ?_
  refine dl_new (sem_box_a rfl rfl) rfl ?_
  refine dl_new (sem_alloc zc26 rfl) rfl ?_
  refine dl_end ?_
  refine dw_seq ?_
  refine dw_seq ?_
  -- region 1
  refine dw_region (by kernel_rfl) ?_
  refine dl_r (sem_field fd26_0 rfl rfl) ?_
  refine dl_r (sem_load1 ty4 rfl rfl rfl rfl) ?_
  refine dl_r (sem_field fd26_0 rfl rfl) ?_
  refine dl_r (sem_load1 ty4 rfl rfl rfl rfl) ?_
  refine dl_r (sem_beql rfl rfl ty_bool rfl) ?_
  refine dl_end ?_
  refine dw_cond rfl (fun hc1 => ?_) (fun hc1 => ?_)
  · refine dw_seq ?_
    -- region 2
    refine dw_draw 8 [] follows_mixed (by kernel_rfl) rfl rfl ?_
    refine dq_r (sem_field fd26_0 rfl rfl) ?_
    refine dq_r (sem_load1 ty4 rfl rfl rfl rfl) ?_
    refine dq_r (sem_field fd26_1 rfl rfl) ?_
    refine dq_r (sem_load1 ty24 rfl rfl rfl rfl) ?_
    refine dq_r (sem_field fd26_1 rfl rfl) ?_
    refine dq_r (sem_load1 ty24 rfl rfl rfl rfl) ?_
    refine dq_r (sem_call rfl rfl (rPlus_c (by assumption) (by assumption)) rfl) ?_
    refine dq_r (sem_call rfl rfl (rSigned_c (by assumption)) rfl) ?_
    refine dq_end ?_
    refine dl_start0 ?_
    refine dl_st (sem_store_a ty26 rfl rfl rfl rfl rfl rfl) ?_
    refine dl_end ?_
    refine dw_ret ?_
    -- path T
    rw [← sa_same hc1]
    exact ⟨.inr rfl, (resL_cell (us := cI (sg (decide (x < 0)) ((((x.natAbs : Int) + (y.natAbs : Int)).natAbs : Nat) : Int))) ty26 rfl rfl rfl rfl resL_nil)⟩
  · refine dw_skip ?_
    refine dw_seq ?_
    refine dw_seq ?_
    -- region 3
    refine dw_region (by kernel_rfl) ?_
    refine dl_r (sem_field fd26_1 rfl rfl) ?_
    refine dl_r (sem_load1 ty24 rfl rfl rfl rfl) ?_
    refine dl_r (sem_field fd26_1 rfl rfl) ?_
    refine dl_r (sem_load1 ty24 rfl rfl rfl rfl) ?_
    refine dl_r (sem_call rfl rfl (rCompare_c (by assumption) (by assumption)) rfl) ?_
    refine dl_r (sem_cmp rfl rfl rfl rfl) ?_
    refine dl_end ?_
    refine dw_cond rfl (fun hc2 => ?_) (fun hc2 => ?_)
    · have hge := cmpI_ge hc2
      have hq : Sz 1000000 ((x.natAbs : Int) - (y.natAbs : Int)) := hx6.of_le (by omega)
      refine dw_seq ?_
      -- region 4
      refine dw_draw 8 [] follows_mixed (by kernel_rfl) rfl rfl ?_
      refine dq_r (sem_field fd26_0 rfl rfl) ?_
      refine dq_r (sem_load1 ty4 rfl rfl rfl rfl) ?_
      refine dq_r (sem_field fd26_1 rfl rfl) ?_
      refine dq_r (sem_load1 ty24 rfl rfl rfl rfl) ?_
      refine dq_r (sem_field fd26_1 rfl rfl) ?_
      refine dq_r (sem_load1 ty24 rfl rfl rfl rfl) ?_
      refine dq_r (sem_call rfl rfl (rMinus_c (by assumption) (by omega)) rfl) ?_
      refine dq_r (sem_call rfl rfl (rSigned_c (by assumption)) rfl) ?_
      refine dq_end ?_
      refine dl_start0 ?_
      refine dl_st (sem_store_a ty26 rfl rfl rfl rfl rfl rfl) ?_
      refine dl_end ?_
      refine dw_ret ?_
      -- path FT
      rw [← sa_ge hc1 (by omega)]
      exact ⟨.inr rfl, (resL_cell (us := cI (sg (decide (x < 0)) ((((x.natAbs : Int) - (y.natAbs : Int)).natAbs : Nat) : Int))) ty26 rfl rfl rfl rfl resL_nil)⟩
    · have hge := cmpI_lt hc2
      have hq : Sz 1000000 ((y.natAbs : Int) - (x.natAbs : Int)) := hy6.of_le (by omega)
      refine dw_skip ?_
      refine dw_seq ?_
      -- region 5
      refine dw_draw 8 [] follows_mixed (by kernel_rfl) rfl rfl ?_
      refine dq_r (sem_field fd26_0 rfl rfl) ?_
      refine dq_r (sem_load1 ty4 rfl rfl rfl rfl) ?_
      refine dq_r (sem_field fd26_1 rfl rfl) ?_
      refine dq_r (sem_load1 ty24 rfl rfl rfl rfl) ?_
      refine dq_r (sem_field fd26_1 rfl rfl) ?_
      refine dq_r (sem_load1 ty24 rfl rfl rfl rfl) ?_
      refine dq_r (sem_call rfl rfl (rMinus_c (by assumption) (by omega)) rfl) ?_
      refine dq_r (sem_call rfl rfl (rSigned_c (by assumption)) rfl) ?_
      refine dq_end ?_
      refine dl_start0 ?_
      refine dl_st (sem_store_a ty26 rfl rfl rfl rfl rfl rfl) ?_
      refine dl_end ?_
      refine dw_ret ?_
      -- path FF
      rw [← sa_lt hc1 (by omega)]
      exact ⟨.inr rfl, (resL_cell (us := cI (sg (decide (y < 0)) ((((y.natAbs : Int) - (x.natAbs : Int)).natAbs : Nat) : Int))) ty26 rfl rfl rfl rfl resL_nil)⟩
theorem nSub_ok {x y : Int} (hx : Sz 900000 x) (hy : Sz 900000 y) : Ok Tryz.prog 194 [dI x, dI y] [dI (x - y)] := by
  have hx6 : Sz 1000000 x := hx.mono (by decide)
  have hy6 : Sz 1000000 y := hy.mono (by decide)
  have hyn : Sz 900000 (-y) := hy.neg
  refine Ok.of (by kernel_rfl) Tryz.func194 rfl rfl ?_
  rw [show Tryz.f194.ntmps = 9 from rfl, show Tryz.f194.results.toList = [.cell 4 26] from rfl]
  refine dw_seq ?_
  -- region 0
  refine dw_region (by kernel_rfl) ?_
  refine dl_new (sem_box_a rfl rfl) rfl ?_
  refine dl_new (sem_box_a rfl rfl) rfl ?_
  refine dl_new (sem_alloc zc26 rfl) rfl ?_
  refine dl_end ?_
  refine dw_seq ?_
  -- region 1
  refine dw_draw 4 [] follows_mixed (by kernel_rfl) rfl rfl ?_
  refine dq_r (sem_load (us := cI x) ty26 rfl rfl rfl rfl rfl) ?_
  refine dq_r (sem_load (us := cI y) ty26 rfl rfl rfl rfl rfl) ?_
  refine dq_r (sem_call rfl rfl (nNeg_ok (by assumption)) rfl) ?_
  refine dq_r (sem_call rfl rfl (nAdd_ok (by assumption) (by assumption)) rfl) ?_
  refine dq_end ?_
  refine dl_start0 ?_
  refine dl_st (sem_store_a ty26 rfl rfl rfl rfl rfl rfl) ?_
  refine dl_end ?_
  refine dw_ret ?_
  -- path 
  rw [Int.sub_eq_add_neg]
  exact ⟨.inr rfl, (resL_cell (us := cI (x + (-y))) ty26 rfl rfl rfl rfl resL_nil)⟩
theorem nSame_ok {x y : Int} (hx : Sz 1000000 x) (hy : Sz 1000000 y) : Ok Tryz.prog 37 [dI x, dI y] [.c (.b (x == y))] := by
  refine Ok.of (by kernel_rfl) Tryz.func37 rfl rfl ?_
  rw [show Tryz.f37.ntmps = 18 from rfl, show Tryz.f37.results.toList = [.tmp 4] from rfl]
  refine dw_seq ?_
  -- region 0
  refine dw_region (by kernel_rfl) ?_
  refine dl_new (sem_box_a rfl rfl) rfl ?_
  refine dl_new (sem_box_a rfl rfl) rfl ?_
  refine dl_r (sem_assign rfl rfl) ?_
  refine dl_end ?_
  refine dw_seq ?_
  -- region 1
  refine dw_region (by kernel_rfl) ?_
  refine dl_r (sem_field fd26_0 rfl rfl) ?_
  refine dl_r (sem_load1 ty4 rfl rfl rfl rfl) ?_
  refine dl_r (sem_field fd26_0 rfl rfl) ?_
  refine dl_r (sem_load1 ty4 rfl rfl rfl rfl) ?_
  refine dl_r (sem_beql rfl rfl ty_bool rfl) ?_
  refine dl_rb (sem_move rfl rfl) (fun c1 hb1 => ?_)
  cases c1
  · refine dl_skip (sem_skip rfl) ?_
    refine dl_skip (sem_skip rfl) ?_
    refine dl_skip (sem_skip rfl) ?_
    refine dl_skip (sem_skip rfl) ?_
    refine dl_skip (sem_skip rfl) ?_
    refine dl_skip (sem_skip rfl) ?_
    refine dl_r (sem_pick rfl rfl rfl rfl) ?_
    refine dl_r (sem_assign rfl rfl) ?_
    refine dl_end ?_
    refine dw_ret ?_
    -- path f
    rw [show (x == y) = false from by have := hb1; simp only [beq_eq_false_iff_ne, ne_eq] at this ⊢; intro e; subst e; exact this rfl]
    exact ⟨.inr rfl, (resL_tmp rfl resL_nil)⟩
  · refine dl_r (sem_field fd26_1 rfl rfl) ?_
    refine dl_r (sem_load1 ty24 rfl rfl rfl rfl) ?_
    refine dl_r (sem_field fd26_1 rfl rfl) ?_
    refine dl_r (sem_load1 ty24 rfl rfl rfl rfl) ?_
    refine dl_r (sem_call rfl rfl (rCompare_c (by assumption) (by assumption)) rfl) ?_
    refine dl_r (sem_cmp rfl rfl rfl rfl) ?_
    refine dl_r (sem_pick rfl rfl rfl rfl) ?_
    refine dl_r (sem_assign rfl rfl) ?_
    refine dl_end ?_
    refine dw_ret ?_
    -- path t
    rw [← same_abs hb1]
    exact ⟨.inr rfl, (resL_tmp rfl resL_nil)⟩
theorem nDivMod_ok {x y : Int} (hx : Sz 1000 x) (hy : Sz 1000 y) (h0 : y ≠ 0) : Ok Tryz.prog 127 [dI x, dI y] [dI (x.fdiv y), dI (x.fmod y), .c (.i .i64 0)] := by
  have hq : Sz 900000 (q0 x y) := hx.q0.mono (by decide)
  have hr : Sz 900000 (r0 x y) := (hy.r0 h0).mono (by decide)
  have h1 : Sz 900000 (1 : Int) := Sz.small (by omega) (by omega) (by omega)
  have hy9 : Sz 900000 y := hy.mono (by decide)
  have hqq : Sz 1000000 ((x.natAbs : Int) / y.natAbs) := nq_sz hx
  have hrr : Sz 1000000 ((x.natAbs : Int) % y.natAbs) := nr_sz hy h0
  refine Ok.of (by kernel_rfl) Tryz.func127 rfl rfl ?_
  rw [show Tryz.f127.ntmps = 54 from rfl, show Tryz.f127.results.toList = [.cell 4 26, .cell 5 26, .tmp 6] from rfl]
  refine dw_seq ?_
  -- region 0
  refine dw_region (by kernel_rfl) ?_
  refine dl_new (sem_box_a rfl rfl) rfl ?_
  refine dl_new (sem_box_a rfl rfl) rfl ?_
  refine dl_new (sem_alloc zc26 rfl) rfl ?_
  refine dl_new (sem_alloc zc26 rfl) rfl ?_
  refine dl_r (sem_assign rfl rfl) ?_
  refine dl_end ?_
  refine dw_seq ?_
  refine dw_seq ?_
  -- region 1
  refine dw_region (by kernel_rfl) ?_
  refine dl_r (sem_field fd26_1 rfl rfl) ?_
  refine dl_r (sem_load1 ty24 rfl rfl rfl rfl) ?_
  refine dl_r (sem_len sl24 rfl rfl) ?_
  refine dl_r (sem_cmp rfl rfl rfl rfl) ?_
  refine dl_end ?_
  refine dw_cond rfl (fun hc1 => ?_) (fun hc1 => ?_)
  · exact absurd hc1 (by simp [lim_eq_nil, h0])
  · refine dw_skip ?_
    refine dw_seq ?_
    -- region 3
    refine dw_region (by kernel_rfl) ?_
    refine dl_r (sem_field fd26_1 rfl rfl) ?_
    refine dl_r (sem_load1 ty24 rfl rfl rfl rfl) ?_
    refine dl_r (sem_field fd26_1 rfl rfl) ?_
    refine dl_r (sem_load1 ty24 rfl rfl rfl rfl) ?_
    refine dl_r (sem_call rfl rfl (rParts_c (by assumption) (by assumption) (by assumption)) rfl) ?_
    refine dl_r (sem_move rfl rfl) ?_
    refine dl_r (sem_extract rfl rfl rfl) ?_
    refine dl_r (sem_extract rfl rfl rfl) ?_
    refine dl_r (sem_assign rfl rfl) ?_
    refine dl_r (sem_assign rfl rfl) ?_
    refine dl_end ?_
    refine dw_seq ?_
    -- region 4
    refine dw_draw 13 [] follows_mixed (by kernel_rfl) rfl rfl ?_
    refine dq_r (sem_field fd26_0 rfl rfl) ?_
    refine dq_r (sem_load1 ty4 rfl rfl rfl rfl) ?_
    refine dq_r (sem_field fd26_0 rfl rfl) ?_
    refine dq_r (sem_load1 ty4 rfl rfl rfl rfl) ?_
    refine dq_r (sem_bneq rfl rfl ty_bool rfl) ?_
    refine dq_r (sem_move rfl rfl) ?_
    refine dq_r (sem_call rfl rfl (rSigned_q0 hqq) rfl) ?_
    refine dq_r (sem_field fd26_0 rfl rfl) ?_
    refine dq_r (sem_load1 ty4 rfl rfl rfl rfl) ?_
    refine dq_r (sem_move rfl rfl) ?_
    refine dq_r (sem_call rfl rfl (rSigned_r0 h0 hrr) rfl) ?_
    refine dq_new (sem_alloc zc26 rfl) rfl ?_
    refine dq_new (sem_alloc zc26 rfl) rfl ?_
    refine dq_end ?_
    refine dl_start2 ?_
    refine dl_st (sem_store_a ty26 rfl rfl rfl rfl rfl rfl) ?_
    refine dl_st (sem_store_a ty26 rfl rfl rfl rfl rfl rfl) ?_
    refine dl_end ?_
    refine dw_seq ?_
    refine dw_seq ?_
    -- region 5
    refine dw_region (by kernel_rfl) ?_
    refine dl_r (sem_move rfl rfl) ?_
    refine dl_r (sem_len sl24 rfl rfl) ?_
    refine dl_r (sem_cmp rfl rfl rfl rfl) ?_
    refine dl_rb (sem_move rfl rfl) (fun c2 hb2 => ?_)
    cases c2
    · refine dl_skip (sem_skip rfl) ?_
      refine dl_skip (sem_skip rfl) ?_
      refine dl_skip (sem_skip rfl) ?_
      refine dl_skip (sem_skip rfl) ?_
      refine dl_skip (sem_skip rfl) ?_
      refine dl_r (sem_pick rfl rfl rfl rfl) ?_
      refine dl_end ?_
      refine dw_false rfl ?_
      refine dw_skip ?_
      refine dw_seq ?_
      -- region 7
      refine dw_draw 5 [4, 5] follows_mixed (by kernel_rfl) rfl rfl ?_
      refine dq_r (sem_load (us := cI (q0 x y)) ty26 rfl rfl rfl rfl rfl) ?_
      refine dq_r (sem_load (us := cI (r0 x y)) ty26 rfl rfl rfl rfl rfl) ?_
      refine dq_st (sem_store_a ty26 rfl rfl rfl rfl rfl rfl) rfl rfl rfl rfl ?_
      refine dq_st (sem_store_a ty26 rfl rfl rfl rfl rfl rfl) rfl rfl rfl rfl ?_
      refine dq_r (sem_assign rfl rfl) ?_
      refine dq_end ?_
      refine dl_start2 ?_
      refine dl_end ?_
      refine dw_ret ?_
      -- path Ff
      obtain ⟨e1, e2⟩ := dm_plain (x := x) h0 (.inl (r0_zero.1 (lenL_zero hb2)))
      rw [e1, e2]
      exact ⟨.inr rfl, (resL_cell (us := cI (q0 x y)) ty26 rfl rfl rfl rfl (resL_cell (us := cI (r0 x y)) ty26 rfl rfl rfl rfl (resL_tmp rfl resL_nil)))⟩
    · refine dl_r (sem_field fd26_0 rfl rfl) ?_
      refine dl_r (sem_load1 ty4 rfl rfl rfl rfl) ?_
      refine dl_r (sem_field fd26_0 rfl rfl) ?_
      refine dl_r (sem_load1 ty4 rfl rfl rfl rfl) ?_
      refine dl_r (sem_bneq rfl rfl ty_bool rfl) ?_
      refine dl_r (sem_pick rfl rfl rfl rfl) ?_
      refine dl_end ?_
      refine dw_cond rfl (fun hc3 => ?_) (fun hc3 => ?_)
      · -- region 6
        refine dw_draw 6 [] follows_mixed (by kernel_rfl) rfl rfl ?_
        refine dq_r (sem_load (us := cI (q0 x y)) ty26 rfl rfl rfl rfl rfl) ?_
        refine dq_r (sem_call rfl rfl (nFrom_ok (by omega) (by omega)) rfl) ?_
        refine dq_r (sem_call rfl rfl (nSub_ok (by assumption) (by assumption)) rfl) ?_
        refine dq_r (sem_load (us := cI (r0 x y)) ty26 rfl rfl rfl rfl rfl) ?_
        refine dq_r (sem_load (us := cI y) ty26 rfl rfl rfl rfl rfl) ?_
        refine dq_r (sem_call rfl rfl (nAdd_ok (by assumption) (by assumption)) rfl) ?_
        refine dq_end ?_
        refine dl_start0 ?_
        refine dl_st (sem_store_a ty26 rfl rfl rfl rfl rfl rfl) ?_
        refine dl_st (sem_store_a ty26 rfl rfl rfl rfl rfl rfl) ?_
        refine dl_end ?_
        refine dw_seq ?_
        -- region 7
        refine dw_draw 5 [4, 5] follows_mixed (by kernel_rfl) rfl rfl ?_
        refine dq_r (sem_load (us := cI ((q0 x y) - 1)) ty26 rfl rfl rfl rfl rfl) ?_
        refine dq_r (sem_load (us := cI ((r0 x y) + y)) ty26 rfl rfl rfl rfl rfl) ?_
        refine dq_st (sem_store_a ty26 rfl rfl rfl rfl rfl rfl) rfl rfl rfl rfl ?_
        refine dq_st (sem_store_a ty26 rfl rfl rfl rfl rfl rfl) rfl rfl rfl rfl ?_
        refine dq_r (sem_assign rfl rfl) ?_
        refine dq_end ?_
        refine dl_start2 ?_
        refine dl_end ?_
        refine dw_ret ?_
        -- path FtT
        obtain ⟨e1, e2⟩ := dm_shift (x := x) h0 (fun e => lenL_pos hb2 (r0_zero.2 e)) (by rw [r0_sign h0 (lenL_pos hb2)]; exact sgn_ne hc3)
        rw [e1, e2]
        exact ⟨.inr rfl, (resL_cell (us := cI ((q0 x y) - 1)) ty26 rfl rfl rfl rfl (resL_cell (us := cI ((r0 x y) + y)) ty26 rfl rfl rfl rfl (resL_tmp rfl resL_nil)))⟩
      · refine dw_skip ?_
        refine dw_seq ?_
        -- region 7
        refine dw_draw 5 [4, 5] follows_mixed (by kernel_rfl) rfl rfl ?_
        refine dq_r (sem_load (us := cI (q0 x y)) ty26 rfl rfl rfl rfl rfl) ?_
        refine dq_r (sem_load (us := cI (r0 x y)) ty26 rfl rfl rfl rfl rfl) ?_
        refine dq_st (sem_store_a ty26 rfl rfl rfl rfl rfl rfl) rfl rfl rfl rfl ?_
        refine dq_st (sem_store_a ty26 rfl rfl rfl rfl rfl rfl) rfl rfl rfl rfl ?_
        refine dq_r (sem_assign rfl rfl) ?_
        refine dq_end ?_
        refine dl_start2 ?_
        refine dl_end ?_
        refine dw_ret ?_
        -- path FtF
        obtain ⟨e1, e2⟩ := dm_plain (x := x) h0 (.inr (by rw [r0_sign h0 (lenL_pos hb2)]; exact sgn_eq hc3))
        rw [e1, e2]
        exact ⟨.inr rfl, (resL_cell (us := cI (q0 x y)) ty26 rfl rfl rfl rfl (resL_cell (us := cI (r0 x y)) ty26 rfl rfl rfl rfl (resL_tmp rfl resL_nil)))⟩
theorem nGCD_ok {x y : Int} (hx : Sz 1000 x) (hy : Sz 1000 y) : Ok Tryz.prog 126 [dI x, dI y] [dI (Int.gcd x y : Int)] := by
  refine Ok.of (by kernel_rfl) Tryz.func126 rfl rfl ?_
  rw [show Tryz.f126.ntmps = 54 from rfl, show Tryz.f126.results.toList = [.cell 4 26] from rfl]
  refine dw_seq ?_
  -- region 0
  refine dw_region (by kernel_rfl) ?_
  refine dl_new (sem_box_a rfl rfl) rfl ?_
  refine dl_new (sem_box_a rfl rfl) rfl ?_
  refine dl_new (sem_alloc zc26 rfl) rfl ?_
  refine dl_end ?_
  refine dw_seq ?_
  -- region 1
  refine dw_draw 6 [] follows_mixed (by kernel_rfl) rfl rfl ?_
  refine dq_r (sem_field fd26_1 rfl rfl) ?_
  refine dq_r (sem_load1 ty24 rfl rfl rfl rfl) ?_
  refine dq_r (sem_field fd26_1 rfl rfl) ?_
  refine dq_r (sem_load1 ty24 rfl rfl rfl rfl) ?_
  refine dq_r (sem_assign rfl rfl) ?_
  refine dq_r (sem_assign rfl rfl) ?_
  refine dq_end ?_
  refine dl_start0 ?_
  refine dl_end ?_
  refine dw_seq ?_
  refine dw_block ?_
  refine dw_loop (ι := {p : Int × Int // RG x y p.1 p.2}) (fun i => ⟨54, [(4, .p 4 0), (5, .v (.c (cL i.1.1))), (6, .v (.c (cL i.1.2)))], [(4, 26, ([.b false] ++ [.s 0 []]))]⟩) (fun i => i.1.2.toNat) ⟨((x.natAbs : Int), (y.natAbs : Int)), RG.start hx hy⟩ (sub_of ⟨rfl, by rw [cL_abs x]; rfl, by rw [cL_abs y]; rfl, trivial⟩ ⟨rfl, trivial⟩ rfl) ?_
  rintro ⟨⟨a, c⟩, hg⟩
  replace hg : RG x y a c := hg
  have ha := hg.sa
  have hcc := hg.sc
  have ha0 := hg.a0
  have hcc0 := hg.c0
  have ha6 : Sz 1000000 a := ha.mono (by decide)
  show Dw _ _ ⟨54, [(4, .p 4 0), (5, .v (.c (cL a))), (6, .v (.c (cL c)))], [(4, 26, ([.b false] ++ [.s 0 []]))]⟩ _
  refine dw_seq ?_
  refine dw_seq ?_
  -- region 2
  refine dw_region (by kernel_rfl) ?_
  refine dl_r (sem_move rfl rfl) ?_
  refine dl_r (sem_len sl24 rfl rfl) ?_
  refine dl_r (sem_cmp rfl rfl rfl rfl) ?_
  refine dl_rb (sem_move rfl rfl) (fun c1 hb1 => ?_)
  cases c1
  · refine dl_skip (sem_skip rfl) ?_
    refine dl_skip (sem_skip rfl) ?_
    refine dl_skip (sem_skip rfl) ?_
    refine dl_skip (sem_skip rfl) ?_
    refine dl_skip (sem_skip rfl) ?_
    refine dl_skip (sem_skip rfl) ?_
    refine dl_skip (sem_skip rfl) ?_
    refine dl_skip (sem_skip rfl) ?_
    refine dl_r (sem_pick rfl rfl rfl rfl) ?_
    refine dl_end ?_
    refine dw_false rfl ?_
    refine dw_exit ?_
    refine dw_seq ?_
    refine dw_seq ?_
    -- region 5
    refine dw_region (by kernel_rfl) ?_
    refine dl_r (sem_move rfl rfl) ?_
    refine dl_r (sem_len sl24 rfl rfl) ?_
    refine dl_r (sem_cmp rfl rfl rfl rfl) ?_
    refine dl_end ?_
    refine dw_cond rfl (fun hc2 => ?_) (fun hc2 => ?_)
    · refine dw_seq ?_
      -- region 6
      refine dw_region (by kernel_rfl) ?_
      refine dl_r (sem_move rfl rfl) ?_
      refine dl_r (sem_call rfl rfl (rSigned_c (by assumption)) rfl) ?_
      refine dl_st (sem_store_a ty26 rfl rfl rfl rfl rfl rfl) ?_
      refine dl_end ?_
      refine dw_ret ?_
      -- path fT
      rw [hg.done (lenL_zero hb1)]
      exact ⟨.inr rfl, (resL_cell (us := cI (sg false ((a.natAbs : Nat) : Int))) ty26 rfl rfl rfl rfl resL_nil)⟩
    · exact absurd hc2 (by simp [lim_eq_nil, lenL_zero hb1])
  · have hne := lenL_pos hb1
    refine dl_r (sem_move rfl rfl) ?_
    refine dl_r (sem_len sl24 rfl rfl) ?_
    refine dl_r (sem_cmp rfl rfl rfl rfl) ?_
    refine dl_rb (sem_move rfl rfl) (fun c3 hb3 => ?_)
    cases c3
    · have hwa := word_of hb3
      refine dl_r (sem_move rfl rfl) ?_
      refine dl_r (sem_len sl24 rfl rfl) ?_
      refine dl_r (sem_cmp rfl rfl rfl rfl) ?_
      refine dl_r (sem_pick rfl rfl rfl rfl) ?_
      refine dl_r (sem_pick rfl rfl rfl rfl) ?_
      refine dl_end ?_
      refine dw_cond rfl (fun hc4 => ?_) (fun hc4 => ?_)
      · refine dw_skip ?_
        refine dw_block ?_
        refine dw_seq ?_
        -- region 3
        refine dw_region (by kernel_rfl) ?_
        refine dl_r (sem_move rfl rfl) ?_
        refine dl_r (sem_move rfl rfl) ?_
        refine dl_r (sem_call rfl rfl (rParts_c (by assumption) (by assumption) (by assumption)) rfl) ?_
        refine dl_r (sem_move rfl rfl) ?_
        refine dl_r (sem_extract rfl rfl rfl) ?_
        refine dl_r (sem_extract rfl rfl rfl) ?_
        refine dl_r (sem_assign rfl rfl) ?_
        refine dl_r (sem_assign rfl rfl) ?_
        refine dl_end ?_
        -- region 4
        refine dw_region (by kernel_rfl) ?_
        refine dl_r (sem_move rfl rfl) ?_
        refine dl_r (sem_move rfl rfl) ?_
        refine dl_r (sem_assign rfl rfl) ?_
        refine dl_r (sem_assign rfl rfl) ?_
        refine dl_end ?_
        exact ⟨⟨(c, (a.natAbs : Int) % c.natAbs), hg.step hne⟩, sub_of ⟨rfl, rfl, rfl, trivial⟩ ⟨rfl, trivial⟩ rfl, hg.less hne⟩
      · have hwc := word_of hc4
        refine dw_exit ?_
        refine dw_seq ?_
        refine dw_seq ?_
        -- region 5
        refine dw_region (by kernel_rfl) ?_
        refine dl_r (sem_move rfl rfl) ?_
        refine dl_r (sem_len sl24 rfl rfl) ?_
        refine dl_r (sem_cmp rfl rfl rfl rfl) ?_
        refine dl_end ?_
        refine dw_cond rfl (fun hc5 => ?_) (fun hc5 => ?_)
        · exact absurd hc5 (by simp [lim_eq_nil, hne])
        · refine dw_skip ?_
          refine dw_seq ?_
          -- region 7
          refine dw_region (by kernel_rfl) ?_
          refine dl_r (sem_move rfl rfl) ?_
          refine dl_r (sem_call rfl rfl (rShort_c (by assumption)) rfl) ?_
          refine dl_r (sem_move rfl rfl) ?_
          refine dl_r (sem_call rfl rfl (rShort_c (by assumption)) rfl) ?_
          refine dl_r (sem_assign rfl rfl) ?_
          refine dl_r (sem_assign rfl rfl) ?_
          refine dl_end ?_
          refine dw_seq ?_
          refine dw_block ?_
          refine dw_loop (ι := {p : Int × Int // GInv2 x y p.1 p.2}) (fun i => ⟨54, [(4, .p 4 0), (9, .v (.c (.i .u64 i.1.1))), (10, .v (.c (.i .u64 i.1.2)))], [(4, 26, ([.b false] ++ [.s 0 []]))]⟩) (fun i => i.1.2.toNat) ⟨((a.natAbs : Int), (c.natAbs : Int)), hg.word hwa hwc⟩ (sub_of ⟨rfl, rfl, rfl, trivial⟩ ⟨rfl, trivial⟩ rfl) ?_
          rintro ⟨⟨u, v⟩, hw⟩
          replace hw : GInv2 x y u v := hw
          have hu0 := hw.u0
          have hu1 := hw.u1
          have hsu : Sz 1000000 u := Sz.small3 hu0 hu1
          show Dw _ _ ⟨54, [(4, .p 4 0), (9, .v (.c (.i .u64 u))), (10, .v (.c (.i .u64 v)))], [(4, 26, ([.b false] ++ [.s 0 []]))]⟩ _
          refine dw_seq ?_
          refine dw_seq ?_
          -- region 8
          refine dw_region (by kernel_rfl) ?_
          refine dl_r (sem_move rfl rfl) ?_
          refine dl_r (sem_cmp rfl rfl rfl rfl) ?_
          refine dl_end ?_
          refine dw_cond rfl (fun hc6 => ?_) (fun hc6 => ?_)
          · have hv : v > 0 := by simpa using hc6
            have hvn : v ≠ 0 := by omega
            refine dw_skip ?_
            refine dw_block ?_
            -- region 9
            refine dw_draw 6 [] follows_mixed (by kernel_rfl) rfl rfl ?_
            refine dq_r (sem_move rfl rfl) ?_
            refine dq_r (sem_move rfl rfl) ?_
            refine dq_r (sem_move rfl rfl) ?_
            refine dq_r (sem_rem rfl rfl (by omega) rfl) ?_
            refine dq_r (sem_assign rfl rfl) ?_
            refine dq_r (sem_assign rfl rfl) ?_
            refine dq_end ?_
            refine dl_start0 ?_
            refine dl_end ?_
            exact ⟨⟨(v, u.tmod v), hw.step hv⟩, sub_of ⟨rfl, rfl, rfl, trivial⟩ ⟨rfl, trivial⟩ rfl, hw.less hv⟩
          · refine dw_exit ?_
            refine dw_seq ?_
            -- region 10
            refine dw_region (by kernel_rfl) ?_
            refine dl_r (sem_move rfl rfl) ?_
            refine dl_r (sem_call rfl rfl (rLimbs_ok (by omega) (by omega)) rfl) ?_
            refine dl_r (sem_call rfl rfl (rSigned_c (by assumption)) rfl) ?_
            refine dl_st (sem_store_a ty26 rfl rfl rfl rfl rfl rfl) ?_
            refine dl_end ?_
            refine dw_ret ?_
            -- path tfFFF
            rw [hw.fin (by simpa using hc6)]
            exact ⟨.inr rfl, (resL_cell (us := cI (sg false ((u.natAbs : Nat) : Int))) ty26 rfl rfl rfl rfl resL_nil)⟩
    · refine dl_skip (sem_skip rfl) ?_
      refine dl_skip (sem_skip rfl) ?_
      refine dl_skip (sem_skip rfl) ?_
      refine dl_r (sem_pick rfl rfl rfl rfl) ?_
      refine dl_r (sem_pick rfl rfl rfl rfl) ?_
      refine dl_end ?_
      refine dw_true rfl ?_
      refine dw_skip ?_
      refine dw_block ?_
      refine dw_seq ?_
      -- region 3
      refine dw_region (by kernel_rfl) ?_
      refine dl_r (sem_move rfl rfl) ?_
      refine dl_r (sem_move rfl rfl) ?_
      refine dl_r (sem_call rfl rfl (rParts_c (by assumption) (by assumption) (by assumption)) rfl) ?_
      refine dl_r (sem_move rfl rfl) ?_
      refine dl_r (sem_extract rfl rfl rfl) ?_
      refine dl_r (sem_extract rfl rfl rfl) ?_
      refine dl_r (sem_assign rfl rfl) ?_
      refine dl_r (sem_assign rfl rfl) ?_
      refine dl_end ?_
      -- region 4
      refine dw_region (by kernel_rfl) ?_
      refine dl_r (sem_move rfl rfl) ?_
      refine dl_r (sem_move rfl rfl) ?_
      refine dl_r (sem_assign rfl rfl) ?_
      refine dl_r (sem_assign rfl rfl) ?_
      refine dl_end ?_
      exact ⟨⟨(c, (a.natAbs : Int) % c.natAbs), hg.step hne⟩, sub_of ⟨rfl, rfl, rfl, trivial⟩ ⟨rfl, trivial⟩ rfl, hg.less hne⟩
end Go.Proofs.YtedlgdliniokiaaGreat
/- Square roots of integers, program and reference. -/
namespace Go.Proofs.YtedlgdliniokiaaGreat
open Go Go.RowKit
theorem iSqrt_ok {x : Int} (hx : Sz 999999 x) : Ok Tryz.prog 265 [dI x] [dI (isqI x), .c (.i .i64 (if x < 0 then 7 else 0))] := by
  have h20 : (2 : Int) ≠ 0 := by decide
  have hl := lim_len hx
  have hs2 : Sz 1000000 (2 : Int) := Sz.small (by omega) (by omega) (by omega)
  refine Ok.of (by kernel_rfl) Tryz.func265 rfl rfl ?_
  rw [show Tryz.f265.ntmps = 54 from rfl, show Tryz.f265.results.toList = [.cell 2 26, .tmp 3] from rfl]
  refine dw_seq ?_
  -- region 0
  refine dw_region (by kernel_rfl) ?_
  refine dl_new (sem_box_a rfl rfl) rfl ?_
  refine dl_new (sem_alloc zc26 rfl) rfl ?_
  refine dl_r (sem_assign rfl rfl) ?_
  refine dl_end ?_
  refine dw_seq ?_
  refine dw_seq ?_
  -- region 1
  refine dw_region (by kernel_rfl) ?_
  refine dl_r (sem_field fd26_0 rfl rfl) ?_
  refine dl_r (sem_load1 ty4 rfl rfl rfl rfl) ?_
  refine dl_end ?_
  refine dw_cond rfl (fun hc1 => ?_) (fun hc1 => ?_)
  · have hn : x < 0 := by simpa using hc1
    refine dw_seq ?_
    -- region 2
    refine dw_region (by kernel_rfl) ?_
    refine dl_r (sem_build (us := ([.b false] ++ [.s 0 []])) fs26 zc26 rfl rfl rfl) ?_
    refine dl_st (sem_store_a ty26 rfl rfl rfl rfl rfl rfl) ?_
    refine dl_r (sem_assign rfl rfl) ?_
    refine dl_end ?_
    refine dw_ret ?_
    -- path T
    rw [isqI_neg hn, if_pos hn, dI_zero]
    exact ⟨.inr rfl, (resL_cell (us := ([.b false] ++ [.s 0 []])) ty26 rfl rfl rfl rfl (resL_tmp rfl resL_nil))⟩
  · have hn : 0 ≤ x := by have := hc1; simp at this; omega
    refine dw_skip ?_
    refine dw_seq ?_
    refine dw_seq ?_
    -- region 3
    refine dw_region (by kernel_rfl) ?_
    refine dl_r (sem_field fd26_1 rfl rfl) ?_
    refine dl_r (sem_load1 ty24 rfl rfl rfl rfl) ?_
    refine dl_r (sem_len sl24 rfl rfl) ?_
    refine dl_r (sem_cmp rfl rfl rfl rfl) ?_
    refine dl_end ?_
    refine dw_cond rfl (fun hc2 => ?_) (fun hc2 => ?_)
    · have hz : x = 0 := by have := hc2; simp [lim_eq_nil] at this; omega
      refine dw_seq ?_
      -- region 4
      refine dw_region (by kernel_rfl) ?_
      refine dl_r (sem_build (us := ([.b false] ++ [.s 0 []])) fs26 zc26 rfl rfl rfl) ?_
      refine dl_st (sem_store_a ty26 rfl rfl rfl rfl rfl rfl) ?_
      refine dl_r (sem_assign rfl rfl) ?_
      refine dl_end ?_
      refine dw_ret ?_
      -- path FT
      rw [hz, isqI_zero, dI_zero, if_neg (by omega)]
      exact ⟨.inr rfl, (resL_cell (us := ([.b false] ++ [.s 0 []])) ty26 rfl rfl rfl rfl (resL_tmp rfl resL_nil))⟩
    · have hx0 : 0 < x := by have := hc2; simp [lim_eq_nil] at this; omega
      obtain ⟨k, hk⟩ : ∃ k : Nat, ((lim x.natAbs).length + 1) / 2 = k := ⟨_, rfl⟩
      have hpk := pw_pos k
      have hpc : cL (pw k) = cL (pw k) := rfl
      refine dw_skip ?_
      refine dw_seq ?_
      -- region 5
      refine dw_region (by kernel_rfl) ?_
      refine dl_r (sem_field fd26_1 rfl rfl) ?_
      refine dl_r (sem_load1 ty24 rfl rfl rfl rfl) ?_
      refine dl_r (sem_len sl24 rfl rfl) ?_
      refine dl_r (sem_ari (r := (((lim x.natAbs).length : Int)) + 1) rfl rfl (ari_i64_add (by omega) (by omega)) rfl) ?_
      refine dl_r (sem_quo' (r := (k : Int)) rfl rfl (by omega) (by rw [Int.tdiv_eq_ediv_of_nonneg (by omega), show (((lim x.natAbs).length : Int) + 1) / 2 = (k : Int) from by omega]; exact nw64 (by omega) (by omega)) rfl) ?_
      refine dl_r (sem_assign rfl rfl) ?_
      refine dl_end ?_
      refine dw_seq ?_
      -- region 6
      refine dw_region (by kernel_rfl) ?_
      refine dl_r (sem_move rfl rfl) ?_
      refine dl_mk (sem_make (n := k) el24 rfl rfl (by omega) (by omega) rfl) rfl ?_
      refine dl_r (sem_slit_M el24 rfl rfl) ?_
      refine dl_c (sem_append_pw el24 rfl rfl rfl (by omega) rfl) ?_
      refine dl_r (sem_call rfl rfl (iSigned_cL) rfl) ?_
      refine dl_new (sem_alloc zc26 rfl) rfl ?_
      refine dl_st (sem_store_a ty26 rfl rfl rfl rfl rfl rfl) ?_
      refine dl_end ?_
      refine dw_seq ?_
      -- region 7
      refine dw_region (by kernel_rfl) ?_
      refine dl_r (sem_call rfl rfl (iFrom_ok (by omega) (by omega)) rfl) ?_
      refine dl_new (sem_alloc zc26 rfl) rfl ?_
      refine dl_st (sem_store_a ty26 rfl rfl rfl rfl rfl rfl) ?_
      refine dl_end ?_
      refine dw_block ?_
      refine dw_loop (ι := {r : Int // NInv 999999 x r}) (fun i => ⟨54, [(1, .p 1 0), (2, .p 2 0), (3, .v (.c (.i .i64 0))), (5, .p 5 0), (6, .p 6 0)], [(1, 26, cI x), (2, 26, ([.b false] ++ [.s 0 []])), (5, 26, cI i.1), (6, 26, cI 2)]⟩) (fun i => i.1.toNat) ⟨pw k, NInv.start hx0 hx hk (by omega)⟩ (sub_of ⟨rfl, rfl, rfl, rfl, rfl, trivial⟩ ⟨rfl, rfl, by rw [show sg false (((pw k).natAbs : Nat) : Int) = pw k from by rw [sg_false]; have := pw_pos k; omega]; rfl, rfl, trivial⟩ rfl) ?_
      rintro ⟨r, hg⟩
      replace hg : NInv 999999 x r := hg
      have hsr := hg.sz
      have hr0 := hg.r0
      have hrn : r ≠ 0 := by omega
      obtain ⟨hsq, hsum, hsn⟩ := hg.sum hx hx0
      have a1 : Sz 1000000 r := hsr.mono (by decide)
      have a2 : Sz 1000000 (x.fdiv r) := hsq.mono (by decide)
      have a3 : Sz 1000000 x := hx.mono (by decide)
      show Dw _ _ ⟨54, [(1, .p 1 0), (2, .p 2 0), (3, .v (.c (.i .i64 0))), (5, .p 5 0), (6, .p 6 0)], [(1, 26, cI x), (2, 26, ([.b false] ++ [.s 0 []])), (5, 26, cI r), (6, 26, cI 2)]⟩ _
      refine dw_block ?_
      refine dw_seq ?_
      -- region 8
      refine dw_region (by kernel_rfl) ?_
      refine dl_r (sem_load (us := cI x) ty26 rfl rfl rfl rfl rfl) ?_
      refine dl_r (sem_load (us := cI r) ty26 rfl rfl rfl rfl rfl) ?_
      refine dl_r (sem_call rfl rfl (iDivMod_ok (by assumption) (by assumption) (by assumption)) rfl) ?_
      refine dl_r (sem_move rfl rfl) ?_
      refine dl_r (sem_extract rfl rfl rfl) ?_
      refine dl_r (sem_extract rfl rfl rfl) ?_
      refine dl_r (sem_extract rfl rfl rfl) ?_
      refine dl_new (sem_alloc zc26 rfl) rfl ?_
      refine dl_new (sem_alloc zc26 rfl) rfl ?_
      refine dl_st (sem_store_a ty26 rfl rfl rfl rfl rfl rfl) ?_
      refine dl_st (sem_store_a ty26 rfl rfl rfl rfl rfl rfl) ?_
      refine dl_r (sem_assign rfl rfl) ?_
      refine dl_end ?_
      refine dw_seq ?_
      -- region 9
      refine dw_draw 14 [10, 11] follows_mixed (by kernel_rfl) rfl rfl ?_
      refine dq_r (sem_load (us := cI r) ty26 rfl rfl rfl rfl rfl) ?_
      refine dq_r (sem_load (us := cI (x.fdiv r)) ty26 rfl rfl rfl rfl rfl) ?_
      refine dq_r (sem_call rfl rfl (iAdd_ok (by assumption) (by assumption)) rfl) ?_
      refine dq_r (sem_load (us := cI 2) ty26 rfl rfl rfl rfl rfl) ?_
      refine dq_r (sem_call rfl rfl (iDivMod_ok (by assumption) (by assumption) (by assumption)) rfl) ?_
      refine dq_r (sem_move rfl rfl) ?_
      refine dq_r (sem_extract rfl rfl rfl) ?_
      refine dq_r (sem_extract rfl rfl rfl) ?_
      refine dq_r (sem_extract rfl rfl rfl) ?_
      refine dq_new (sem_alloc zc26 rfl) rfl ?_
      refine dq_new (sem_alloc zc26 rfl) rfl ?_
      refine dq_sn (sem_store_a ty26 rfl rfl rfl rfl rfl rfl) rfl rfl rfl rfl ?_
      refine dq_sn (sem_store_a ty26 rfl rfl rfl rfl rfl rfl) rfl rfl rfl rfl ?_
      refine dq_r (sem_assign rfl rfl) ?_
      refine dq_end ?_
      refine dl_start4 ?_
      refine dl_end ?_
      refine dw_seq ?_
      refine dw_seq ?_
      -- region 10
      refine dw_region (by kernel_rfl) ?_
      refine dl_r (sem_load (us := cI ((r + (x.fdiv r)).fdiv 2)) ty26 rfl rfl rfl rfl rfl) ?_
      refine dl_r (sem_load (us := cI r) ty26 rfl rfl rfl rfl rfl) ?_
      refine dl_r (sem_call rfl rfl (iCmp_ok) rfl) ?_
      refine dl_r (sem_cmp rfl rfl rfl rfl) ?_
      refine dl_end ?_
      refine dw_cond rfl (fun hc3 => ?_) (fun hc3 => ?_)
      · have hst := cmpI_ge hc3
        refine dw_seq ?_
        -- region 11
        refine dw_region (by kernel_rfl) ?_
        refine dl_r (sem_load (us := cI r) ty26 rfl rfl rfl rfl rfl) ?_
        refine dl_st (sem_store_a ty26 rfl rfl rfl rfl rfl rfl) ?_
        refine dl_r (sem_assign rfl rfl) ?_
        refine dl_end ?_
        refine dw_ret ?_
        -- path FFT
        rw [hg.done hx0 hst, if_neg (by omega)]
        exact ⟨.inr rfl, (resL_cell (us := cI r) ty26 rfl rfl rfl rfl (resL_tmp rfl resL_nil))⟩
      · have hlt := cmpI_lt hc3
        refine dw_skip ?_
        -- region 12
        refine dw_region (by kernel_rfl) ?_
        refine dl_r (sem_load (us := cI ((r + (x.fdiv r)).fdiv 2)) ty26 rfl rfl rfl rfl rfl) ?_
        refine dl_st (sem_store_a ty26 rfl rfl rfl rfl rfl rfl) ?_
        refine dl_end ?_
        exact ⟨⟨(r + x.fdiv r).fdiv 2, hg.next hx0 hlt⟩, sub_of ⟨rfl, rfl, rfl, rfl, rfl, trivial⟩ ⟨rfl, rfl, rfl, rfl, trivial⟩ rfl, by show ((r + x.fdiv r).fdiv 2).toNat < r.toNat; omega⟩
theorem nSqrt_ok {x : Int} (hx : Sz 999 x) : Ok Tryz.prog 240 [dI x] [dI (isqI x), .c (.i .i64 (if x < 0 then 7 else 0))] := by
  have h20 : (2 : Int) ≠ 0 := by decide
  have hl := lim_len hx
  have hs2 : Sz 1000 (2 : Int) := Sz.small (by omega) (by omega) (by omega)
  refine Ok.of (by kernel_rfl) Tryz.func240 rfl rfl ?_
  rw [show Tryz.f240.ntmps = 52 from rfl, show Tryz.f240.results.toList = [.cell 2 26, .tmp 3] from rfl]
  refine dw_seq ?_
  -- region 0
  refine dw_region (by kernel_rfl) ?_
  refine dl_new (sem_box_a rfl rfl) rfl ?_
  refine dl_new (sem_alloc zc26 rfl) rfl ?_
  refine dl_r (sem_assign rfl rfl) ?_
  refine dl_end ?_
  refine dw_seq ?_
  refine dw_seq ?_
  -- region 1
  refine dw_region (by kernel_rfl) ?_
  refine dl_r (sem_field fd26_0 rfl rfl) ?_
  refine dl_r (sem_load1 ty4 rfl rfl rfl rfl) ?_
  refine dl_end ?_
  refine dw_cond rfl (fun hc1 => ?_) (fun hc1 => ?_)
  · have hn : x < 0 := by simpa using hc1
    refine dw_seq ?_
    -- region 2
    refine dw_region (by kernel_rfl) ?_
    refine dl_r (sem_build (us := ([.b false] ++ [.s 0 []])) fs26 zc26 rfl rfl rfl) ?_
    refine dl_st (sem_store_a ty26 rfl rfl rfl rfl rfl rfl) ?_
    refine dl_r (sem_assign rfl rfl) ?_
    refine dl_end ?_
    refine dw_ret ?_
    -- path T
    rw [isqI_neg hn, if_pos hn, dI_zero]
    exact ⟨.inr rfl, (resL_cell (us := ([.b false] ++ [.s 0 []])) ty26 rfl rfl rfl rfl (resL_tmp rfl resL_nil))⟩
  · have hn : 0 ≤ x := by have := hc1; simp at this; omega
    refine dw_skip ?_
    refine dw_seq ?_
    refine dw_seq ?_
    -- region 3
    refine dw_region (by kernel_rfl) ?_
    refine dl_r (sem_field fd26_1 rfl rfl) ?_
    refine dl_r (sem_load1 ty24 rfl rfl rfl rfl) ?_
    refine dl_r (sem_len sl24 rfl rfl) ?_
    refine dl_r (sem_cmp rfl rfl rfl rfl) ?_
    refine dl_end ?_
    refine dw_cond rfl (fun hc2 => ?_) (fun hc2 => ?_)
    · have hz : x = 0 := by have := hc2; simp [lim_eq_nil] at this; omega
      refine dw_seq ?_
      -- region 4
      refine dw_region (by kernel_rfl) ?_
      refine dl_r (sem_build (us := ([.b false] ++ [.s 0 []])) fs26 zc26 rfl rfl rfl) ?_
      refine dl_st (sem_store_a ty26 rfl rfl rfl rfl rfl rfl) ?_
      refine dl_r (sem_assign rfl rfl) ?_
      refine dl_end ?_
      refine dw_ret ?_
      -- path FT
      rw [hz, isqI_zero, dI_zero, if_neg (by omega)]
      exact ⟨.inr rfl, (resL_cell (us := ([.b false] ++ [.s 0 []])) ty26 rfl rfl rfl rfl (resL_tmp rfl resL_nil))⟩
    · have hx0 : 0 < x := by have := hc2; simp [lim_eq_nil] at this; omega
      obtain ⟨k, hk⟩ : ∃ k : Nat, ((lim x.natAbs).length + 1) / 2 = k := ⟨_, rfl⟩
      have hpk := pw_pos k
      have hpc : cL (pw k) = cL (pw k) := rfl
      refine dw_skip ?_
      refine dw_seq ?_
      -- region 5
      refine dw_region (by kernel_rfl) ?_
      refine dl_r (sem_field fd26_1 rfl rfl) ?_
      refine dl_r (sem_load1 ty24 rfl rfl rfl rfl) ?_
      refine dl_r (sem_len sl24 rfl rfl) ?_
      refine dl_r (sem_ari (r := (((lim x.natAbs).length : Int)) + 1) rfl rfl (ari_i64_add (by omega) (by omega)) rfl) ?_
      refine dl_r (sem_quo' (r := (k : Int)) rfl rfl (by omega) (by rw [Int.tdiv_eq_ediv_of_nonneg (by omega), show (((lim x.natAbs).length : Int) + 1) / 2 = (k : Int) from by omega]; exact nw64 (by omega) (by omega)) rfl) ?_
      refine dl_mk (sem_make (n := k) el24 rfl rfl (by omega) (by omega) rfl) rfl ?_
      refine dl_r (sem_slit_M el24 rfl rfl) ?_
      refine dl_c (sem_append_pw el24 rfl rfl rfl (by omega) rfl) ?_
      refine dl_r (sem_build (us := ([.b false] ++ [cL (pw k)])) fs26 zc26 rfl rfl rfl) ?_
      refine dl_new (sem_alloc zc26 rfl) rfl ?_
      refine dl_st (sem_store_a ty26 rfl rfl rfl rfl rfl rfl) ?_
      refine dl_end ?_
      refine dw_seq ?_
      -- region 6
      refine dw_region (by kernel_rfl) ?_
      refine dl_r (sem_call rfl rfl (nFrom_ok (by omega) (by omega)) rfl) ?_
      refine dl_new (sem_alloc zc26 rfl) rfl ?_
      refine dl_st (sem_store_a ty26 rfl rfl rfl rfl rfl rfl) ?_
      refine dl_end ?_
      refine dw_block ?_
      refine dw_loop (ι := {r : Int // NInv 999 x r}) (fun i => ⟨52, [(1, .p 1 0), (2, .p 2 0), (3, .v (.c (.i .i64 0))), (4, .p 4 0), (5, .p 5 0)], [(1, 26, cI x), (2, 26, ([.b false] ++ [.s 0 []])), (4, 26, cI i.1), (5, 26, cI 2)]⟩) (fun i => i.1.toNat) ⟨pw k, NInv.start hx0 hx hk (by omega)⟩ (sub_of ⟨rfl, rfl, rfl, rfl, rfl, trivial⟩ ⟨rfl, rfl, by rw [cI_nn (by have := pw_pos k; omega)]; rfl, rfl, trivial⟩ rfl) ?_
      rintro ⟨r, hg⟩
      replace hg : NInv 999 x r := hg
      have hsr := hg.sz
      have hr0 := hg.r0
      have hrn : r ≠ 0 := by omega
      obtain ⟨hsq, hsum, hsn⟩ := hg.sum hx hx0
      have a1 : Sz 1000 r := hsr.mono (by decide)
      have a2 : Sz 900000 (x.fdiv r) := hsq.mono (by decide)
      have a3 : Sz 1000 x := hx.mono (by decide)
      have a4 : Sz 900000 r := hsr.mono (by decide)
      have a5 : Sz 1000000 r := hsr.mono (by decide)
      have a6 : Sz 1000000 ((r + x.fdiv r).fdiv 2) := hsn.mono (by decide)
      show Dw _ _ ⟨52, [(1, .p 1 0), (2, .p 2 0), (3, .v (.c (.i .i64 0))), (4, .p 4 0), (5, .p 5 0)], [(1, 26, cI x), (2, 26, ([.b false] ++ [.s 0 []])), (4, 26, cI r), (5, 26, cI 2)]⟩ _
      refine dw_block ?_
      refine dw_seq ?_
      -- region 7
      refine dw_region (by kernel_rfl) ?_
      refine dl_r (sem_load (us := cI x) ty26 rfl rfl rfl rfl rfl) ?_
      refine dl_r (sem_load (us := cI r) ty26 rfl rfl rfl rfl rfl) ?_
      refine dl_r (sem_call rfl rfl (nDivMod_ok (by assumption) (by assumption) (by assumption)) rfl) ?_
      refine dl_r (sem_move rfl rfl) ?_
      refine dl_r (sem_extract rfl rfl rfl) ?_
      refine dl_r (sem_extract rfl rfl rfl) ?_
      refine dl_r (sem_extract rfl rfl rfl) ?_
      refine dl_new (sem_alloc zc26 rfl) rfl ?_
      refine dl_new (sem_alloc zc26 rfl) rfl ?_
      refine dl_st (sem_store_a ty26 rfl rfl rfl rfl rfl rfl) ?_
      refine dl_st (sem_store_a ty26 rfl rfl rfl rfl rfl rfl) ?_
      refine dl_r (sem_assign rfl rfl) ?_
      refine dl_end ?_
      refine dw_seq ?_
      -- region 8
      refine dw_draw 14 [9, 10] follows_mixed (by kernel_rfl) rfl rfl ?_
      refine dq_r (sem_load (us := cI r) ty26 rfl rfl rfl rfl rfl) ?_
      refine dq_r (sem_load (us := cI (x.fdiv r)) ty26 rfl rfl rfl rfl rfl) ?_
      refine dq_r (sem_call rfl rfl (nAdd_ok (by assumption) (by assumption)) rfl) ?_
      refine dq_r (sem_load (us := cI 2) ty26 rfl rfl rfl rfl rfl) ?_
      refine dq_r (sem_call rfl rfl (nDivMod_ok (by assumption) (by assumption) (by assumption)) rfl) ?_
      refine dq_r (sem_move rfl rfl) ?_
      refine dq_r (sem_extract rfl rfl rfl) ?_
      refine dq_r (sem_extract rfl rfl rfl) ?_
      refine dq_r (sem_extract rfl rfl rfl) ?_
      refine dq_new (sem_alloc zc26 rfl) rfl ?_
      refine dq_new (sem_alloc zc26 rfl) rfl ?_
      refine dq_sn (sem_store_a ty26 rfl rfl rfl rfl rfl rfl) rfl rfl rfl rfl ?_
      refine dq_sn (sem_store_a ty26 rfl rfl rfl rfl rfl rfl) rfl rfl rfl rfl ?_
      refine dq_r (sem_assign rfl rfl) ?_
      refine dq_end ?_
      refine dl_start4 ?_
      refine dl_end ?_
      refine dw_seq ?_
      refine dw_seq ?_
      -- region 9
      refine dw_region (by kernel_rfl) ?_
      refine dl_r (sem_load (us := cI ((r + (x.fdiv r)).fdiv 2)) ty26 rfl rfl rfl rfl rfl) ?_
      refine dl_r (sem_load (us := cI r) ty26 rfl rfl rfl rfl rfl) ?_
      refine dl_r (sem_call rfl rfl (nCmp_ok (by assumption) (by assumption)) rfl) ?_
      refine dl_r (sem_cmp rfl rfl rfl rfl) ?_
      refine dl_end ?_
      refine dw_cond rfl (fun hc3 => ?_) (fun hc3 => ?_)
      · have hst := cmpI_ge hc3
        refine dw_seq ?_
        -- region 10
        refine dw_region (by kernel_rfl) ?_
        refine dl_r (sem_load (us := cI r) ty26 rfl rfl rfl rfl rfl) ?_
        refine dl_st (sem_store_a ty26 rfl rfl rfl rfl rfl rfl) ?_
        refine dl_r (sem_assign rfl rfl) ?_
        refine dl_end ?_
        refine dw_ret ?_
        -- path FFT
        rw [hg.done hx0 hst, if_neg (by omega)]
        exact ⟨.inr rfl, (resL_cell (us := cI r) ty26 rfl rfl rfl rfl (resL_tmp rfl resL_nil))⟩
      · have hlt := cmpI_lt hc3
        refine dw_skip ?_
        -- region 11
        refine dw_region (by kernel_rfl) ?_
        refine dl_r (sem_load (us := cI ((r + (x.fdiv r)).fdiv 2)) ty26 rfl rfl rfl rfl rfl) ?_
        refine dl_st (sem_store_a ty26 rfl rfl rfl rfl rfl rfl) ?_
        refine dl_end ?_
        exact ⟨⟨(r + x.fdiv r).fdiv 2, hg.next hx0 hlt⟩, sub_of ⟨rfl, rfl, rfl, rfl, rfl, trivial⟩ ⟨rfl, rfl, rfl, rfl, trivial⟩ rfl, by show ((r + x.fdiv r).fdiv 2).toNat < r.toNat; omega⟩
end Go.Proofs.YtedlgdliniokiaaGreat
/- Package swarfref02. -/
namespace Go.Proofs.YtedlgdliniokiaaGreat
open Go Go.RowKit
theorem sUnit_ok  : Ok Tryz.prog 53 [] [dI 1] := by
  refine Ok.of (by kernel_rfl) Tryz.func53 rfl rfl ?_
  rw [show Tryz.f53.ntmps = 2 from rfl, show Tryz.f53.results.toList = [.cell 0 26] from rfl]
  refine dw_seq ?_
  -- region 0
  refine dw_region (by kernel_rfl) ?_
  refine dl_new (sem_alloc zc26 rfl) rfl ?_
  refine dl_end ?_
  refine dw_seq ?_
  -- region 1
  refine dw_region (by kernel_rfl) ?_
  refine dl_r (sem_call rfl rfl (nFrom_ok (by omega) (by omega)) rfl) ?_
  refine dl_st (sem_store_a ty26 rfl rfl rfl rfl rfl rfl) ?_
  refine dl_end ?_
  refine dw_ret ?_
  -- path 
  exact ⟨.inr rfl, (resL_cell (us := cI 1) ty26 rfl rfl rfl rfl resL_nil)⟩
theorem sSign_ok {x : Rat} : Ok Tryz.prog 33 [dR x] [.c (.i .i64 (cmpR x 0))] := by
  refine Ok.of (by kernel_rfl) Tryz.func33 rfl rfl ?_
  rw [show Tryz.f33.ntmps = 6 from rfl, show Tryz.f33.results.toList = [.tmp 2] from rfl]
  refine dw_seq ?_
  -- region 0
  refine dw_region (by kernel_rfl) ?_
  refine dl_new (sem_box_a rfl rfl) rfl ?_
  refine dl_r (sem_assign rfl rfl) ?_
  refine dl_end ?_
  refine dw_seq ?_
  -- region 1
  refine dw_region (by kernel_rfl) ?_
  refine dl_r (sem_field fd28_0 rfl rfl) ?_
  refine dl_r (sem_load (us := cI x.num) ty26 rfl rfl rfl rfl rfl) ?_
  refine dl_r (sem_call rfl rfl (nSign_ok) rfl) ?_
  refine dl_r (sem_assign rfl rfl) ?_
  refine dl_end ?_
  refine dw_ret ?_
  -- path 
  rw [← cmpR_num]
  exact ⟨.inr rfl, (resL_tmp rfl resL_nil)⟩
theorem sFrom_ok {n : Int} (h0 : -9223372036854775808 ≤ n) (h1 : n ≤ 9223372036854775807) : Ok Tryz.prog 20 [.c (.i .i64 n)] [dR (n : Rat)] := by
  refine Ok.of (by kernel_rfl) Tryz.func20 rfl rfl ?_
  rw [show Tryz.f20.ntmps = 7 from rfl, show Tryz.f20.results.toList = [.cell 2 28] from rfl]
  refine dw_seq ?_
  -- region 0
  refine dw_region (by kernel_rfl) ?_
  refine dl_new (sem_alloc zc28 rfl) rfl ?_
  refine dl_end ?_
  refine dw_seq ?_
  -- region 1
  refine dw_region (by kernel_rfl) ?_
  refine dl_r (sem_move rfl rfl) ?_
  refine dl_r (sem_call rfl rfl (nFrom_ok (by omega) (by omega)) rfl) ?_
  refine dl_r (sem_call rfl rfl (sUnit_ok) rfl) ?_
  refine dl_r (sem_build (us := cQ n 1) fs28 zc28 rfl rfl rfl) ?_
  refine dl_st (sem_store_a ty28 rfl rfl rfl rfl rfl rfl) ?_
  refine dl_end ?_
  refine dw_ret ?_
  -- path 
  rw [dR_int]
  exact ⟨.inr rfl, (resL_cell (us := cQ n 1) ty28 rfl rfl rfl rfl resL_nil)⟩
theorem sReduce_ok {x y : Int} (hx : Sz 999 x) (hy : Sz 999 y) (h0 : y ≠ 0) : Ok Tryz.prog 77 [dI x, dI y] [dR (Rat.divInt x y)] := by
  have hg := gcd_ne (n := x) h0
  have hg2 := gcd_ne (n := -x) (d := -y) (by omega)
  have hgs := (Sz.gcd (x := x) hy h0).mono (l := 1000) (by decide)
  have hgs2 := (Sz.gcd (x := -x) hy.neg (by omega)).mono (l := 1000) (by decide)
  refine Ok.of (by kernel_rfl) Tryz.func77 rfl rfl ?_
  rw [show Tryz.f77.ntmps = 39 from rfl, show Tryz.f77.results.toList = [.cell 4 28] from rfl]
  refine dw_seq ?_
  -- region 0
  refine dw_region (by kernel_rfl) ?_
  refine dl_new (sem_box_a rfl rfl) rfl ?_
  refine dl_new (sem_box_a rfl rfl) rfl ?_
  refine dl_new (sem_alloc zc28 rfl) rfl ?_
  refine dl_end ?_
  refine dw_seq ?_
  refine dw_seq ?_
  -- region 1
  refine dw_region (by kernel_rfl) ?_
  refine dl_r (sem_load (us := cI y) ty26 rfl rfl rfl rfl rfl) ?_
  refine dl_r (sem_call rfl rfl (nSign_ok) rfl) ?_
  refine dl_r (sem_cmp rfl rfl rfl rfl) ?_
  refine dl_end ?_
  refine dw_cond rfl (fun hc1 => ?_) (fun hc1 => ?_)
  · have hn := t_lt hc1
    -- region 2
    refine dw_draw 4 [] follows_mixed (by kernel_rfl) rfl rfl ?_
    refine dq_r (sem_load (us := cI x) ty26 rfl rfl rfl rfl rfl) ?_
    refine dq_r (sem_call rfl rfl (nNeg_ok (by first | assumption | exact Sz.mono hx (by decide))) rfl) ?_
    refine dq_r (sem_load (us := cI y) ty26 rfl rfl rfl rfl rfl) ?_
    refine dq_r (sem_call rfl rfl (nNeg_ok (by first | assumption | exact Sz.mono hy (by decide))) rfl) ?_
    refine dq_end ?_
    refine dl_start0 ?_
    refine dl_st (sem_store_a ty26 rfl rfl rfl rfl rfl rfl) ?_
    refine dl_st (sem_store_a ty26 rfl rfl rfl rfl rfl rfl) ?_
    refine dl_end ?_
    refine dw_seq ?_
    -- region 3
    refine dw_region (by kernel_rfl) ?_
    refine dl_r (sem_load (us := cI (-x)) ty26 rfl rfl rfl rfl rfl) ?_
    refine dl_r (sem_load (us := cI (-y)) ty26 rfl rfl rfl rfl rfl) ?_
    refine dl_r (sem_call rfl rfl (nGCD_ok (by first | assumption | exact Sz.mono (Sz.neg hx) (by decide)) (by first | assumption | exact Sz.mono (Sz.neg hy) (by decide))) rfl) ?_
    refine dl_new (sem_alloc zc26 rfl) rfl ?_
    refine dl_st (sem_store_a ty26 rfl rfl rfl rfl rfl rfl) ?_
    refine dl_end ?_
    refine dw_seq ?_
    -- region 4
    refine dw_region (by kernel_rfl) ?_
    refine dl_r (sem_load (us := cI (-x)) ty26 rfl rfl rfl rfl rfl) ?_
    refine dl_r (sem_load (us := cI ((Int.gcd (-x) (-y) : Int))) ty26 rfl rfl rfl rfl rfl) ?_
    refine dl_r (sem_call rfl rfl (nDivMod_ok (by first | assumption | exact Sz.mono (Sz.neg hx) (by decide)) (by first | assumption | exact Sz.mono (by assumption) (by decide)) (by assumption)) rfl) ?_
    refine dl_r (sem_move rfl rfl) ?_
    refine dl_r (sem_extract rfl rfl rfl) ?_
    refine dl_r (sem_extract rfl rfl rfl) ?_
    refine dl_r (sem_extract rfl rfl rfl) ?_
    refine dl_new (sem_alloc zc26 rfl) rfl ?_
    refine dl_new (sem_alloc zc26 rfl) rfl ?_
    refine dl_st (sem_store_a ty26 rfl rfl rfl rfl rfl rfl) ?_
    refine dl_st (sem_store_a ty26 rfl rfl rfl rfl rfl rfl) ?_
    refine dl_r (sem_assign rfl rfl) ?_
    refine dl_end ?_
    refine dw_seq ?_
    -- region 5
    refine dw_region (by kernel_rfl) ?_
    refine dl_r (sem_load (us := cI (-y)) ty26 rfl rfl rfl rfl rfl) ?_
    refine dl_r (sem_load (us := cI ((Int.gcd (-x) (-y) : Int))) ty26 rfl rfl rfl rfl rfl) ?_
    refine dl_r (sem_call rfl rfl (nDivMod_ok (by first | assumption | exact Sz.mono (Sz.neg hy) (by decide)) (by first | assumption | exact Sz.mono (by assumption) (by decide)) (by assumption)) rfl) ?_
    refine dl_r (sem_move rfl rfl) ?_
    refine dl_r (sem_extract rfl rfl rfl) ?_
    refine dl_r (sem_extract rfl rfl rfl) ?_
    refine dl_r (sem_extract rfl rfl rfl) ?_
    refine dl_new (sem_alloc zc26 rfl) rfl ?_
    refine dl_new (sem_alloc zc26 rfl) rfl ?_
    refine dl_st (sem_store_a ty26 rfl rfl rfl rfl rfl rfl) ?_
    refine dl_st (sem_store_a ty26 rfl rfl rfl rfl rfl rfl) ?_
    refine dl_r (sem_assign rfl rfl) ?_
    refine dl_end ?_
    refine dw_seq ?_
    -- region 6
    refine dw_region (by kernel_rfl) ?_
    refine dl_r (sem_load (us := cI ((-x).fdiv ((Int.gcd (-x) (-y) : Int)))) ty26 rfl rfl rfl rfl rfl) ?_
    refine dl_r (sem_load (us := cI ((-y).fdiv ((Int.gcd (-x) (-y) : Int)))) ty26 rfl rfl rfl rfl rfl) ?_
    refine dl_r (sem_build (us := cQ ((-x).fdiv ((Int.gcd (-x) (-y) : Int))) ((-y).fdiv ((Int.gcd (-x) (-y) : Int)))) fs28 zc28 rfl rfl rfl) ?_
    refine dl_st (sem_store_a ty28 rfl rfl rfl rfl rfl rfl) ?_
    refine dl_end ?_
    refine dw_ret ?_
    -- path T
    rw [dR_neg, dR_red (by omega)]
    exact ⟨.inr rfl, (resL_cell (us := cQ ((-x).fdiv ((Int.gcd (-x) (-y) : Int))) ((-y).fdiv ((Int.gcd (-x) (-y) : Int)))) ty28 rfl rfl rfl rfl resL_nil)⟩
  · have hn := f_lt hc1
    refine dw_skip ?_
    refine dw_seq ?_
    -- region 3
    refine dw_region (by kernel_rfl) ?_
    refine dl_r (sem_load (us := cI x) ty26 rfl rfl rfl rfl rfl) ?_
    refine dl_r (sem_load (us := cI y) ty26 rfl rfl rfl rfl rfl) ?_
    refine dl_r (sem_call rfl rfl (nGCD_ok (by first | assumption | exact Sz.mono hx (by decide)) (by first | assumption | exact Sz.mono hy (by decide))) rfl) ?_
    refine dl_new (sem_alloc zc26 rfl) rfl ?_
    refine dl_st (sem_store_a ty26 rfl rfl rfl rfl rfl rfl) ?_
    refine dl_end ?_
    refine dw_seq ?_
    -- region 4
    refine dw_region (by kernel_rfl) ?_
    refine dl_r (sem_load (us := cI x) ty26 rfl rfl rfl rfl rfl) ?_
    refine dl_r (sem_load (us := cI (Int.gcd x y : Int)) ty26 rfl rfl rfl rfl rfl) ?_
    refine dl_r (sem_call rfl rfl (nDivMod_ok (by first | assumption | exact Sz.mono hx (by decide)) (by first | assumption | exact Sz.mono (by assumption) (by decide)) (by assumption)) rfl) ?_
    refine dl_r (sem_move rfl rfl) ?_
    refine dl_r (sem_extract rfl rfl rfl) ?_
    refine dl_r (sem_extract rfl rfl rfl) ?_
    refine dl_r (sem_extract rfl rfl rfl) ?_
    refine dl_new (sem_alloc zc26 rfl) rfl ?_
    refine dl_new (sem_alloc zc26 rfl) rfl ?_
    refine dl_st (sem_store_a ty26 rfl rfl rfl rfl rfl rfl) ?_
    refine dl_st (sem_store_a ty26 rfl rfl rfl rfl rfl rfl) ?_
    refine dl_r (sem_assign rfl rfl) ?_
    refine dl_end ?_
    refine dw_seq ?_
    -- region 5
    refine dw_region (by kernel_rfl) ?_
    refine dl_r (sem_load (us := cI y) ty26 rfl rfl rfl rfl rfl) ?_
    refine dl_r (sem_load (us := cI (Int.gcd x y : Int)) ty26 rfl rfl rfl rfl rfl) ?_
    refine dl_r (sem_call rfl rfl (nDivMod_ok (by first | assumption | exact Sz.mono hy (by decide)) (by first | assumption | exact Sz.mono (by assumption) (by decide)) (by assumption)) rfl) ?_
    refine dl_r (sem_move rfl rfl) ?_
    refine dl_r (sem_extract rfl rfl rfl) ?_
    refine dl_r (sem_extract rfl rfl rfl) ?_
    refine dl_r (sem_extract rfl rfl rfl) ?_
    refine dl_new (sem_alloc zc26 rfl) rfl ?_
    refine dl_new (sem_alloc zc26 rfl) rfl ?_
    refine dl_st (sem_store_a ty26 rfl rfl rfl rfl rfl rfl) ?_
    refine dl_st (sem_store_a ty26 rfl rfl rfl rfl rfl rfl) ?_
    refine dl_r (sem_assign rfl rfl) ?_
    refine dl_end ?_
    refine dw_seq ?_
    -- region 6
    refine dw_region (by kernel_rfl) ?_
    refine dl_r (sem_load (us := cI (x.fdiv (Int.gcd x y : Int))) ty26 rfl rfl rfl rfl rfl) ?_
    refine dl_r (sem_load (us := cI (y.fdiv (Int.gcd x y : Int))) ty26 rfl rfl rfl rfl rfl) ?_
    refine dl_r (sem_build (us := cQ (x.fdiv (Int.gcd x y : Int)) (y.fdiv (Int.gcd x y : Int))) fs28 zc28 rfl rfl rfl) ?_
    refine dl_st (sem_store_a ty28 rfl rfl rfl rfl rfl rfl) ?_
    refine dl_end ?_
    refine dw_ret ?_
    -- path F
    rw [dR_red (by omega)]
    exact ⟨.inr rfl, (resL_cell (us := cQ (x.fdiv (Int.gcd x y : Int)) (y.fdiv (Int.gcd x y : Int))) ty28 rfl rfl rfl rfl resL_nil)⟩
theorem sMake_ok {x y : Int} (hx : Sz 999 x) (hy : Sz 999 y) (h0 : y ≠ 0) : Ok Tryz.prog 134 [dI x, dI y] [dR (Rat.divInt x y), .c (.i .i64 0)] := by
  refine Ok.of (by kernel_rfl) Tryz.func134 rfl rfl ?_
  rw [show Tryz.f134.ntmps = 13 from rfl, show Tryz.f134.results.toList = [.cell 4 28, .tmp 5] from rfl]
  refine dw_seq ?_
  -- region 0
  refine dw_region (by kernel_rfl) ?_
  refine dl_new (sem_box_a rfl rfl) rfl ?_
  refine dl_new (sem_box_a rfl rfl) rfl ?_
  refine dl_new (sem_alloc zc28 rfl) rfl ?_
  refine dl_r (sem_assign rfl rfl) ?_
  refine dl_end ?_
  refine dw_seq ?_
  refine dw_seq ?_
  -- region 1
  refine dw_region (by kernel_rfl) ?_
  refine dl_r (sem_load (us := cI y) ty26 rfl rfl rfl rfl rfl) ?_
  refine dl_r (sem_call rfl rfl (nSign_ok) rfl) ?_
  refine dl_r (sem_cmp rfl rfl rfl rfl) ?_
  refine dl_end ?_
  refine dw_cond rfl (fun hc1 => ?_) (fun hc1 => ?_)
  · exact absurd (t_eq hc1) h0
  · refine dw_skip ?_
    refine dw_seq ?_
    -- region 3
    refine dw_region (by kernel_rfl) ?_
    refine dl_r (sem_load (us := cI x) ty26 rfl rfl rfl rfl rfl) ?_
    refine dl_r (sem_load (us := cI y) ty26 rfl rfl rfl rfl rfl) ?_
    refine dl_r (sem_call rfl rfl (sReduce_ok (by first | assumption | exact Sz.mono hx (by decide)) (by first | assumption | exact Sz.mono hy (by decide)) (by first | assumption | exact neg_ne (by assumption) | exact mul_ne (by assumption) (by assumption))) rfl) ?_
    refine dl_st (sem_store_a ty28 rfl rfl rfl rfl rfl rfl) ?_
    refine dl_r (sem_assign rfl rfl) ?_
    refine dl_end ?_
    refine dw_ret ?_
    -- path F
    exact ⟨.inr rfl, (resL_cell (us := cR (Rat.divInt x y)) ty28 rfl rfl rfl rfl (resL_tmp rfl resL_nil))⟩
theorem sFrac_ok {n d : Int} (h0 : -9223372036854775808 ≤ n) (h1 : n ≤ 9223372036854775807) (h2 : -9223372036854775808 ≤ d) (h3 : d ≤ 9223372036854775807) (hd : d ≠ 0) : Ok Tryz.prog 32 [.c (.i .i64 n), .c (.i .i64 d)] [dR (Rat.divInt n d)] := by
  have z1 : Sz 999 n := Sz.small (by decide) h0 h1
  have z2 : Sz 999 d := Sz.small (by decide) h2 h3
  refine Ok.of (by kernel_rfl) Tryz.func32 rfl rfl ?_
  rw [show Tryz.f32.ntmps = 12 from rfl, show Tryz.f32.results.toList = [.cell 4 28] from rfl]
  refine dw_seq ?_
  -- region 0
  refine dw_region (by kernel_rfl) ?_
  refine dl_new (sem_alloc zc28 rfl) rfl ?_
  refine dl_end ?_
  refine dw_seq ?_
  refine dw_seq ?_
  -- region 1
  refine dw_region (by kernel_rfl) ?_
  refine dl_r (sem_move rfl rfl) ?_
  refine dl_r (sem_cmp rfl rfl rfl rfl) ?_
  refine dl_end ?_
  refine dw_cond rfl (fun hc1 => ?_) (fun hc1 => ?_)
  · exact absurd (by simpa using hc1) hd
  · refine dw_skip ?_
    refine dw_seq ?_
    -- region 3
    refine dw_region (by kernel_rfl) ?_
    refine dl_r (sem_move rfl rfl) ?_
    refine dl_r (sem_call rfl rfl (nFrom_ok (by omega) (by omega)) rfl) ?_
    refine dl_r (sem_move rfl rfl) ?_
    refine dl_r (sem_call rfl rfl (nFrom_ok (by omega) (by omega)) rfl) ?_
    refine dl_r (sem_call rfl rfl (sReduce_ok (by first | assumption | exact Sz.mono (by assumption) (by decide)) (by first | assumption | exact Sz.mono (by assumption) (by decide)) (by first | assumption | exact neg_ne (by assumption) | exact mul_ne (by assumption) (by assumption))) rfl) ?_
    refine dl_st (sem_store_a ty28 rfl rfl rfl rfl rfl rfl) ?_
    refine dl_end ?_
    refine dw_ret ?_
    -- path F
    exact ⟨.inr rfl, (resL_cell (us := cR (Rat.divInt n d)) ty28 rfl rfl rfl rfl resL_nil)⟩
theorem sNeg_ok {x : Rat} (hx : Rz 300 x) : Ok Tryz.prog 87 [dR x] [dR (-x)] := by
  refine Ok.of (by kernel_rfl) Tryz.func87 rfl rfl ?_
  rw [show Tryz.f87.ntmps = 9 from rfl, show Tryz.f87.results.toList = [.cell 2 28] from rfl]
  refine dw_seq ?_
  -- region 0
  refine dw_region (by kernel_rfl) ?_
  refine dl_new (sem_box_a rfl rfl) rfl ?_
  refine dl_new (sem_alloc zc28 rfl) rfl ?_
  refine dl_end ?_
  refine dw_seq ?_
  -- region 1
  refine dw_draw 6 [] follows_mixed (by kernel_rfl) rfl rfl ?_
  refine dq_r (sem_field fd28_0 rfl rfl) ?_
  refine dq_r (sem_load (us := cI x.num) ty26 rfl rfl rfl rfl rfl) ?_
  refine dq_r (sem_call rfl rfl (nNeg_ok (by first | assumption | exact Sz.mono (Rz.n hx) (by decide))) rfl) ?_
  refine dq_r (sem_field fd28_1 rfl rfl) ?_
  refine dq_r (sem_load (us := cI (x.den : Int)) ty26 rfl rfl rfl rfl rfl) ?_
  refine dq_r (sem_build (us := cQ (-x.num) (x.den : Int)) fs28 zc28 rfl rfl rfl) ?_
  refine dq_end ?_
  refine dl_start0 ?_
  refine dl_st (sem_store_a ty28 rfl rfl rfl rfl rfl rfl) ?_
  refine dl_end ?_
  refine dw_ret ?_
  -- path 
  rw [dR_eq (Rat.neg_num x) (congrArg Int.ofNat (Rat.neg_den x))]
  exact ⟨.inr rfl, (resL_cell (us := cQ (-x.num) (x.den : Int)) ty28 rfl rfl rfl rfl resL_nil)⟩
theorem sAdd_ok {x y : Rat} (hx : Rz 300 x) (hy : Rz 300 y) : Ok Tryz.prog 47 [dR x, dR y] [dR (x + y)] := by
  have hn := mul_ne (den_ne x) (den_ne y)
  refine Ok.of (by kernel_rfl) Tryz.func47 rfl rfl ?_
  rw [show Tryz.f47.ntmps = 26 from rfl, show Tryz.f47.results.toList = [.cell 4 28] from rfl]
  refine dw_seq ?_
  -- region 0
  refine dw_region (by kernel_rfl) ?_
  refine dl_new (sem_box_a rfl rfl) rfl ?_
  refine dl_new (sem_box_a rfl rfl) rfl ?_
  refine dl_new (sem_alloc zc28 rfl) rfl ?_
  refine dl_end ?_
  refine dw_seq ?_
  -- region 1
  refine dw_region (by kernel_rfl) ?_
  refine dl_r (sem_field fd28_0 rfl rfl) ?_
  refine dl_r (sem_load (us := cI x.num) ty26 rfl rfl rfl rfl rfl) ?_
  refine dl_r (sem_field fd28_1 rfl rfl) ?_
  refine dl_r (sem_load (us := cI (y.den : Int)) ty26 rfl rfl rfl rfl rfl) ?_
  refine dl_r (sem_call rfl rfl (nMul_ok (by first | assumption | exact Sz.mono (Rz.n hx) (by decide)) (by first | assumption | exact Sz.mono (Rz.d hy) (by decide))) rfl) ?_
  refine dl_new (sem_alloc zc26 rfl) rfl ?_
  refine dl_st (sem_store_a ty26 rfl rfl rfl rfl rfl rfl) ?_
  refine dl_end ?_
  refine dw_seq ?_
  -- region 2
  refine dw_region (by kernel_rfl) ?_
  refine dl_r (sem_field fd28_0 rfl rfl) ?_
  refine dl_r (sem_load (us := cI y.num) ty26 rfl rfl rfl rfl rfl) ?_
  refine dl_r (sem_field fd28_1 rfl rfl) ?_
  refine dl_r (sem_load (us := cI (x.den : Int)) ty26 rfl rfl rfl rfl rfl) ?_
  refine dl_r (sem_call rfl rfl (nMul_ok (by first | assumption | exact Sz.mono (Rz.n hy) (by decide)) (by first | assumption | exact Sz.mono (Rz.d hx) (by decide))) rfl) ?_
  refine dl_new (sem_alloc zc26 rfl) rfl ?_
  refine dl_st (sem_store_a ty26 rfl rfl rfl rfl rfl rfl) ?_
  refine dl_end ?_
  refine dw_seq ?_
  -- region 3
  refine dw_draw 9 [] follows_mixed (by kernel_rfl) rfl rfl ?_
  refine dq_r (sem_load (us := cI (x.num * (y.den : Int))) ty26 rfl rfl rfl rfl rfl) ?_
  refine dq_r (sem_load (us := cI (y.num * (x.den : Int))) ty26 rfl rfl rfl rfl rfl) ?_
  refine dq_r (sem_call rfl rfl (nAdd_ok (by first | assumption | exact Sz.mono (Sz.mul (Rz.n hx) (Rz.d hy)) (by decide)) (by first | assumption | exact Sz.mono (Sz.mul (Rz.n hy) (Rz.d hx)) (by decide))) rfl) ?_
  refine dq_r (sem_field fd28_1 rfl rfl) ?_
  refine dq_r (sem_load (us := cI (x.den : Int)) ty26 rfl rfl rfl rfl rfl) ?_
  refine dq_r (sem_field fd28_1 rfl rfl) ?_
  refine dq_r (sem_load (us := cI (y.den : Int)) ty26 rfl rfl rfl rfl rfl) ?_
  refine dq_r (sem_call rfl rfl (nMul_ok (by first | assumption | exact Sz.mono (Rz.d hx) (by decide)) (by first | assumption | exact Sz.mono (Rz.d hy) (by decide))) rfl) ?_
  refine dq_r (sem_call rfl rfl (sReduce_ok (by first | assumption | exact Sz.mono (Sz.addm (Sz.mul (Rz.n hx) (Rz.d hy)) (Sz.mul (Rz.n hy) (Rz.d hx))) (by decide)) (by first | assumption | exact Sz.mono (Sz.mul (Rz.d hx) (Rz.d hy)) (by decide)) (by first | assumption | exact neg_ne (by assumption) | exact mul_ne (by assumption) (by assumption))) rfl) ?_
  refine dq_end ?_
  refine dl_start0 ?_
  refine dl_st (sem_store_a ty28 rfl rfl rfl rfl rfl rfl) ?_
  refine dl_end ?_
  refine dw_ret ?_
  -- path 
  rw [← radd]
  exact ⟨.inr rfl, (resL_cell (us := cR (Rat.divInt ((x.num * (y.den : Int)) + (y.num * (x.den : Int))) ((x.den : Int) * (y.den : Int)))) ty28 rfl rfl rfl rfl resL_nil)⟩
theorem sSub_ok {x y : Rat} (hx : Rz 300 x) (hy : Rz 300 y) : Ok Tryz.prog 48 [dR x, dR y] [dR (x - y)] := by
  refine Ok.of (by kernel_rfl) Tryz.func48 rfl rfl ?_
  rw [show Tryz.f48.ntmps = 9 from rfl, show Tryz.f48.results.toList = [.cell 4 28] from rfl]
  refine dw_seq ?_
  -- region 0
  refine dw_region (by kernel_rfl) ?_
  refine dl_new (sem_box_a rfl rfl) rfl ?_
  refine dl_new (sem_box_a rfl rfl) rfl ?_
  refine dl_new (sem_alloc zc28 rfl) rfl ?_
  refine dl_end ?_
  refine dw_seq ?_
  -- region 1
  refine dw_draw 4 [] follows_mixed (by kernel_rfl) rfl rfl ?_
  refine dq_r (sem_load (us := cR x) ty28 rfl rfl rfl rfl rfl) ?_
  refine dq_r (sem_load (us := cR y) ty28 rfl rfl rfl rfl rfl) ?_
  refine dq_r (sem_call rfl rfl (sNeg_ok (by first | assumption | exact Rz.mono hy (by decide))) rfl) ?_
  refine dq_r (sem_call rfl rfl (sAdd_ok (by first | assumption | exact Rz.mono hx (by decide)) (by first | assumption | exact Rz.mono (Rz.neg hy) (by decide))) rfl) ?_
  refine dq_end ?_
  refine dl_start0 ?_
  refine dl_st (sem_store_a ty28 rfl rfl rfl rfl rfl rfl) ?_
  refine dl_end ?_
  refine dw_ret ?_
  -- path 
  rw [Rat.sub_eq_add_neg]
  exact ⟨.inr rfl, (resL_cell (us := cR (x + (-y))) ty28 rfl rfl rfl rfl resL_nil)⟩
theorem sMul_ok {x y : Rat} (hx : Rz 300 x) (hy : Rz 300 y) : Ok Tryz.prog 51 [dR x, dR y] [dR (x * y)] := by
  have hn := mul_ne (den_ne x) (den_ne y)
  refine Ok.of (by kernel_rfl) Tryz.func51 rfl rfl ?_
  rw [show Tryz.f51.ntmps = 16 from rfl, show Tryz.f51.results.toList = [.cell 4 28] from rfl]
  refine dw_seq ?_
  -- region 0
  refine dw_region (by kernel_rfl) ?_
  refine dl_new (sem_box_a rfl rfl) rfl ?_
  refine dl_new (sem_box_a rfl rfl) rfl ?_
  refine dl_new (sem_alloc zc28 rfl) rfl ?_
  refine dl_end ?_
  refine dw_seq ?_
  -- region 1
  refine dw_draw 11 [] follows_mixed (by kernel_rfl) rfl rfl ?_
  refine dq_r (sem_field fd28_0 rfl rfl) ?_
  refine dq_r (sem_load (us := cI x.num) ty26 rfl rfl rfl rfl rfl) ?_
  refine dq_r (sem_field fd28_0 rfl rfl) ?_
  refine dq_r (sem_load (us := cI y.num) ty26 rfl rfl rfl rfl rfl) ?_
  refine dq_r (sem_call rfl rfl (nMul_ok (by first | assumption | exact Sz.mono (Rz.n hx) (by decide)) (by first | assumption | exact Sz.mono (Rz.n hy) (by decide))) rfl) ?_
  refine dq_r (sem_field fd28_1 rfl rfl) ?_
  refine dq_r (sem_load (us := cI (x.den : Int)) ty26 rfl rfl rfl rfl rfl) ?_
  refine dq_r (sem_field fd28_1 rfl rfl) ?_
  refine dq_r (sem_load (us := cI (y.den : Int)) ty26 rfl rfl rfl rfl rfl) ?_
  refine dq_r (sem_call rfl rfl (nMul_ok (by first | assumption | exact Sz.mono (Rz.d hx) (by decide)) (by first | assumption | exact Sz.mono (Rz.d hy) (by decide))) rfl) ?_
  refine dq_r (sem_call rfl rfl (sReduce_ok (by first | assumption | exact Sz.mono (Sz.mul (Rz.n hx) (Rz.n hy)) (by decide)) (by first | assumption | exact Sz.mono (Sz.mul (Rz.d hx) (Rz.d hy)) (by decide)) (by first | assumption | exact neg_ne (by assumption) | exact mul_ne (by assumption) (by assumption))) rfl) ?_
  refine dq_end ?_
  refine dl_start0 ?_
  refine dl_st (sem_store_a ty28 rfl rfl rfl rfl rfl rfl) ?_
  refine dl_end ?_
  refine dw_ret ?_
  -- path 
  rw [← rmul]
  exact ⟨.inr rfl, (resL_cell (us := cR (Rat.divInt (x.num * y.num) ((x.den : Int) * (y.den : Int)))) ty28 rfl rfl rfl rfl resL_nil)⟩
theorem sDiv_ok {x y : Rat} (hx : Rz 300 x) (hy : Rz 300 y) (h0 : y ≠ 0) : Ok Tryz.prog 88 [dR x, dR y] [dR (x / y), .c (.i .i64 0)] := by
  have hn := mul_ne (den_ne x) (num_ne h0)
  refine Ok.of (by kernel_rfl) Tryz.func88 rfl rfl ?_
  rw [show Tryz.f88.ntmps = 19 from rfl, show Tryz.f88.results.toList = [.cell 4 28, .tmp 5] from rfl]
  refine dw_seq ?_
  -- region 0
  refine dw_region (by kernel_rfl) ?_
  refine dl_new (sem_box_a rfl rfl) rfl ?_
  refine dl_new (sem_box_a rfl rfl) rfl ?_
  refine dl_new (sem_alloc zc28 rfl) rfl ?_
  refine dl_r (sem_assign rfl rfl) ?_
  refine dl_end ?_
  refine dw_seq ?_
  -- region 1
  refine dw_draw 13 [] follows_mixed (by kernel_rfl) rfl rfl ?_
  refine dq_r (sem_field fd28_0 rfl rfl) ?_
  refine dq_r (sem_load (us := cI x.num) ty26 rfl rfl rfl rfl rfl) ?_
  refine dq_r (sem_field fd28_1 rfl rfl) ?_
  refine dq_r (sem_load (us := cI (y.den : Int)) ty26 rfl rfl rfl rfl rfl) ?_
  refine dq_r (sem_call rfl rfl (nMul_ok (by first | assumption | exact Sz.mono (Rz.n hx) (by decide)) (by first | assumption | exact Sz.mono (Rz.d hy) (by decide))) rfl) ?_
  refine dq_r (sem_field fd28_1 rfl rfl) ?_
  refine dq_r (sem_load (us := cI (x.den : Int)) ty26 rfl rfl rfl rfl rfl) ?_
  refine dq_r (sem_field fd28_0 rfl rfl) ?_
  refine dq_r (sem_load (us := cI y.num) ty26 rfl rfl rfl rfl rfl) ?_
  refine dq_r (sem_call rfl rfl (nMul_ok (by first | assumption | exact Sz.mono (Rz.d hx) (by decide)) (by first | assumption | exact Sz.mono (Rz.n hy) (by decide))) rfl) ?_
  refine dq_r (sem_call rfl rfl (sMake_ok (by first | assumption | exact Sz.mono (Sz.mul (Rz.n hx) (Rz.d hy)) (by decide)) (by first | assumption | exact Sz.mono (Sz.mul (Rz.d hx) (Rz.n hy)) (by decide)) (by first | assumption | exact neg_ne (by assumption) | exact mul_ne (by assumption) (by assumption))) rfl) ?_
  refine dq_r (sem_extract rfl rfl rfl) ?_
  refine dq_r (sem_extract rfl rfl rfl) ?_
  refine dq_end ?_
  refine dl_start0 ?_
  refine dl_st (sem_store_a ty28 rfl rfl rfl rfl rfl rfl) ?_
  refine dl_r (sem_assign rfl rfl) ?_
  refine dl_end ?_
  refine dw_ret ?_
  -- path 
  rw [← rdiv]
  exact ⟨.inr rfl, (resL_cell (us := cR (Rat.divInt (x.num * (y.den : Int)) ((x.den : Int) * y.num))) ty28 rfl rfl rfl rfl (resL_tmp rfl resL_nil))⟩
theorem sCmp_ok {x y : Rat} (hx : Rz 300 x) (hy : Rz 300 y) : Ok Tryz.prog 35 [dR x, dR y] [.c (.i .i64 (cmpR x y))] := by
  refine Ok.of (by kernel_rfl) Tryz.func35 rfl rfl ?_
  rw [show Tryz.f35.ntmps = 16 from rfl, show Tryz.f35.results.toList = [.tmp 4] from rfl]
  refine dw_seq ?_
  -- region 0
  refine dw_region (by kernel_rfl) ?_
  refine dl_new (sem_box_a rfl rfl) rfl ?_
  refine dl_new (sem_box_a rfl rfl) rfl ?_
  refine dl_r (sem_assign rfl rfl) ?_
  refine dl_end ?_
  refine dw_seq ?_
  -- region 1
  refine dw_draw 12 [] follows_mixed (by kernel_rfl) rfl rfl ?_
  refine dq_r (sem_field fd28_0 rfl rfl) ?_
  refine dq_r (sem_load (us := cI x.num) ty26 rfl rfl rfl rfl rfl) ?_
  refine dq_r (sem_field fd28_1 rfl rfl) ?_
  refine dq_r (sem_load (us := cI (y.den : Int)) ty26 rfl rfl rfl rfl rfl) ?_
  refine dq_r (sem_call rfl rfl (nMul_ok (by first | assumption | exact Sz.mono (Rz.n hx) (by decide)) (by first | assumption | exact Sz.mono (Rz.d hy) (by decide))) rfl) ?_
  refine dq_r (sem_field fd28_0 rfl rfl) ?_
  refine dq_r (sem_load (us := cI y.num) ty26 rfl rfl rfl rfl rfl) ?_
  refine dq_r (sem_field fd28_1 rfl rfl) ?_
  refine dq_r (sem_load (us := cI (x.den : Int)) ty26 rfl rfl rfl rfl rfl) ?_
  refine dq_r (sem_call rfl rfl (nMul_ok (by first | assumption | exact Sz.mono (Rz.n hy) (by decide)) (by first | assumption | exact Sz.mono (Rz.d hx) (by decide))) rfl) ?_
  refine dq_r (sem_call rfl rfl (nCmp_ok (by first | assumption | exact Sz.mono (Sz.mul (Rz.n hx) (Rz.d hy)) (by decide)) (by first | assumption | exact Sz.mono (Sz.mul (Rz.n hy) (Rz.d hx)) (by decide))) rfl) ?_
  refine dq_r (sem_assign rfl rfl) ?_
  refine dq_end ?_
  refine dl_start0 ?_
  refine dl_end ?_
  refine dw_ret ?_
  -- path 
  rw [cmpR_mul (x := x) (y := y)]
  exact ⟨.inr rfl, (resL_tmp rfl resL_nil)⟩
-- no function swarf/swarfref02.Floor in this seat
theorem sSide_ok {x : Int} (hx : Sz 300 x) : Ok Tryz.prog 184 [dI x] [dI (isqI x), .c (.b (sqI x))] := by
  have hs := Sz.isq hx
  refine Ok.of (by kernel_rfl) Tryz.func184 rfl rfl ?_
  rw [show Tryz.f184.ntmps = 21 from rfl, show Tryz.f184.results.toList = [.cell 2 26, .tmp 3] from rfl]
  refine dw_seq ?_
  -- region 0
  refine dw_region (by kernel_rfl) ?_
  refine dl_new (sem_box_a rfl rfl) rfl ?_
  refine dl_new (sem_alloc zc26 rfl) rfl ?_
  refine dl_r (sem_assign rfl rfl) ?_
  refine dl_end ?_
  refine dw_seq ?_
  -- region 1
  refine dw_region (by kernel_rfl) ?_
  refine dl_r (sem_load (us := cI x) ty26 rfl rfl rfl rfl rfl) ?_
  refine dl_r (sem_call rfl rfl (nSqrt_ok (by first | assumption | exact Sz.mono hx (by decide))) rfl) ?_
  refine dl_r (sem_move rfl rfl) ?_
  refine dl_r (sem_extract rfl rfl rfl) ?_
  refine dl_r (sem_extract rfl rfl rfl) ?_
  refine dl_new (sem_alloc zc26 rfl) rfl ?_
  refine dl_st (sem_store_a ty26 rfl rfl rfl rfl rfl rfl) ?_
  refine dl_r (sem_assign rfl rfl) ?_
  refine dl_end ?_
  refine dw_seq ?_
  -- region 2
  refine dw_draw 12 [2] follows_mixed (by kernel_rfl) rfl rfl ?_
  refine dq_r (sem_load (us := cI (isqI x)) ty26 rfl rfl rfl rfl rfl) ?_
  refine dq_r (sem_move rfl rfl) ?_
  refine dq_r (sem_cmp rfl rfl rfl rfl) ?_
  refine dq_rb (sem_move rfl rfl) (fun c1 hb1 => ?_)
  cases c1
  · refine dq_skip (sem_skip rfl) ?_
    refine dq_skip (sem_skip rfl) ?_
    refine dq_skip (sem_skip rfl) ?_
    refine dq_skip (sem_skip rfl) ?_
    refine dq_skip (sem_skip rfl) ?_
    refine dq_r (sem_pick rfl rfl rfl rfl) ?_
    refine dq_st (sem_store_a ty26 rfl rfl rfl rfl rfl rfl) rfl rfl rfl rfl ?_
    refine dq_r (sem_assign rfl rfl) ?_
    refine dq_end ?_
    refine dl_start1 ?_
    refine dl_end ?_
    refine dw_ret ?_
    -- path f
    rw [sqI_neg (e7 hb1)]
    exact ⟨.inr rfl, (resL_cell (us := cI (isqI x)) ty26 rfl rfl rfl rfl (resL_tmp rfl resL_nil))⟩
  · refine dq_r (sem_load (us := cI (isqI x)) ty26 rfl rfl rfl rfl rfl) ?_
    refine dq_r (sem_load (us := cI (isqI x)) ty26 rfl rfl rfl rfl rfl) ?_
    refine dq_r (sem_call rfl rfl (nMul_ok (by first | assumption | exact Sz.mono (Sz.isq hx) (by decide)) (by first | assumption | exact Sz.mono (Sz.isq hx) (by decide))) rfl) ?_
    refine dq_r (sem_load (us := cI x) ty26 rfl rfl rfl rfl rfl) ?_
    refine dq_r (sem_call rfl rfl (nSame_ok (by first | assumption | exact Sz.mono (Sz.mul (Sz.isq hx) (Sz.isq hx)) (by decide)) (by first | assumption | exact Sz.mono hx (by decide))) rfl) ?_
    refine dq_r (sem_pick rfl rfl rfl rfl) ?_
    refine dq_st (sem_store_a ty26 rfl rfl rfl rfl rfl rfl) rfl rfl rfl rfl ?_
    refine dq_r (sem_assign rfl rfl) ?_
    refine dq_end ?_
    refine dl_start1 ?_
    refine dl_end ?_
    refine dw_ret ?_
    -- path t
    rw [show sqI x = (isqI x * isqI x == x) from rfl]
    exact ⟨.inr rfl, (resL_cell (us := cI (isqI x)) ty26 rfl rfl rfl rfl (resL_tmp rfl resL_nil))⟩
theorem sSqrt_ok {x : Rat} (hx : Rz 300 x) : Ok Tryz.prog 113 [dR x] [dQ (if sqR x then isqI x.num else 0) (if sqR x then isqI (x.den : Int) else 0), .c (.b (sqR x))] := by
  refine Ok.of (by kernel_rfl) Tryz.func113 rfl rfl ?_
  rw [show Tryz.f113.ntmps = 30 from rfl, show Tryz.f113.results.toList = [.cell 2 28, .tmp 3] from rfl]
  refine dw_seq ?_
  -- region 0
  refine dw_region (by kernel_rfl) ?_
  refine dl_new (sem_box_a rfl rfl) rfl ?_
  refine dl_new (sem_alloc zc28 rfl) rfl ?_
  refine dl_r (sem_assign rfl rfl) ?_
  refine dl_end ?_
  refine dw_seq ?_
  -- region 1
  refine dw_region (by kernel_rfl) ?_
  refine dl_r (sem_field fd28_0 rfl rfl) ?_
  refine dl_r (sem_load (us := cI x.num) ty26 rfl rfl rfl rfl rfl) ?_
  refine dl_r (sem_call rfl rfl (sSide_ok (by first | assumption | exact Sz.mono (Rz.n hx) (by decide))) rfl) ?_
  refine dl_r (sem_move rfl rfl) ?_
  refine dl_r (sem_extract rfl rfl rfl) ?_
  refine dl_r (sem_extract rfl rfl rfl) ?_
  refine dl_new (sem_alloc zc26 rfl) rfl ?_
  refine dl_st (sem_store_a ty26 rfl rfl rfl rfl rfl rfl) ?_
  refine dl_r (sem_assign rfl rfl) ?_
  refine dl_end ?_
  refine dw_seq ?_
  -- region 2
  refine dw_region (by kernel_rfl) ?_
  refine dl_r (sem_field fd28_1 rfl rfl) ?_
  refine dl_r (sem_load (us := cI (x.den : Int)) ty26 rfl rfl rfl rfl rfl) ?_
  refine dl_r (sem_call rfl rfl (sSide_ok (by first | assumption | exact Sz.mono (Rz.d hx) (by decide))) rfl) ?_
  refine dl_r (sem_move rfl rfl) ?_
  refine dl_r (sem_extract rfl rfl rfl) ?_
  refine dl_r (sem_extract rfl rfl rfl) ?_
  refine dl_new (sem_alloc zc26 rfl) rfl ?_
  refine dl_st (sem_store_a ty26 rfl rfl rfl rfl rfl rfl) ?_
  refine dl_r (sem_assign rfl rfl) ?_
  refine dl_end ?_
  refine dw_seq ?_
  refine dw_seq ?_
  -- region 3
  refine dw_region (by kernel_rfl) ?_
  refine dl_r (sem_move rfl rfl) ?_
  refine dl_r (sem_not rfl rfl) ?_
  refine dl_rb (sem_move rfl rfl) (fun c1 hb1 => ?_)
  cases c1
  · refine dl_r (sem_move rfl rfl) ?_
    refine dl_r (sem_not rfl rfl) ?_
    refine dl_r (sem_pick rfl rfl rfl rfl) ?_
    refine dl_end ?_
    refine dw_cond rfl (fun hc2 => ?_) (fun hc2 => ?_)
    · refine dw_seq ?_
      -- region 4
      refine dw_region (by kernel_rfl) ?_
      refine dl_r (sem_build (us := (([.b false] ++ [.s 0 []]) ++ ([.b false] ++ [.s 0 []]))) fs28 zc28 rfl rfl rfl) ?_
      refine dl_st (sem_store_a ty28 rfl rfl rfl rfl rfl rfl) ?_
      refine dl_r (sem_assign rfl rfl) ?_
      refine dl_end ?_
      refine dw_ret ?_
      -- path fT
      rw [sqR_f2 (by simpa using hc2), if_neg (by decide), if_neg (by decide), dQ_zero]
      exact ⟨.inr rfl, (resL_cell (us := (([.b false] ++ [.s 0 []]) ++ ([.b false] ++ [.s 0 []]))) ty28 rfl rfl rfl rfl (resL_tmp rfl resL_nil))⟩
    · refine dw_skip ?_
      refine dw_seq ?_
      -- region 5
      refine dw_region (by kernel_rfl) ?_
      refine dl_r (sem_load (us := cI (isqI x.num)) ty26 rfl rfl rfl rfl rfl) ?_
      refine dl_r (sem_load (us := cI (isqI (x.den : Int))) ty26 rfl rfl rfl rfl rfl) ?_
      refine dl_r (sem_build (us := cQ (isqI x.num) (isqI (x.den : Int))) fs28 zc28 rfl rfl rfl) ?_
      refine dl_st (sem_store_a ty28 rfl rfl rfl rfl rfl rfl) ?_
      refine dl_r (sem_assign rfl rfl) ?_
      refine dl_end ?_
      refine dw_ret ?_
      -- path fF
      rw [sqR_t (by simpa using hb1) (by simpa using hc2), if_pos rfl, if_pos rfl]
      exact ⟨.inr rfl, (resL_cell (us := cQ (isqI x.num) (isqI (x.den : Int))) ty28 rfl rfl rfl rfl (resL_tmp rfl resL_nil))⟩
  · refine dl_skip (sem_skip rfl) ?_
    refine dl_skip (sem_skip rfl) ?_
    refine dl_r (sem_pick rfl rfl rfl rfl) ?_
    refine dl_end ?_
    refine dw_true rfl ?_
    refine dw_seq ?_
    -- region 4
    refine dw_region (by kernel_rfl) ?_
    refine dl_r (sem_build (us := (([.b false] ++ [.s 0 []]) ++ ([.b false] ++ [.s 0 []]))) fs28 zc28 rfl rfl rfl) ?_
    refine dl_st (sem_store_a ty28 rfl rfl rfl rfl rfl rfl) ?_
    refine dl_r (sem_assign rfl rfl) ?_
    refine dl_end ?_
    refine dw_ret ?_
    -- path t
    rw [sqR_f1 (by simpa using hb1), if_neg (by decide), if_neg (by decide), dQ_zero]
    exact ⟨.inr rfl, (resL_cell (us := (([.b false] ++ [.s 0 []]) ++ ([.b false] ++ [.s 0 []]))) ty28 rfl rfl rfl rfl (resL_tmp rfl resL_nil))⟩
theorem sSame_ok {x y : Rat} (hx : Rz 300 x) (hy : Rz 300 y) : Ok Tryz.prog 10 [dR x, dR y] [.c (.b (decide (x = y)))] := by
  refine Ok.of (by kernel_rfl) Tryz.func10 rfl rfl ?_
  rw [show Tryz.f10.ntmps = 17 from rfl, show Tryz.f10.results.toList = [.tmp 4] from rfl]
  refine dw_seq ?_
  -- region 0
  refine dw_region (by kernel_rfl) ?_
  refine dl_new (sem_box_a rfl rfl) rfl ?_
  refine dl_new (sem_box_a rfl rfl) rfl ?_
  refine dl_r (sem_assign rfl rfl) ?_
  refine dl_end ?_
  refine dw_seq ?_
  -- region 1
  refine dw_region (by kernel_rfl) ?_
  refine dl_r (sem_field fd28_0 rfl rfl) ?_
  refine dl_r (sem_load (us := cI x.num) ty26 rfl rfl rfl rfl rfl) ?_
  refine dl_r (sem_field fd28_0 rfl rfl) ?_
  refine dl_r (sem_load (us := cI y.num) ty26 rfl rfl rfl rfl rfl) ?_
  refine dl_r (sem_call rfl rfl (nSame_ok (by first | assumption | exact Sz.mono (Rz.n hx) (by decide)) (by first | assumption | exact Sz.mono (Rz.n hy) (by decide))) rfl) ?_
  refine dl_rb (sem_move rfl rfl) (fun c1 hb1 => ?_)
  cases c1
  · refine dl_skip (sem_skip rfl) ?_
    refine dl_skip (sem_skip rfl) ?_
    refine dl_skip (sem_skip rfl) ?_
    refine dl_skip (sem_skip rfl) ?_
    refine dl_skip (sem_skip rfl) ?_
    refine dl_r (sem_pick rfl rfl rfl rfl) ?_
    refine dl_r (sem_assign rfl rfl) ?_
    refine dl_end ?_
    refine dw_ret ?_
    -- path f
    rw [same_f hb1]
    exact ⟨.inr rfl, (resL_tmp rfl resL_nil)⟩
  · refine dl_r (sem_field fd28_1 rfl rfl) ?_
    refine dl_r (sem_load (us := cI (x.den : Int)) ty26 rfl rfl rfl rfl rfl) ?_
    refine dl_r (sem_field fd28_1 rfl rfl) ?_
    refine dl_r (sem_load (us := cI (y.den : Int)) ty26 rfl rfl rfl rfl rfl) ?_
    refine dl_r (sem_call rfl rfl (nSame_ok (by first | assumption | exact Sz.mono (Rz.d hx) (by decide)) (by first | assumption | exact Sz.mono (Rz.d hy) (by decide))) rfl) ?_
    refine dl_r (sem_pick rfl rfl rfl rfl) ?_
    refine dl_r (sem_assign rfl rfl) ?_
    refine dl_end ?_
    refine dw_ret ?_
    -- path t
    rw [same_t hb1]
    exact ⟨.inr rfl, (resL_tmp rfl resL_nil)⟩
end Go.Proofs.YtedlgdliniokiaaGreat
