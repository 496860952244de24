/- Package swarfref01: the functions on numbers. -/
import Derived.Test.YthhhlpdbainlaaaGreatTaH
namespace Go.Proofs.YthhhlpdbainlaaaGreat
open Go Go.RowKit
theorem nSign_ok {x : Int} : Ok Tryz.prog 70 [dI x] [.c (.i .i64 (cmpI x 0))] := by
  refine Ok.of (by kernel_rfl) Tryz.func70 rfl rfl ?_
  rw [show Tryz.f70.ntmps = 9 from rfl, show Tryz.f70.results.toList = [.tmp 2] from rfl]
  refine dw_seq <| dw_region (by kernel_rfl) <| dl_new (sem_box_a rfl rfl) rfl <| dl_r (sem_assign rfl rfl) <| dl_end <| dw_seq <| dw_seq <| dw_region (by kernel_rfl) ?_
  refine dl_r (sem_field fd29_1 rfl rfl) <| dl_r (sem_load1 ty27 rfl rfl rfl rfl) <| dl_r (sem_len sl27 rfl rfl) <| dl_r (sem_cmp rfl rfl rfl rfl) <| dl_end ?_
  refine dw_cond rfl (fun hc1 => ?_) (fun hc1 => ?_)
  · refine dw_seq <| dw_region (by kernel_rfl) <| dl_r (sem_assign rfl rfl) <| dl_end <| dw_ret ?_
    rw [cmp_eq (by have := hc1; simp [lim_eq_nil] at this; omega)]
    exact ⟨.inr rfl, (resL_tmp rfl resL_nil)⟩
  · refine dw_skip <| dw_seq <| dw_seq <| dw_region (by kernel_rfl) <| dl_r (sem_field fd29_0 rfl rfl) <| dl_r (sem_load1 ty4 rfl rfl rfl rfl) <| dl_end ?_
    refine dw_cond rfl (fun hc2 => ?_) (fun hc2 => ?_)
    · refine dw_seq <| dw_region (by kernel_rfl) <| dl_r (sem_assign rfl rfl) <| dl_end <| dw_ret ?_
      rw [cmp_lt (by simpa using hc2)]
      exact ⟨.inr rfl, (resL_tmp rfl resL_nil)⟩
    · refine dw_skip <| dw_seq <| dw_region (by kernel_rfl) <| dl_r (sem_assign rfl rfl) <| dl_end <| dw_ret ?_
      rw [cmp_gt (by have := hc1; have h2 := hc2; simp [lim_eq_nil] at this h2; omega)]
      exact ⟨.inr rfl, (resL_tmp rfl resL_nil)⟩
theorem nCmp_ok {x y : Int} (hx : Sz 1000000 x) (hy : Sz 1000000 y) : Ok Tryz.prog 129 [dI x, dI y] [.c (.i .i64 (cmpI x y))] := by
  refine Ok.of (by kernel_rfl) Tryz.func129 rfl rfl ?_
  rw [show Tryz.f129.ntmps = 24 from rfl, show Tryz.f129.results.toList = [.tmp 4] from rfl]
  refine dw_seq <| dw_region (by kernel_rfl) <| dl_new (sem_box_a rfl rfl) rfl <| dl_new (sem_box_a rfl rfl) rfl <| dl_r (sem_assign rfl rfl) <| dl_end <| dw_seq <| dw_seq ?_
  refine dw_region (by kernel_rfl) <| dl_r (sem_field fd29_0 rfl rfl) <| dl_r (sem_load1 ty4 rfl rfl rfl rfl) <| dl_r (sem_field fd29_0 rfl rfl) <| dl_r (sem_load1 ty4 rfl rfl rfl rfl) <| dl_r (sem_bneq rfl rfl ty_bool rfl) <| dl_end ?_
  refine dw_cond rfl (fun hc1 => ?_) (fun hc1 => ?_)
  · refine dw_seq <| dw_seq <| dw_region (by kernel_rfl) <| dl_r (sem_field fd29_0 rfl rfl) <| dl_r (sem_load1 ty4 rfl rfl rfl rfl) <| dl_end ?_
    refine dw_cond rfl (fun hc2 => ?_) (fun hc2 => ?_)
    · refine dw_seq <| dw_region (by kernel_rfl) <| dl_r (sem_assign rfl rfl) <| dl_end <| dw_ret ?_
      rw [cmp_lt (by have := sgn_ne hc1; have h2 := hc2; simp only [decide_eq_true_eq] at h2; omega)]
      exact ⟨.inr rfl, (resL_tmp rfl resL_nil)⟩
    · refine dw_skip <| dw_seq <| dw_region (by kernel_rfl) <| dl_r (sem_assign rfl rfl) <| dl_end <| dw_ret ?_
      rw [cmp_gt (by have := sgn_ne hc1; have h2 := hc2; simp only [decide_eq_false_iff_not] at h2; omega)]
      exact ⟨.inr rfl, (resL_tmp rfl resL_nil)⟩
  · refine dw_skip <| dw_seq <| dw_seq <| dw_region (by kernel_rfl) <| dl_r (sem_field fd29_0 rfl rfl) <| dl_r (sem_load1 ty4 rfl rfl rfl rfl) <| dl_end ?_
    refine dw_cond rfl (fun hc3 => ?_) (fun hc3 => ?_)
    · refine dw_seq <| dw_region (by kernel_rfl) <| dl_r (sem_field fd29_1 rfl rfl) <| dl_r (sem_load1 ty27 rfl rfl rfl rfl) <| dl_r (sem_field fd29_1 rfl rfl) <| dl_r (sem_load1 ty27 rfl rfl rfl rfl) <| dl_r (sem_call rfl rfl (rCompare_c (by assumption) (by assumption)) rfl) <| dl_r (sem_assign rfl rfl) ?_
      refine dl_end <| dw_ret ?_
      rw [← cmpI_abs_neg hc3 (by have := sgn_eq hc1; have h2 := hc3; simp only [decide_eq_true_eq] at h2; omega)]
      exact ⟨.inr rfl, (resL_tmp rfl resL_nil)⟩
    · refine dw_skip <| dw_seq <| dw_region (by kernel_rfl) <| dl_r (sem_field fd29_1 rfl rfl) <| dl_r (sem_load1 ty27 rfl rfl rfl rfl) <| dl_r (sem_field fd29_1 rfl rfl) <| dl_r (sem_load1 ty27 rfl rfl rfl rfl) <| dl_r (sem_call rfl rfl (rCompare_c (by assumption) (by assumption)) rfl) ?_
      refine dl_r (sem_assign rfl rfl) <| dl_end <| dw_ret ?_
      rw [← cmpI_abs_pos hc3 (by have := sgn_eq hc1; have h2 := hc3; simp only [decide_eq_false_iff_not] at h2; omega)]
      exact ⟨.inr rfl, (resL_tmp rfl resL_nil)⟩
theorem nFrom_ok {x : Int} (h0 : -9223372036854775808 ≤ x) (h1 : x ≤ 9223372036854775807) : Ok Tryz.prog 30 [.c (.i .i64 x)] [dI x] := by
  refine Ok.of (by kernel_rfl) Tryz.func30 rfl rfl ?_
  rw [show Tryz.f30.ntmps = 14 from rfl, show Tryz.f30.results.toList = [.cell 2 29] from rfl]
  refine dw_seq <| dw_region (by kernel_rfl) <| dl_new (sem_alloc zc29 rfl) rfl <| dl_end <| dw_seq <| dw_seq <| dw_region (by kernel_rfl) <| dl_r (sem_move rfl rfl) ?_
  refine dl_r (sem_cmp rfl rfl rfl rfl) <| dl_end ?_
  refine dw_cond rfl (fun hc1 => ?_) (fun hc1 => ?_)
  · have hn : x < 0 := by simpa using hc1
    refine dw_seq <| dw_region (by kernel_rfl) <| dl_r (sem_move rfl rfl) <| dl_r (sem_conv' (r := x + 18446744073709551616) und2 und84 rfl (wu64_neg hn h0) rfl) <| dl_r (sem_neg' (r := -x) rfl (wu64_neg2 hn h0) rfl) <| dl_r (sem_call rfl rfl (rLimbs_ok (by omega) (by omega)) rfl) <| dl_r (sem_call rfl rfl (rSigned_c (Sz.small3 (by omega) (by omega))) rfl) <| dl_st (sem_store_a ty29 rfl rfl rfl rfl rfl rfl) ?_
    refine dl_end <| dw_ret ?_
    have hfin : dI x = dI (sg true (((-x).natAbs : Nat) : Int)) := congrArg dI (by rw [sg_true]; omega)
    rw [hfin]
    exact ⟨.inr rfl, (resL_cell (us := cI (sg true (((-x).natAbs : Nat) : Int))) ty29 rfl rfl rfl rfl resL_nil)⟩
  · have hn : 0 ≤ x := by have := hc1; simp at this; omega
    refine dw_skip <| dw_seq <| dw_region (by kernel_rfl) <| dl_r (sem_move rfl rfl) <| dl_r (sem_conv' (r := x) und2 und84 rfl (nwu64 (by omega) (by omega)) rfl) <| dl_r (sem_call rfl rfl (rLimbs_ok (by omega) (by omega)) rfl) <| dl_r (sem_call rfl rfl (rSigned_c (Sz.small3 (by omega) (by omega))) rfl) <| dl_st (sem_store_a ty29 rfl rfl rfl rfl rfl rfl) ?_
    refine dl_end <| dw_ret ?_
    have hfin : dI x = dI (sg false ((x.natAbs : Nat) : Int)) := congrArg dI (by rw [sg_false]; omega)
    rw [hfin]
    exact ⟨.inr rfl, (resL_cell (us := cI (sg false ((x.natAbs : Nat) : Int))) ty29 rfl rfl rfl rfl resL_nil)⟩
theorem nNeg_ok {x : Int} (hx : Sz 1000000 x) : Ok Tryz.prog 71 [dI x] [dI (-x)] := by
  refine Ok.of (by kernel_rfl) Tryz.func71 rfl rfl ?_
  rw [show Tryz.f71.ntmps = 9 from rfl, show Tryz.f71.results.toList = [.cell 2 29] from rfl]
  refine dw_seq <| dw_region (by kernel_rfl) <| dl_new (sem_box_a rfl rfl) rfl <| dl_new (sem_alloc zc29 rfl) rfl <| dl_end <| dw_seq <| dw_region (by kernel_rfl) <| dl_r (sem_field fd29_0 rfl rfl) ?_
  refine dl_r (sem_load1 ty4 rfl rfl rfl rfl) <| dl_r (sem_not rfl rfl) <| dl_r (sem_field fd29_1 rfl rfl) <| dl_r (sem_load1 ty27 rfl rfl rfl rfl) <| dl_r (sem_call rfl rfl (rSigned_c (by assumption)) rfl) <| dl_st (sem_store_a ty29 rfl rfl rfl rfl rfl rfl) <| dl_end <| dw_ret ?_
  rw [← sa_not (x := x)]
  exact ⟨.inr rfl, (resL_cell (us := cI (sg (!(decide (x < 0))) ((x.natAbs : Nat) : Int))) ty29 rfl rfl rfl rfl resL_nil)⟩
theorem nMul_ok {x y : Int} (hx : Sz 400000 x) (hy : Sz 400000 y) : Ok Tryz.prog 93 [dI x, dI y] [dI (x * y)] := by
  have hx6 : Sz 1000000 x := hx.mono (by decide)
  have hy6 : Sz 1000000 y := hy.mono (by decide)
  have hp : Sz 1000000 ((x.natAbs : Int) * (y.natAbs : Int)) := ((nat_sz hx).mul (nat_sz hy)).mono (by decide)
  refine Ok.of (by kernel_rfl) Tryz.func93 rfl rfl ?_
  rw [show Tryz.f93.ntmps = 16 from rfl, show Tryz.f93.results.toList = [.cell 4 29] from rfl]
  refine dw_seq <| dw_region (by kernel_rfl) <| dl_new (sem_box_a rfl rfl) rfl <| dl_new (sem_box_a rfl rfl) rfl <| dl_new (sem_alloc zc29 rfl) rfl <| dl_end <| dw_seq <| dw_draw 11 [] follows_mixed (by kernel_rfl) rfl rfl ?_
  refine dq_r (sem_field fd29_0 rfl rfl) <| dq_r (sem_load1 ty4 rfl rfl rfl rfl) <| dq_r (sem_field fd29_0 rfl rfl) <| dq_r (sem_load1 ty4 rfl rfl rfl rfl) <| dq_r (sem_bneq rfl rfl ty_bool rfl) <| dq_r (sem_field fd29_1 rfl rfl) <| dq_r (sem_load1 ty27 rfl rfl rfl rfl) <| dq_r (sem_field fd29_1 rfl rfl) ?_
  refine dq_r (sem_load1 ty27 rfl rfl rfl rfl) <| dq_r (sem_call rfl rfl (rTimes_c (by assumption) (by assumption)) rfl) <| dq_r (sem_call rfl rfl (rSigned_c (by assumption)) rfl) <| dq_end <| dl_start0 <| dl_st (sem_store_a ty29 rfl rfl rfl rfl rfl rfl) <| dl_end <| dw_ret ?_
  rw [← sa_mul (x := x) (y := y)]
  exact ⟨.inr rfl, (resL_cell (us := cI (sg (!((decide (x < 0)) == (decide (y < 0)))) ((((x.natAbs : Int) * (y.natAbs : Int)).natAbs : Nat) : Int))) ty29 rfl rfl rfl rfl resL_nil)⟩
theorem nAdd_ok {x y : Int} (hx : Sz 900000 x) (hy : Sz 900000 y) : Ok Tryz.prog 94 [dI x, dI y] [dI (x + y)] := by
  have hx6 : Sz 1000000 x := hx.mono (by decide)
  have hy6 : Sz 1000000 y := hy.mono (by decide)
  have hp : Sz 1000000 ((x.natAbs : Int) + (y.natAbs : Int)) := ((nat_sz (hx.mono (l := 999999) (by decide))).add (nat_sz (hy.mono (by decide)))).mono (by decide)
  refine Ok.of (by kernel_rfl) Tryz.func94 rfl rfl ?_
  rw [show Tryz.f94.ntmps = 40 from rfl, show Tryz.f94.results.toList = [.cell 4 29] from rfl]
  refine dw_seq <| dw_region (by kernel_rfl) <| dl_new (sem_box_a rfl rfl) rfl <| dl_new (sem_box_a rfl rfl) rfl <| dl_new (sem_alloc zc29 rfl) rfl <| dl_end <| dw_seq <| dw_seq ?_
  refine dw_region (by kernel_rfl) <| dl_r (sem_field fd29_0 rfl rfl) <| dl_r (sem_load1 ty4 rfl rfl rfl rfl) <| dl_r (sem_field fd29_0 rfl rfl) <| dl_r (sem_load1 ty4 rfl rfl rfl rfl) <| dl_r (sem_beql rfl rfl ty_bool rfl) <| dl_end ?_
  refine dw_cond rfl (fun hc1 => ?_) (fun hc1 => ?_)
  · refine dw_seq <| dw_draw 8 [] follows_mixed (by kernel_rfl) rfl rfl <| dq_r (sem_field fd29_0 rfl rfl) <| dq_r (sem_load1 ty4 rfl rfl rfl rfl) <| dq_r (sem_field fd29_1 rfl rfl) <| dq_r (sem_load1 ty27 rfl rfl rfl rfl) <| dq_r (sem_field fd29_1 rfl rfl) <| dq_r (sem_load1 ty27 rfl rfl rfl rfl) ?_
    refine dq_r (sem_call rfl rfl (rPlus_c (by assumption) (by assumption)) rfl) <| dq_r (sem_call rfl rfl (rSigned_c (by assumption)) rfl) <| dq_end <| dl_start0 <| dl_st (sem_store_a ty29 rfl rfl rfl rfl rfl rfl) <| dl_end <| dw_ret ?_
    rw [← sa_same hc1]
    exact ⟨.inr rfl, (resL_cell (us := cI (sg (decide (x < 0)) ((((x.natAbs : Int) + (y.natAbs : Int)).natAbs : Nat) : Int))) ty29 rfl rfl rfl rfl resL_nil)⟩
  · refine dw_skip <| dw_seq <| dw_seq <| dw_region (by kernel_rfl) <| dl_r (sem_field fd29_1 rfl rfl) <| dl_r (sem_load1 ty27 rfl rfl rfl rfl) <| dl_r (sem_field fd29_1 rfl rfl) <| dl_r (sem_load1 ty27 rfl rfl rfl rfl) ?_
    refine dl_r (sem_call rfl rfl (rCompare_c (by assumption) (by assumption)) rfl) <| dl_r (sem_cmp rfl rfl rfl rfl) <| dl_end ?_
    refine dw_cond rfl (fun hc2 => ?_) (fun hc2 => ?_)
    · have hge := cmpI_ge hc2
      have hq : Sz 1000000 ((x.natAbs : Int) - (y.natAbs : Int)) := hx6.of_le (by omega)
      refine dw_seq <| dw_draw 8 [] follows_mixed (by kernel_rfl) rfl rfl <| dq_r (sem_field fd29_0 rfl rfl) <| dq_r (sem_load1 ty4 rfl rfl rfl rfl) <| dq_r (sem_field fd29_1 rfl rfl) <| dq_r (sem_load1 ty27 rfl rfl rfl rfl) <| dq_r (sem_field fd29_1 rfl rfl) <| dq_r (sem_load1 ty27 rfl rfl rfl rfl) ?_
      refine dq_r (sem_call rfl rfl (rMinus_c (by assumption) (by omega)) rfl) <| dq_r (sem_call rfl rfl (rSigned_c (by assumption)) rfl) <| dq_end <| dl_start0 <| dl_st (sem_store_a ty29 rfl rfl rfl rfl rfl rfl) <| dl_end <| dw_ret ?_
      rw [← sa_ge hc1 (by omega)]
      exact ⟨.inr rfl, (resL_cell (us := cI (sg (decide (x < 0)) ((((x.natAbs : Int) - (y.natAbs : Int)).natAbs : Nat) : Int))) ty29 rfl rfl rfl rfl resL_nil)⟩
    · have hge := cmpI_lt hc2
      have hq : Sz 1000000 ((y.natAbs : Int) - (x.natAbs : Int)) := hy6.of_le (by omega)
      refine dw_skip <| dw_seq <| dw_draw 8 [] follows_mixed (by kernel_rfl) rfl rfl <| dq_r (sem_field fd29_0 rfl rfl) <| dq_r (sem_load1 ty4 rfl rfl rfl rfl) <| dq_r (sem_field fd29_1 rfl rfl) <| dq_r (sem_load1 ty27 rfl rfl rfl rfl) <| dq_r (sem_field fd29_1 rfl rfl) ?_
      refine dq_r (sem_load1 ty27 rfl rfl rfl rfl) <| dq_r (sem_call rfl rfl (rMinus_c (by assumption) (by omega)) rfl) <| dq_r (sem_call rfl rfl (rSigned_c (by assumption)) rfl) <| dq_end <| dl_start0 <| dl_st (sem_store_a ty29 rfl rfl rfl rfl rfl rfl) <| dl_end <| dw_ret ?_
      rw [← sa_lt hc1 (by omega)]
      exact ⟨.inr rfl, (resL_cell (us := cI (sg (decide (y < 0)) ((((y.natAbs : Int) - (x.natAbs : Int)).natAbs : Nat) : Int))) ty29 rfl rfl rfl rfl resL_nil)⟩
theorem nSub_ok {x y : Int} (hx : Sz 900000 x) (hy : Sz 900000 y) : Ok Tryz.prog 115 [dI x, dI y] [dI (x - y)] := by
  have hx6 : Sz 1000000 x := hx.mono (by decide)
  have hy6 : Sz 1000000 y := hy.mono (by decide)
  have hyn : Sz 900000 (-y) := hy.neg
  refine Ok.of (by kernel_rfl) Tryz.func115 rfl rfl ?_
  rw [show Tryz.f115.ntmps = 9 from rfl, show Tryz.f115.results.toList = [.cell 4 29] from rfl]
  refine dw_seq <| dw_region (by kernel_rfl) <| dl_new (sem_box_a rfl rfl) rfl <| dl_new (sem_box_a rfl rfl) rfl <| dl_new (sem_alloc zc29 rfl) rfl <| dl_end <| dw_seq <| dw_draw 4 [] follows_mixed (by kernel_rfl) rfl rfl ?_
  refine dq_r (sem_load (us := cI x) ty29 rfl rfl rfl rfl rfl) <| dq_r (sem_load (us := cI y) ty29 rfl rfl rfl rfl rfl) <| dq_r (sem_call rfl rfl (nNeg_ok (by assumption)) rfl) <| dq_r (sem_call rfl rfl (nAdd_ok (by assumption) (by assumption)) rfl) <| dq_end <| dl_start0 <| dl_st (sem_store_a ty29 rfl rfl rfl rfl rfl rfl) <| dl_end ?_
  refine dw_ret ?_
  rw [Int.sub_eq_add_neg]
  exact ⟨.inr rfl, (resL_cell (us := cI (x + (-y))) ty29 rfl rfl rfl rfl resL_nil)⟩
theorem nSame_ok {x y : Int} (hx : Sz 1000000 x) (hy : Sz 1000000 y) : Ok Tryz.prog 155 [dI x, dI y] [.c (.b (x == y))] := by
  refine Ok.of (by kernel_rfl) Tryz.func155 rfl rfl ?_
  rw [show Tryz.f155.ntmps = 18 from rfl, show Tryz.f155.results.toList = [.tmp 4] from rfl]
  refine dw_seq <| dw_region (by kernel_rfl) <| dl_new (sem_box_a rfl rfl) rfl <| dl_new (sem_box_a rfl rfl) rfl <| dl_r (sem_assign rfl rfl) <| dl_end <| dw_seq <| dw_region (by kernel_rfl) ?_
  refine dl_r (sem_field fd29_0 rfl rfl) <| dl_r (sem_load1 ty4 rfl rfl rfl rfl) <| dl_r (sem_field fd29_0 rfl rfl) <| dl_r (sem_load1 ty4 rfl rfl rfl rfl) <| dl_r (sem_beql rfl rfl ty_bool rfl) ?_
  refine dl_rb (sem_move rfl rfl) (fun c1 hb1 => ?_)
  cases c1
  · refine dl_skip (sem_skip rfl) <| dl_skip (sem_skip rfl) <| dl_skip (sem_skip rfl) <| dl_skip (sem_skip rfl) <| dl_skip (sem_skip rfl) <| dl_skip (sem_skip rfl) <| dl_r (sem_pick rfl rfl rfl rfl) <| dl_r (sem_assign rfl rfl) ?_
    refine dl_end <| dw_ret ?_
    rw [show (x == y) = false from by have := hb1; simp only [beq_eq_false_iff_ne, ne_eq] at this ⊢; intro e; subst e; exact this rfl]
    exact ⟨.inr rfl, (resL_tmp rfl resL_nil)⟩
  · refine dl_r (sem_field fd29_1 rfl rfl) <| dl_r (sem_load1 ty27 rfl rfl rfl rfl) <| dl_r (sem_field fd29_1 rfl rfl) <| dl_r (sem_load1 ty27 rfl rfl rfl rfl) <| dl_r (sem_call rfl rfl (rCompare_c (by assumption) (by assumption)) rfl) <| dl_r (sem_cmp rfl rfl rfl rfl) <| dl_r (sem_pick rfl rfl rfl rfl) <| dl_r (sem_assign rfl rfl) ?_
    refine dl_end <| dw_ret ?_
    rw [← same_abs hb1]
    exact ⟨.inr rfl, (resL_tmp rfl resL_nil)⟩
theorem nDivMod_ok {x y : Int} (hx : Sz 1000 x) (hy : Sz 1000 y) (h0 : y ≠ 0) : Ok Tryz.prog 73 [dI x, dI y] [dI (x.fdiv y), dI (x.fmod y), .c (.i .i64 0)] := by
  have hq : Sz 900000 (q0 x y) := hx.q0.mono (by decide)
  have hr : Sz 900000 (r0 x y) := (hy.r0 h0).mono (by decide)
  have h1 : Sz 900000 (1 : Int) := Sz.small (by omega) (by omega) (by omega)
  have hy9 : Sz 900000 y := hy.mono (by decide)
  have hqq : Sz 1000000 ((x.natAbs : Int) / y.natAbs) := nq_sz hx
  have hrr : Sz 1000000 ((x.natAbs : Int) % y.natAbs) := nr_sz hy h0
  refine Ok.of (by kernel_rfl) Tryz.func73 rfl rfl ?_
  rw [show Tryz.f73.ntmps = 54 from rfl, show Tryz.f73.results.toList = [.cell 4 29, .cell 5 29, .tmp 6] from rfl]
  refine dw_seq <| dw_region (by kernel_rfl) <| dl_new (sem_box_a rfl rfl) rfl <| dl_new (sem_box_a rfl rfl) rfl <| dl_new (sem_alloc zc29 rfl) rfl <| dl_new (sem_alloc zc29 rfl) rfl <| dl_r (sem_assign rfl rfl) <| dl_end ?_
  refine dw_seq <| dw_seq <| dw_region (by kernel_rfl) <| dl_r (sem_field fd29_1 rfl rfl) <| dl_r (sem_load1 ty27 rfl rfl rfl rfl) <| dl_r (sem_len sl27 rfl rfl) <| dl_r (sem_cmp rfl rfl rfl rfl) <| dl_end ?_
  refine dw_cond rfl (fun hc1 => ?_) (fun hc1 => ?_)
  · exact absurd hc1 (by simp [lim_eq_nil, h0])
  · refine dw_skip <| dw_seq <| dw_region (by kernel_rfl) <| dl_r (sem_field fd29_1 rfl rfl) <| dl_r (sem_load1 ty27 rfl rfl rfl rfl) <| dl_r (sem_field fd29_1 rfl rfl) <| dl_r (sem_load1 ty27 rfl rfl rfl rfl) <| dl_r (sem_call rfl rfl (rParts_c (by assumption) (by assumption) (by assumption)) rfl) ?_
    refine dl_r (sem_move rfl rfl) <| dl_r (sem_extract rfl rfl rfl) <| dl_r (sem_extract rfl rfl rfl) <| dl_r (sem_assign rfl rfl) <| dl_r (sem_assign rfl rfl) <| dl_end <| dw_seq <| dw_draw 13 [] follows_mixed (by kernel_rfl) rfl rfl ?_
    refine dq_r (sem_field fd29_0 rfl rfl) <| dq_r (sem_load1 ty4 rfl rfl rfl rfl) <| dq_r (sem_field fd29_0 rfl rfl) <| dq_r (sem_load1 ty4 rfl rfl rfl rfl) <| dq_r (sem_bneq rfl rfl ty_bool rfl) <| dq_r (sem_move rfl rfl) <| dq_r (sem_call rfl rfl (rSigned_q0 hqq) rfl) <| dq_r (sem_field fd29_0 rfl rfl) ?_
    refine dq_r (sem_load1 ty4 rfl rfl rfl rfl) <| dq_r (sem_move rfl rfl) <| dq_r (sem_call rfl rfl (rSigned_r0 h0 hrr) rfl) <| dq_new (sem_alloc zc29 rfl) rfl <| dq_new (sem_alloc zc29 rfl) rfl <| dq_end <| dl_start2 <| dl_st (sem_store_a ty29 rfl rfl rfl rfl rfl rfl) ?_
    refine dl_st (sem_store_a ty29 rfl rfl rfl rfl rfl rfl) <| dl_end <| dw_seq <| dw_seq <| dw_region (by kernel_rfl) <| dl_r (sem_move rfl rfl) <| dl_r (sem_len sl27 rfl rfl) <| dl_r (sem_cmp rfl rfl rfl rfl) ?_
    refine dl_rb (sem_move rfl rfl) (fun c2 hb2 => ?_)
    cases c2
    · refine dl_skip (sem_skip rfl) <| dl_skip (sem_skip rfl) <| dl_skip (sem_skip rfl) <| dl_skip (sem_skip rfl) <| dl_skip (sem_skip rfl) <| dl_r (sem_pick rfl rfl rfl rfl) <| dl_end <| dw_false rfl ?_
      refine dw_skip <| dw_seq <| dw_draw 5 [4, 5] follows_mixed (by kernel_rfl) rfl rfl <| dq_r (sem_load (us := cI (q0 x y)) ty29 rfl rfl rfl rfl rfl) <| dq_r (sem_load (us := cI (r0 x y)) ty29 rfl rfl rfl rfl rfl) <| dq_st (sem_store_a ty29 rfl rfl rfl rfl rfl rfl) rfl rfl rfl rfl <| dq_st (sem_store_a ty29 rfl rfl rfl rfl rfl rfl) rfl rfl rfl rfl <| dq_r (sem_assign rfl rfl) ?_
      refine dq_end <| dl_start2 <| dl_end <| dw_ret ?_
      obtain ⟨e1, e2⟩ := dm_plain (x := x) h0 (.inl (r0_zero.1 (lenL_zero hb2)))
      rw [e1, e2]
      exact ⟨.inr rfl, (resL_cell (us := cI (q0 x y)) ty29 rfl rfl rfl rfl (resL_cell (us := cI (r0 x y)) ty29 rfl rfl rfl rfl (resL_tmp rfl resL_nil)))⟩
    · refine dl_r (sem_field fd29_0 rfl rfl) <| dl_r (sem_load1 ty4 rfl rfl rfl rfl) <| dl_r (sem_field fd29_0 rfl rfl) <| dl_r (sem_load1 ty4 rfl rfl rfl rfl) <| dl_r (sem_bneq rfl rfl ty_bool rfl) <| dl_r (sem_pick rfl rfl rfl rfl) <| dl_end ?_
      refine dw_cond rfl (fun hc3 => ?_) (fun hc3 => ?_)
      · -- region 6
        refine dw_draw 6 [] follows_mixed (by kernel_rfl) rfl rfl <| dq_r (sem_load (us := cI (q0 x y)) ty29 rfl rfl rfl rfl rfl) <| dq_r (sem_call rfl rfl (nFrom_ok (by omega) (by omega)) rfl) <| dq_r (sem_call rfl rfl (nSub_ok (by assumption) (by assumption)) rfl) <| dq_r (sem_load (us := cI (r0 x y)) ty29 rfl rfl rfl rfl rfl) <| dq_r (sem_load (us := cI y) ty29 rfl rfl rfl rfl rfl) <| dq_r (sem_call rfl rfl (nAdd_ok (by assumption) (by assumption)) rfl) <| dq_end ?_
        refine dl_start0 <| dl_st (sem_store_a ty29 rfl rfl rfl rfl rfl rfl) <| dl_st (sem_store_a ty29 rfl rfl rfl rfl rfl rfl) <| dl_end <| dw_seq <| dw_draw 5 [4, 5] follows_mixed (by kernel_rfl) rfl rfl <| dq_r (sem_load (us := cI ((q0 x y) - 1)) ty29 rfl rfl rfl rfl rfl) <| dq_r (sem_load (us := cI ((r0 x y) + y)) ty29 rfl rfl rfl rfl rfl) ?_
        refine dq_st (sem_store_a ty29 rfl rfl rfl rfl rfl rfl) rfl rfl rfl rfl <| dq_st (sem_store_a ty29 rfl rfl rfl rfl rfl rfl) rfl rfl rfl rfl <| dq_r (sem_assign rfl rfl) <| dq_end <| dl_start2 <| dl_end <| dw_ret ?_
        obtain ⟨e1, e2⟩ := dm_shift (x := x) h0 (fun e => lenL_pos hb2 (r0_zero.2 e)) (by rw [r0_sign h0 (lenL_pos hb2)]; exact sgn_ne hc3)
        rw [e1, e2]
        exact ⟨.inr rfl, (resL_cell (us := cI ((q0 x y) - 1)) ty29 rfl rfl rfl rfl (resL_cell (us := cI ((r0 x y) + y)) ty29 rfl rfl rfl rfl (resL_tmp rfl resL_nil)))⟩
      · refine dw_skip <| dw_seq <| dw_draw 5 [4, 5] follows_mixed (by kernel_rfl) rfl rfl <| dq_r (sem_load (us := cI (q0 x y)) ty29 rfl rfl rfl rfl rfl) <| dq_r (sem_load (us := cI (r0 x y)) ty29 rfl rfl rfl rfl rfl) <| dq_st (sem_store_a ty29 rfl rfl rfl rfl rfl rfl) rfl rfl rfl rfl <| dq_st (sem_store_a ty29 rfl rfl rfl rfl rfl rfl) rfl rfl rfl rfl <| dq_r (sem_assign rfl rfl) ?_
        refine dq_end <| dl_start2 <| dl_end <| dw_ret ?_
        obtain ⟨e1, e2⟩ := dm_plain (x := x) h0 (.inr (by rw [r0_sign h0 (lenL_pos hb2)]; exact sgn_eq hc3))
        rw [e1, e2]
        exact ⟨.inr rfl, (resL_cell (us := cI (q0 x y)) ty29 rfl rfl rfl rfl (resL_cell (us := cI (r0 x y)) ty29 rfl rfl rfl rfl (resL_tmp rfl resL_nil)))⟩
theorem nGCD_ok {x y : Int} (hx : Sz 1000 x) (hy : Sz 1000 y) : Ok Tryz.prog 72 [dI x, dI y] [dI (Int.gcd x y : Int)] := by
  refine Ok.of (by kernel_rfl) Tryz.func72 rfl rfl ?_
  rw [show Tryz.f72.ntmps = 54 from rfl, show Tryz.f72.results.toList = [.cell 4 29] from rfl]
  refine dw_seq <| dw_region (by kernel_rfl) <| dl_new (sem_box_a rfl rfl) rfl <| dl_new (sem_box_a rfl rfl) rfl <| dl_new (sem_alloc zc29 rfl) rfl <| dl_end <| dw_seq <| dw_draw 6 [] follows_mixed (by kernel_rfl) rfl rfl ?_
  refine dq_r (sem_field fd29_1 rfl rfl) <| dq_r (sem_load1 ty27 rfl rfl rfl rfl) <| dq_r (sem_field fd29_1 rfl rfl) <| dq_r (sem_load1 ty27 rfl rfl rfl rfl) <| dq_r (sem_assign rfl rfl) <| dq_r (sem_assign rfl rfl) <| dq_end <| dl_start0 ?_
  refine dl_end <| dw_seq <| dw_block <| dw_loop (ι := {p : Int × Int // RG x y p.1 p.2}) (fun i => ⟨54, [(4, .p 4 0), (5, .v (.c (cL i.1.1))), (6, .v (.c (cL i.1.2)))], [(4, 29, ([.b false] ++ [.s 0 []]))]⟩) (fun i => i.1.2.toNat) ⟨((x.natAbs : Int), (y.natAbs : Int)), RG.start hx hy⟩ (sub_of ⟨rfl, by rw [cL_abs x]; rfl, by rw [cL_abs y]; rfl, trivial⟩ ⟨rfl, trivial⟩ rfl) ?_
  rintro ⟨⟨a, c⟩, hg⟩
  replace hg : RG x y a c := hg
  have ha := hg.sa
  have hcc := hg.sc
  have ha0 := hg.a0
  have hcc0 := hg.c0
  have ha6 : Sz 1000000 a := ha.mono (by decide)
  show Dw _ _ ⟨54, [(4, .p 4 0), (5, .v (.c (cL a))), (6, .v (.c (cL c)))], [(4, 29, ([.b false] ++ [.s 0 []]))]⟩ _
  refine dw_seq <| dw_seq <| dw_region (by kernel_rfl) <| dl_r (sem_move rfl rfl) <| dl_r (sem_len sl27 rfl rfl) <| dl_r (sem_cmp rfl rfl rfl rfl) ?_
  refine dl_rb (sem_move rfl rfl) (fun c1 hb1 => ?_)
  cases c1
  · refine dl_skip (sem_skip rfl) <| dl_skip (sem_skip rfl) <| dl_skip (sem_skip rfl) <| dl_skip (sem_skip rfl) <| dl_skip (sem_skip rfl) <| dl_skip (sem_skip rfl) <| dl_skip (sem_skip rfl) <| dl_skip (sem_skip rfl) ?_
    refine dl_r (sem_pick rfl rfl rfl rfl) <| dl_end <| dw_false rfl <| dw_exit <| dw_seq <| dw_seq <| dw_region (by kernel_rfl) <| dl_r (sem_move rfl rfl) ?_
    refine dl_r (sem_len sl27 rfl rfl) <| dl_r (sem_cmp rfl rfl rfl rfl) <| dl_end ?_
    refine dw_cond rfl (fun hc2 => ?_) (fun hc2 => ?_)
    · refine dw_seq <| dw_region (by kernel_rfl) <| dl_r (sem_move rfl rfl) <| dl_r (sem_call rfl rfl (rSigned_c (by assumption)) rfl) <| dl_st (sem_store_a ty29 rfl rfl rfl rfl rfl rfl) <| dl_end <| dw_ret ?_
      rw [hg.done (lenL_zero hb1)]
      exact ⟨.inr rfl, (resL_cell (us := cI (sg false ((a.natAbs : Nat) : Int))) ty29 rfl rfl rfl rfl resL_nil)⟩
    · exact absurd hc2 (by simp [lim_eq_nil, lenL_zero hb1])
  · have hne := lenL_pos hb1
    refine dl_r (sem_move rfl rfl) <| dl_r (sem_len sl27 rfl rfl) <| dl_r (sem_cmp rfl rfl rfl rfl) ?_
    refine dl_rb (sem_move rfl rfl) (fun c3 hb3 => ?_)
    cases c3
    · have hwa := word_of hb3
      refine dl_r (sem_move rfl rfl) <| dl_r (sem_len sl27 rfl rfl) <| dl_r (sem_cmp rfl rfl rfl rfl) <| dl_r (sem_pick rfl rfl rfl rfl) <| dl_r (sem_pick rfl rfl rfl rfl) <| dl_end ?_
      refine dw_cond rfl (fun hc4 => ?_) (fun hc4 => ?_)
      · refine dw_skip <| dw_block <| dw_seq <| dw_region (by kernel_rfl) <| dl_r (sem_move rfl rfl) <| dl_r (sem_move rfl rfl) <| dl_r (sem_call rfl rfl (rParts_c (by assumption) (by assumption) (by assumption)) rfl) <| dl_r (sem_move rfl rfl) ?_
        refine dl_r (sem_extract rfl rfl rfl) <| dl_r (sem_extract rfl rfl rfl) <| dl_r (sem_assign rfl rfl) <| dl_r (sem_assign rfl rfl) <| dl_end <| dw_region (by kernel_rfl) <| dl_r (sem_move rfl rfl) <| dl_r (sem_move rfl rfl) ?_
        refine dl_r (sem_assign rfl rfl) <| dl_r (sem_assign rfl rfl) <| dl_end ?_
        exact ⟨⟨(c, (a.natAbs : Int) % c.natAbs), hg.step hne⟩, sub_of ⟨rfl, rfl, rfl, trivial⟩ ⟨rfl, trivial⟩ rfl, hg.less hne⟩
      · have hwc := word_of hc4
        refine dw_exit <| dw_seq <| dw_seq <| dw_region (by kernel_rfl) <| dl_r (sem_move rfl rfl) <| dl_r (sem_len sl27 rfl rfl) <| dl_r (sem_cmp rfl rfl rfl rfl) <| dl_end ?_
        refine dw_cond rfl (fun hc5 => ?_) (fun hc5 => ?_)
        · exact absurd hc5 (by simp [lim_eq_nil, hne])
        · refine dw_skip <| dw_seq <| dw_region (by kernel_rfl) <| dl_r (sem_move rfl rfl) <| dl_r (sem_call rfl rfl (rShort_c (by assumption)) rfl) <| dl_r (sem_move rfl rfl) <| dl_r (sem_call rfl rfl (rShort_c (by assumption)) rfl) <| dl_r (sem_assign rfl rfl) ?_
          refine dl_r (sem_assign rfl rfl) <| dl_end <| dw_seq <| dw_block <| dw_loop (ι := {p : Int × Int // GInv2 x y p.1 p.2}) (fun i => ⟨54, [(4, .p 4 0), (9, .v (.c (.i .u64 i.1.1))), (10, .v (.c (.i .u64 i.1.2)))], [(4, 29, ([.b false] ++ [.s 0 []]))]⟩) (fun i => i.1.2.toNat) ⟨((a.natAbs : Int), (c.natAbs : Int)), hg.word hwa hwc⟩ (sub_of ⟨rfl, rfl, rfl, trivial⟩ ⟨rfl, trivial⟩ rfl) ?_
          rintro ⟨⟨u, v⟩, hw⟩
          replace hw : GInv2 x y u v := hw
          have hu0 := hw.u0
          have hu1 := hw.u1
          have hsu : Sz 1000000 u := Sz.small3 hu0 hu1
          show Dw _ _ ⟨54, [(4, .p 4 0), (9, .v (.c (.i .u64 u))), (10, .v (.c (.i .u64 v)))], [(4, 29, ([.b false] ++ [.s 0 []]))]⟩ _
          refine dw_seq <| dw_seq <| dw_region (by kernel_rfl) <| dl_r (sem_move rfl rfl) <| dl_r (sem_cmp rfl rfl rfl rfl) <| dl_end ?_
          refine dw_cond rfl (fun hc6 => ?_) (fun hc6 => ?_)
          · have hv : v > 0 := by simpa using hc6
            have hvn : v ≠ 0 := by omega
            refine dw_skip <| dw_block <| dw_draw 6 [] follows_mixed (by kernel_rfl) rfl rfl <| dq_r (sem_move rfl rfl) <| dq_r (sem_move rfl rfl) <| dq_r (sem_move rfl rfl) <| dq_r (sem_rem rfl rfl (by omega) rfl) <| dq_r (sem_assign rfl rfl) ?_
            refine dq_r (sem_assign rfl rfl) <| dq_end <| dl_start0 <| dl_end ?_
            exact ⟨⟨(v, u.tmod v), hw.step hv⟩, sub_of ⟨rfl, rfl, rfl, trivial⟩ ⟨rfl, trivial⟩ rfl, hw.less hv⟩
          · refine dw_exit <| dw_seq <| dw_region (by kernel_rfl) <| dl_r (sem_move rfl rfl) <| dl_r (sem_call rfl rfl (rLimbs_ok (by omega) (by omega)) rfl) <| dl_r (sem_call rfl rfl (rSigned_c (by assumption)) rfl) <| dl_st (sem_store_a ty29 rfl rfl rfl rfl rfl rfl) <| dl_end ?_
            refine dw_ret ?_
            rw [hw.fin (by simpa using hc6)]
            exact ⟨.inr rfl, (resL_cell (us := cI (sg false ((u.natAbs : Nat) : Int))) ty29 rfl rfl rfl rfl resL_nil)⟩
    · refine dl_skip (sem_skip rfl) <| dl_skip (sem_skip rfl) <| dl_skip (sem_skip rfl) <| dl_r (sem_pick rfl rfl rfl rfl) <| dl_r (sem_pick rfl rfl rfl rfl) <| dl_end <| dw_true rfl <| dw_skip ?_
      refine dw_block <| dw_seq <| dw_region (by kernel_rfl) <| dl_r (sem_move rfl rfl) <| dl_r (sem_move rfl rfl) <| dl_r (sem_call rfl rfl (rParts_c (by assumption) (by assumption) (by assumption)) rfl) <| dl_r (sem_move rfl rfl) <| dl_r (sem_extract rfl rfl rfl) ?_
      refine dl_r (sem_extract rfl rfl rfl) <| dl_r (sem_assign rfl rfl) <| dl_r (sem_assign rfl rfl) <| dl_end <| dw_region (by kernel_rfl) <| dl_r (sem_move rfl rfl) <| dl_r (sem_move rfl rfl) <| dl_r (sem_assign rfl rfl) ?_
      refine dl_r (sem_assign rfl rfl) <| dl_end ?_
      exact ⟨⟨(c, (a.natAbs : Int) % c.natAbs), hg.step hne⟩, sub_of ⟨rfl, rfl, rfl, trivial⟩ ⟨rfl, trivial⟩ rfl, hg.less hne⟩
theorem iSqrt_ok {x : Int} (hx : Sz 999999 x) : Ok Tryz.prog 85 [dI x] [dI (isqI x), .c (.i .i64 (if x < 0 then 7 else 0))] := by
  have h20 : (2 : Int) ≠ 0 := by decide
  have hl := lim_len hx
  have hs2 : Sz 1000000 (2 : Int) := Sz.small (by omega) (by omega) (by omega)
  refine Ok.of (by kernel_rfl) Tryz.func85 rfl rfl ?_
  rw [show Tryz.f85.ntmps = 54 from rfl, show Tryz.f85.results.toList = [.cell 2 29, .tmp 3] from rfl]
  refine dw_seq <| dw_region (by kernel_rfl) <| dl_new (sem_box_a rfl rfl) rfl <| dl_new (sem_alloc zc29 rfl) rfl <| dl_r (sem_assign rfl rfl) <| dl_end <| dw_seq <| dw_seq ?_
  refine dw_region (by kernel_rfl) <| dl_r (sem_field fd29_0 rfl rfl) <| dl_r (sem_load1 ty4 rfl rfl rfl rfl) <| dl_end ?_
  refine dw_cond rfl (fun hc1 => ?_) (fun hc1 => ?_)
  · have hn : x < 0 := by simpa using hc1
    refine dw_seq <| dw_region (by kernel_rfl) <| dl_r (sem_build (us := ([.b false] ++ [.s 0 []])) fs29 zc29 rfl rfl rfl) <| dl_st (sem_store_a ty29 rfl rfl rfl rfl rfl rfl) <| dl_r (sem_assign rfl rfl) <| dl_end <| dw_ret ?_
    rw [isqI_neg hn, if_pos hn, dI_zero]
    exact ⟨.inr rfl, (resL_cell (us := ([.b false] ++ [.s 0 []])) ty29 rfl rfl rfl rfl (resL_tmp rfl resL_nil))⟩
  · have hn : 0 ≤ x := by have := hc1; simp at this; omega
    refine dw_skip <| dw_seq <| dw_seq <| dw_region (by kernel_rfl) <| dl_r (sem_field fd29_1 rfl rfl) <| dl_r (sem_load1 ty27 rfl rfl rfl rfl) <| dl_r (sem_len sl27 rfl rfl) <| dl_r (sem_cmp rfl rfl rfl rfl) ?_
    refine dl_end ?_
    refine dw_cond rfl (fun hc2 => ?_) (fun hc2 => ?_)
    · have hz : x = 0 := by have := hc2; simp [lim_eq_nil] at this; omega
      refine dw_seq <| dw_region (by kernel_rfl) <| dl_r (sem_build (us := ([.b false] ++ [.s 0 []])) fs29 zc29 rfl rfl rfl) <| dl_st (sem_store_a ty29 rfl rfl rfl rfl rfl rfl) <| dl_r (sem_assign rfl rfl) <| dl_end <| dw_ret ?_
      rw [hz, isqI_zero, dI_zero, if_neg (by omega)]
      exact ⟨.inr rfl, (resL_cell (us := ([.b false] ++ [.s 0 []])) ty29 rfl rfl rfl rfl (resL_tmp rfl resL_nil))⟩
    · have hx0 : 0 < x := by have := hc2; simp [lim_eq_nil] at this; omega
      obtain ⟨k, hk⟩ : ∃ k : Nat, ((lim x.natAbs).length + 1) / 2 = k := ⟨_, rfl⟩
      have hpk := pw_pos k
      have hpc : cL (pw k) = cL (pw k) := rfl
      refine dw_skip <| dw_seq <| dw_region (by kernel_rfl) <| dl_r (sem_field fd29_1 rfl rfl) <| dl_r (sem_load1 ty27 rfl rfl rfl rfl) <| dl_r (sem_len sl27 rfl rfl) <| dl_r (sem_ari (r := (((lim x.natAbs).length : Int)) + 1) rfl rfl (ari_i64_add (by omega) (by omega)) rfl) <| dl_r (sem_quo' (r := (k : Int)) rfl rfl (by omega) (by rw [Int.tdiv_eq_ediv_of_nonneg (by omega), show (((lim x.natAbs).length : Int) + 1) / 2 = (k : Int) from by omega]; exact nw64 (by omega) (by omega)) rfl) ?_
      refine dl_r (sem_assign rfl rfl) <| dl_end <| dw_seq <| dw_region (by kernel_rfl) <| dl_r (sem_move rfl rfl) <| dl_mk (sem_make (n := k) el27 rfl rfl (by omega) (by omega) rfl) rfl <| dl_r (sem_slit_M el27 rfl rfl) <| dl_c (sem_append_pw el27 rfl rfl rfl (by omega) rfl) ?_
      refine dl_r (sem_call rfl rfl (iSigned_cL) rfl) <| dl_new (sem_alloc zc29 rfl) rfl <| dl_st (sem_store_a ty29 rfl rfl rfl rfl rfl rfl) <| dl_end <| dw_seq <| dw_region (by kernel_rfl) <| dl_r (sem_call rfl rfl (iFrom_ok (by omega) (by omega)) rfl) <| dl_new (sem_alloc zc29 rfl) rfl ?_
      refine dl_st (sem_store_a ty29 rfl rfl rfl rfl rfl rfl) <| dl_end <| dw_block <| dw_loop (ι := {r : Int // NInv 999999 x r}) (fun i => ⟨54, [(1, .p 1 0), (2, .p 2 0), (3, .v (.c (.i .i64 0))), (5, .p 5 0), (6, .p 6 0)], [(1, 29, cI x), (2, 29, ([.b false] ++ [.s 0 []])), (5, 29, cI i.1), (6, 29, cI 2)]⟩) (fun i => i.1.toNat) ⟨pw k, NInv.start hx0 hx hk (by omega)⟩ (sub_of ⟨rfl, rfl, rfl, rfl, rfl, trivial⟩ ⟨rfl, rfl, by rw [show sg false (((pw k).natAbs : Nat) : Int) = pw k from by rw [sg_false]; have := pw_pos k; omega]; rfl, rfl, trivial⟩ rfl) ?_
      rintro ⟨r, hg⟩
      replace hg : NInv 999999 x r := hg
      have hsr := hg.sz
      have hr0 := hg.r0
      have hrn : r ≠ 0 := by omega
      obtain ⟨hsq, hsum, hsn⟩ := hg.sum hx hx0
      have a1 : Sz 1000000 r := hsr.mono (by decide)
      have a2 : Sz 1000000 (x.fdiv r) := hsq.mono (by decide)
      have a3 : Sz 1000000 x := hx.mono (by decide)
      show Dw _ _ ⟨54, [(1, .p 1 0), (2, .p 2 0), (3, .v (.c (.i .i64 0))), (5, .p 5 0), (6, .p 6 0)], [(1, 29, cI x), (2, 29, ([.b false] ++ [.s 0 []])), (5, 29, cI r), (6, 29, cI 2)]⟩ _
      refine dw_block <| dw_seq <| dw_region (by kernel_rfl) <| dl_r (sem_load (us := cI x) ty29 rfl rfl rfl rfl rfl) <| dl_r (sem_load (us := cI r) ty29 rfl rfl rfl rfl rfl) <| dl_r (sem_call rfl rfl (iDivMod_ok (by assumption) (by assumption) (by assumption)) rfl) <| dl_r (sem_move rfl rfl) <| dl_r (sem_extract rfl rfl rfl) ?_
      refine dl_r (sem_extract rfl rfl rfl) <| dl_r (sem_extract rfl rfl rfl) <| dl_new (sem_alloc zc29 rfl) rfl <| dl_new (sem_alloc zc29 rfl) rfl <| dl_st (sem_store_a ty29 rfl rfl rfl rfl rfl rfl) <| dl_st (sem_store_a ty29 rfl rfl rfl rfl rfl rfl) <| dl_r (sem_assign rfl rfl) <| dl_end ?_
      refine dw_seq <| dw_draw 14 [10, 11] follows_mixed (by kernel_rfl) rfl rfl <| dq_r (sem_load (us := cI r) ty29 rfl rfl rfl rfl rfl) <| dq_r (sem_load (us := cI (x.fdiv r)) ty29 rfl rfl rfl rfl rfl) <| dq_r (sem_call rfl rfl (iAdd_ok (by assumption) (by assumption)) rfl) <| dq_r (sem_load (us := cI 2) ty29 rfl rfl rfl rfl rfl) <| dq_r (sem_call rfl rfl (iDivMod_ok (by assumption) (by assumption) (by assumption)) rfl) <| dq_r (sem_move rfl rfl) ?_
      refine dq_r (sem_extract rfl rfl rfl) <| dq_r (sem_extract rfl rfl rfl) <| dq_r (sem_extract rfl rfl rfl) <| dq_new (sem_alloc zc29 rfl) rfl <| dq_new (sem_alloc zc29 rfl) rfl <| dq_sn (sem_store_a ty29 rfl rfl rfl rfl rfl rfl) rfl rfl rfl rfl <| dq_sn (sem_store_a ty29 rfl rfl rfl rfl rfl rfl) rfl rfl rfl rfl <| dq_r (sem_assign rfl rfl) ?_
      refine dq_end <| dl_start4 <| dl_end <| dw_seq <| dw_seq <| dw_region (by kernel_rfl) <| dl_r (sem_load (us := cI ((r + (x.fdiv r)).fdiv 2)) ty29 rfl rfl rfl rfl rfl) <| dl_r (sem_load (us := cI r) ty29 rfl rfl rfl rfl rfl) ?_
      refine dl_r (sem_call rfl rfl (iCmp_ok) rfl) <| dl_r (sem_cmp rfl rfl rfl rfl) <| dl_end ?_
      refine dw_cond rfl (fun hc3 => ?_) (fun hc3 => ?_)
      · have hst := cmpI_ge hc3
        refine dw_seq <| dw_region (by kernel_rfl) <| dl_r (sem_load (us := cI r) ty29 rfl rfl rfl rfl rfl) <| dl_st (sem_store_a ty29 rfl rfl rfl rfl rfl rfl) <| dl_r (sem_assign rfl rfl) <| dl_end <| dw_ret ?_
        rw [hg.done hx0 hst, if_neg (by omega)]
        exact ⟨.inr rfl, (resL_cell (us := cI r) ty29 rfl rfl rfl rfl (resL_tmp rfl resL_nil))⟩
      · have hlt := cmpI_lt hc3
        refine dw_skip <| dw_region (by kernel_rfl) <| dl_r (sem_load (us := cI ((r + (x.fdiv r)).fdiv 2)) ty29 rfl rfl rfl rfl rfl) <| dl_st (sem_store_a ty29 rfl rfl rfl rfl rfl rfl) <| dl_end ?_
        exact ⟨⟨(r + x.fdiv r).fdiv 2, hg.next hx0 hlt⟩, sub_of ⟨rfl, rfl, rfl, rfl, rfl, trivial⟩ ⟨rfl, rfl, rfl, rfl, trivial⟩ rfl, by show ((r + x.fdiv r).fdiv 2).toNat < r.toNat; omega⟩
theorem nSqrt_ok {x : Int} (hx : Sz 999 x) : Ok Tryz.prog 154 [dI x] [dI (isqI x), .c (.i .i64 (if x < 0 then 7 else 0))] := by
  have h20 : (2 : Int) ≠ 0 := by decide
  have hl := lim_len hx
  have hs2 : Sz 1000 (2 : Int) := Sz.small (by omega) (by omega) (by omega)
  refine Ok.of (by kernel_rfl) Tryz.func154 rfl rfl ?_
  rw [show Tryz.f154.ntmps = 52 from rfl, show Tryz.f154.results.toList = [.cell 2 29, .tmp 3] from rfl]
  refine dw_seq <| dw_region (by kernel_rfl) <| dl_new (sem_box_a rfl rfl) rfl <| dl_new (sem_alloc zc29 rfl) rfl <| dl_r (sem_assign rfl rfl) <| dl_end <| dw_seq <| dw_seq ?_
  refine dw_region (by kernel_rfl) <| dl_r (sem_field fd29_0 rfl rfl) <| dl_r (sem_load1 ty4 rfl rfl rfl rfl) <| dl_end ?_
  refine dw_cond rfl (fun hc1 => ?_) (fun hc1 => ?_)
  · have hn : x < 0 := by simpa using hc1
    refine dw_seq <| dw_region (by kernel_rfl) <| dl_r (sem_build (us := ([.b false] ++ [.s 0 []])) fs29 zc29 rfl rfl rfl) <| dl_st (sem_store_a ty29 rfl rfl rfl rfl rfl rfl) <| dl_r (sem_assign rfl rfl) <| dl_end <| dw_ret ?_
    rw [isqI_neg hn, if_pos hn, dI_zero]
    exact ⟨.inr rfl, (resL_cell (us := ([.b false] ++ [.s 0 []])) ty29 rfl rfl rfl rfl (resL_tmp rfl resL_nil))⟩
  · have hn : 0 ≤ x := by have := hc1; simp at this; omega
    refine dw_skip <| dw_seq <| dw_seq <| dw_region (by kernel_rfl) <| dl_r (sem_field fd29_1 rfl rfl) <| dl_r (sem_load1 ty27 rfl rfl rfl rfl) <| dl_r (sem_len sl27 rfl rfl) <| dl_r (sem_cmp rfl rfl rfl rfl) ?_
    refine dl_end ?_
    refine dw_cond rfl (fun hc2 => ?_) (fun hc2 => ?_)
    · have hz : x = 0 := by have := hc2; simp [lim_eq_nil] at this; omega
      refine dw_seq <| dw_region (by kernel_rfl) <| dl_r (sem_build (us := ([.b false] ++ [.s 0 []])) fs29 zc29 rfl rfl rfl) <| dl_st (sem_store_a ty29 rfl rfl rfl rfl rfl rfl) <| dl_r (sem_assign rfl rfl) <| dl_end <| dw_ret ?_
      rw [hz, isqI_zero, dI_zero, if_neg (by omega)]
      exact ⟨.inr rfl, (resL_cell (us := ([.b false] ++ [.s 0 []])) ty29 rfl rfl rfl rfl (resL_tmp rfl resL_nil))⟩
    · have hx0 : 0 < x := by have := hc2; simp [lim_eq_nil] at this; omega
      obtain ⟨k, hk⟩ : ∃ k : Nat, ((lim x.natAbs).length + 1) / 2 = k := ⟨_, rfl⟩
      have hpk := pw_pos k
      have hpc : cL (pw k) = cL (pw k) := rfl
      refine dw_skip <| dw_seq <| dw_region (by kernel_rfl) <| dl_r (sem_field fd29_1 rfl rfl) <| dl_r (sem_load1 ty27 rfl rfl rfl rfl) <| dl_r (sem_len sl27 rfl rfl) <| dl_r (sem_ari (r := (((lim x.natAbs).length : Int)) + 1) rfl rfl (ari_i64_add (by omega) (by omega)) rfl) <| dl_r (sem_quo' (r := (k : Int)) rfl rfl (by omega) (by rw [Int.tdiv_eq_ediv_of_nonneg (by omega), show (((lim x.natAbs).length : Int) + 1) / 2 = (k : Int) from by omega]; exact nw64 (by omega) (by omega)) rfl) ?_
      refine dl_mk (sem_make (n := k) el27 rfl rfl (by omega) (by omega) rfl) rfl <| dl_r (sem_slit_M el27 rfl rfl) <| dl_c (sem_append_pw el27 rfl rfl rfl (by omega) rfl) <| dl_r (sem_build (us := ([.b false] ++ [cL (pw k)])) fs29 zc29 rfl rfl rfl) <| dl_new (sem_alloc zc29 rfl) rfl <| dl_st (sem_store_a ty29 rfl rfl rfl rfl rfl rfl) <| dl_end <| dw_seq ?_
      refine dw_region (by kernel_rfl) <| dl_r (sem_call rfl rfl (nFrom_ok (by omega) (by omega)) rfl) <| dl_new (sem_alloc zc29 rfl) rfl <| dl_st (sem_store_a ty29 rfl rfl rfl rfl rfl rfl) <| dl_end <| dw_block <| dw_loop (ι := {r : Int // NInv 999 x r}) (fun i => ⟨52, [(1, .p 1 0), (2, .p 2 0), (3, .v (.c (.i .i64 0))), (4, .p 4 0), (5, .p 5 0)], [(1, 29, cI x), (2, 29, ([.b false] ++ [.s 0 []])), (4, 29, cI i.1), (5, 29, cI 2)]⟩) (fun i => i.1.toNat) ⟨pw k, NInv.start hx0 hx hk (by omega)⟩ (sub_of ⟨rfl, rfl, rfl, rfl, rfl, trivial⟩ ⟨rfl, rfl, by rw [cI_nn (by have := pw_pos k; omega)]; rfl, rfl, trivial⟩ rfl) ?_
      rintro ⟨r, hg⟩
      replace hg : NInv 999 x r := hg
      have hsr := hg.sz
      have hr0 := hg.r0
      have hrn : r ≠ 0 := by omega
      obtain ⟨hsq, hsum, hsn⟩ := hg.sum hx hx0
      have a1 : Sz 1000 r := hsr.mono (by decide)
      have a2 : Sz 900000 (x.fdiv r) := hsq.mono (by decide)
      have a3 : Sz 1000 x := hx.mono (by decide)
      have a4 : Sz 900000 r := hsr.mono (by decide)
      have a5 : Sz 1000000 r := hsr.mono (by decide)
      have a6 : Sz 1000000 ((r + x.fdiv r).fdiv 2) := hsn.mono (by decide)
      show Dw _ _ ⟨52, [(1, .p 1 0), (2, .p 2 0), (3, .v (.c (.i .i64 0))), (4, .p 4 0), (5, .p 5 0)], [(1, 29, cI x), (2, 29, ([.b false] ++ [.s 0 []])), (4, 29, cI r), (5, 29, cI 2)]⟩ _
      refine dw_block <| dw_seq <| dw_region (by kernel_rfl) <| dl_r (sem_load (us := cI x) ty29 rfl rfl rfl rfl rfl) <| dl_r (sem_load (us := cI r) ty29 rfl rfl rfl rfl rfl) <| dl_r (sem_call rfl rfl (nDivMod_ok (by assumption) (by assumption) (by assumption)) rfl) <| dl_r (sem_move rfl rfl) <| dl_r (sem_extract rfl rfl rfl) ?_
      refine dl_r (sem_extract rfl rfl rfl) <| dl_r (sem_extract rfl rfl rfl) <| dl_new (sem_alloc zc29 rfl) rfl <| dl_new (sem_alloc zc29 rfl) rfl <| dl_st (sem_store_a ty29 rfl rfl rfl rfl rfl rfl) <| dl_st (sem_store_a ty29 rfl rfl rfl rfl rfl rfl) <| dl_r (sem_assign rfl rfl) <| dl_end ?_
      refine dw_seq <| dw_draw 14 [9, 10] follows_mixed (by kernel_rfl) rfl rfl <| dq_r (sem_load (us := cI r) ty29 rfl rfl rfl rfl rfl) <| dq_r (sem_load (us := cI (x.fdiv r)) ty29 rfl rfl rfl rfl rfl) <| dq_r (sem_call rfl rfl (nAdd_ok (by assumption) (by assumption)) rfl) <| dq_r (sem_load (us := cI 2) ty29 rfl rfl rfl rfl rfl) <| dq_r (sem_call rfl rfl (nDivMod_ok (by assumption) (by assumption) (by assumption)) rfl) <| dq_r (sem_move rfl rfl) ?_
      refine dq_r (sem_extract rfl rfl rfl) <| dq_r (sem_extract rfl rfl rfl) <| dq_r (sem_extract rfl rfl rfl) <| dq_new (sem_alloc zc29 rfl) rfl <| dq_new (sem_alloc zc29 rfl) rfl <| dq_sn (sem_store_a ty29 rfl rfl rfl rfl rfl rfl) rfl rfl rfl rfl <| dq_sn (sem_store_a ty29 rfl rfl rfl rfl rfl rfl) rfl rfl rfl rfl <| dq_r (sem_assign rfl rfl) ?_
      refine dq_end <| dl_start4 <| dl_end <| dw_seq <| dw_seq <| dw_region (by kernel_rfl) <| dl_r (sem_load (us := cI ((r + (x.fdiv r)).fdiv 2)) ty29 rfl rfl rfl rfl rfl) <| dl_r (sem_load (us := cI r) ty29 rfl rfl rfl rfl rfl) ?_
      refine dl_r (sem_call rfl rfl (nCmp_ok (by assumption) (by assumption)) rfl) <| dl_r (sem_cmp rfl rfl rfl rfl) <| dl_end ?_
      refine dw_cond rfl (fun hc3 => ?_) (fun hc3 => ?_)
      · have hst := cmpI_ge hc3
        refine dw_seq <| dw_region (by kernel_rfl) <| dl_r (sem_load (us := cI r) ty29 rfl rfl rfl rfl rfl) <| dl_st (sem_store_a ty29 rfl rfl rfl rfl rfl rfl) <| dl_r (sem_assign rfl rfl) <| dl_end <| dw_ret ?_
        rw [hg.done hx0 hst, if_neg (by omega)]
        exact ⟨.inr rfl, (resL_cell (us := cI r) ty29 rfl rfl rfl rfl (resL_tmp rfl resL_nil))⟩
      · have hlt := cmpI_lt hc3
        refine dw_skip <| dw_region (by kernel_rfl) <| dl_r (sem_load (us := cI ((r + (x.fdiv r)).fdiv 2)) ty29 rfl rfl rfl rfl rfl) <| dl_st (sem_store_a ty29 rfl rfl rfl rfl rfl rfl) <| dl_end ?_
        exact ⟨⟨(r + x.fdiv r).fdiv 2, hg.next hx0 hlt⟩, sub_of ⟨rfl, rfl, rfl, rfl, rfl, trivial⟩ ⟨rfl, rfl, rfl, rfl, trivial⟩ rfl, by show ((r + x.fdiv r).fdiv 2).toNat < r.toNat; omega⟩
theorem unit_ok  : Ok Tryz.prog 89 [] [dI 1] := by
  refine Ok.of (by kernel_rfl) Tryz.func89 rfl rfl ?_
  rw [show Tryz.f89.ntmps = 2 from rfl, show Tryz.f89.results.toList = [.cell 0 29] from rfl]
  refine dw_seq <| dw_region (by kernel_rfl) <| dl_new (sem_alloc zc29 rfl) rfl <| dl_end <| dw_seq <| dw_region (by kernel_rfl) <| dl_r (sem_call rfl rfl (iFrom_ok (by omega) (by omega)) rfl) <| dl_st (sem_store_a ty29 rfl rfl rfl rfl rfl rfl) ?_
  refine dl_end <| dw_ret ?_
  exact ⟨.inr rfl, (resL_cell (us := cI 1) ty29 rfl rfl rfl rfl resL_nil)⟩
theorem isNaN_ok {m : Int} : Ok Tryz.prog 91 [.c (.i .i64 m)] [.c (.b false)] := by
  refine Ok.of (by kernel_rfl) Tryz.func91 rfl rfl ?_
  rw [show Tryz.f91.ntmps = 6 from rfl, show Tryz.f91.results.toList = [.tmp 2] from rfl]
  refine dw_seq <| dw_region (by kernel_rfl) <| dl_r (sem_assign rfl rfl) <| dl_end <| dw_seq <| dw_region (by kernel_rfl) <| dl_r (sem_move rfl rfl) <| dl_r (sem_move rfl rfl) ?_
  refine dl_r (sem_cmp rfl rfl rfl rfl) <| dl_r (sem_assign rfl rfl) <| dl_end <| dw_ret ?_
  exact ⟨.inr rfl, by simpa using (resL_tmp rfl resL_nil)⟩
theorem cmpInt_ok {m n : Int} : Ok Tryz.prog 43 [.c (.i .i64 m), .c (.i .i64 n)] [.c (.i .i64 (cmpI m n))] := by
  refine Ok.of (by kernel_rfl) Tryz.func43 rfl rfl ?_
  rw [show Tryz.f43.ntmps = 20 from rfl, show Tryz.f43.results.toList = [.tmp 4] from rfl]
  refine dw_seq <| dw_region (by kernel_rfl) <| dl_r (sem_assign rfl rfl) <| dl_end <| dw_seq <| dw_region (by kernel_rfl) <| dl_r (sem_move rfl rfl) <| dl_r (sem_call rfl rfl (isNaN_ok) rfl) ?_
  refine dl_r (sem_assign rfl rfl) <| dl_end <| dw_seq <| dw_region (by kernel_rfl) <| dl_r (sem_move rfl rfl) <| dl_r (sem_call rfl rfl (isNaN_ok) rfl) <| dl_r (sem_assign rfl rfl) <| dl_end ?_
  refine dw_seq <| dw_seq <| dw_region (by kernel_rfl) <| dl_r (sem_move rfl rfl) <| dl_end <| dw_false rfl <| dw_skip <| dw_seq ?_
  refine dw_seq <| dw_region (by kernel_rfl) <| dl_r (sem_move rfl rfl) <| dl_end <| dw_false rfl <| dw_skip <| dw_seq <| dw_seq ?_
  refine dw_region (by kernel_rfl) <| dl_r (sem_move rfl rfl) <| dl_r (sem_move rfl rfl) <| dl_r (sem_cmp rfl rfl rfl rfl) <| dl_end ?_
  refine dw_cond rfl (fun hc1 => ?_) (fun hc1 => ?_)
  · refine dw_seq <| dw_region (by kernel_rfl) <| dl_r (sem_assign rfl rfl) <| dl_end <| dw_ret ?_
    rw [cmp_lt (by simpa using hc1)]
    exact ⟨.inr rfl, (resL_tmp rfl resL_nil)⟩
  · refine dw_skip <| dw_seq <| dw_seq <| dw_region (by kernel_rfl) <| dl_r (sem_move rfl rfl) <| dl_r (sem_move rfl rfl) <| dl_r (sem_cmp rfl rfl rfl rfl) <| dl_end ?_
    refine dw_cond rfl (fun hc2 => ?_) (fun hc2 => ?_)
    · refine dw_seq <| dw_region (by kernel_rfl) <| dl_r (sem_assign rfl rfl) <| dl_end <| dw_ret ?_
      rw [cmp_gt (by simpa using hc2)]
      exact ⟨.inr rfl, (resL_tmp rfl resL_nil)⟩
    · refine dw_skip <| dw_seq <| dw_region (by kernel_rfl) <| dl_r (sem_assign rfl rfl) <| dl_end <| dw_ret ?_
      rw [cmp_eq (by have := hc1; have h2 := hc2; simp at this h2; omega)]
      exact ⟨.inr rfl, (resL_tmp rfl resL_nil)⟩
theorem pSign_ok {x : Rat} : Ok Tryz.prog 25 [dR x] [.c (.i .i64 (cmpR x 0))] := by
  refine Ok.of (by kernel_rfl) Tryz.func25 rfl rfl ?_
  rw [show Tryz.f25.ntmps = 6 from rfl, show Tryz.f25.results.toList = [.tmp 2] from rfl]
  refine dw_seq <| dw_region (by kernel_rfl) <| dl_new (sem_box_a rfl rfl) rfl <| dl_r (sem_assign rfl rfl) <| dl_end <| dw_seq <| dw_region (by kernel_rfl) <| dl_r (sem_field fd31_0 rfl rfl) ?_
  refine dl_r (sem_load (us := cI x.num) ty29 rfl rfl rfl rfl rfl) <| dl_r (sem_call rfl rfl (iSign_ok) rfl) <| dl_r (sem_assign rfl rfl) <| dl_end <| dw_ret ?_
  rw [← cmpR_num]
  exact ⟨.inr rfl, (resL_tmp rfl resL_nil)⟩
theorem pWhole_ok {n : Int} : Ok Tryz.prog 48 [dI n] [dR (n : Rat)] := by
  refine Ok.of (by kernel_rfl) Tryz.func48 rfl rfl ?_
  rw [show Tryz.f48.ntmps = 6 from rfl, show Tryz.f48.results.toList = [.cell 2 31] from rfl]
  refine dw_seq <| dw_region (by kernel_rfl) <| dl_new (sem_box_a rfl rfl) rfl <| dl_new (sem_alloc zc31 rfl) rfl <| dl_end <| dw_seq <| dw_draw 3 [] follows_mixed (by kernel_rfl) rfl rfl <| dq_r (sem_load (us := cI n) ty29 rfl rfl rfl rfl rfl) ?_
  refine dq_r (sem_call rfl rfl (unit_ok) rfl) <| dq_r (sem_build (us := cQ n 1) fs31 zc31 rfl rfl rfl) <| dq_end <| dl_start0 <| dl_st (sem_store_a ty31 rfl rfl rfl rfl rfl rfl) <| dl_end <| dw_ret ?_
  rw [dR_int]
  exact ⟨.inr rfl, (resL_cell (us := cQ n 1) ty31 rfl rfl rfl rfl resL_nil)⟩
theorem pFrom_ok {n : Int} (h0 : -9223372036854775808 ≤ n) (h1 : n ≤ 9223372036854775807) : Ok Tryz.prog 18 [.c (.i .i64 n)] [dR (n : Rat)] := by
  refine Ok.of (by kernel_rfl) Tryz.func18 rfl rfl ?_
  rw [show Tryz.f18.ntmps = 6 from rfl, show Tryz.f18.results.toList = [.cell 2 31] from rfl]
  refine dw_seq <| dw_region (by kernel_rfl) <| dl_new (sem_alloc zc31 rfl) rfl <| dl_end <| dw_seq <| dw_region (by kernel_rfl) <| dl_r (sem_move rfl rfl) <| dl_r (sem_call rfl rfl (iFrom_ok (by omega) (by omega)) rfl) ?_
  refine dl_r (sem_call rfl rfl (pWhole_ok) rfl) <| dl_st (sem_store_a ty31 rfl rfl rfl rfl rfl rfl) <| dl_end <| dw_ret ?_
  exact ⟨.inr rfl, (resL_cell (us := cR (n : Rat)) ty31 rfl rfl rfl rfl resL_nil)⟩
theorem pExact_ok {x y : Int} (hx : Sz 1000000 x) (hy : Sz 1000000 y) (h0 : y ≠ 0) : Ok Tryz.prog 90 [dI x, dI y] [dI (x.fdiv y)] := by
  refine Ok.of (by kernel_rfl) Tryz.func90 rfl rfl ?_
  rw [show Tryz.f90.ntmps = 16 from rfl, show Tryz.f90.results.toList = [.cell 4 29] from rfl]
  refine dw_seq <| dw_region (by kernel_rfl) <| dl_new (sem_box_a rfl rfl) rfl <| dl_new (sem_box_a rfl rfl) rfl <| dl_new (sem_alloc zc29 rfl) rfl <| dl_end <| dw_seq <| dw_region (by kernel_rfl) ?_
  refine dl_r (sem_load (us := cI x) ty29 rfl rfl rfl rfl rfl) <| dl_r (sem_load (us := cI y) ty29 rfl rfl rfl rfl rfl) ?_
  refine dl_r (sem_call rfl rfl (iDivMod_ok (by first | assumption | exact Sz.mono hx (by decide)) (by first | assumption | exact Sz.mono hy (by decide)) (by assumption)) rfl) ?_
  refine dl_r (sem_move rfl rfl) <| dl_r (sem_extract rfl rfl rfl) <| dl_r (sem_extract rfl rfl rfl) <| dl_r (sem_extract rfl rfl rfl) <| dl_new (sem_alloc zc29 rfl) rfl <| dl_new (sem_alloc zc29 rfl) rfl <| dl_st (sem_store_a ty29 rfl rfl rfl rfl rfl rfl) <| dl_st (sem_store_a ty29 rfl rfl rfl rfl rfl rfl) ?_
  refine dl_r (sem_assign rfl rfl) <| dl_end <| dw_seq <| dw_region (by kernel_rfl) <| dl_r (sem_load (us := cI (x.fdiv y)) ty29 rfl rfl rfl rfl rfl) <| dl_st (sem_store_a ty29 rfl rfl rfl rfl rfl rfl) <| dl_end <| dw_ret ?_
  exact ⟨.inr rfl, (resL_cell (us := cI (x.fdiv y)) ty29 rfl rfl rfl rfl resL_nil)⟩
theorem pReduce_ok {x y : Int} (hx : Sz 999 x) (hy : Sz 999 y) (h0 : y ≠ 0) : Ok Tryz.prog 40 [dI x, dI y] [dR (Rat.divInt x y)] := by
  have hg := gcd_ne (n := x) h0
  have hg2 := gcd_ne (n := -x) (d := -y) (by omega)
  have hgs := Sz.gcd (x := x) hy h0
  have hgs2 := Sz.gcd (x := -x) hy.neg (by omega)
  refine Ok.of (by kernel_rfl) Tryz.func40 rfl rfl ?_
  rw [show Tryz.f40.ntmps = 29 from rfl, show Tryz.f40.results.toList = [.cell 4 31] from rfl]
  refine dw_seq <| dw_region (by kernel_rfl) <| dl_new (sem_box_a rfl rfl) rfl <| dl_new (sem_box_a rfl rfl) rfl <| dl_new (sem_alloc zc31 rfl) rfl <| dl_end <| dw_seq <| dw_seq ?_
  refine dw_region (by kernel_rfl) <| dl_r (sem_load (us := cI y) ty29 rfl rfl rfl rfl rfl) <| dl_r (sem_call rfl rfl (iSign_ok) rfl) <| dl_r (sem_cmp rfl rfl rfl rfl) <| dl_end ?_
  refine dw_cond rfl (fun hc1 => ?_) (fun hc1 => ?_)
  · have hn := t_lt hc1
    refine dw_draw 4 [] follows_mixed (by kernel_rfl) rfl rfl <| dq_r (sem_load (us := cI x) ty29 rfl rfl rfl rfl rfl) ?_
    refine dq_r (sem_call rfl rfl (iNeg_ok (by first | assumption | exact Sz.mono hx (by decide))) rfl) ?_
    refine dq_r (sem_load (us := cI y) ty29 rfl rfl rfl rfl rfl) ?_
    refine dq_r (sem_call rfl rfl (iNeg_ok (by first | assumption | exact Sz.mono hy (by decide))) rfl) ?_
    refine dq_end <| dl_start0 <| dl_st (sem_store_a ty29 rfl rfl rfl rfl rfl rfl) <| dl_st (sem_store_a ty29 rfl rfl rfl rfl rfl rfl) <| dl_end <| dw_seq <| dw_seq <| dw_region (by kernel_rfl) ?_
    refine dl_r (sem_load (us := cI (-x)) ty29 rfl rfl rfl rfl rfl) <| dl_r (sem_load (us := cI (-y)) ty29 rfl rfl rfl rfl rfl) ?_
    refine dl_r (sem_call rfl rfl (iGCD_ok (by first | assumption | exact Sz.mono (Sz.neg hx) (by decide)) (by first | assumption | exact Sz.mono (Sz.neg hy) (by decide))) rfl) ?_
    refine dl_new (sem_alloc zc29 rfl) rfl <| dl_st (sem_store_a ty29 rfl rfl rfl rfl rfl rfl) <| dl_end <| dw_seq <| dw_draw 4 [] follows_mixed (by kernel_rfl) rfl rfl <| dq_r (sem_load (us := cI ((Int.gcd (-x) (-y) : Int))) ty29 rfl rfl rfl rfl rfl) <| dq_r (sem_call rfl rfl (unit_ok) rfl) <| dq_r (sem_call rfl rfl (iCmp_ok) rfl) ?_
    refine dq_r (sem_cmp rfl rfl rfl rfl) <| dq_end <| dl_start0 <| dl_end ?_
    refine dw_cond rfl (fun hc2 => ?_) (fun hc2 => ?_)
    · -- region 5
      refine dw_draw 6 [] follows_mixed (by kernel_rfl) rfl rfl <| dq_r (sem_load (us := cI (-x)) ty29 rfl rfl rfl rfl rfl) <| dq_r (sem_load (us := cI ((Int.gcd (-x) (-y) : Int))) ty29 rfl rfl rfl rfl rfl) ?_
      refine dq_r (sem_call rfl rfl (pExact_ok (by first | assumption | exact Sz.mono (Sz.neg hx) (by decide)) (by first | assumption | exact Sz.mono (by assumption) (by decide)) (by first | assumption | exact neg_ne (by assumption) | exact mul_ne (by assumption) (by assumption))) rfl) ?_
      refine dq_r (sem_load (us := cI (-y)) ty29 rfl rfl rfl rfl rfl) <| dq_r (sem_load (us := cI ((Int.gcd (-x) (-y) : Int))) ty29 rfl rfl rfl rfl rfl) ?_
      refine dq_r (sem_call rfl rfl (pExact_ok (by first | assumption | exact Sz.mono (Sz.neg hy) (by decide)) (by first | assumption | exact Sz.mono (by assumption) (by decide)) (by first | assumption | exact neg_ne (by assumption) | exact mul_ne (by assumption) (by assumption))) rfl) ?_
      refine dq_end <| dl_start0 <| dl_st (sem_store_a ty29 rfl rfl rfl rfl rfl rfl) <| dl_st (sem_store_a ty29 rfl rfl rfl rfl rfl rfl) <| dl_end <| dw_seq <| dw_region (by kernel_rfl) <| dl_r (sem_load (us := cI ((-x).fdiv ((Int.gcd (-x) (-y) : Int)))) ty29 rfl rfl rfl rfl rfl) ?_
      refine dl_r (sem_load (us := cI ((-y).fdiv ((Int.gcd (-x) (-y) : Int)))) ty29 rfl rfl rfl rfl rfl) <| dl_r (sem_build (us := cQ ((-x).fdiv ((Int.gcd (-x) (-y) : Int))) ((-y).fdiv ((Int.gcd (-x) (-y) : Int)))) fs31 zc31 rfl rfl rfl) <| dl_st (sem_store_a ty31 rfl rfl rfl rfl rfl rfl) <| dl_end <| dw_ret ?_
      rw [dR_neg, dR_red (by omega)]
      exact ⟨.inr rfl, (resL_cell (us := cQ ((-x).fdiv ((Int.gcd (-x) (-y) : Int))) ((-y).fdiv ((Int.gcd (-x) (-y) : Int)))) ty31 rfl rfl rfl rfl resL_nil)⟩
    · refine dw_skip <| dw_seq <| dw_region (by kernel_rfl) <| dl_r (sem_load (us := cI (-x)) ty29 rfl rfl rfl rfl rfl) <| dl_r (sem_load (us := cI (-y)) ty29 rfl rfl rfl rfl rfl) <| dl_r (sem_build (us := cQ (-x) (-y)) fs31 zc31 rfl rfl rfl) <| dl_st (sem_store_a ty31 rfl rfl rfl rfl rfl rfl) <| dl_end ?_
      refine dw_ret ?_
      rw [dR_neg, dR_red1 (by omega) (f_ne hc2)]
      exact ⟨.inr rfl, (resL_cell (us := cQ (-x) (-y)) ty31 rfl rfl rfl rfl resL_nil)⟩
  · have hn := f_lt hc1
    refine dw_skip <| dw_seq <| dw_seq <| dw_region (by kernel_rfl) <| dl_r (sem_load (us := cI x) ty29 rfl rfl rfl rfl rfl) <| dl_r (sem_load (us := cI y) ty29 rfl rfl rfl rfl rfl) ?_
    refine dl_r (sem_call rfl rfl (iGCD_ok (by first | assumption | exact Sz.mono hx (by decide)) (by first | assumption | exact Sz.mono hy (by decide))) rfl) ?_
    refine dl_new (sem_alloc zc29 rfl) rfl <| dl_st (sem_store_a ty29 rfl rfl rfl rfl rfl rfl) <| dl_end <| dw_seq <| dw_draw 4 [] follows_mixed (by kernel_rfl) rfl rfl <| dq_r (sem_load (us := cI (Int.gcd x y : Int)) ty29 rfl rfl rfl rfl rfl) <| dq_r (sem_call rfl rfl (unit_ok) rfl) <| dq_r (sem_call rfl rfl (iCmp_ok) rfl) ?_
    refine dq_r (sem_cmp rfl rfl rfl rfl) <| dq_end <| dl_start0 <| dl_end ?_
    refine dw_cond rfl (fun hc3 => ?_) (fun hc3 => ?_)
    · -- region 5
      refine dw_draw 6 [] follows_mixed (by kernel_rfl) rfl rfl <| dq_r (sem_load (us := cI x) ty29 rfl rfl rfl rfl rfl) <| dq_r (sem_load (us := cI (Int.gcd x y : Int)) ty29 rfl rfl rfl rfl rfl) ?_
      refine dq_r (sem_call rfl rfl (pExact_ok (by first | assumption | exact Sz.mono hx (by decide)) (by first | assumption | exact Sz.mono (by assumption) (by decide)) (by first | assumption | exact neg_ne (by assumption) | exact mul_ne (by assumption) (by assumption))) rfl) ?_
      refine dq_r (sem_load (us := cI y) ty29 rfl rfl rfl rfl rfl) <| dq_r (sem_load (us := cI (Int.gcd x y : Int)) ty29 rfl rfl rfl rfl rfl) ?_
      refine dq_r (sem_call rfl rfl (pExact_ok (by first | assumption | exact Sz.mono hy (by decide)) (by first | assumption | exact Sz.mono (by assumption) (by decide)) (by first | assumption | exact neg_ne (by assumption) | exact mul_ne (by assumption) (by assumption))) rfl) ?_
      refine dq_end <| dl_start0 <| dl_st (sem_store_a ty29 rfl rfl rfl rfl rfl rfl) <| dl_st (sem_store_a ty29 rfl rfl rfl rfl rfl rfl) <| dl_end <| dw_seq <| dw_region (by kernel_rfl) <| dl_r (sem_load (us := cI (x.fdiv (Int.gcd x y : Int))) ty29 rfl rfl rfl rfl rfl) ?_
      refine dl_r (sem_load (us := cI (y.fdiv (Int.gcd x y : Int))) ty29 rfl rfl rfl rfl rfl) <| dl_r (sem_build (us := cQ (x.fdiv (Int.gcd x y : Int)) (y.fdiv (Int.gcd x y : Int))) fs31 zc31 rfl rfl rfl) <| dl_st (sem_store_a ty31 rfl rfl rfl rfl rfl rfl) <| dl_end <| dw_ret ?_
      rw [dR_red (by omega)]
      exact ⟨.inr rfl, (resL_cell (us := cQ (x.fdiv (Int.gcd x y : Int)) (y.fdiv (Int.gcd x y : Int))) ty31 rfl rfl rfl rfl resL_nil)⟩
    · refine dw_skip <| dw_seq <| dw_region (by kernel_rfl) <| dl_r (sem_load (us := cI x) ty29 rfl rfl rfl rfl rfl) <| dl_r (sem_load (us := cI y) ty29 rfl rfl rfl rfl rfl) <| dl_r (sem_build (us := cQ x y) fs31 zc31 rfl rfl rfl) <| dl_st (sem_store_a ty31 rfl rfl rfl rfl rfl rfl) <| dl_end ?_
      refine dw_ret ?_
      rw [dR_red1 (by omega) (f_ne hc3)]
      exact ⟨.inr rfl, (resL_cell (us := cQ x y) ty31 rfl rfl rfl rfl resL_nil)⟩
theorem pMake_ok {x y : Int} (hx : Sz 999 x) (hy : Sz 999 y) (h0 : y ≠ 0) : Ok Tryz.prog 14 [dI x, dI y] [dR (Rat.divInt x y), .c (.i .i64 0)] := by
  refine Ok.of (by kernel_rfl) Tryz.func14 rfl rfl ?_
  rw [show Tryz.f14.ntmps = 13 from rfl, show Tryz.f14.results.toList = [.cell 4 31, .tmp 5] from rfl]
  refine dw_seq <| dw_region (by kernel_rfl) <| dl_new (sem_box_a rfl rfl) rfl <| dl_new (sem_box_a rfl rfl) rfl <| dl_new (sem_alloc zc31 rfl) rfl <| dl_r (sem_assign rfl rfl) <| dl_end <| dw_seq ?_
  refine dw_seq <| dw_region (by kernel_rfl) <| dl_r (sem_load (us := cI y) ty29 rfl rfl rfl rfl rfl) <| dl_r (sem_call rfl rfl (iSign_ok) rfl) <| dl_r (sem_cmp rfl rfl rfl rfl) <| dl_end ?_
  refine dw_cond rfl (fun hc1 => ?_) (fun hc1 => ?_)
  · exact absurd (t_eq hc1) h0
  · refine dw_skip <| dw_seq <| dw_region (by kernel_rfl) <| dl_r (sem_load (us := cI x) ty29 rfl rfl rfl rfl rfl) <| dl_r (sem_load (us := cI y) ty29 rfl rfl rfl rfl rfl) ?_
    refine dl_r (sem_call rfl rfl (pReduce_ok (by first | assumption | exact Sz.mono hx (by decide)) (by first | assumption | exact Sz.mono hy (by decide)) (by first | assumption | exact neg_ne (by assumption) | exact mul_ne (by assumption) (by assumption))) rfl) ?_
    refine dl_st (sem_store_a ty31 rfl rfl rfl rfl rfl rfl) <| dl_r (sem_assign rfl rfl) <| dl_end <| dw_ret ?_
    exact ⟨.inr rfl, (resL_cell (us := cR (Rat.divInt x y)) ty31 rfl rfl rfl rfl (resL_tmp rfl resL_nil))⟩
theorem pNeg_ok {x : Rat} (hx : Rz 300 x) : Ok Tryz.prog 66 [dR x] [dR (-x)] := by
  refine Ok.of (by kernel_rfl) Tryz.func66 rfl rfl ?_
  rw [show Tryz.f66.ntmps = 9 from rfl, show Tryz.f66.results.toList = [.cell 2 31] from rfl]
  refine dw_seq <| dw_region (by kernel_rfl) <| dl_new (sem_box_a rfl rfl) rfl <| dl_new (sem_alloc zc31 rfl) rfl <| dl_end <| dw_seq <| dw_draw 6 [] follows_mixed (by kernel_rfl) rfl rfl <| dq_r (sem_field fd31_0 rfl rfl) ?_
  refine dq_r (sem_load (us := cI x.num) ty29 rfl rfl rfl rfl rfl) ?_
  refine dq_r (sem_call rfl rfl (iNeg_ok (by first | assumption | exact Sz.mono (Rz.n hx) (by decide))) rfl) ?_
  refine dq_r (sem_field fd31_1 rfl rfl) <| dq_r (sem_load (us := cI (x.den : Int)) ty29 rfl rfl rfl rfl rfl) <| dq_r (sem_build (us := cQ (-x.num) (x.den : Int)) fs31 zc31 rfl rfl rfl) <| dq_end <| dl_start0 <| dl_st (sem_store_a ty31 rfl rfl rfl rfl rfl rfl) <| dl_end <| dw_ret ?_
  rw [dR_eq (Rat.neg_num x) (congrArg Int.ofNat (Rat.neg_den x))]
  exact ⟨.inr rfl, (resL_cell (us := cQ (-x.num) (x.den : Int)) ty31 rfl rfl rfl rfl resL_nil)⟩
theorem pAdd_ok {x y : Rat} (hx : Rz 300 x) (hy : Rz 300 y) : Ok Tryz.prog 117 [dR x, dR y] [dR (x + y)] := by
  have hn := mul_ne (den_ne x) (den_ne y)
  have hn1 := den_ne x
  refine Ok.of (by kernel_rfl) Tryz.func117 rfl rfl ?_
  rw [show Tryz.f117.ntmps = 36 from rfl, show Tryz.f117.results.toList = [.cell 4 31] from rfl]
  refine dw_seq <| dw_region (by kernel_rfl) <| dl_new (sem_box_a rfl rfl) rfl <| dl_new (sem_box_a rfl rfl) rfl <| dl_new (sem_alloc zc31 rfl) rfl <| dl_end <| dw_seq <| dw_seq ?_
  refine dw_region (by kernel_rfl) <| dl_r (sem_field fd31_1 rfl rfl) <| dl_r (sem_load (us := cI (x.den : Int)) ty29 rfl rfl rfl rfl rfl) <| dl_r (sem_field fd31_1 rfl rfl) <| dl_r (sem_load (us := cI (y.den : Int)) ty29 rfl rfl rfl rfl rfl) <| dl_r (sem_call rfl rfl (iCmp_ok) rfl) <| dl_r (sem_cmp rfl rfl rfl rfl) <| dl_end ?_
  refine dw_cond rfl (fun hc1 => ?_) (fun hc1 => ?_)
  · refine dw_seq <| dw_draw 8 [] follows_mixed (by kernel_rfl) rfl rfl <| dq_r (sem_field fd31_0 rfl rfl) <| dq_r (sem_load (us := cI x.num) ty29 rfl rfl rfl rfl rfl) <| dq_r (sem_field fd31_0 rfl rfl) <| dq_r (sem_load (us := cI y.num) ty29 rfl rfl rfl rfl rfl) ?_
    refine dq_r (sem_call rfl rfl (iAdd_ok (by first | assumption | exact Sz.mono (Rz.n hx) (by decide)) (by first | assumption | exact Sz.mono (Rz.n hy) (by decide))) rfl) ?_
    refine dq_r (sem_field fd31_1 rfl rfl) <| dq_r (sem_load (us := cI (x.den : Int)) ty29 rfl rfl rfl rfl rfl) ?_
    refine dq_r (sem_call rfl rfl (pReduce_ok (by first | assumption | exact Sz.mono (Sz.addm (Rz.n hx) (Rz.n hy)) (by decide)) (by first | assumption | exact Sz.mono (Rz.d hx) (by decide)) (by first | assumption | exact neg_ne (by assumption) | exact mul_ne (by assumption) (by assumption))) rfl) ?_
    refine dq_end <| dl_start0 <| dl_st (sem_store_a ty31 rfl rfl rfl rfl rfl rfl) <| dl_end <| dw_ret ?_
    rw [← radd1 (t_eq hc1)]
    exact ⟨.inr rfl, (resL_cell (us := cR (Rat.divInt (x.num + y.num) (x.den : Int))) ty31 rfl rfl rfl rfl resL_nil)⟩
  · refine dw_skip <| dw_seq <| dw_draw 17 [] follows_mixed (by kernel_rfl) rfl rfl <| dq_r (sem_field fd31_0 rfl rfl) <| dq_r (sem_load (us := cI x.num) ty29 rfl rfl rfl rfl rfl) <| dq_r (sem_field fd31_1 rfl rfl) <| dq_r (sem_load (us := cI (y.den : Int)) ty29 rfl rfl rfl rfl rfl) ?_
    refine dq_r (sem_call rfl rfl (iMul_ok (by first | assumption | exact Sz.mono (Rz.n hx) (by decide)) (by first | assumption | exact Sz.mono (Rz.d hy) (by decide))) rfl) ?_
    refine dq_r (sem_field fd31_0 rfl rfl) <| dq_r (sem_load (us := cI y.num) ty29 rfl rfl rfl rfl rfl) <| dq_r (sem_field fd31_1 rfl rfl) <| dq_r (sem_load (us := cI (x.den : Int)) ty29 rfl rfl rfl rfl rfl) ?_
    refine dq_r (sem_call rfl rfl (iMul_ok (by first | assumption | exact Sz.mono (Rz.n hy) (by decide)) (by first | assumption | exact Sz.mono (Rz.d hx) (by decide))) rfl) ?_
    refine dq_r (sem_call rfl rfl (iAdd_ok (by first | assumption | exact Sz.mono (Sz.mul (Rz.n hx) (Rz.d hy)) (by decide)) (by first | assumption | exact Sz.mono (Sz.mul (Rz.n hy) (Rz.d hx)) (by decide))) rfl) ?_
    refine dq_r (sem_field fd31_1 rfl rfl) <| dq_r (sem_load (us := cI (x.den : Int)) ty29 rfl rfl rfl rfl rfl) <| dq_r (sem_field fd31_1 rfl rfl) <| dq_r (sem_load (us := cI (y.den : Int)) ty29 rfl rfl rfl rfl rfl) ?_
    refine dq_r (sem_call rfl rfl (iMul_ok (by first | assumption | exact Sz.mono (Rz.d hx) (by decide)) (by first | assumption | exact Sz.mono (Rz.d hy) (by decide))) rfl) ?_
    refine dq_r (sem_call rfl rfl (pReduce_ok (by first | assumption | exact Sz.mono (Sz.addm (Sz.mul (Rz.n hx) (Rz.d hy)) (Sz.mul (Rz.n hy) (Rz.d hx))) (by decide)) (by first | assumption | exact Sz.mono (Sz.mul (Rz.d hx) (Rz.d hy)) (by decide)) (by first | assumption | exact neg_ne (by assumption) | exact mul_ne (by assumption) (by assumption))) rfl) ?_
    refine dq_end <| dl_start0 <| dl_st (sem_store_a ty31 rfl rfl rfl rfl rfl rfl) <| dl_end <| dw_ret ?_
    rw [← radd]
    exact ⟨.inr rfl, (resL_cell (us := cR (Rat.divInt ((x.num * (y.den : Int)) + (y.num * (x.den : Int))) ((x.den : Int) * (y.den : Int)))) ty31 rfl rfl rfl rfl resL_nil)⟩
theorem pSub_ok {x y : Rat} (hx : Rz 300 x) (hy : Rz 300 y) : Ok Tryz.prog 78 [dR x, dR y] [dR (x - y)] := by
  refine Ok.of (by kernel_rfl) Tryz.func78 rfl rfl ?_
  rw [show Tryz.f78.ntmps = 9 from rfl, show Tryz.f78.results.toList = [.cell 4 31] from rfl]
  refine dw_seq <| dw_region (by kernel_rfl) <| dl_new (sem_box_a rfl rfl) rfl <| dl_new (sem_box_a rfl rfl) rfl <| dl_new (sem_alloc zc31 rfl) rfl <| dl_end <| dw_seq <| dw_draw 4 [] follows_mixed (by kernel_rfl) rfl rfl ?_
  refine dq_r (sem_load (us := cR x) ty31 rfl rfl rfl rfl rfl) <| dq_r (sem_load (us := cR y) ty31 rfl rfl rfl rfl rfl) ?_
  refine dq_r (sem_call rfl rfl (pNeg_ok (by first | assumption | exact Rz.mono hy (by decide))) rfl) ?_
  refine dq_r (sem_call rfl rfl (pAdd_ok (by first | assumption | exact Rz.mono hx (by decide)) (by first | assumption | exact Rz.mono (Rz.neg hy) (by decide))) rfl) ?_
  refine dq_end <| dl_start0 <| dl_st (sem_store_a ty31 rfl rfl rfl rfl rfl rfl) <| dl_end <| dw_ret ?_
  rw [Rat.sub_eq_add_neg]
  exact ⟨.inr rfl, (resL_cell (us := cR (x + (-y))) ty31 rfl rfl rfl rfl resL_nil)⟩
theorem pMul_ok {x y : Rat} (hx : Rz 300 x) (hy : Rz 300 y) : Ok Tryz.prog 63 [dR x, dR y] [dR (x * y)] := by
  have hn := mul_ne (den_ne x) (den_ne y)
  refine Ok.of (by kernel_rfl) Tryz.func63 rfl rfl ?_
  rw [show Tryz.f63.ntmps = 16 from rfl, show Tryz.f63.results.toList = [.cell 4 31] from rfl]
  refine dw_seq <| dw_region (by kernel_rfl) <| dl_new (sem_box_a rfl rfl) rfl <| dl_new (sem_box_a rfl rfl) rfl <| dl_new (sem_alloc zc31 rfl) rfl <| dl_end <| dw_seq <| dw_draw 11 [] follows_mixed (by kernel_rfl) rfl rfl ?_
  refine dq_r (sem_field fd31_0 rfl rfl) <| dq_r (sem_load (us := cI x.num) ty29 rfl rfl rfl rfl rfl) <| dq_r (sem_field fd31_0 rfl rfl) <| dq_r (sem_load (us := cI y.num) ty29 rfl rfl rfl rfl rfl) ?_
  refine dq_r (sem_call rfl rfl (iMul_ok (by first | assumption | exact Sz.mono (Rz.n hx) (by decide)) (by first | assumption | exact Sz.mono (Rz.n hy) (by decide))) rfl) ?_
  refine dq_r (sem_field fd31_1 rfl rfl) <| dq_r (sem_load (us := cI (x.den : Int)) ty29 rfl rfl rfl rfl rfl) <| dq_r (sem_field fd31_1 rfl rfl) <| dq_r (sem_load (us := cI (y.den : Int)) ty29 rfl rfl rfl rfl rfl) ?_
  refine dq_r (sem_call rfl rfl (iMul_ok (by first | assumption | exact Sz.mono (Rz.d hx) (by decide)) (by first | assumption | exact Sz.mono (Rz.d hy) (by decide))) rfl) ?_
  refine dq_r (sem_call rfl rfl (pReduce_ok (by first | assumption | exact Sz.mono (Sz.mul (Rz.n hx) (Rz.n hy)) (by decide)) (by first | assumption | exact Sz.mono (Sz.mul (Rz.d hx) (Rz.d hy)) (by decide)) (by first | assumption | exact neg_ne (by assumption) | exact mul_ne (by assumption) (by assumption))) rfl) ?_
  refine dq_end <| dl_start0 <| dl_st (sem_store_a ty31 rfl rfl rfl rfl rfl rfl) <| dl_end <| dw_ret ?_
  rw [← rmul]
  exact ⟨.inr rfl, (resL_cell (us := cR (Rat.divInt (x.num * y.num) ((x.den : Int) * (y.den : Int)))) ty31 rfl rfl rfl rfl resL_nil)⟩
theorem pDiv_ok {x y : Rat} (hx : Rz 300 x) (hy : Rz 300 y) (h0 : y ≠ 0) : Ok Tryz.prog 237 [dR x, dR y] [dR (x / y), .c (.i .i64 0)] := by
  have hn := mul_ne (den_ne x) (num_ne h0)
  refine Ok.of (by kernel_rfl) Tryz.func237 rfl rfl ?_
  rw [show Tryz.f237.ntmps = 21 from rfl, show Tryz.f237.results.toList = [.cell 4 31, .tmp 5] from rfl]
  refine dw_seq <| dw_region (by kernel_rfl) <| dl_new (sem_box_a rfl rfl) rfl <| dl_new (sem_box_a rfl rfl) rfl <| dl_new (sem_alloc zc31 rfl) rfl <| dl_r (sem_assign rfl rfl) <| dl_end <| dw_seq ?_
  refine dw_seq <| dw_region (by kernel_rfl) <| dl_r (sem_load (us := cR y) ty31 rfl rfl rfl rfl rfl) <| dl_r (sem_call rfl rfl (pSign_ok) rfl) <| dl_r (sem_cmp rfl rfl rfl rfl) <| dl_end ?_
  refine dw_cond rfl (fun hc1 => ?_) (fun hc1 => ?_)
  · exact absurd (cmpR_t0 hc1) h0
  · refine dw_skip <| dw_seq <| dw_draw 11 [] follows_mixed (by kernel_rfl) rfl rfl <| dq_r (sem_field fd31_0 rfl rfl) <| dq_r (sem_load (us := cI x.num) ty29 rfl rfl rfl rfl rfl) <| dq_r (sem_field fd31_1 rfl rfl) <| dq_r (sem_load (us := cI (y.den : Int)) ty29 rfl rfl rfl rfl rfl) ?_
    refine dq_r (sem_call rfl rfl (iMul_ok (by first | assumption | exact Sz.mono (Rz.n hx) (by decide)) (by first | assumption | exact Sz.mono (Rz.d hy) (by decide))) rfl) ?_
    refine dq_r (sem_field fd31_1 rfl rfl) <| dq_r (sem_load (us := cI (x.den : Int)) ty29 rfl rfl rfl rfl rfl) <| dq_r (sem_field fd31_0 rfl rfl) <| dq_r (sem_load (us := cI y.num) ty29 rfl rfl rfl rfl rfl) ?_
    refine dq_r (sem_call rfl rfl (iMul_ok (by first | assumption | exact Sz.mono (Rz.d hx) (by decide)) (by first | assumption | exact Sz.mono (Rz.n hy) (by decide))) rfl) ?_
    refine dq_r (sem_call rfl rfl (pReduce_ok (by first | assumption | exact Sz.mono (Sz.mul (Rz.n hx) (Rz.d hy)) (by decide)) (by first | assumption | exact Sz.mono (Sz.mul (Rz.d hx) (Rz.n hy)) (by decide)) (by first | assumption | exact neg_ne (by assumption) | exact mul_ne (by assumption) (by assumption))) rfl) ?_
    refine dq_end <| dl_start0 <| dl_st (sem_store_a ty31 rfl rfl rfl rfl rfl rfl) <| dl_r (sem_assign rfl rfl) <| dl_end <| dw_ret ?_
    rw [← rdiv]
    exact ⟨.inr rfl, (resL_cell (us := cR (Rat.divInt (x.num * (y.den : Int)) ((x.den : Int) * y.num))) ty31 rfl rfl rfl rfl (resL_tmp rfl resL_nil))⟩
theorem pCmp_ok {x y : Rat} (hx : Rz 300 x) (hy : Rz 300 y) : Ok Tryz.prog 16 [dR x, dR y] [.c (.i .i64 (cmpR x y))] := by
  refine Ok.of (by kernel_rfl) Tryz.func16 rfl rfl ?_
  rw [show Tryz.f16.ntmps = 25 from rfl, show Tryz.f16.results.toList = [.tmp 4] from rfl]
  refine dw_seq <| dw_region (by kernel_rfl) <| dl_new (sem_box_a rfl rfl) rfl <| dl_new (sem_box_a rfl rfl) rfl <| dl_r (sem_assign rfl rfl) <| dl_end <| dw_seq <| dw_seq ?_
  refine dw_draw 6 [] follows_mixed (by kernel_rfl) rfl rfl <| dq_r (sem_load (us := cR x) ty31 rfl rfl rfl rfl rfl) <| dq_r (sem_call rfl rfl (pSign_ok) rfl) <| dq_r (sem_load (us := cR y) ty31 rfl rfl rfl rfl rfl) <| dq_r (sem_call rfl rfl (pSign_ok) rfl) <| dq_r (sem_call rfl rfl (cmpInt_ok) rfl) <| dq_r (sem_assign rfl rfl) <| dq_end ?_
  refine dl_start0 <| dl_end <| dw_seq <| dw_region (by kernel_rfl) <| dl_r (sem_move rfl rfl) <| dl_r (sem_cmp rfl rfl rfl rfl) <| dl_end ?_
  refine dw_cond rfl (fun hc1 => ?_) (fun hc1 => ?_)
  · refine dw_seq <| dw_region (by kernel_rfl) <| dl_r (sem_move rfl rfl) <| dl_r (sem_assign rfl rfl) <| dl_end <| dw_ret ?_
    rw [← cmpR_signs hc1]
    exact ⟨.inr rfl, (resL_tmp rfl resL_nil)⟩
  · refine dw_skip <| dw_seq <| dw_draw 12 [] follows_mixed (by kernel_rfl) rfl rfl <| dq_r (sem_field fd31_0 rfl rfl) <| dq_r (sem_load (us := cI x.num) ty29 rfl rfl rfl rfl rfl) <| dq_r (sem_field fd31_1 rfl rfl) <| dq_r (sem_load (us := cI (y.den : Int)) ty29 rfl rfl rfl rfl rfl) ?_
    refine dq_r (sem_call rfl rfl (iMul_ok (by first | assumption | exact Sz.mono (Rz.n hx) (by decide)) (by first | assumption | exact Sz.mono (Rz.d hy) (by decide))) rfl) ?_
    refine dq_r (sem_field fd31_0 rfl rfl) <| dq_r (sem_load (us := cI y.num) ty29 rfl rfl rfl rfl rfl) <| dq_r (sem_field fd31_1 rfl rfl) <| dq_r (sem_load (us := cI (x.den : Int)) ty29 rfl rfl rfl rfl rfl) ?_
    refine dq_r (sem_call rfl rfl (iMul_ok (by first | assumption | exact Sz.mono (Rz.n hy) (by decide)) (by first | assumption | exact Sz.mono (Rz.d hx) (by decide))) rfl) ?_
    refine dq_r (sem_call rfl rfl (iCmp_ok) rfl) <| dq_r (sem_assign rfl rfl) <| dq_end <| dl_start0 <| dl_end <| dw_ret ?_
    rw [cmpR_mul (x := x) (y := y)]
    exact ⟨.inr rfl, (resL_tmp rfl resL_nil)⟩
theorem pFloor_ok {x : Rat} (hx : Rz 300 x) : Ok Tryz.prog 65 [dR x] [dI (x.num.fdiv (x.den : Int))] := by
  have hn1 := den_ne x
  refine Ok.of (by kernel_rfl) Tryz.func65 rfl rfl ?_
  rw [show Tryz.f65.ntmps = 16 from rfl, show Tryz.f65.results.toList = [.cell 2 29] from rfl]
  refine dw_seq <| dw_region (by kernel_rfl) <| dl_new (sem_box_a rfl rfl) rfl <| dl_new (sem_alloc zc29 rfl) rfl <| dl_end <| dw_seq <| dw_region (by kernel_rfl) <| dl_r (sem_field fd31_0 rfl rfl) ?_
  refine dl_r (sem_load (us := cI x.num) ty29 rfl rfl rfl rfl rfl) <| dl_r (sem_field fd31_1 rfl rfl) <| dl_r (sem_load (us := cI (x.den : Int)) ty29 rfl rfl rfl rfl rfl) ?_
  refine dl_r (sem_call rfl rfl (iDivMod_ok (by first | assumption | exact Sz.mono (Rz.n hx) (by decide)) (by first | assumption | exact Sz.mono (Rz.d hx) (by decide)) (by assumption)) rfl) ?_
  refine dl_r (sem_move rfl rfl) <| dl_r (sem_extract rfl rfl rfl) <| dl_r (sem_extract rfl rfl rfl) <| dl_r (sem_extract rfl rfl rfl) <| dl_new (sem_alloc zc29 rfl) rfl <| dl_new (sem_alloc zc29 rfl) rfl <| dl_st (sem_store_a ty29 rfl rfl rfl rfl rfl rfl) <| dl_st (sem_store_a ty29 rfl rfl rfl rfl rfl rfl) ?_
  refine dl_r (sem_assign rfl rfl) <| dl_end <| dw_seq <| dw_region (by kernel_rfl) <| dl_r (sem_load (us := cI (x.num.fdiv (x.den : Int))) ty29 rfl rfl rfl rfl rfl) <| dl_st (sem_store_a ty29 rfl rfl rfl rfl rfl rfl) <| dl_end <| dw_ret ?_
  exact ⟨.inr rfl, (resL_cell (us := cI (x.num.fdiv (x.den : Int))) ty29 rfl rfl rfl rfl resL_nil)⟩
theorem pSide_ok {x : Int} (hx : Sz 300 x) : Ok Tryz.prog 325 [dI x] [dI (isqI x), .c (.b (sqI x))] := by
  have hs := Sz.isq hx
  refine Ok.of (by kernel_rfl) Tryz.func325 rfl rfl ?_
  rw [show Tryz.f325.ntmps = 22 from rfl, show Tryz.f325.results.toList = [.cell 2 29, .tmp 3] from rfl]
  refine dw_seq <| dw_region (by kernel_rfl) <| dl_new (sem_box_a rfl rfl) rfl <| dl_new (sem_alloc zc29 rfl) rfl <| dl_r (sem_assign rfl rfl) <| dl_end <| dw_seq <| dw_region (by kernel_rfl) ?_
  refine dl_r (sem_load (us := cI x) ty29 rfl rfl rfl rfl rfl) ?_
  refine dl_r (sem_call rfl rfl (iSqrt_ok (by first | assumption | exact Sz.mono hx (by decide))) rfl) ?_
  refine dl_r (sem_move rfl rfl) <| dl_r (sem_extract rfl rfl rfl) <| dl_r (sem_extract rfl rfl rfl) <| dl_new (sem_alloc zc29 rfl) rfl <| dl_st (sem_store_a ty29 rfl rfl rfl rfl rfl rfl) <| dl_r (sem_assign rfl rfl) <| dl_end <| dw_seq ?_
  refine dw_draw 13 [2] follows_mixed (by kernel_rfl) rfl rfl <| dq_r (sem_load (us := cI (isqI x)) ty29 rfl rfl rfl rfl rfl) <| dq_r (sem_move rfl rfl) <| dq_r (sem_cmp rfl rfl rfl rfl) ?_
  refine dq_rb (sem_move rfl rfl) (fun c1 hb1 => ?_)
  cases c1
  · refine dq_skip (sem_skip rfl) <| dq_skip (sem_skip rfl) <| dq_skip (sem_skip rfl) <| dq_skip (sem_skip rfl) <| dq_skip (sem_skip rfl) <| dq_skip (sem_skip rfl) <| dq_r (sem_pick rfl rfl rfl rfl) <| dq_st (sem_store_a ty29 rfl rfl rfl rfl rfl rfl) rfl rfl rfl rfl ?_
    refine dq_r (sem_assign rfl rfl) <| dq_end <| dl_start1 <| dl_end <| dw_ret ?_
    rw [sqI_neg (e7 hb1)]
    exact ⟨.inr rfl, (resL_cell (us := cI (isqI x)) ty29 rfl rfl rfl rfl (resL_tmp rfl resL_nil))⟩
  · refine dq_r (sem_load (us := cI (isqI x)) ty29 rfl rfl rfl rfl rfl) <| dq_r (sem_load (us := cI (isqI x)) ty29 rfl rfl rfl rfl rfl) ?_
    refine dq_r (sem_call rfl rfl (iMul_ok (by first | assumption | exact Sz.mono (Sz.isq hx) (by decide)) (by first | assumption | exact Sz.mono (Sz.isq hx) (by decide))) rfl) ?_
    refine dq_r (sem_load (us := cI x) ty29 rfl rfl rfl rfl rfl) <| dq_r (sem_call rfl rfl (iCmp_ok) rfl) <| dq_r (sem_cmp rfl rfl rfl rfl) <| dq_r (sem_pick rfl rfl rfl rfl) <| dq_st (sem_store_a ty29 rfl rfl rfl rfl rfl rfl) rfl rfl rfl rfl <| dq_r (sem_assign rfl rfl) <| dq_end <| dl_start1 ?_
    refine dl_end <| dw_ret ?_
    rw [sqI_cmp]
    exact ⟨.inr rfl, (resL_cell (us := cI (isqI x)) ty29 rfl rfl rfl rfl (resL_tmp rfl resL_nil))⟩
theorem pSqrt_ok {x : Rat} (hx : Rz 300 x) : Ok Tryz.prog 284 [dR x] [dQ (if sqR x then isqI x.num else 0) (if sqR x then isqI (x.den : Int) else 0), .c (.b (sqR x))] := by
  refine Ok.of (by kernel_rfl) Tryz.func284 rfl rfl ?_
  rw [show Tryz.f284.ntmps = 26 from rfl, show Tryz.f284.results.toList = [.cell 2 31, .tmp 3] from rfl]
  refine dw_seq <| dw_region (by kernel_rfl) <| dl_new (sem_box_a rfl rfl) rfl <| dl_new (sem_alloc zc31 rfl) rfl <| dl_r (sem_assign rfl rfl) <| dl_end <| dw_seq <| dw_seq ?_
  refine dw_region (by kernel_rfl) <| dl_r (sem_field fd31_0 rfl rfl) <| dl_r (sem_load (us := cI x.num) ty29 rfl rfl rfl rfl rfl) ?_
  refine dl_r (sem_call rfl rfl (pSide_ok (by first | assumption | exact Sz.mono (Rz.n hx) (by decide))) rfl) ?_
  refine dl_r (sem_move rfl rfl) <| dl_r (sem_extract rfl rfl rfl) <| dl_r (sem_extract rfl rfl rfl) <| dl_new (sem_alloc zc29 rfl) rfl <| dl_st (sem_store_a ty29 rfl rfl rfl rfl rfl rfl) <| dl_r (sem_assign rfl rfl) <| dl_end <| dw_seq ?_
  refine dw_region (by kernel_rfl) <| dl_r (sem_move rfl rfl) <| dl_end ?_
  refine dw_cond rfl (fun hc1 => ?_) (fun hc1 => ?_)
  · refine dw_seq <| dw_region (by kernel_rfl) <| dl_r (sem_field fd31_1 rfl rfl) <| dl_r (sem_load (us := cI (x.den : Int)) ty29 rfl rfl rfl rfl rfl) ?_
    refine dl_r (sem_call rfl rfl (pSide_ok (by first | assumption | exact Sz.mono (Rz.d hx) (by decide))) rfl) ?_
    refine dl_r (sem_move rfl rfl) <| dl_r (sem_extract rfl rfl rfl) <| dl_r (sem_extract rfl rfl rfl) <| dl_new (sem_alloc zc29 rfl) rfl <| dl_st (sem_store_a ty29 rfl rfl rfl rfl rfl rfl) <| dl_r (sem_assign rfl rfl) <| dl_end <| dw_seq ?_
    refine dw_region (by kernel_rfl) <| dl_r (sem_move rfl rfl) <| dl_end ?_
    refine dw_cond rfl (fun hc2 => ?_) (fun hc2 => ?_)
    · refine dw_seq <| dw_region (by kernel_rfl) <| dl_r (sem_load (us := cI (isqI x.num)) ty29 rfl rfl rfl rfl rfl) <| dl_r (sem_load (us := cI (isqI (x.den : Int))) ty29 rfl rfl rfl rfl rfl) <| dl_r (sem_build (us := cQ (isqI x.num) (isqI (x.den : Int))) fs31 zc31 rfl rfl rfl) <| dl_st (sem_store_a ty31 rfl rfl rfl rfl rfl rfl) <| dl_r (sem_assign rfl rfl) <| dl_end ?_
      refine dw_ret ?_
      rw [sqR_t hc1 hc2, if_pos rfl, if_pos rfl]
      exact ⟨.inr rfl, (resL_cell (us := cQ (isqI x.num) (isqI (x.den : Int))) ty31 rfl rfl rfl rfl (resL_tmp rfl resL_nil))⟩
    · refine dw_skip <| dw_seq <| dw_region (by kernel_rfl) <| dl_r (sem_build (us := (([.b false] ++ [.s 0 []]) ++ ([.b false] ++ [.s 0 []]))) fs31 zc31 rfl rfl rfl) <| dl_st (sem_store_a ty31 rfl rfl rfl rfl rfl rfl) <| dl_r (sem_assign rfl rfl) <| dl_end <| dw_ret ?_
      rw [sqR_f2 hc2, if_neg (by decide), if_neg (by decide), dQ_zero]
      exact ⟨.inr rfl, (resL_cell (us := (([.b false] ++ [.s 0 []]) ++ ([.b false] ++ [.s 0 []]))) ty31 rfl rfl rfl rfl (resL_tmp rfl resL_nil))⟩
  · refine dw_skip <| dw_seq <| dw_region (by kernel_rfl) <| dl_r (sem_build (us := (([.b false] ++ [.s 0 []]) ++ ([.b false] ++ [.s 0 []]))) fs31 zc31 rfl rfl rfl) <| dl_st (sem_store_a ty31 rfl rfl rfl rfl rfl rfl) <| dl_r (sem_assign rfl rfl) <| dl_end <| dw_ret ?_
    rw [sqR_f1 hc1, if_neg (by decide), if_neg (by decide), dQ_zero]
    exact ⟨.inr rfl, (resL_cell (us := (([.b false] ++ [.s 0 []]) ++ ([.b false] ++ [.s 0 []]))) ty31 rfl rfl rfl rfl (resL_tmp rfl resL_nil))⟩
end Go.Proofs.YthhhlpdbainlaaaGreat
