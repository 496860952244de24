/- Sizes of fractions by a tactic; small facts for the walks on fractions. -/
import Derived.Test.YtonjlikaacengaaGreatZaG
namespace Go.Proofs.YtonjlikaacengaaGreat
open Go Go.RowKit
theorem mul_ne {a b : Int} (ha : a ≠ 0) (hb : b ≠ 0) : a * b ≠ 0 := fun e => by rcases Int.mul_eq_zero.1 e with h | h <;> contradiction
theorem num_ne {x : Rat} (h : x ≠ 0) : x.num ≠ 0 := fun e => h (Rat.num_eq_zero.1 e)
theorem neg_ne {a : Int} (h : a ≠ 0) : -a ≠ 0 := by omega
theorem Sz.isq {k : Nat} {x : Int} (h : Sz k x) : Sz k (isqI x) := h.of_le isqI_abs
theorem Sz.natAbs {k : Nat} {x : Int} (h : Sz k x) : Sz k (x.natAbs : Int) := h.of_le (by omega)
theorem cmpR_t0 {x : Rat} (h : (cmpR x 0 == 0) = true) : x = 0 := by rw [← cmpR_num] at h; exact Rat.num_eq_zero.1 (t_eq h)
theorem cmpR_eq0 {x y : Rat} : cmpR x y = 0 ↔ x = y := by
  unfold cmpR
  rw [← cmp_rat, cmpI_eq0, Rat.eq_iff_mul_eq_mul]
theorem cmpR_lt0 {x y : Rat} : cmpR x y < 0 ↔ x < y := by
  unfold cmpR
  rw [← cmp_rat, cmpI_lt0, Rat.lt_iff]
theorem cmpR_gt0 {x y : Rat} : 0 < cmpR x y ↔ y < x := by
  unfold cmpR
  rw [← cmp_rat, cmpI_gt0, Rat.lt_iff]
theorem cmpR_num0 {x : Rat} : cmpR x 0 = cmpI x.num 0 := cmpR_num.symm
/-- signs that differ decide -/
theorem cmpR_signs {x y : Rat} (h : (cmpI (cmpR x 0) (cmpR y 0) != 0) = true) : cmpI (cmpR x 0) (cmpR y 0) = cmpR x y := by
  have h1 := t_ne h
  rw [cmpR_num0, cmpR_num0] at *
  have px := den_pos x
  have py := den_pos y
  have e1 : ∀ {a b : Int}, a < 0 → 0 < b → a * b < 0 := fun ha hb => Int.mul_neg_of_neg_of_pos ha hb
  have hr : cmpR x y = cmpI (x.num * (y.den : Int)) (y.num * (x.den : Int)) := by unfold cmpR; rw [← cmp_rat]
  rw [hr]
  rcases Int.lt_trichotomy x.num 0 with hx | hx | hx <;> rcases Int.lt_trichotomy y.num 0 with hy | hy | hy
  · rw [cmp_lt hx, cmp_lt hy] at h1; exact absurd rfl h1
  · rw [cmp_lt hx, cmp_eq hy, cmp_lt (a := -1) (by decide), cmp_lt]
    rw [hy, Int.zero_mul]; exact e1 hx py
  · rw [cmp_lt hx, cmp_gt hy, cmp_lt (a := -1) (by decide), cmp_lt]
    have := e1 hx py
    have := Int.mul_pos hy px
    omega
  · rw [cmp_eq hx, cmp_lt hy, cmp_gt (a := 0) (by decide), cmp_gt]
    rw [hx, Int.zero_mul]; exact e1 hy px
  · rw [cmp_eq hx, cmp_eq hy] at h1; exact absurd rfl h1
  · rw [cmp_eq hx, cmp_gt hy, cmp_lt (a := 0) (by decide), cmp_lt]
    rw [hx, Int.zero_mul]; exact Int.mul_pos hy px
  · rw [cmp_gt hx, cmp_lt hy, cmp_gt (a := 1) (by decide), cmp_gt]
    have := e1 hy px
    have := Int.mul_pos hx py
    omega
  · rw [cmp_gt hx, cmp_eq hy, cmp_gt (a := 1) (by decide), cmp_gt]
    rw [hy, Int.zero_mul]; exact Int.mul_pos hx py
  · rw [cmp_gt hx, cmp_gt hy] at h1; exact absurd rfl h1
theorem cmpR_mul {x y : Rat} : cmpR x y = cmpI (x.num * (y.den : Int)) (y.num * (x.den : Int)) := by unfold cmpR; rw [← cmp_rat]
theorem e7 {x : Int} (h : ((if x < 0 then (7 : Int) else 0) == 0) = false) : x < 0 := by
  by_cases hx : x < 0
  · exact hx
  · rw [if_neg hx] at h; cases h
theorem same_f {x y : Rat} (h : (x.num == y.num) = false) : decide (x = y) = false := by
  simp only [beq_eq_false_iff_ne, ne_eq] at h
  rw [decide_eq_false_iff_not]
  exact fun e => h (by rw [e])
theorem same_t {x y : Rat} (h : (x.num == y.num) = true) : decide (x = y) = ((x.den : Int) == (y.den : Int)) := by
  simp only [beq_iff_eq] at h
  rw [Bool.eq_iff_iff, decide_eq_true_eq, beq_iff_eq]
  exact ⟨fun e => by rw [e], fun e => Rat.ext h (by omega)⟩
theorem sqI_cmp {x : Int} : sqI x = (cmpI (isqI x * isqI x) x == 0) := by
  unfold sqI
  rcases Int.lt_trichotomy (isqI x * isqI x) x with h | h | h
  · rw [cmp_lt h]; simp; omega
  · rw [cmp_eq h]; simp; omega
  · rw [cmp_gt h]; simp; omega
theorem sqR_t {x : Rat} (h : sqI x.num = true) (h2 : sqI (x.den : Int) = true) : sqR x = true := by unfold sqR; rw [h, h2]; rfl
theorem sqR_f1 {x : Rat} (h : sqI x.num = false) : sqR x = false := by unfold sqR; rw [h]; rfl
theorem sqR_f2 {x : Rat} (h : sqI (x.den : Int) = false) : sqR x = false := by unfold sqR; rw [h]; cases sqI x.num <;> rfl
theorem dQ_zero : dQ 0 0 = .a (([.b false] ++ [.s 0 []]) ++ ([.b false] ++ [.s 0 []])) := by
  have h : cI 0 = [.b false] ++ [.s 0 []] := by
    have := dI_zero
    unfold dI at this
    injection this
  unfold dQ cQ
  rw [h]
theorem Sz.fdiv {k : Nat} {x y : Int} (h : Sz k x) : Sz k (x.fdiv y) := h.of_le (by
  have h0 : ∀ a b : Nat, a / b ≤ a := fun a b => Nat.div_le_self a b
  rcases Int.lt_trichotomy y 0 with hy | hy | hy
  · rw [← Int.neg_fdiv_neg, Int.fdiv_eq_ediv_of_nonneg _ (by omega)]
    have h2 : (-x / -y).natAbs ≤ (-x).natAbs := ediv_abs_le _ _
    omega
  · subst hy; simp
  · rw [Int.fdiv_eq_ediv_of_nonneg _ (by omega)]
    exact ediv_abs_le x y)
end Go.Proofs.YtonjlikaacengaaGreat
/- Package integer: DivMod. -/
namespace Go.Proofs.YtonjlikaacengaaGreat
open Go Go.RowKit
theorem iDivMod_ok {x y : Int} (hx : Sz 1000000 x) (hy : Sz 1000000 y) (h0 : y ≠ 0) : Ok Tryz.prog 128 [dI x, dI y] [dI (x.fdiv y), dI (x.fmod y), .c (.i .i64 0)] := by
  have hq : Sz 1000000 (q0 x y) := hx.q0
  have hr : Sz 1000000 (r0 x y) := hy.r0 h0
  have h1 : Sz 1000000 (1 : Int) := Sz.small (by omega) (by omega) (by omega)
  refine Ok.of (by kernel_rfl) Tryz.func128 rfl rfl ?_
  rw [show Tryz.f128.ntmps = 55 from rfl, show Tryz.f128.results.toList = [.cell 4 26, .cell 5 26, .tmp 6] from rfl]
  refine dw_seq ?_
  -- region 0
  refine dw_region (by kernel_rfl) ?_
  refine dl_new (sem_box_a rfl rfl) rfl ?_
  refine dl_new (sem_box_a rfl rfl) rfl ?_
  refine dl_new (sem_alloc zc26 rfl) rfl ?_
  refine dl_new (sem_alloc zc26 rfl) rfl ?_
  refine dl_r (sem_assign rfl rfl) ?_
  refine dl_end ?_
  refine dw_seq ?_
  refine dw_seq ?_
  -- region 1
  refine dw_region (by kernel_rfl) ?_
  refine dl_r (sem_field fd26_1 rfl rfl) ?_
  refine dl_r (sem_load1 ty24 rfl rfl rfl rfl) ?_
  refine dl_r (sem_len sl24 rfl rfl) ?_
  refine dl_r (sem_cmp rfl rfl rfl rfl) ?_
  refine dl_end ?_
  refine dw_cond rfl (fun hc1 => ?_) (fun hc1 => ?_)
  · exact absurd hc1 (by simp [lim_eq_nil, h0])
  · refine dw_skip ?_
    refine dw_seq ?_
    -- region 3
    refine dw_region (by kernel_rfl) ?_
    refine dl_r (sem_field fd26_1 rfl rfl) ?_
    refine dl_r (sem_load1 ty24 rfl rfl rfl rfl) ?_
    refine dl_r (sem_field fd26_1 rfl rfl) ?_
    refine dl_r (sem_load1 ty24 rfl rfl rfl rfl) ?_
    refine dl_r (sem_call rfl rfl (iDivide_ok (by assumption) (by assumption) (by assumption)) rfl) ?_
    refine dl_r (sem_move rfl rfl) ?_
    refine dl_r (sem_extract rfl rfl rfl) ?_
    refine dl_r (sem_extract rfl rfl rfl) ?_
    refine dl_r (sem_assign rfl rfl) ?_
    refine dl_r (sem_assign rfl rfl) ?_
    refine dl_end ?_
    refine dw_seq ?_
    -- region 4
    refine dw_draw 13 [] follows_mixed (by kernel_rfl) rfl rfl ?_
    refine dq_r (sem_field fd26_0 rfl rfl) ?_
    refine dq_r (sem_load1 ty4 rfl rfl rfl rfl) ?_
    refine dq_r (sem_field fd26_0 rfl rfl) ?_
    refine dq_r (sem_load1 ty4 rfl rfl rfl rfl) ?_
    refine dq_r (sem_bneq rfl rfl ty_bool rfl) ?_
    refine dq_r (sem_move rfl rfl) ?_
    refine dq_r (sem_call rfl rfl (iSigned_ok) rfl) ?_
    refine dq_r (sem_field fd26_0 rfl rfl) ?_
    refine dq_r (sem_load1 ty4 rfl rfl rfl rfl) ?_
    refine dq_r (sem_move rfl rfl) ?_
    refine dq_r (sem_call rfl rfl (iSigned_ok) rfl) ?_
    refine dq_new (sem_alloc zc26 rfl) rfl ?_
    refine dq_new (sem_alloc zc26 rfl) rfl ?_
    refine dq_end ?_
    refine dl_start2 ?_
    refine dl_st (sem_store_a ty26 rfl rfl rfl rfl rfl rfl) ?_
    refine dl_st (sem_store_a ty26 rfl rfl rfl rfl rfl rfl) ?_
    refine dl_end ?_
    refine dw_seq ?_
    refine dw_seq ?_
    -- region 5
    refine dw_region (by kernel_rfl) ?_
    refine dl_r (sem_field fd26_1 rfl rfl) ?_
    refine dl_r (sem_load1 ty24 rfl rfl rfl rfl) ?_
    refine dl_r (sem_len sl24 rfl rfl) ?_
    refine dl_r (sem_cmp rfl rfl rfl rfl) ?_
    refine dl_rb (sem_move rfl rfl) (fun c2 hb2 => ?_)
    cases c2
    · refine dl_skip (sem_skip rfl) ?_
      refine dl_skip (sem_skip rfl) ?_
      refine dl_skip (sem_skip rfl) ?_
      refine dl_skip (sem_skip rfl) ?_
      refine dl_skip (sem_skip rfl) ?_
      refine dl_r (sem_pick rfl rfl rfl rfl) ?_
      refine dl_end ?_
      refine dw_false rfl ?_
      refine dw_skip ?_
      refine dw_seq ?_
      -- region 7
      refine dw_draw 5 [4, 5] follows_mixed (by kernel_rfl) rfl rfl ?_
      refine dq_r (sem_load (us := cI (sg (!((decide (x < 0)) == (decide (y < 0)))) ((x.natAbs : Int) / y.natAbs))) ty26 rfl rfl rfl rfl rfl) ?_
      refine dq_r (sem_load (us := cI (sg (decide (x < 0)) ((x.natAbs : Int) % y.natAbs))) ty26 rfl rfl rfl rfl rfl) ?_
      refine dq_st (sem_store_a ty26 rfl rfl rfl rfl rfl rfl) rfl rfl rfl ?_
      refine dq_st (sem_store_a ty26 rfl rfl rfl rfl rfl rfl) rfl rfl rfl ?_
      refine dq_r (sem_assign rfl rfl) ?_
      refine dq_end ?_
      refine dl_start2 ?_
      refine dl_end ?_
      refine dw_ret ?_
      -- path Ff
      obtain ⟨e1, e2⟩ := dm_plain (x := x) h0 (.inl (lenL_zero hb2))
      rw [e1, e2]
      exact ⟨.inr rfl, (resL_cell (us := cI (sg (!((decide (x < 0)) == (decide (y < 0)))) ((x.natAbs : Int) / y.natAbs))) ty26 rfl rfl rfl rfl (resL_cell (us := cI (sg (decide (x < 0)) ((x.natAbs : Int) % y.natAbs))) ty26 rfl rfl rfl rfl (resL_tmp rfl resL_nil)))⟩
    · refine dl_r (sem_field fd26_0 rfl rfl) ?_
      refine dl_r (sem_load1 ty4 rfl rfl rfl rfl) ?_
      refine dl_r (sem_field fd26_0 rfl rfl) ?_
      refine dl_r (sem_load1 ty4 rfl rfl rfl rfl) ?_
      refine dl_r (sem_bneq rfl rfl ty_bool rfl) ?_
      refine dl_r (sem_pick rfl rfl rfl rfl) ?_
      refine dl_end ?_
      refine dw_cond rfl (fun hc3 => ?_) (fun hc3 => ?_)
      · -- region 6
        refine dw_draw 6 [] follows_mixed (by kernel_rfl) rfl rfl ?_
        refine dq_r (sem_load (us := cI (sg (!((decide (x < 0)) == (decide (y < 0)))) ((x.natAbs : Int) / y.natAbs))) ty26 rfl rfl rfl rfl rfl) ?_
        refine dq_r (sem_call rfl rfl (iFrom_ok (by omega) (by omega)) rfl) ?_
        refine dq_r (sem_call rfl rfl (iSub_ok (by assumption) (by assumption)) rfl) ?_
        refine dq_r (sem_load (us := cI (sg (decide (x < 0)) ((x.natAbs : Int) % y.natAbs))) ty26 rfl rfl rfl rfl rfl) ?_
        refine dq_r (sem_load (us := cI y) ty26 rfl rfl rfl rfl rfl) ?_
        refine dq_r (sem_call rfl rfl (iAdd_ok (by assumption) (by assumption)) rfl) ?_
        refine dq_end ?_
        refine dl_start0 ?_
        refine dl_st (sem_store_a ty26 rfl rfl rfl rfl rfl rfl) ?_
        refine dl_st (sem_store_a ty26 rfl rfl rfl rfl rfl rfl) ?_
        refine dl_end ?_
        refine dw_seq ?_
        -- region 7
        refine dw_draw 5 [4, 5] follows_mixed (by kernel_rfl) rfl rfl ?_
        refine dq_r (sem_load (us := cI ((sg (!((decide (x < 0)) == (decide (y < 0)))) ((x.natAbs : Int) / y.natAbs)) - 1)) ty26 rfl rfl rfl rfl rfl) ?_
        refine dq_r (sem_load (us := cI ((sg (decide (x < 0)) ((x.natAbs : Int) % y.natAbs)) + y)) ty26 rfl rfl rfl rfl rfl) ?_
        refine dq_st (sem_store_a ty26 rfl rfl rfl rfl rfl rfl) rfl rfl rfl ?_
        refine dq_st (sem_store_a ty26 rfl rfl rfl rfl rfl rfl) rfl rfl rfl ?_
        refine dq_r (sem_assign rfl rfl) ?_
        refine dq_end ?_
        refine dl_start2 ?_
        refine dl_end ?_
        refine dw_ret ?_
        -- path FtT
        obtain ⟨e1, e2⟩ := dm_shift (x := x) h0 (lenL_pos hb2) (sgn_ne hc3)
        rw [e1, e2]
        exact ⟨.inr rfl, (resL_cell (us := cI ((sg (!((decide (x < 0)) == (decide (y < 0)))) ((x.natAbs : Int) / y.natAbs)) - 1)) ty26 rfl rfl rfl rfl (resL_cell (us := cI ((sg (decide (x < 0)) ((x.natAbs : Int) % y.natAbs)) + y)) ty26 rfl rfl rfl rfl (resL_tmp rfl resL_nil)))⟩
      · refine dw_skip ?_
        refine dw_seq ?_
        -- region 7
        refine dw_draw 5 [4, 5] follows_mixed (by kernel_rfl) rfl rfl ?_
        refine dq_r (sem_load (us := cI (sg (!((decide (x < 0)) == (decide (y < 0)))) ((x.natAbs : Int) / y.natAbs))) ty26 rfl rfl rfl rfl rfl) ?_
        refine dq_r (sem_load (us := cI (sg (decide (x < 0)) ((x.natAbs : Int) % y.natAbs))) ty26 rfl rfl rfl rfl rfl) ?_
        refine dq_st (sem_store_a ty26 rfl rfl rfl rfl rfl rfl) rfl rfl rfl ?_
        refine dq_st (sem_store_a ty26 rfl rfl rfl rfl rfl rfl) rfl rfl rfl ?_
        refine dq_r (sem_assign rfl rfl) ?_
        refine dq_end ?_
        refine dl_start2 ?_
        refine dl_end ?_
        refine dw_ret ?_
        -- path FtF
        obtain ⟨e1, e2⟩ := dm_plain (x := x) h0 (.inr (sgn_eq hc3))
        rw [e1, e2]
        exact ⟨.inr rfl, (resL_cell (us := cI (sg (!((decide (x < 0)) == (decide (y < 0)))) ((x.natAbs : Int) / y.natAbs))) ty26 rfl rfl rfl rfl (resL_cell (us := cI (sg (decide (x < 0)) ((x.natAbs : Int) % y.natAbs))) ty26 rfl rfl rfl rfl (resL_tmp rfl resL_nil)))⟩
end Go.Proofs.YtonjlikaacengaaGreat
/- Package swarfref01: the functions on numbers. -/
namespace Go.Proofs.YtonjlikaacengaaGreat
open Go Go.RowKit
theorem nSign_ok {x : Int} : Ok Tryz.prog 56 [dI x] [.c (.i .i64 (cmpI x 0))] := by
  refine Ok.of (by kernel_rfl) Tryz.func56 rfl rfl ?_
  rw [show Tryz.f56.ntmps = 9 from rfl, show Tryz.f56.results.toList = [.tmp 2] from rfl]
  refine dw_seq ?_
  -- region 0
  refine dw_region (by kernel_rfl) ?_
  refine dl_new (sem_box_a rfl rfl) rfl ?_
  refine dl_r (sem_assign rfl rfl) ?_
  refine dl_end ?_
  refine dw_seq ?_
  refine dw_seq ?_
  -- region 1
  refine dw_region (by kernel_rfl) ?_
  refine dl_r (sem_field fd26_1 rfl rfl) ?_
  refine dl_r (sem_load1 ty24 rfl rfl rfl rfl) ?_
  refine dl_r (sem_len sl24 rfl rfl) ?_
  refine dl_r (sem_cmp rfl rfl rfl rfl) ?_
  refine dl_end ?_
  refine dw_cond rfl (fun hc1 => ?_) (fun hc1 => ?_)
  · refine dw_seq ?_
    -- region 2
    refine dw_region (by kernel_rfl) ?_
    refine dl_r (sem_assign rfl rfl) ?_
    refine dl_end ?_
    refine dw_ret ?_
    -- path T
    rw [cmp_eq (by have := hc1; simp [lim_eq_nil] at this; omega)]
    exact ⟨.inr rfl, (resL_tmp rfl resL_nil)⟩
  · refine dw_skip ?_
    refine dw_seq ?_
    refine dw_seq ?_
    -- region 3
    refine dw_region (by kernel_rfl) ?_
    refine dl_r (sem_field fd26_0 rfl rfl) ?_
    refine dl_r (sem_load1 ty4 rfl rfl rfl rfl) ?_
    refine dl_end ?_
    refine dw_cond rfl (fun hc2 => ?_) (fun hc2 => ?_)
    · refine dw_seq ?_
      -- region 4
      refine dw_region (by kernel_rfl) ?_
      refine dl_r (sem_assign rfl rfl) ?_
      refine dl_end ?_
      refine dw_ret ?_
      -- path FT
      rw [cmp_lt (by simpa using hc2)]
      exact ⟨.inr rfl, (resL_tmp rfl resL_nil)⟩
    · refine dw_skip ?_
      refine dw_seq ?_
      -- region 5
      refine dw_region (by kernel_rfl) ?_
      refine dl_r (sem_assign rfl rfl) ?_
      refine dl_end ?_
      refine dw_ret ?_
      -- path FF
      rw [cmp_gt (by have := hc1; have h2 := hc2; simp [lim_eq_nil] at this h2; omega)]
      exact ⟨.inr rfl, (resL_tmp rfl resL_nil)⟩
theorem nCmp_ok {x y : Int} (hx : Sz 1000000 x) (hy : Sz 1000000 y) : Ok Tryz.prog 57 [dI x, dI y] [.c (.i .i64 (cmpI x y))] := by
  refine Ok.of (by kernel_rfl) Tryz.func57 rfl rfl ?_
  rw [show Tryz.f57.ntmps = 24 from rfl, show Tryz.f57.results.toList = [.tmp 4] from rfl]
  refine dw_seq ?_
  -- region 0
  refine dw_region (by kernel_rfl) ?_
  refine dl_new (sem_box_a rfl rfl) rfl ?_
  refine dl_new (sem_box_a rfl rfl) rfl ?_
  refine dl_r (sem_assign rfl rfl) ?_
  refine dl_end ?_
  refine dw_seq ?_
  refine dw_seq ?_
  -- region 1
  refine dw_region (by kernel_rfl) ?_
  refine dl_r (sem_field fd26_0 rfl rfl) ?_
  refine dl_r (sem_load1 ty4 rfl rfl rfl rfl) ?_
  refine dl_r (sem_field fd26_0 rfl rfl) ?_
  refine dl_r (sem_load1 ty4 rfl rfl rfl rfl) ?_
  refine dl_r (sem_bneq rfl rfl ty_bool rfl) ?_
  refine dl_end ?_
  refine dw_cond rfl (fun hc1 => ?_) (fun hc1 => ?_)
  · refine dw_seq ?_
    refine dw_seq ?_
    -- region 2
    refine dw_region (by kernel_rfl) ?_
    refine dl_r (sem_field fd26_0 rfl rfl) ?_
    refine dl_r (sem_load1 ty4 rfl rfl rfl rfl) ?_
    refine dl_end ?_
    refine dw_cond rfl (fun hc2 => ?_) (fun hc2 => ?_)
    · refine dw_seq ?_
      -- region 3
      refine dw_region (by kernel_rfl) ?_
      refine dl_r (sem_assign rfl rfl) ?_
      refine dl_end ?_
      refine dw_ret ?_
      -- path TT
      rw [cmp_lt (by have := sgn_ne hc1; have h2 := hc2; simp only [decide_eq_true_eq] at h2; omega)]
      exact ⟨.inr rfl, (resL_tmp rfl resL_nil)⟩
    · refine dw_skip ?_
      refine dw_seq ?_
      -- region 4
      refine dw_region (by kernel_rfl) ?_
      refine dl_r (sem_assign rfl rfl) ?_
      refine dl_end ?_
      refine dw_ret ?_
      -- path TF
      rw [cmp_gt (by have := sgn_ne hc1; have h2 := hc2; simp only [decide_eq_false_iff_not] at h2; omega)]
      exact ⟨.inr rfl, (resL_tmp rfl resL_nil)⟩
  · refine dw_skip ?_
    refine dw_seq ?_
    refine dw_seq ?_
    -- region 5
    refine dw_region (by kernel_rfl) ?_
    refine dl_r (sem_field fd26_0 rfl rfl) ?_
    refine dl_r (sem_load1 ty4 rfl rfl rfl rfl) ?_
    refine dl_end ?_
    refine dw_cond rfl (fun hc3 => ?_) (fun hc3 => ?_)
    · refine dw_seq ?_
      -- region 6
      refine dw_region (by kernel_rfl) ?_
      refine dl_r (sem_field fd26_1 rfl rfl) ?_
      refine dl_r (sem_load1 ty24 rfl rfl rfl rfl) ?_
      refine dl_r (sem_field fd26_1 rfl rfl) ?_
      refine dl_r (sem_load1 ty24 rfl rfl rfl rfl) ?_
      refine dl_r (sem_call rfl rfl (rCompare_c (by assumption) (by assumption)) rfl) ?_
      refine dl_r (sem_assign rfl rfl) ?_
      refine dl_end ?_
      refine dw_ret ?_
      -- path FT
      rw [← cmpI_abs_neg hc3 (by have := sgn_eq hc1; have h2 := hc3; simp only [decide_eq_true_eq] at h2; omega)]
      exact ⟨.inr rfl, (resL_tmp rfl resL_nil)⟩
    · refine dw_skip ?_
      refine dw_seq ?_
      -- region 7
      refine dw_region (by kernel_rfl) ?_
      refine dl_r (sem_field fd26_1 rfl rfl) ?_
      refine dl_r (sem_load1 ty24 rfl rfl rfl rfl) ?_
      refine dl_r (sem_field fd26_1 rfl rfl) ?_
      refine dl_r (sem_load1 ty24 rfl rfl rfl rfl) ?_
      refine dl_r (sem_call rfl rfl (rCompare_c (by assumption) (by assumption)) rfl) ?_
      refine dl_r (sem_assign rfl rfl) ?_
      refine dl_end ?_
      refine dw_ret ?_
      -- path FF
      rw [← cmpI_abs_pos hc3 (by have := sgn_eq hc1; have h2 := hc3; simp only [decide_eq_false_iff_not] at h2; omega)]
      exact ⟨.inr rfl, (resL_tmp rfl resL_nil)⟩
theorem nFrom_ok {x : Int} (h0 : -9223372036854775808 ≤ x) (h1 : x ≤ 9223372036854775807) : Ok Tryz.prog 24 [.c (.i .i64 x)] [dI x] := by
  refine Ok.of (by kernel_rfl) Tryz.func24 rfl rfl ?_
  rw [show Tryz.f24.ntmps = 14 from rfl, show Tryz.f24.results.toList = [.cell 2 26] from rfl]
  refine dw_seq ?_
  -- region 0
  refine dw_region (by kernel_rfl) ?_
  refine dl_new (sem_alloc zc26 rfl) rfl ?_
  refine dl_end ?_
  refine dw_seq ?_
  refine dw_seq ?_
  -- region 1
  refine dw_region (by kernel_rfl) ?_
  refine dl_r (sem_move rfl rfl) ?_
  refine dl_r (sem_cmp rfl rfl rfl rfl) ?_
  refine dl_end ?_
  refine dw_cond rfl (fun hc1 => ?_) (fun hc1 => ?_)
  · have hn : x < 0 := by simpa using hc1
    refine dw_seq ?_
    -- region 2
    refine dw_region (by kernel_rfl) ?_
    refine dl_r (sem_move rfl rfl) ?_
    refine dl_r (sem_conv' (r := x + 18446744073709551616) und2 und91 rfl (wu64_neg hn h0) rfl) ?_
    refine dl_r (sem_neg' (r := -x) rfl (wu64_neg2 hn h0) rfl) ?_
    refine dl_r (sem_call rfl rfl (rLimbs_ok (by omega) (by omega)) rfl) ?_
    refine dl_r (sem_call rfl rfl (rSigned_c (Sz.small3 (by omega) (by omega))) rfl) ?_
    refine dl_st (sem_store_a ty26 rfl rfl rfl rfl rfl rfl) ?_
    refine dl_end ?_
    refine dw_ret ?_
    -- path T
    have hfin : dI x = dI (sg true (((-x).natAbs : Nat) : Int)) := congrArg dI (by rw [sg_true]; omega)
    rw [hfin]
    exact ⟨.inr rfl, (resL_cell (us := cI (sg true (((-x).natAbs : Nat) : Int))) ty26 rfl rfl rfl rfl resL_nil)⟩
  · have hn : 0 ≤ x := by have := hc1; simp at this; omega
    refine dw_skip ?_
    refine dw_seq ?_
    -- region 3
    refine dw_region (by kernel_rfl) ?_
    refine dl_r (sem_move rfl rfl) ?_
    refine dl_r (sem_conv' (r := x) und2 und91 rfl (nwu64 (by omega) (by omega)) rfl) ?_
    refine dl_r (sem_call rfl rfl (rLimbs_ok (by omega) (by omega)) rfl) ?_
    refine dl_r (sem_call rfl rfl (rSigned_c (Sz.small3 (by omega) (by omega))) rfl) ?_
    refine dl_st (sem_store_a ty26 rfl rfl rfl rfl rfl rfl) ?_
    refine dl_end ?_
    refine dw_ret ?_
    -- path F
    have hfin : dI x = dI (sg false ((x.natAbs : Nat) : Int)) := congrArg dI (by rw [sg_false]; omega)
    rw [hfin]
    exact ⟨.inr rfl, (resL_cell (us := cI (sg false ((x.natAbs : Nat) : Int))) ty26 rfl rfl rfl rfl resL_nil)⟩
theorem nNeg_ok {x : Int} (hx : Sz 1000000 x) : Ok Tryz.prog 59 [dI x] [dI (-x)] := by
  refine Ok.of (by kernel_rfl) Tryz.func59 rfl rfl ?_
  rw [show Tryz.f59.ntmps = 9 from rfl, show Tryz.f59.results.toList = [.cell 2 26] from rfl]
  refine dw_seq ?_
  -- region 0
  refine dw_region (by kernel_rfl) ?_
  refine dl_new (sem_box_a rfl rfl) rfl ?_
  refine dl_new (sem_alloc zc26 rfl) rfl ?_
  refine dl_end ?_
  refine dw_seq ?_
  -- region 1
  refine dw_region (by kernel_rfl) ?_
  refine dl_r (sem_field fd26_0 rfl rfl) ?_
  refine dl_r (sem_load1 ty4 rfl rfl rfl rfl) ?_
  refine dl_r (sem_not rfl rfl) ?_
  refine dl_r (sem_field fd26_1 rfl rfl) ?_
  refine dl_r (sem_load1 ty24 rfl rfl rfl rfl) ?_
  refine dl_r (sem_call rfl rfl (rSigned_c (by assumption)) rfl) ?_
  refine dl_st (sem_store_a ty26 rfl rfl rfl rfl rfl rfl) ?_
  refine dl_end ?_
  refine dw_ret ?_
  -- path 
  rw [← sa_not (x := x)]
  exact ⟨.inr rfl, (resL_cell (us := cI (sg (!(decide (x < 0))) ((x.natAbs : Nat) : Int))) ty26 rfl rfl rfl rfl resL_nil)⟩
theorem nMul_ok {x y : Int} (hx : Sz 400000 x) (hy : Sz 400000 y) : Ok Tryz.prog 45 [dI x, dI y] [dI (x * y)] := by
  have hx6 : Sz 1000000 x := hx.mono (by decide)
  have hy6 : Sz 1000000 y := hy.mono (by decide)
  have hp : Sz 1000000 ((x.natAbs : Int) * (y.natAbs : Int)) := ((nat_sz hx).mul (nat_sz hy)).mono (by decide)
  refine Ok.of (by kernel_rfl) Tryz.func45 rfl rfl ?_
  rw [show Tryz.f45.ntmps = 16 from rfl, show Tryz.f45.results.toList = [.cell 4 26] from rfl]
  refine dw_seq ?_
  -- region 0
  refine dw_region (by kernel_rfl) ?_
  refine dl_new (sem_box_a rfl rfl) rfl ?_
  refine dl_new (sem_box_a rfl rfl) rfl ?_
  refine dl_new (sem_alloc zc26 rfl) rfl ?_
  refine dl_end ?_
  refine dw_seq ?_
  -- region 1
  refine dw_draw 11 [] follows_mixed (by kernel_rfl) rfl rfl ?_
  refine dq_r (sem_field fd26_0 rfl rfl) ?_
  refine dq_r (sem_load1 ty4 rfl rfl rfl rfl) ?_
  refine dq_r (sem_field fd26_0 rfl rfl) ?_
  refine dq_r (sem_load1 ty4 rfl rfl rfl rfl) ?_
  refine dq_r (sem_bneq rfl rfl ty_bool rfl) ?_
  refine dq_r (sem_field fd26_1 rfl rfl) ?_
  refine dq_r (sem_load1 ty24 rfl rfl rfl rfl) ?_
  refine dq_r (sem_field fd26_1 rfl rfl) ?_
  refine dq_r (sem_load1 ty24 rfl rfl rfl rfl) ?_
  refine dq_r (sem_call rfl rfl (rTimes_c (by assumption) (by assumption)) rfl) ?_
  refine dq_r (sem_call rfl rfl (rSigned_c (by assumption)) rfl) ?_
  refine dq_end ?_
  refine dl_start0 ?_
  refine dl_st (sem_store_a ty26 rfl rfl rfl rfl rfl rfl) ?_
  refine dl_end ?_
  refine dw_ret ?_
  -- path 
  rw [← sa_mul (x := x) (y := y)]
  exact ⟨.inr rfl, (resL_cell (us := cI (sg (!((decide (x < 0)) == (decide (y < 0)))) ((((x.natAbs : Int) * (y.natAbs : Int)).natAbs : Nat) : Int))) ty26 rfl rfl rfl rfl resL_nil)⟩
theorem nAdd_ok {x y : Int} (hx : Sz 900000 x) (hy : Sz 900000 y) : Ok Tryz.prog 46 [dI x, dI y] [dI (x + y)] := by
  have hx6 : Sz 1000000 x := hx.mono (by decide)
  have hy6 : Sz 1000000 y := hy.mono (by decide)
  have hp : Sz 1000000 ((x.natAbs : Int) + (y.natAbs : Int)) := ((nat_sz (hx.mono (l := 999999) (by decide))).add (nat_sz (hy.mono (by decide)))).mono (by decide)
  refine Ok.of (by kernel_rfl) Tryz.func46 rfl rfl ?_
  rw [show Tryz.f46.ntmps = 40 from rfl, show Tryz.f46.results.toList = [.cell 4 26] from rfl]
  refine dw_seq ?_
  -- region 0
  refine dw_region (by kernel_rfl) ?_
  refine dl_new (sem_box_a rfl rfl) rfl ?_
  refine dl_new (sem_box_a rfl rfl) rfl ?_
  refine dl_new (sem_alloc zc26 rfl) rfl ?_
  refine dl_end ?_
  refine dw_seq ?_
  refine dw_seq ?_
  -- region 1
  refine dw_region (by kernel_rfl) ?_
  refine dl_r (sem_field fd26_0 rfl rfl) ?_
  refine dl_r (sem_load1 ty4 rfl rfl rfl rfl) ?_
  refine dl_r (sem_field fd26_0 rfl rfl) ?_
  refine dl_r (sem_load1 ty4 rfl rfl rfl rfl) ?_
  refine dl_r (sem_beql rfl rfl ty_bool rfl) ?_
  refine dl_end ?_
  refine dw_cond rfl (fun hc1 => ?_) (fun hc1 => ?_)
  · refine dw_seq ?_
    -- region 2
    refine dw_draw 8 [] follows_mixed (by kernel_rfl) rfl rfl ?_
    refine dq_r (sem_field fd26_0 rfl rfl) ?_
    refine dq_r (sem_load1 ty4 rfl rfl rfl rfl) ?_
    refine dq_r (sem_field fd26_1 rfl rfl) ?_
    refine dq_r (sem_load1 ty24 rfl rfl rfl rfl) ?_
    refine dq_r (sem_field fd26_1 rfl rfl) ?_
    refine dq_r (sem_load1 ty24 rfl rfl rfl rfl) ?_
    refine dq_r (sem_call rfl rfl (rPlus_c (by assumption) (by assumption)) rfl) ?_
    refine dq_r (sem_call rfl rfl (rSigned_c (by assumption)) rfl) ?_
    refine dq_end ?_
    refine dl_start0 ?_
    refine dl_st (sem_store_a ty26 rfl rfl rfl rfl rfl rfl) ?_
    refine dl_end ?_
    refine dw_ret ?_
    -- path T
    rw [← sa_same hc1]
    exact ⟨.inr rfl, (resL_cell (us := cI (sg (decide (x < 0)) ((((x.natAbs : Int) + (y.natAbs : Int)).natAbs : Nat) : Int))) ty26 rfl rfl rfl rfl resL_nil)⟩
  · refine dw_skip ?_
    refine dw_seq ?_
    refine dw_seq ?_
    -- region 3
    refine dw_region (by kernel_rfl) ?_
    refine dl_r (sem_field fd26_1 rfl rfl) ?_
    refine dl_r (sem_load1 ty24 rfl rfl rfl rfl) ?_
    refine dl_r (sem_field fd26_1 rfl rfl) ?_
    refine dl_r (sem_load1 ty24 rfl rfl rfl rfl) ?_
    refine dl_r (sem_call rfl rfl (rCompare_c (by assumption) (by assumption)) rfl) ?_
    refine dl_r (sem_cmp rfl rfl rfl rfl) ?_
    refine dl_end ?_
    refine dw_cond rfl (fun hc2 => ?_) (fun hc2 => ?_)
    · have hge := cmpI_ge hc2
      have hq : Sz 1000000 ((x.natAbs : Int) - (y.natAbs : Int)) := hx6.of_le (by omega)
      refine dw_seq ?_
      -- region 4
      refine dw_draw 8 [] follows_mixed (by kernel_rfl) rfl rfl ?_
      refine dq_r (sem_field fd26_0 rfl rfl) ?_
      refine dq_r (sem_load1 ty4 rfl rfl rfl rfl) ?_
      refine dq_r (sem_field fd26_1 rfl rfl) ?_
      refine dq_r (sem_load1 ty24 rfl rfl rfl rfl) ?_
      refine dq_r (sem_field fd26_1 rfl rfl) ?_
      refine dq_r (sem_load1 ty24 rfl rfl rfl rfl) ?_
      refine dq_r (sem_call rfl rfl (rMinus_c (by assumption) (by omega)) rfl) ?_
      refine dq_r (sem_call rfl rfl (rSigned_c (by assumption)) rfl) ?_
      refine dq_end ?_
      refine dl_start0 ?_
      refine dl_st (sem_store_a ty26 rfl rfl rfl rfl rfl rfl) ?_
      refine dl_end ?_
      refine dw_ret ?_
      -- path FT
      rw [← sa_ge hc1 (by omega)]
      exact ⟨.inr rfl, (resL_cell (us := cI (sg (decide (x < 0)) ((((x.natAbs : Int) - (y.natAbs : Int)).natAbs : Nat) : Int))) ty26 rfl rfl rfl rfl resL_nil)⟩
    · have hge := cmpI_lt hc2
      have hq : Sz 1000000 ((y.natAbs : Int) - (x.natAbs : Int)) := hy6.of_le (by omega)
      refine dw_skip ?_
      refine dw_seq ?_
      -- region 5
      refine dw_draw 8 [] follows_mixed (by kernel_rfl) rfl rfl ?_
      refine dq_r (sem_field fd26_0 rfl rfl) ?_
      refine dq_r (sem_load1 ty4 rfl rfl rfl rfl) ?_
      refine dq_r (sem_field fd26_1 rfl rfl) ?_
      refine dq_r (sem_load1 ty24 rfl rfl rfl rfl) ?_
      refine dq_r (sem_field fd26_1 rfl rfl) ?_
      refine dq_r (sem_load1 ty24 rfl rfl rfl rfl) ?_
      refine dq_r (sem_call rfl rfl (rMinus_c (by assumption) (by omega)) rfl) ?_
      refine dq_r (sem_call rfl rfl (rSigned_c (by assumption)) rfl) ?_
      refine dq_end ?_
      refine dl_start0 ?_
      refine dl_st (sem_store_a ty26 rfl rfl rfl rfl rfl rfl) ?_
      refine dl_end ?_
      refine dw_ret ?_
      -- path FF
      rw [← sa_lt hc1 (by omega)]
      exact ⟨.inr rfl, (resL_cell (us := cI (sg (decide (y < 0)) ((((y.natAbs : Int) - (x.natAbs : Int)).natAbs : Nat) : Int))) ty26 rfl rfl rfl rfl resL_nil)⟩
theorem nSub_ok {x y : Int} (hx : Sz 900000 x) (hy : Sz 900000 y) : Ok Tryz.prog 95 [dI x, dI y] [dI (x - y)] := by
  have hx6 : Sz 1000000 x := hx.mono (by decide)
  have hy6 : Sz 1000000 y := hy.mono (by decide)
  have hyn : Sz 900000 (-y) := hy.neg
  refine Ok.of (by kernel_rfl) Tryz.func95 rfl rfl ?_
  rw [show Tryz.f95.ntmps = 9 from rfl, show Tryz.f95.results.toList = [.cell 4 26] from rfl]
  refine dw_seq ?_
  -- region 0
  refine dw_region (by kernel_rfl) ?_
  refine dl_new (sem_box_a rfl rfl) rfl ?_
  refine dl_new (sem_box_a rfl rfl) rfl ?_
  refine dl_new (sem_alloc zc26 rfl) rfl ?_
  refine dl_end ?_
  refine dw_seq ?_
  -- region 1
  refine dw_draw 4 [] follows_mixed (by kernel_rfl) rfl rfl ?_
  refine dq_r (sem_load (us := cI x) ty26 rfl rfl rfl rfl rfl) ?_
  refine dq_r (sem_load (us := cI y) ty26 rfl rfl rfl rfl rfl) ?_
  refine dq_r (sem_call rfl rfl (nNeg_ok (by assumption)) rfl) ?_
  refine dq_r (sem_call rfl rfl (nAdd_ok (by assumption) (by assumption)) rfl) ?_
  refine dq_end ?_
  refine dl_start0 ?_
  refine dl_st (sem_store_a ty26 rfl rfl rfl rfl rfl rfl) ?_
  refine dl_end ?_
  refine dw_ret ?_
  -- path 
  rw [Int.sub_eq_add_neg]
  exact ⟨.inr rfl, (resL_cell (us := cI (x + (-y))) ty26 rfl rfl rfl rfl resL_nil)⟩
-- no function swarf/swarfref01.Same in this seat
theorem nDivMod_ok {x y : Int} (hx : Sz 1000 x) (hy : Sz 1000 y) (h0 : y ≠ 0) : Ok Tryz.prog 61 [dI x, dI y] [dI (x.fdiv y), dI (x.fmod y), .c (.i .i64 0)] := by
  have hq : Sz 900000 (q0 x y) := hx.q0.mono (by decide)
  have hr : Sz 900000 (r0 x y) := (hy.r0 h0).mono (by decide)
  have h1 : Sz 900000 (1 : Int) := Sz.small (by omega) (by omega) (by omega)
  have hy9 : Sz 900000 y := hy.mono (by decide)
  have hqq : Sz 1000000 ((x.natAbs : Int) / y.natAbs) := nq_sz hx
  have hrr : Sz 1000000 ((x.natAbs : Int) % y.natAbs) := nr_sz hy h0
  refine Ok.of (by kernel_rfl) Tryz.func61 rfl rfl ?_
  rw [show Tryz.f61.ntmps = 54 from rfl, show Tryz.f61.results.toList = [.cell 4 26, .cell 5 26, .tmp 6] from rfl]
  refine dw_seq ?_
  -- region 0
  refine dw_region (by kernel_rfl) ?_
  refine dl_new (sem_box_a rfl rfl) rfl ?_
  refine dl_new (sem_box_a rfl rfl) rfl ?_
  refine dl_new (sem_alloc zc26 rfl) rfl ?_
  refine dl_new (sem_alloc zc26 rfl) rfl ?_
  refine dl_r (sem_assign rfl rfl) ?_
  refine dl_end ?_
  refine dw_seq ?_
  refine dw_seq ?_
  -- region 1
  refine dw_region (by kernel_rfl) ?_
  refine dl_r (sem_field fd26_1 rfl rfl) ?_
  refine dl_r (sem_load1 ty24 rfl rfl rfl rfl) ?_
  refine dl_r (sem_len sl24 rfl rfl) ?_
  refine dl_r (sem_cmp rfl rfl rfl rfl) ?_
  refine dl_end ?_
  refine dw_cond rfl (fun hc1 => ?_) (fun hc1 => ?_)
  · exact absurd hc1 (by simp [lim_eq_nil, h0])
  · refine dw_skip ?_
    refine dw_seq ?_
    -- region 3
    refine dw_region (by kernel_rfl) ?_
    refine dl_r (sem_field fd26_1 rfl rfl) ?_
    refine dl_r (sem_load1 ty24 rfl rfl rfl rfl) ?_
    refine dl_r (sem_field fd26_1 rfl rfl) ?_
    refine dl_r (sem_load1 ty24 rfl rfl rfl rfl) ?_
    refine dl_r (sem_call rfl rfl (rParts_c (by assumption) (by assumption) (by assumption)) rfl) ?_
    refine dl_r (sem_move rfl rfl) ?_
    refine dl_r (sem_extract rfl rfl rfl) ?_
    refine dl_r (sem_extract rfl rfl rfl) ?_
    refine dl_r (sem_assign rfl rfl) ?_
    refine dl_r (sem_assign rfl rfl) ?_
    refine dl_end ?_
    refine dw_seq ?_
    -- region 4
    refine dw_draw 13 [] follows_mixed (by kernel_rfl) rfl rfl ?_
    refine dq_r (sem_field fd26_0 rfl rfl) ?_
    refine dq_r (sem_load1 ty4 rfl rfl rfl rfl) ?_
    refine dq_r (sem_field fd26_0 rfl rfl) ?_
    refine dq_r (sem_load1 ty4 rfl rfl rfl rfl) ?_
    refine dq_r (sem_bneq rfl rfl ty_bool rfl) ?_
    refine dq_r (sem_move rfl rfl) ?_
    refine dq_r (sem_call rfl rfl (rSigned_q0 hqq) rfl) ?_
    refine dq_r (sem_field fd26_0 rfl rfl) ?_
    refine dq_r (sem_load1 ty4 rfl rfl rfl rfl) ?_
    refine dq_r (sem_move rfl rfl) ?_
    refine dq_r (sem_call rfl rfl (rSigned_r0 h0 hrr) rfl) ?_
    refine dq_new (sem_alloc zc26 rfl) rfl ?_
    refine dq_new (sem_alloc zc26 rfl) rfl ?_
    refine dq_end ?_
    refine dl_start2 ?_
    refine dl_st (sem_store_a ty26 rfl rfl rfl rfl rfl rfl) ?_
    refine dl_st (sem_store_a ty26 rfl rfl rfl rfl rfl rfl) ?_
    refine dl_end ?_
    refine dw_seq ?_
    refine dw_seq ?_
    -- region 5
    refine dw_region (by kernel_rfl) ?_
    refine dl_r (sem_move rfl rfl) ?_
    refine dl_r (sem_len sl24 rfl rfl) ?_
    refine dl_r (sem_cmp rfl rfl rfl rfl) ?_
    refine dl_rb (sem_move rfl rfl) (fun c2 hb2 => ?_)
    cases c2
    · refine dl_skip (sem_skip rfl) ?_
      refine dl_skip (sem_skip rfl) ?_
      refine dl_skip (sem_skip rfl) ?_
      refine dl_skip (sem_skip rfl) ?_
      refine dl_skip (sem_skip rfl) ?_
      refine dl_r (sem_pick rfl rfl rfl rfl) ?_
      refine dl_end ?_
      refine dw_false rfl ?_
      refine dw_skip ?_
      refine dw_seq ?_
      -- region 7
      refine dw_draw 5 [4, 5] follows_mixed (by kernel_rfl) rfl rfl ?_
      refine dq_r (sem_load (us := cI (q0 x y)) ty26 rfl rfl rfl rfl rfl) ?_
      refine dq_r (sem_load (us := cI (r0 x y)) ty26 rfl rfl rfl rfl rfl) ?_
      refine dq_st (sem_store_a ty26 rfl rfl rfl rfl rfl rfl) rfl rfl rfl ?_
      refine dq_st (sem_store_a ty26 rfl rfl rfl rfl rfl rfl) rfl rfl rfl ?_
      refine dq_r (sem_assign rfl rfl) ?_
      refine dq_end ?_
      refine dl_start2 ?_
      refine dl_end ?_
      refine dw_ret ?_
      -- path Ff
      obtain ⟨e1, e2⟩ := dm_plain (x := x) h0 (.inl (r0_zero.1 (lenL_zero hb2)))
      rw [e1, e2]
      exact ⟨.inr rfl, (resL_cell (us := cI (q0 x y)) ty26 rfl rfl rfl rfl (resL_cell (us := cI (r0 x y)) ty26 rfl rfl rfl rfl (resL_tmp rfl resL_nil)))⟩
    · refine dl_r (sem_field fd26_0 rfl rfl) ?_
      refine dl_r (sem_load1 ty4 rfl rfl rfl rfl) ?_
      refine dl_r (sem_field fd26_0 rfl rfl) ?_
      refine dl_r (sem_load1 ty4 rfl rfl rfl rfl) ?_
      refine dl_r (sem_bneq rfl rfl ty_bool rfl) ?_
      refine dl_r (sem_pick rfl rfl rfl rfl) ?_
      refine dl_end ?_
      refine dw_cond rfl (fun hc3 => ?_) (fun hc3 => ?_)
      · -- region 6
        refine dw_draw 6 [] follows_mixed (by kernel_rfl) rfl rfl ?_
        refine dq_r (sem_load (us := cI (q0 x y)) ty26 rfl rfl rfl rfl rfl) ?_
        refine dq_r (sem_call rfl rfl (nFrom_ok (by omega) (by omega)) rfl) ?_
        refine dq_r (sem_call rfl rfl (nSub_ok (by assumption) (by assumption)) rfl) ?_
        refine dq_r (sem_load (us := cI (r0 x y)) ty26 rfl rfl rfl rfl rfl) ?_
        refine dq_r (sem_load (us := cI y) ty26 rfl rfl rfl rfl rfl) ?_
        refine dq_r (sem_call rfl rfl (nAdd_ok (by assumption) (by assumption)) rfl) ?_
        refine dq_end ?_
        refine dl_start0 ?_
        refine dl_st (sem_store_a ty26 rfl rfl rfl rfl rfl rfl) ?_
        refine dl_st (sem_store_a ty26 rfl rfl rfl rfl rfl rfl) ?_
        refine dl_end ?_
        refine dw_seq ?_
        -- region 7
        refine dw_draw 5 [4, 5] follows_mixed (by kernel_rfl) rfl rfl ?_
        refine dq_r (sem_load (us := cI ((q0 x y) - 1)) ty26 rfl rfl rfl rfl rfl) ?_
        refine dq_r (sem_load (us := cI ((r0 x y) + y)) ty26 rfl rfl rfl rfl rfl) ?_
        refine dq_st (sem_store_a ty26 rfl rfl rfl rfl rfl rfl) rfl rfl rfl ?_
        refine dq_st (sem_store_a ty26 rfl rfl rfl rfl rfl rfl) rfl rfl rfl ?_
        refine dq_r (sem_assign rfl rfl) ?_
        refine dq_end ?_
        refine dl_start2 ?_
        refine dl_end ?_
        refine dw_ret ?_
        -- path FtT
        obtain ⟨e1, e2⟩ := dm_shift (x := x) h0 (fun e => lenL_pos hb2 (r0_zero.2 e)) (by rw [r0_sign h0 (lenL_pos hb2)]; exact sgn_ne hc3)
        rw [e1, e2]
        exact ⟨.inr rfl, (resL_cell (us := cI ((q0 x y) - 1)) ty26 rfl rfl rfl rfl (resL_cell (us := cI ((r0 x y) + y)) ty26 rfl rfl rfl rfl (resL_tmp rfl resL_nil)))⟩
      · refine dw_skip ?_
        refine dw_seq ?_
        -- region 7
        refine dw_draw 5 [4, 5] follows_mixed (by kernel_rfl) rfl rfl ?_
        refine dq_r (sem_load (us := cI (q0 x y)) ty26 rfl rfl rfl rfl rfl) ?_
        refine dq_r (sem_load (us := cI (r0 x y)) ty26 rfl rfl rfl rfl rfl) ?_
        refine dq_st (sem_store_a ty26 rfl rfl rfl rfl rfl rfl) rfl rfl rfl ?_
        refine dq_st (sem_store_a ty26 rfl rfl rfl rfl rfl rfl) rfl rfl rfl ?_
        refine dq_r (sem_assign rfl rfl) ?_
        refine dq_end ?_
        refine dl_start2 ?_
        refine dl_end ?_
        refine dw_ret ?_
        -- path FtF
        obtain ⟨e1, e2⟩ := dm_plain (x := x) h0 (.inr (by rw [r0_sign h0 (lenL_pos hb2)]; exact sgn_eq hc3))
        rw [e1, e2]
        exact ⟨.inr rfl, (resL_cell (us := cI (q0 x y)) ty26 rfl rfl rfl rfl (resL_cell (us := cI (r0 x y)) ty26 rfl rfl rfl rfl (resL_tmp rfl resL_nil)))⟩
theorem nGCD_ok {x y : Int} (hx : Sz 1000 x) (hy : Sz 1000 y) : Ok Tryz.prog 60 [dI x, dI y] [dI (Int.gcd x y : Int)] := by
  refine Ok.of (by kernel_rfl) Tryz.func60 rfl rfl ?_
  rw [show Tryz.f60.ntmps = 54 from rfl, show Tryz.f60.results.toList = [.cell 4 26] from rfl]
  refine dw_seq ?_
  -- region 0
  refine dw_region (by kernel_rfl) ?_
  refine dl_new (sem_box_a rfl rfl) rfl ?_
  refine dl_new (sem_box_a rfl rfl) rfl ?_
  refine dl_new (sem_alloc zc26 rfl) rfl ?_
  refine dl_end ?_
  refine dw_seq ?_
  -- region 1
  refine dw_draw 6 [] follows_mixed (by kernel_rfl) rfl rfl ?_
  refine dq_r (sem_field fd26_1 rfl rfl) ?_
  refine dq_r (sem_load1 ty24 rfl rfl rfl rfl) ?_
  refine dq_r (sem_field fd26_1 rfl rfl) ?_
  refine dq_r (sem_load1 ty24 rfl rfl rfl rfl) ?_
  refine dq_r (sem_assign rfl rfl) ?_
  refine dq_r (sem_assign rfl rfl) ?_
  refine dq_end ?_
  refine dl_start0 ?_
  refine dl_end ?_
  refine dw_seq ?_
  refine dw_block ?_
  refine dw_loop (ι := {p : Int × Int // RG x y p.1 p.2}) (fun i => ⟨54, [(4, .p 4 0), (5, .v (.c (cL i.1.1))), (6, .v (.c (cL i.1.2)))], [(4, 26, ([.b false] ++ [.s 0 []]))]⟩) (fun i => i.1.2.toNat) ⟨((x.natAbs : Int), (y.natAbs : Int)), RG.start hx hy⟩ (sub_of ⟨rfl, by rw [cL_abs x]; rfl, by rw [cL_abs y]; rfl, trivial⟩ ⟨rfl, trivial⟩ rfl) ?_
  rintro ⟨⟨a, c⟩, hg⟩
  replace hg : RG x y a c := hg
  have ha := hg.sa
  have hcc := hg.sc
  have ha0 := hg.a0
  have hcc0 := hg.c0
  have ha6 : Sz 1000000 a := ha.mono (by decide)
  show Dw _ _ ⟨54, [(4, .p 4 0), (5, .v (.c (cL a))), (6, .v (.c (cL c)))], [(4, 26, ([.b false] ++ [.s 0 []]))]⟩ _
  refine dw_seq ?_
  refine dw_seq ?_
  -- region 2
  refine dw_region (by kernel_rfl) ?_
  refine dl_r (sem_move rfl rfl) ?_
  refine dl_r (sem_len sl24 rfl rfl) ?_
  refine dl_r (sem_cmp rfl rfl rfl rfl) ?_
  refine dl_rb (sem_move rfl rfl) (fun c1 hb1 => ?_)
  cases c1
  · refine dl_skip (sem_skip rfl) ?_
    refine dl_skip (sem_skip rfl) ?_
    refine dl_skip (sem_skip rfl) ?_
    refine dl_skip (sem_skip rfl) ?_
    refine dl_skip (sem_skip rfl) ?_
    refine dl_skip (sem_skip rfl) ?_
    refine dl_skip (sem_skip rfl) ?_
    refine dl_skip (sem_skip rfl) ?_
    refine dl_r (sem_pick rfl rfl rfl rfl) ?_
    refine dl_end ?_
    refine dw_false rfl ?_
    refine dw_exit ?_
    refine dw_seq ?_
    refine dw_seq ?_
    -- region 5
    refine dw_region (by kernel_rfl) ?_
    refine dl_r (sem_move rfl rfl) ?_
    refine dl_r (sem_len sl24 rfl rfl) ?_
    refine dl_r (sem_cmp rfl rfl rfl rfl) ?_
    refine dl_end ?_
    refine dw_cond rfl (fun hc2 => ?_) (fun hc2 => ?_)
    · refine dw_seq ?_
      -- region 6
      refine dw_region (by kernel_rfl) ?_
      refine dl_r (sem_move rfl rfl) ?_
      refine dl_r (sem_call rfl rfl (rSigned_c (by assumption)) rfl) ?_
      refine dl_st (sem_store_a ty26 rfl rfl rfl rfl rfl rfl) ?_
      refine dl_end ?_
      refine dw_ret ?_
      -- path fT
      rw [hg.done (lenL_zero hb1)]
      exact ⟨.inr rfl, (resL_cell (us := cI (sg false ((a.natAbs : Nat) : Int))) ty26 rfl rfl rfl rfl resL_nil)⟩
    · exact absurd hc2 (by simp [lim_eq_nil, lenL_zero hb1])
  · have hne := lenL_pos hb1
    refine dl_r (sem_move rfl rfl) ?_
    refine dl_r (sem_len sl24 rfl rfl) ?_
    refine dl_r (sem_cmp rfl rfl rfl rfl) ?_
    refine dl_rb (sem_move rfl rfl) (fun c3 hb3 => ?_)
    cases c3
    · have hwa := word_of hb3
      refine dl_r (sem_move rfl rfl) ?_
      refine dl_r (sem_len sl24 rfl rfl) ?_
      refine dl_r (sem_cmp rfl rfl rfl rfl) ?_
      refine dl_r (sem_pick rfl rfl rfl rfl) ?_
      refine dl_r (sem_pick rfl rfl rfl rfl) ?_
      refine dl_end ?_
      refine dw_cond rfl (fun hc4 => ?_) (fun hc4 => ?_)
      · refine dw_skip ?_
        refine dw_block ?_
        refine dw_seq ?_
        -- region 3
        refine dw_region (by kernel_rfl) ?_
        refine dl_r (sem_move rfl rfl) ?_
        refine dl_r (sem_move rfl rfl) ?_
        refine dl_r (sem_call rfl rfl (rParts_c (by assumption) (by assumption) (by assumption)) rfl) ?_
        refine dl_r (sem_move rfl rfl) ?_
        refine dl_r (sem_extract rfl rfl rfl) ?_
        refine dl_r (sem_extract rfl rfl rfl) ?_
        refine dl_r (sem_assign rfl rfl) ?_
        refine dl_r (sem_assign rfl rfl) ?_
        refine dl_end ?_
        -- region 4
        refine dw_region (by kernel_rfl) ?_
        refine dl_r (sem_move rfl rfl) ?_
        refine dl_r (sem_move rfl rfl) ?_
        refine dl_r (sem_assign rfl rfl) ?_
        refine dl_r (sem_assign rfl rfl) ?_
        refine dl_end ?_
        exact ⟨⟨(c, (a.natAbs : Int) % c.natAbs), hg.step hne⟩, sub_of ⟨rfl, rfl, rfl, trivial⟩ ⟨rfl, trivial⟩ rfl, hg.less hne⟩
      · have hwc := word_of hc4
        refine dw_exit ?_
        refine dw_seq ?_
        refine dw_seq ?_
        -- region 5
        refine dw_region (by kernel_rfl) ?_
        refine dl_r (sem_move rfl rfl) ?_
        refine dl_r (sem_len sl24 rfl rfl) ?_
        refine dl_r (sem_cmp rfl rfl rfl rfl) ?_
        refine dl_end ?_
        refine dw_cond rfl (fun hc5 => ?_) (fun hc5 => ?_)
        · exact absurd hc5 (by simp [lim_eq_nil, hne])
        · refine dw_skip ?_
          refine dw_seq ?_
          -- region 7
          refine dw_region (by kernel_rfl) ?_
          refine dl_r (sem_move rfl rfl) ?_
          refine dl_r (sem_call rfl rfl (rShort_c (by assumption)) rfl) ?_
          refine dl_r (sem_move rfl rfl) ?_
          refine dl_r (sem_call rfl rfl (rShort_c (by assumption)) rfl) ?_
          refine dl_r (sem_assign rfl rfl) ?_
          refine dl_r (sem_assign rfl rfl) ?_
          refine dl_end ?_
          refine dw_seq ?_
          refine dw_block ?_
          refine dw_loop (ι := {p : Int × Int // GInv2 x y p.1 p.2}) (fun i => ⟨54, [(4, .p 4 0), (9, .v (.c (.i .u64 i.1.1))), (10, .v (.c (.i .u64 i.1.2)))], [(4, 26, ([.b false] ++ [.s 0 []]))]⟩) (fun i => i.1.2.toNat) ⟨((a.natAbs : Int), (c.natAbs : Int)), hg.word hwa hwc⟩ (sub_of ⟨rfl, rfl, rfl, trivial⟩ ⟨rfl, trivial⟩ rfl) ?_
          rintro ⟨⟨u, v⟩, hw⟩
          replace hw : GInv2 x y u v := hw
          have hu0 := hw.u0
          have hu1 := hw.u1
          have hsu : Sz 1000000 u := Sz.small3 hu0 hu1
          show Dw _ _ ⟨54, [(4, .p 4 0), (9, .v (.c (.i .u64 u))), (10, .v (.c (.i .u64 v)))], [(4, 26, ([.b false] ++ [.s 0 []]))]⟩ _
          refine dw_seq ?_
          refine dw_seq ?_
          -- region 8
          refine dw_region (by kernel_rfl) ?_
          refine dl_r (sem_move rfl rfl) ?_
          refine dl_r (sem_cmp rfl rfl rfl rfl) ?_
          refine dl_end ?_
          refine dw_cond rfl (fun hc6 => ?_) (fun hc6 => ?_)
          · have hv : v > 0 := by simpa using hc6
            have hvn : v ≠ 0 := by omega
            refine dw_skip ?_
            refine dw_block ?_
            -- region 9
            refine dw_draw 6 [] follows_mixed (by kernel_rfl) rfl rfl ?_
            refine dq_r (sem_move rfl rfl) ?_
            refine dq_r (sem_move rfl rfl) ?_
            refine dq_r (sem_move rfl rfl) ?_
            refine dq_r (sem_rem rfl rfl (by omega) rfl) ?_
            refine dq_r (sem_assign rfl rfl) ?_
            refine dq_r (sem_assign rfl rfl) ?_
            refine dq_end ?_
            refine dl_start0 ?_
            refine dl_end ?_
            exact ⟨⟨(v, u.tmod v), hw.step hv⟩, sub_of ⟨rfl, rfl, rfl, trivial⟩ ⟨rfl, trivial⟩ rfl, hw.less hv⟩
          · refine dw_exit ?_
            refine dw_seq ?_
            -- region 10
            refine dw_region (by kernel_rfl) ?_
            refine dl_r (sem_move rfl rfl) ?_
            refine dl_r (sem_call rfl rfl (rLimbs_ok (by omega) (by omega)) rfl) ?_
            refine dl_r (sem_call rfl rfl (rSigned_c (by assumption)) rfl) ?_
            refine dl_st (sem_store_a ty26 rfl rfl rfl rfl rfl rfl) ?_
            refine dl_end ?_
            refine dw_ret ?_
            -- path tfFFF
            rw [hw.fin (by simpa using hc6)]
            exact ⟨.inr rfl, (resL_cell (us := cI (sg false ((u.natAbs : Nat) : Int))) ty26 rfl rfl rfl rfl resL_nil)⟩
    · refine dl_skip (sem_skip rfl) ?_
      refine dl_skip (sem_skip rfl) ?_
      refine dl_skip (sem_skip rfl) ?_
      refine dl_r (sem_pick rfl rfl rfl rfl) ?_
      refine dl_r (sem_pick rfl rfl rfl rfl) ?_
      refine dl_end ?_
      refine dw_true rfl ?_
      refine dw_skip ?_
      refine dw_block ?_
      refine dw_seq ?_
      -- region 3
      refine dw_region (by kernel_rfl) ?_
      refine dl_r (sem_move rfl rfl) ?_
      refine dl_r (sem_move rfl rfl) ?_
      refine dl_r (sem_call rfl rfl (rParts_c (by assumption) (by assumption) (by assumption)) rfl) ?_
      refine dl_r (sem_move rfl rfl) ?_
      refine dl_r (sem_extract rfl rfl rfl) ?_
      refine dl_r (sem_extract rfl rfl rfl) ?_
      refine dl_r (sem_assign rfl rfl) ?_
      refine dl_r (sem_assign rfl rfl) ?_
      refine dl_end ?_
      -- region 4
      refine dw_region (by kernel_rfl) ?_
      refine dl_r (sem_move rfl rfl) ?_
      refine dl_r (sem_move rfl rfl) ?_
      refine dl_r (sem_assign rfl rfl) ?_
      refine dl_r (sem_assign rfl rfl) ?_
      refine dl_end ?_
      exact ⟨⟨(c, (a.natAbs : Int) % c.natAbs), hg.step hne⟩, sub_of ⟨rfl, rfl, rfl, trivial⟩ ⟨rfl, trivial⟩ rfl, hg.less hne⟩
end Go.Proofs.YtonjlikaacengaaGreat
/- Square roots of integers, program and reference. -/
namespace Go.Proofs.YtonjlikaacengaaGreat
open Go Go.RowKit
-- no function swarf/integer.Sqrt in this seat
-- no function swarf/swarfref01.Sqrt in this seat
end Go.Proofs.YtonjlikaacengaaGreat
/- Package swarfref02. -/
namespace Go.Proofs.YtonjlikaacengaaGreat
open Go Go.RowKit
theorem sUnit_ok  : Ok Tryz.prog 82 [] [dI 1] := by
  refine Ok.of (by kernel_rfl) Tryz.func82 rfl rfl ?_
  rw [show Tryz.f82.ntmps = 2 from rfl, show Tryz.f82.results.toList = [.cell 0 26] from rfl]
  refine dw_seq ?_
  -- region 0
  refine dw_region (by kernel_rfl) ?_
  refine dl_new (sem_alloc zc26 rfl) rfl ?_
  refine dl_end ?_
  refine dw_seq ?_
  -- region 1
  refine dw_region (by kernel_rfl) ?_
  refine dl_r (sem_call rfl rfl (nFrom_ok (by omega) (by omega)) rfl) ?_
  refine dl_st (sem_store_a ty26 rfl rfl rfl rfl rfl rfl) ?_
  refine dl_end ?_
  refine dw_ret ?_
  -- path 
  exact ⟨.inr rfl, (resL_cell (us := cI 1) ty26 rfl rfl rfl rfl resL_nil)⟩
theorem sSign_ok {x : Rat} : Ok Tryz.prog 20 [dR x] [.c (.i .i64 (cmpR x 0))] := by
  refine Ok.of (by kernel_rfl) Tryz.func20 rfl rfl ?_
  rw [show Tryz.f20.ntmps = 6 from rfl, show Tryz.f20.results.toList = [.tmp 2] from rfl]
  refine dw_seq ?_
  -- region 0
  refine dw_region (by kernel_rfl) ?_
  refine dl_new (sem_box_a rfl rfl) rfl ?_
  refine dl_r (sem_assign rfl rfl) ?_
  refine dl_end ?_
  refine dw_seq ?_
  -- region 1
  refine dw_region (by kernel_rfl) ?_
  refine dl_r (sem_field fd28_0 rfl rfl) ?_
  refine dl_r (sem_load (us := cI x.num) ty26 rfl rfl rfl rfl rfl) ?_
  refine dl_r (sem_call rfl rfl (nSign_ok) rfl) ?_
  refine dl_r (sem_assign rfl rfl) ?_
  refine dl_end ?_
  refine dw_ret ?_
  -- path 
  rw [← cmpR_num]
  exact ⟨.inr rfl, (resL_tmp rfl resL_nil)⟩
theorem sFrom_ok {n : Int} (h0 : -9223372036854775808 ≤ n) (h1 : n ≤ 9223372036854775807) : Ok Tryz.prog 47 [.c (.i .i64 n)] [dR (n : Rat)] := by
  refine Ok.of (by kernel_rfl) Tryz.func47 rfl rfl ?_
  rw [show Tryz.f47.ntmps = 7 from rfl, show Tryz.f47.results.toList = [.cell 2 28] from rfl]
  refine dw_seq ?_
  -- region 0
  refine dw_region (by kernel_rfl) ?_
  refine dl_new (sem_alloc zc28 rfl) rfl ?_
  refine dl_end ?_
  refine dw_seq ?_
  -- region 1
  refine dw_region (by kernel_rfl) ?_
  refine dl_r (sem_move rfl rfl) ?_
  refine dl_r (sem_call rfl rfl (nFrom_ok (by omega) (by omega)) rfl) ?_
  refine dl_r (sem_call rfl rfl (sUnit_ok) rfl) ?_
  refine dl_r (sem_build (us := cQ n 1) fs28 zc28 rfl rfl rfl) ?_
  refine dl_st (sem_store_a ty28 rfl rfl rfl rfl rfl rfl) ?_
  refine dl_end ?_
  refine dw_ret ?_
  -- path 
  rw [dR_int]
  exact ⟨.inr rfl, (resL_cell (us := cQ n 1) ty28 rfl rfl rfl rfl resL_nil)⟩
theorem sReduce_ok {x y : Int} (hx : Sz 999 x) (hy : Sz 999 y) (h0 : y ≠ 0) : Ok Tryz.prog 23 [dI x, dI y] [dR (Rat.divInt x y)] := by
  have hg := gcd_ne (n := x) h0
  have hg2 := gcd_ne (n := -x) (d := -y) (by omega)
  have hgs := (Sz.gcd (x := x) hy h0).mono (l := 1000) (by decide)
  have hgs2 := (Sz.gcd (x := -x) hy.neg (by omega)).mono (l := 1000) (by decide)
  refine Ok.of (by kernel_rfl) Tryz.func23 rfl rfl ?_
  rw [show Tryz.f23.ntmps = 39 from rfl, show Tryz.f23.results.toList = [.cell 4 28] from rfl]
  refine dw_seq ?_
  -- region 0
  refine dw_region (by kernel_rfl) ?_
  refine dl_new (sem_box_a rfl rfl) rfl ?_
  refine dl_new (sem_box_a rfl rfl) rfl ?_
  refine dl_new (sem_alloc zc28 rfl) rfl ?_
  refine dl_end ?_
  refine dw_seq ?_
  refine dw_seq ?_
  -- region 1
  refine dw_region (by kernel_rfl) ?_
  refine dl_r (sem_load (us := cI y) ty26 rfl rfl rfl rfl rfl) ?_
  refine dl_r (sem_call rfl rfl (nSign_ok) rfl) ?_
  refine dl_r (sem_cmp rfl rfl rfl rfl) ?_
  refine dl_end ?_
  refine dw_cond rfl (fun hc1 => ?_) (fun hc1 => ?_)
  · have hn := t_lt hc1
    -- region 2
    refine dw_draw 4 [] follows_mixed (by kernel_rfl) rfl rfl ?_
    refine dq_r (sem_load (us := cI x) ty26 rfl rfl rfl rfl rfl) ?_
    refine dq_r (sem_call rfl rfl (nNeg_ok (by first | assumption | exact Sz.mono hx (by decide))) rfl) ?_
    refine dq_r (sem_load (us := cI y) ty26 rfl rfl rfl rfl rfl) ?_
    refine dq_r (sem_call rfl rfl (nNeg_ok (by first | assumption | exact Sz.mono hy (by decide))) rfl) ?_
    refine dq_end ?_
    refine dl_start0 ?_
    refine dl_st (sem_store_a ty26 rfl rfl rfl rfl rfl rfl) ?_
    refine dl_st (sem_store_a ty26 rfl rfl rfl rfl rfl rfl) ?_
    refine dl_end ?_
    refine dw_seq ?_
    -- region 3
    refine dw_region (by kernel_rfl) ?_
    refine dl_r (sem_load (us := cI (-x)) ty26 rfl rfl rfl rfl rfl) ?_
    refine dl_r (sem_load (us := cI (-y)) ty26 rfl rfl rfl rfl rfl) ?_
    refine dl_r (sem_call rfl rfl (nGCD_ok (by first | assumption | exact Sz.mono (Sz.neg hx) (by decide)) (by first | assumption | exact Sz.mono (Sz.neg hy) (by decide))) rfl) ?_
    refine dl_new (sem_alloc zc26 rfl) rfl ?_
    refine dl_st (sem_store_a ty26 rfl rfl rfl rfl rfl rfl) ?_
    refine dl_end ?_
    refine dw_seq ?_
    -- region 4
    refine dw_region (by kernel_rfl) ?_
    refine dl_r (sem_load (us := cI (-x)) ty26 rfl rfl rfl rfl rfl) ?_
    refine dl_r (sem_load (us := cI ((Int.gcd (-x) (-y) : Int))) ty26 rfl rfl rfl rfl rfl) ?_
    refine dl_r (sem_call rfl rfl (nDivMod_ok (by first | assumption | exact Sz.mono (Sz.neg hx) (by decide)) (by first | assumption | exact Sz.mono (by assumption) (by decide)) (by assumption)) rfl) ?_
    refine dl_r (sem_move rfl rfl) ?_
    refine dl_r (sem_extract rfl rfl rfl) ?_
    refine dl_r (sem_extract rfl rfl rfl) ?_
    refine dl_r (sem_extract rfl rfl rfl) ?_
    refine dl_new (sem_alloc zc26 rfl) rfl ?_
    refine dl_new (sem_alloc zc26 rfl) rfl ?_
    refine dl_st (sem_store_a ty26 rfl rfl rfl rfl rfl rfl) ?_
    refine dl_st (sem_store_a ty26 rfl rfl rfl rfl rfl rfl) ?_
    refine dl_r (sem_assign rfl rfl) ?_
    refine dl_end ?_
    refine dw_seq ?_
    -- region 5
    refine dw_region (by kernel_rfl) ?_
    refine dl_r (sem_load (us := cI (-y)) ty26 rfl rfl rfl rfl rfl) ?_
    refine dl_r (sem_load (us := cI ((Int.gcd (-x) (-y) : Int))) ty26 rfl rfl rfl rfl rfl) ?_
    refine dl_r (sem_call rfl rfl (nDivMod_ok (by first | assumption | exact Sz.mono (Sz.neg hy) (by decide)) (by first | assumption | exact Sz.mono (by assumption) (by decide)) (by assumption)) rfl) ?_
    refine dl_r (sem_move rfl rfl) ?_
    refine dl_r (sem_extract rfl rfl rfl) ?_
    refine dl_r (sem_extract rfl rfl rfl) ?_
    refine dl_r (sem_extract rfl rfl rfl) ?_
    refine dl_new (sem_alloc zc26 rfl) rfl ?_
    refine dl_new (sem_alloc zc26 rfl) rfl ?_
    refine dl_st (sem_store_a ty26 rfl rfl rfl rfl rfl rfl) ?_
    refine dl_st (sem_store_a ty26 rfl rfl rfl rfl rfl rfl) ?_
    refine dl_r (sem_assign rfl rfl) ?_
    refine dl_end ?_
    refine dw_seq ?_
    -- region 6
    refine dw_region (by kernel_rfl) ?_
    refine dl_r (sem_load (us := cI ((-x).fdiv ((Int.gcd (-x) (-y) : Int)))) ty26 rfl rfl rfl rfl rfl) ?_
    refine dl_r (sem_load (us := cI ((-y).fdiv ((Int.gcd (-x) (-y) : Int)))) ty26 rfl rfl rfl rfl rfl) ?_
    refine dl_r (sem_build (us := cQ ((-x).fdiv ((Int.gcd (-x) (-y) : Int))) ((-y).fdiv ((Int.gcd (-x) (-y) : Int)))) fs28 zc28 rfl rfl rfl) ?_
    refine dl_st (sem_store_a ty28 rfl rfl rfl rfl rfl rfl) ?_
    refine dl_end ?_
    refine dw_ret ?_
    -- path T
    rw [dR_neg, dR_red (by omega)]
    exact ⟨.inr rfl, (resL_cell (us := cQ ((-x).fdiv ((Int.gcd (-x) (-y) : Int))) ((-y).fdiv ((Int.gcd (-x) (-y) : Int)))) ty28 rfl rfl rfl rfl resL_nil)⟩
  · have hn := f_lt hc1
    refine dw_skip ?_
    refine dw_seq ?_
    -- region 3
    refine dw_region (by kernel_rfl) ?_
    refine dl_r (sem_load (us := cI x) ty26 rfl rfl rfl rfl rfl) ?_
    refine dl_r (sem_load (us := cI y) ty26 rfl rfl rfl rfl rfl) ?_
    refine dl_r (sem_call rfl rfl (nGCD_ok (by first | assumption | exact Sz.mono hx (by decide)) (by first | assumption | exact Sz.mono hy (by decide))) rfl) ?_
    refine dl_new (sem_alloc zc26 rfl) rfl ?_
    refine dl_st (sem_store_a ty26 rfl rfl rfl rfl rfl rfl) ?_
    refine dl_end ?_
    refine dw_seq ?_
    -- region 4
    refine dw_region (by kernel_rfl) ?_
    refine dl_r (sem_load (us := cI x) ty26 rfl rfl rfl rfl rfl) ?_
    refine dl_r (sem_load (us := cI (Int.gcd x y : Int)) ty26 rfl rfl rfl rfl rfl) ?_
    refine dl_r (sem_call rfl rfl (nDivMod_ok (by first | assumption | exact Sz.mono hx (by decide)) (by first | assumption | exact Sz.mono (by assumption) (by decide)) (by assumption)) rfl) ?_
    refine dl_r (sem_move rfl rfl) ?_
    refine dl_r (sem_extract rfl rfl rfl) ?_
    refine dl_r (sem_extract rfl rfl rfl) ?_
    refine dl_r (sem_extract rfl rfl rfl) ?_
    refine dl_new (sem_alloc zc26 rfl) rfl ?_
    refine dl_new (sem_alloc zc26 rfl) rfl ?_
    refine dl_st (sem_store_a ty26 rfl rfl rfl rfl rfl rfl) ?_
    refine dl_st (sem_store_a ty26 rfl rfl rfl rfl rfl rfl) ?_
    refine dl_r (sem_assign rfl rfl) ?_
    refine dl_end ?_
    refine dw_seq ?_
    -- region 5
    refine dw_region (by kernel_rfl) ?_
    refine dl_r (sem_load (us := cI y) ty26 rfl rfl rfl rfl rfl) ?_
    refine dl_r (sem_load (us := cI (Int.gcd x y : Int)) ty26 rfl rfl rfl rfl rfl) ?_
    refine dl_r (sem_call rfl rfl (nDivMod_ok (by first | assumption | exact Sz.mono hy (by decide)) (by first | assumption | exact Sz.mono (by assumption) (by decide)) (by assumption)) rfl) ?_
    refine dl_r (sem_move rfl rfl) ?_
    refine dl_r (sem_extract rfl rfl rfl) ?_
    refine dl_r (sem_extract rfl rfl rfl) ?_
    refine dl_r (sem_extract rfl rfl rfl) ?_
    refine dl_new (sem_alloc zc26 rfl) rfl ?_
    refine dl_new (sem_alloc zc26 rfl) rfl ?_
    refine dl_st (sem_store_a ty26 rfl rfl rfl rfl rfl rfl) ?_
    refine dl_st (sem_store_a ty26 rfl rfl rfl rfl rfl rfl) ?_
    refine dl_r (sem_assign rfl rfl) ?_
    refine dl_end ?_
    refine dw_seq ?_
    -- region 6
    refine dw_region (by kernel_rfl) ?_
    refine dl_r (sem_load (us := cI (x.fdiv (Int.gcd x y : Int))) ty26 rfl rfl rfl rfl rfl) ?_
    refine dl_r (sem_load (us := cI (y.fdiv (Int.gcd x y : Int))) ty26 rfl rfl rfl rfl rfl) ?_
    refine dl_r (sem_build (us := cQ (x.fdiv (Int.gcd x y : Int)) (y.fdiv (Int.gcd x y : Int))) fs28 zc28 rfl rfl rfl) ?_
    refine dl_st (sem_store_a ty28 rfl rfl rfl rfl rfl rfl) ?_
    refine dl_end ?_
    refine dw_ret ?_
    -- path F
    rw [dR_red (by omega)]
    exact ⟨.inr rfl, (resL_cell (us := cQ (x.fdiv (Int.gcd x y : Int)) (y.fdiv (Int.gcd x y : Int))) ty28 rfl rfl rfl rfl resL_nil)⟩
theorem sMake_ok {x y : Int} (hx : Sz 999 x) (hy : Sz 999 y) (h0 : y ≠ 0) : Ok Tryz.prog 129 [dI x, dI y] [dR (Rat.divInt x y), .c (.i .i64 0)] := by
  refine Ok.of (by kernel_rfl) Tryz.func129 rfl rfl ?_
  rw [show Tryz.f129.ntmps = 13 from rfl, show Tryz.f129.results.toList = [.cell 4 28, .tmp 5] from rfl]
  refine dw_seq ?_
  -- region 0
  refine dw_region (by kernel_rfl) ?_
  refine dl_new (sem_box_a rfl rfl) rfl ?_
  refine dl_new (sem_box_a rfl rfl) rfl ?_
  refine dl_new (sem_alloc zc28 rfl) rfl ?_
  refine dl_r (sem_assign rfl rfl) ?_
  refine dl_end ?_
  refine dw_seq ?_
  refine dw_seq ?_
  -- region 1
  refine dw_region (by kernel_rfl) ?_
  refine dl_r (sem_load (us := cI y) ty26 rfl rfl rfl rfl rfl) ?_
  refine dl_r (sem_call rfl rfl (nSign_ok) rfl) ?_
  refine dl_r (sem_cmp rfl rfl rfl rfl) ?_
  refine dl_end ?_
  refine dw_cond rfl (fun hc1 => ?_) (fun hc1 => ?_)
  · exact absurd (t_eq hc1) h0
  · refine dw_skip ?_
    refine dw_seq ?_
    -- region 3
    refine dw_region (by kernel_rfl) ?_
    refine dl_r (sem_load (us := cI x) ty26 rfl rfl rfl rfl rfl) ?_
    refine dl_r (sem_load (us := cI y) ty26 rfl rfl rfl rfl rfl) ?_
    refine dl_r (sem_call rfl rfl (sReduce_ok (by first | assumption | exact Sz.mono hx (by decide)) (by first | assumption | exact Sz.mono hy (by decide)) (by first | assumption | exact neg_ne (by assumption) | exact mul_ne (by assumption) (by assumption))) rfl) ?_
    refine dl_st (sem_store_a ty28 rfl rfl rfl rfl rfl rfl) ?_
    refine dl_r (sem_assign rfl rfl) ?_
    refine dl_end ?_
    refine dw_ret ?_
    -- path F
    exact ⟨.inr rfl, (resL_cell (us := cR (Rat.divInt x y)) ty28 rfl rfl rfl rfl (resL_tmp rfl resL_nil))⟩
theorem sFrac_ok {n d : Int} (h0 : -9223372036854775808 ≤ n) (h1 : n ≤ 9223372036854775807) (h2 : -9223372036854775808 ≤ d) (h3 : d ≤ 9223372036854775807) (hd : d ≠ 0) : Ok Tryz.prog 6 [.c (.i .i64 n), .c (.i .i64 d)] [dR (Rat.divInt n d)] := by
  have z1 : Sz 999 n := Sz.small (by decide) h0 h1
  have z2 : Sz 999 d := Sz.small (by decide) h2 h3
  refine Ok.of (by kernel_rfl) Tryz.func6 rfl rfl ?_
  rw [show Tryz.f6.ntmps = 12 from rfl, show Tryz.f6.results.toList = [.cell 4 28] from rfl]
  refine dw_seq ?_
  -- region 0
  refine dw_region (by kernel_rfl) ?_
  refine dl_new (sem_alloc zc28 rfl) rfl ?_
  refine dl_end ?_
  refine dw_seq ?_
  refine dw_seq ?_
  -- region 1
  refine dw_region (by kernel_rfl) ?_
  refine dl_r (sem_move rfl rfl) ?_
  refine dl_r (sem_cmp rfl rfl rfl rfl) ?_
  refine dl_end ?_
  refine dw_cond rfl (fun hc1 => ?_) (fun hc1 => ?_)
  · exact absurd (by simpa using hc1) hd
  · refine dw_skip ?_
    refine dw_seq ?_
    -- region 3
    refine dw_region (by kernel_rfl) ?_
    refine dl_r (sem_move rfl rfl) ?_
    refine dl_r (sem_call rfl rfl (nFrom_ok (by omega) (by omega)) rfl) ?_
    refine dl_r (sem_move rfl rfl) ?_
    refine dl_r (sem_call rfl rfl (nFrom_ok (by omega) (by omega)) rfl) ?_
    refine dl_r (sem_call rfl rfl (sReduce_ok (by first | assumption | exact Sz.mono (by assumption) (by decide)) (by first | assumption | exact Sz.mono (by assumption) (by decide)) (by first | assumption | exact neg_ne (by assumption) | exact mul_ne (by assumption) (by assumption))) rfl) ?_
    refine dl_st (sem_store_a ty28 rfl rfl rfl rfl rfl rfl) ?_
    refine dl_end ?_
    refine dw_ret ?_
    -- path F
    exact ⟨.inr rfl, (resL_cell (us := cR (Rat.divInt n d)) ty28 rfl rfl rfl rfl resL_nil)⟩
theorem sNeg_ok {x : Rat} (hx : Rz 300 x) : Ok Tryz.prog 55 [dR x] [dR (-x)] := by
  refine Ok.of (by kernel_rfl) Tryz.func55 rfl rfl ?_
  rw [show Tryz.f55.ntmps = 9 from rfl, show Tryz.f55.results.toList = [.cell 2 28] from rfl]
  refine dw_seq ?_
  -- region 0
  refine dw_region (by kernel_rfl) ?_
  refine dl_new (sem_box_a rfl rfl) rfl ?_
  refine dl_new (sem_alloc zc28 rfl) rfl ?_
  refine dl_end ?_
  refine dw_seq ?_
  -- region 1
  refine dw_draw 6 [] follows_mixed (by kernel_rfl) rfl rfl ?_
  refine dq_r (sem_field fd28_0 rfl rfl) ?_
  refine dq_r (sem_load (us := cI x.num) ty26 rfl rfl rfl rfl rfl) ?_
  refine dq_r (sem_call rfl rfl (nNeg_ok (by first | assumption | exact Sz.mono (Rz.n hx) (by decide))) rfl) ?_
  refine dq_r (sem_field fd28_1 rfl rfl) ?_
  refine dq_r (sem_load (us := cI (x.den : Int)) ty26 rfl rfl rfl rfl rfl) ?_
  refine dq_r (sem_build (us := cQ (-x.num) (x.den : Int)) fs28 zc28 rfl rfl rfl) ?_
  refine dq_end ?_
  refine dl_start0 ?_
  refine dl_st (sem_store_a ty28 rfl rfl rfl rfl rfl rfl) ?_
  refine dl_end ?_
  refine dw_ret ?_
  -- path 
  rw [dR_eq (Rat.neg_num x) (congrArg Int.ofNat (Rat.neg_den x))]
  exact ⟨.inr rfl, (resL_cell (us := cQ (-x.num) (x.den : Int)) ty28 rfl rfl rfl rfl resL_nil)⟩
theorem sAdd_ok {x y : Rat} (hx : Rz 300 x) (hy : Rz 300 y) : Ok Tryz.prog 15 [dR x, dR y] [dR (x + y)] := by
  have hn := mul_ne (den_ne x) (den_ne y)
  refine Ok.of (by kernel_rfl) Tryz.func15 rfl rfl ?_
  rw [show Tryz.f15.ntmps = 26 from rfl, show Tryz.f15.results.toList = [.cell 4 28] from rfl]
  refine dw_seq ?_
  -- region 0
  refine dw_region (by kernel_rfl) ?_
  refine dl_new (sem_box_a rfl rfl) rfl ?_
  refine dl_new (sem_box_a rfl rfl) rfl ?_
  refine dl_new (sem_alloc zc28 rfl) rfl ?_
  refine dl_end ?_
  refine dw_seq ?_
  -- region 1
  refine dw_region (by kernel_rfl) ?_
  refine dl_r (sem_field fd28_0 rfl rfl) ?_
  refine dl_r (sem_load (us := cI x.num) ty26 rfl rfl rfl rfl rfl) ?_
  refine dl_r (sem_field fd28_1 rfl rfl) ?_
  refine dl_r (sem_load (us := cI (y.den : Int)) ty26 rfl rfl rfl rfl rfl) ?_
  refine dl_r (sem_call rfl rfl (nMul_ok (by first | assumption | exact Sz.mono (Rz.n hx) (by decide)) (by first | assumption | exact Sz.mono (Rz.d hy) (by decide))) rfl) ?_
  refine dl_new (sem_alloc zc26 rfl) rfl ?_
  refine dl_st (sem_store_a ty26 rfl rfl rfl rfl rfl rfl) ?_
  refine dl_end ?_
  refine dw_seq ?_
  -- region 2
  refine dw_region (by kernel_rfl) ?_
  refine dl_r (sem_field fd28_0 rfl rfl) ?_
  refine dl_r (sem_load (us := cI y.num) ty26 rfl rfl rfl rfl rfl) ?_
  refine dl_r (sem_field fd28_1 rfl rfl) ?_
  refine dl_r (sem_load (us := cI (x.den : Int)) ty26 rfl rfl rfl rfl rfl) ?_
  refine dl_r (sem_call rfl rfl (nMul_ok (by first | assumption | exact Sz.mono (Rz.n hy) (by decide)) (by first | assumption | exact Sz.mono (Rz.d hx) (by decide))) rfl) ?_
  refine dl_new (sem_alloc zc26 rfl) rfl ?_
  refine dl_st (sem_store_a ty26 rfl rfl rfl rfl rfl rfl) ?_
  refine dl_end ?_
  refine dw_seq ?_
  -- region 3
  refine dw_draw 9 [] follows_mixed (by kernel_rfl) rfl rfl ?_
  refine dq_r (sem_load (us := cI (x.num * (y.den : Int))) ty26 rfl rfl rfl rfl rfl) ?_
  refine dq_r (sem_load (us := cI (y.num * (x.den : Int))) ty26 rfl rfl rfl rfl rfl) ?_
  refine dq_r (sem_call rfl rfl (nAdd_ok (by first | assumption | exact Sz.mono (Sz.mul (Rz.n hx) (Rz.d hy)) (by decide)) (by first | assumption | exact Sz.mono (Sz.mul (Rz.n hy) (Rz.d hx)) (by decide))) rfl) ?_
  refine dq_r (sem_field fd28_1 rfl rfl) ?_
  refine dq_r (sem_load (us := cI (x.den : Int)) ty26 rfl rfl rfl rfl rfl) ?_
  refine dq_r (sem_field fd28_1 rfl rfl) ?_
  refine dq_r (sem_load (us := cI (y.den : Int)) ty26 rfl rfl rfl rfl rfl) ?_
  refine dq_r (sem_call rfl rfl (nMul_ok (by first | assumption | exact Sz.mono (Rz.d hx) (by decide)) (by first | assumption | exact Sz.mono (Rz.d hy) (by decide))) rfl) ?_
  refine dq_r (sem_call rfl rfl (sReduce_ok (by first | assumption | exact Sz.mono (Sz.addm (Sz.mul (Rz.n hx) (Rz.d hy)) (Sz.mul (Rz.n hy) (Rz.d hx))) (by decide)) (by first | assumption | exact Sz.mono (Sz.mul (Rz.d hx) (Rz.d hy)) (by decide)) (by first | assumption | exact neg_ne (by assumption) | exact mul_ne (by assumption) (by assumption))) rfl) ?_
  refine dq_end ?_
  refine dl_start0 ?_
  refine dl_st (sem_store_a ty28 rfl rfl rfl rfl rfl rfl) ?_
  refine dl_end ?_
  refine dw_ret ?_
  -- path 
  rw [← radd]
  exact ⟨.inr rfl, (resL_cell (us := cR (Rat.divInt ((x.num * (y.den : Int)) + (y.num * (x.den : Int))) ((x.den : Int) * (y.den : Int)))) ty28 rfl rfl rfl rfl resL_nil)⟩
theorem sSub_ok {x y : Rat} (hx : Rz 300 x) (hy : Rz 300 y) : Ok Tryz.prog 19 [dR x, dR y] [dR (x - y)] := by
  refine Ok.of (by kernel_rfl) Tryz.func19 rfl rfl ?_
  rw [show Tryz.f19.ntmps = 9 from rfl, show Tryz.f19.results.toList = [.cell 4 28] from rfl]
  refine dw_seq ?_
  -- region 0
  refine dw_region (by kernel_rfl) ?_
  refine dl_new (sem_box_a rfl rfl) rfl ?_
  refine dl_new (sem_box_a rfl rfl) rfl ?_
  refine dl_new (sem_alloc zc28 rfl) rfl ?_
  refine dl_end ?_
  refine dw_seq ?_
  -- region 1
  refine dw_draw 4 [] follows_mixed (by kernel_rfl) rfl rfl ?_
  refine dq_r (sem_load (us := cR x) ty28 rfl rfl rfl rfl rfl) ?_
  refine dq_r (sem_load (us := cR y) ty28 rfl rfl rfl rfl rfl) ?_
  refine dq_r (sem_call rfl rfl (sNeg_ok (by first | assumption | exact Rz.mono hy (by decide))) rfl) ?_
  refine dq_r (sem_call rfl rfl (sAdd_ok (by first | assumption | exact Rz.mono hx (by decide)) (by first | assumption | exact Rz.mono (Rz.neg hy) (by decide))) rfl) ?_
  refine dq_end ?_
  refine dl_start0 ?_
  refine dl_st (sem_store_a ty28 rfl rfl rfl rfl rfl rfl) ?_
  refine dl_end ?_
  refine dw_ret ?_
  -- path 
  rw [Rat.sub_eq_add_neg]
  exact ⟨.inr rfl, (resL_cell (us := cR (x + (-y))) ty28 rfl rfl rfl rfl resL_nil)⟩
theorem sMul_ok {x y : Rat} (hx : Rz 300 x) (hy : Rz 300 y) : Ok Tryz.prog 58 [dR x, dR y] [dR (x * y)] := by
  have hn := mul_ne (den_ne x) (den_ne y)
  refine Ok.of (by kernel_rfl) Tryz.func58 rfl rfl ?_
  rw [show Tryz.f58.ntmps = 16 from rfl, show Tryz.f58.results.toList = [.cell 4 28] from rfl]
  refine dw_seq ?_
  -- region 0
  refine dw_region (by kernel_rfl) ?_
  refine dl_new (sem_box_a rfl rfl) rfl ?_
  refine dl_new (sem_box_a rfl rfl) rfl ?_
  refine dl_new (sem_alloc zc28 rfl) rfl ?_
  refine dl_end ?_
  refine dw_seq ?_
  -- region 1
  refine dw_draw 11 [] follows_mixed (by kernel_rfl) rfl rfl ?_
  refine dq_r (sem_field fd28_0 rfl rfl) ?_
  refine dq_r (sem_load (us := cI x.num) ty26 rfl rfl rfl rfl rfl) ?_
  refine dq_r (sem_field fd28_0 rfl rfl) ?_
  refine dq_r (sem_load (us := cI y.num) ty26 rfl rfl rfl rfl rfl) ?_
  refine dq_r (sem_call rfl rfl (nMul_ok (by first | assumption | exact Sz.mono (Rz.n hx) (by decide)) (by first | assumption | exact Sz.mono (Rz.n hy) (by decide))) rfl) ?_
  refine dq_r (sem_field fd28_1 rfl rfl) ?_
  refine dq_r (sem_load (us := cI (x.den : Int)) ty26 rfl rfl rfl rfl rfl) ?_
  refine dq_r (sem_field fd28_1 rfl rfl) ?_
  refine dq_r (sem_load (us := cI (y.den : Int)) ty26 rfl rfl rfl rfl rfl) ?_
  refine dq_r (sem_call rfl rfl (nMul_ok (by first | assumption | exact Sz.mono (Rz.d hx) (by decide)) (by first | assumption | exact Sz.mono (Rz.d hy) (by decide))) rfl) ?_
  refine dq_r (sem_call rfl rfl (sReduce_ok (by first | assumption | exact Sz.mono (Sz.mul (Rz.n hx) (Rz.n hy)) (by decide)) (by first | assumption | exact Sz.mono (Sz.mul (Rz.d hx) (Rz.d hy)) (by decide)) (by first | assumption | exact neg_ne (by assumption) | exact mul_ne (by assumption) (by assumption))) rfl) ?_
  refine dq_end ?_
  refine dl_start0 ?_
  refine dl_st (sem_store_a ty28 rfl rfl rfl rfl rfl rfl) ?_
  refine dl_end ?_
  refine dw_ret ?_
  -- path 
  rw [← rmul]
  exact ⟨.inr rfl, (resL_cell (us := cR (Rat.divInt (x.num * y.num) ((x.den : Int) * (y.den : Int)))) ty28 rfl rfl rfl rfl resL_nil)⟩
theorem sDiv_ok {x y : Rat} (hx : Rz 300 x) (hy : Rz 300 y) (h0 : y ≠ 0) : Ok Tryz.prog 119 [dR x, dR y] [dR (x / y), .c (.i .i64 0)] := by
  have hn := mul_ne (den_ne x) (num_ne h0)
  refine Ok.of (by kernel_rfl) Tryz.func119 rfl rfl ?_
  rw [show Tryz.f119.ntmps = 19 from rfl, show Tryz.f119.results.toList = [.cell 4 28, .tmp 5] from rfl]
  refine dw_seq ?_
  -- region 0
  refine dw_region (by kernel_rfl) ?_
  refine dl_new (sem_box_a rfl rfl) rfl ?_
  refine dl_new (sem_box_a rfl rfl) rfl ?_
  refine dl_new (sem_alloc zc28 rfl) rfl ?_
  refine dl_r (sem_assign rfl rfl) ?_
  refine dl_end ?_
  refine dw_seq ?_
  -- region 1
  refine dw_draw 13 [] follows_mixed (by kernel_rfl) rfl rfl ?_
  refine dq_r (sem_field fd28_0 rfl rfl) ?_
  refine dq_r (sem_load (us := cI x.num) ty26 rfl rfl rfl rfl rfl) ?_
  refine dq_r (sem_field fd28_1 rfl rfl) ?_
  refine dq_r (sem_load (us := cI (y.den : Int)) ty26 rfl rfl rfl rfl rfl) ?_
  refine dq_r (sem_call rfl rfl (nMul_ok (by first | assumption | exact Sz.mono (Rz.n hx) (by decide)) (by first | assumption | exact Sz.mono (Rz.d hy) (by decide))) rfl) ?_
  refine dq_r (sem_field fd28_1 rfl rfl) ?_
  refine dq_r (sem_load (us := cI (x.den : Int)) ty26 rfl rfl rfl rfl rfl) ?_
  refine dq_r (sem_field fd28_0 rfl rfl) ?_
  refine dq_r (sem_load (us := cI y.num) ty26 rfl rfl rfl rfl rfl) ?_
  refine dq_r (sem_call rfl rfl (nMul_ok (by first | assumption | exact Sz.mono (Rz.d hx) (by decide)) (by first | assumption | exact Sz.mono (Rz.n hy) (by decide))) rfl) ?_
  refine dq_r (sem_call rfl rfl (sMake_ok (by first | assumption | exact Sz.mono (Sz.mul (Rz.n hx) (Rz.d hy)) (by decide)) (by first | assumption | exact Sz.mono (Sz.mul (Rz.d hx) (Rz.n hy)) (by decide)) (by first | assumption | exact neg_ne (by assumption) | exact mul_ne (by assumption) (by assumption))) rfl) ?_
  refine dq_r (sem_extract rfl rfl rfl) ?_
  refine dq_r (sem_extract rfl rfl rfl) ?_
  refine dq_end ?_
  refine dl_start0 ?_
  refine dl_st (sem_store_a ty28 rfl rfl rfl rfl rfl rfl) ?_
  refine dl_r (sem_assign rfl rfl) ?_
  refine dl_end ?_
  refine dw_ret ?_
  -- path 
  rw [← rdiv]
  exact ⟨.inr rfl, (resL_cell (us := cR (Rat.divInt (x.num * (y.den : Int)) ((x.den : Int) * y.num))) ty28 rfl rfl rfl rfl (resL_tmp rfl resL_nil))⟩
theorem sCmp_ok {x y : Rat} (hx : Rz 300 x) (hy : Rz 300 y) : Ok Tryz.prog 21 [dR x, dR y] [.c (.i .i64 (cmpR x y))] := by
  refine Ok.of (by kernel_rfl) Tryz.func21 rfl rfl ?_
  rw [show Tryz.f21.ntmps = 16 from rfl, show Tryz.f21.results.toList = [.tmp 4] from rfl]
  refine dw_seq ?_
  -- region 0
  refine dw_region (by kernel_rfl) ?_
  refine dl_new (sem_box_a rfl rfl) rfl ?_
  refine dl_new (sem_box_a rfl rfl) rfl ?_
  refine dl_r (sem_assign rfl rfl) ?_
  refine dl_end ?_
  refine dw_seq ?_
  -- region 1
  refine dw_draw 12 [] follows_mixed (by kernel_rfl) rfl rfl ?_
  refine dq_r (sem_field fd28_0 rfl rfl) ?_
  refine dq_r (sem_load (us := cI x.num) ty26 rfl rfl rfl rfl rfl) ?_
  refine dq_r (sem_field fd28_1 rfl rfl) ?_
  refine dq_r (sem_load (us := cI (y.den : Int)) ty26 rfl rfl rfl rfl rfl) ?_
  refine dq_r (sem_call rfl rfl (nMul_ok (by first | assumption | exact Sz.mono (Rz.n hx) (by decide)) (by first | assumption | exact Sz.mono (Rz.d hy) (by decide))) rfl) ?_
  refine dq_r (sem_field fd28_0 rfl rfl) ?_
  refine dq_r (sem_load (us := cI y.num) ty26 rfl rfl rfl rfl rfl) ?_
  refine dq_r (sem_field fd28_1 rfl rfl) ?_
  refine dq_r (sem_load (us := cI (x.den : Int)) ty26 rfl rfl rfl rfl rfl) ?_
  refine dq_r (sem_call rfl rfl (nMul_ok (by first | assumption | exact Sz.mono (Rz.n hy) (by decide)) (by first | assumption | exact Sz.mono (Rz.d hx) (by decide))) rfl) ?_
  refine dq_r (sem_call rfl rfl (nCmp_ok (by first | assumption | exact Sz.mono (Sz.mul (Rz.n hx) (Rz.d hy)) (by decide)) (by first | assumption | exact Sz.mono (Sz.mul (Rz.n hy) (Rz.d hx)) (by decide))) rfl) ?_
  refine dq_r (sem_assign rfl rfl) ?_
  refine dq_end ?_
  refine dl_start0 ?_
  refine dl_end ?_
  refine dw_ret ?_
  -- path 
  rw [cmpR_mul (x := x) (y := y)]
  exact ⟨.inr rfl, (resL_tmp rfl resL_nil)⟩
-- no function swarf/swarfref02.Floor in this seat
-- no function swarf/swarfref02.perfect in this seat
-- no function swarf/swarfref02.Sqrt in this seat
-- no function swarf/swarfref02.Same in this seat
end Go.Proofs.YtonjlikaacengaaGreat
/- Data: slices that grow: the room behind a slice is not known. -/
namespace Go.Proofs.YtonjlikaacengaaGreat
open Go Go.RowKit
section
variable {P : Program} {ops : Array Oper} {T : TF} {B : BF} {av : Nat → Prop} {w0 w : World} {N : Nat} {β : Nat → Nat} {a : Act}

/-- A box goes by another number; what pointed to it is let go. -/
theorem Rel.ren (h : Rel av w0 N T B β a w) {k d : Nat} (hk : B k ≠ none) (hd : d = k ∨ B d = none) :
    Rel av w0 N (killF k T) (fun l => if l = d then B k else if l = k then none else B l) (fun l => if l = d then β k else β l) a w := by
  have hB : ∀ l, (if l = d then B k else if l = k then none else B l) ≠ none → (l = d ∨ (l ≠ d ∧ l ≠ k ∧ B l ≠ none)) := by
    intro l hl
    by_cases e : l = d
    · exact .inl e
    · rw [if_neg e] at hl
      by_cases e2 : l = k
      · rw [if_pos e2] at hl; exact absurd rfl hl
      · rw [if_neg e2] at hl; exact .inr ⟨e, e2, hl⟩
  have hne : ∀ l, B l ≠ none → l ≠ k → l ≠ d := by
    intro l hl e e2
    rcases hd with hd | hd
    · exact e (e2.trans hd)
    · rw [← e2] at hd; exact hl hd
  have hV : (fun b => av b ∨ ∃ l, (if l = d then B k else if l = k then none else B l) ≠ none ∧ (if l = d then β k else β l) = b) = (fun b => av b ∨ ∃ l, B l ≠ none ∧ β l = b) := by
    funext b
    refine propext ⟨?_, ?_⟩
    · rintro (hb | ⟨l, hl, hb⟩)
      · exact .inl hb
      · rcases hB l hl with e | ⟨e1, e2, e3⟩
        · rw [if_pos e] at hb; exact .inr ⟨k, hk, hb⟩
        · rw [if_neg e1] at hb; exact .inr ⟨l, e3, hb⟩
    · rintro (hb | ⟨l, hl, hb⟩)
      · exact .inl hb
      · by_cases e : l = k
        · exact .inr ⟨d, by rw [if_pos rfl]; exact hk, by rw [if_pos rfl, ← e]; exact hb⟩
        · have := hne l hl e
          exact .inr ⟨l, by rw [if_neg this, if_neg e]; exact hl, by rw [if_neg this]; exact hb⟩
  have hT : ∀ t x, killF k T t = some x → x = .n ∨ (T t = some x ∧ refs x ≠ some k) := by
    intro t x ht
    unfold killF at ht
    split at ht
    · rename_i y hy
      split at ht
      · injection ht with ht; exact .inl ht.symm
      · rename_i hr; injection ht with ht; subst ht; exact .inr ⟨hy, hr⟩
    · cases ht
  refine ⟨h.dfr, h.siz, h.bel, h.avl, ?_, ?_, ?_, ?_⟩
  · intro l m hl hm e
    rcases hB l hl with e1 | ⟨e1, e2, e3⟩ <;> rcases hB m hm with f1 | ⟨f1, f2, f3⟩
    · rw [e1, f1]
    · rw [if_pos e1, if_neg f1] at e
      exact absurd (h.inj k m hk f3 e).symm f2
    · rw [if_neg e1, if_pos f1] at e
      exact absurd (h.inj l k e3 hk e) e2
    · rw [if_neg e1, if_neg f1] at e
      exact h.inj l m e3 f3 e
  · intro l hl
    rcases hB l hl with e1 | ⟨e1, e2, e3⟩
    · rw [if_pos e1]; exact h.own k hk
    · rw [if_neg e1]; exact h.own l e3
  · intro t x l ht hx
    rcases hT t x ht with rfl | ⟨h1, h2⟩
    · cases hx
    · have h3 := h.wf t x l h1 hx
      have h4 : l ≠ k := fun e => h2 (by rw [hx, e])
      rw [if_neg (hne l h3 h4), if_neg h4]; exact h3
  · rw [hV]
    refine ⟨h.sees.av, ?_, ?_⟩
    · intro l U cs hl
      have hl0 : (if l = d then B k else if l = k then none else B l) = some (U, cs) := hl
      by_cases e : l = d
      · rw [if_pos e] at hl0
        show Box _ _ (if l = d then β k else β l) _ _
        rw [if_pos e]; exact h.sees.box k U cs hl0
      · rw [if_neg e] at hl0
        show Box _ _ (if l = d then β k else β l) _ _
        rw [if_neg e]
        by_cases e2 : l = k
        · rw [if_pos e2] at hl0; cases hl0
        · rw [if_neg e2] at hl0; exact h.sees.box l U cs hl0
    · intro t x hL ht
      rcases hT t x ht with rfl | ⟨h1, h2⟩
      · unfold killF at ht
        split at ht
        · rename_i y hy
          obtain ⟨v, e, _⟩ := h.sees.tmp t y hL hy
          exact ⟨v, e, trivial⟩
        · cases ht
      · obtain ⟨v, e, hr⟩ := h.sees.tmp t x hL h1
        refine ⟨v, e, ?_⟩
        cases x with
        | p l off =>
          have h3 := h.wf t _ l h1 rfl
          have h4 : l ≠ k := fun e => h2 (by rw [e]; rfl)
          show v = .pointer (some ⟨if l = d then β k else β l, off, none⟩)
          rw [if_neg (hne l h3 h4)]; exact hr
        | o l n c =>
          have h3 := h.wf t _ l h1 rfl
          have h4 : l ≠ k := fun e => h2 (by rw [e]; rfl)
          show v = .slice (some ⟨if l = d then β k else β l, 0, none⟩) n c
          rw [if_neg (hne l h3 h4)]; exact hr
        | v d => exact hr
        | t ds => exact hr
        | q us => exact hr
        | u => exact hr
        | n => trivial
        | z => exact hr

theorem put_put (a : Act) (d : Nat) (v v' : Value) : (a.put (some d) v).put (some d) v' = a.put (some d) v' := by simp [Act.put]

theorem kill_T {k t : Nat} {x : DV} {tm : List (Nat × DV)} {bx : List (Nat × TypeId × List CellD)} : (⟨N, (t, x) :: killL k tm, bx⟩ : St).T = fun s => if some t = some s then some x else killF k (fun s => look s tm) s := by
  funext s
  show look s ((t, x) :: killL k tm) = _
  rw [look_cons, killL_look]
  by_cases e : t = s
  · rw [if_pos e, if_pos (by rw [e])]
  · rw [if_neg e, if_neg (by simpa using e)]; rfl
theorem drop_B {k t : Nat} {x : TypeId × List CellD} {tm : List (Nat × DV)} {bx : List (Nat × TypeId × List CellD)} : (⟨N, tm, (t, x) :: dropL k bx⟩ : St).B = fun l => if some t = some l then some x else if l = k then none else look l bx := by
  funext s
  show look s ((t, x) :: dropL k bx) = (if some t = some s then some x else if s = k then none else look s bx)
  rw [look_cons, dropL_look]
  by_cases e : t = s
  · rw [if_pos e, if_pos (by rw [e])]
  · rw [if_neg e, if_neg (show ¬ some t = some s by simpa using e)]

theorem zeroC {z : Value} {zs : List CellD} {m : Nat} (hzl : zs.length = m) (hzr : ∀ (V : Nat → Prop) (w : World), RdCs V w z.cells.toList zs) (r : Nat) :
    ∃ rest : List CellD, rest.length = r * m ∧ ∀ (V : Nat → Prop) (w : World), RdCs V w (Builtin.zeroCells z.cells r).toList rest := by
  have hzs : z.cells.size = m := by have := (hzr (fun _ => False) default).1; rw [hzl] at this; simpa using this
  have key : ∀ (r : Nat) (V : Nat → Prop) (w : World), RdCs V w ((List.range (r * m)).map (fun j => z.cells[j % z.cells.size]!)) (List.replicate r zs).flatten := by
    intro r V w
    induction r with
    | zero => simp; exact RdCs.nil
    | succ r ih =>
      rw [Nat.succ_mul, List.range_add, List.map_append, List.replicate_succ', List.flatten_append]
      refine RdCs.append ih ?_
      have e2 : (List.map (fun x => r * m + x) (List.range m)).map (fun j => z.cells[j % z.cells.size]!) = z.cells.toList := by
        apply List.ext_getElem (by simp [hzs])
        intro j h1 h2
        simp at h1
        simp only [List.getElem_map, List.getElem_range, hzs]
        rw [Nat.mul_comm r, Nat.mul_add_mod, Nat.mod_eq_of_lt (by omega), getElem!_pos z.cells j (by omega)]
        simp
      rw [e2]
      simpa using hzr V w
  refine ⟨(List.replicate r zs).flatten, ?_, fun V w => ?_⟩
  · have := (key r (fun _ => False) default).1
    simpa using this.symm
  · have := key r V w
    unfold Builtin.zeroCells
    rw [hzs]
    simpa [hzs] using this

variable {tm : List (Nat × DV)} {bx : List (Nat × TypeId × List CellD)}
/-- append onto an own slice: with room or without. -/
theorem gsem_append {t : Nat} {x y : Operand} {U e : TypeId} {ty : TypeId} {pos : String} {af : Array Edge} {g : Option (Nat × Bool)} {n c q m by_ k : Nat} {cs ys zs pre : List CellD}
    (hU : elB P U = some (e, m, by_, zs)) (hx : opd (fun s => look s tm) x = some (.o k n c)) (hy : opd (fun s => look s tm) y = some (.v (.c (.s q ys)))) (hb : look k bx = some (e, cs)) (hcs : cs.length = c * m) (hys : ys.length = q * m) (hm : 0 < m)
    (hnc : n ≤ c) (hcm : c ≤ maxLen) (hbytes : (n + q) * by_ ≤ 140737488355328) (h63 : n + q ≤ maxLen) (hpre : cs.take (n * m) = pre) (hd : t = k ∨ look t bx = none)
    (hg : gd ops ⟨some t, .call ⟨.builtin .append, #[x, y], #[U, U]⟩, ty, pos, af, g⟩ (fun s => look s tm) = some true) :
    GSem P ops ⟨some t, .call ⟨.builtin .append, #[x, y], #[U, U]⟩, ty, pos, af, g⟩ ⟨N, tm, bx⟩ (fun σ' => ∃ c' rest, n + q ≤ c' ∧ c' ≤ maxLen ∧ rest.length = (c' - (n + q)) * m ∧ σ' = ⟨N, (t, .o t (n + q) c') :: killL k tm, (t, e, pre ++ ys ++ rest) :: dropL k bx⟩) := by
  intro av w0 β a w hrel htn
  have hs := Sees.of hrel.sees (L := Looks ops ⟨some t, .call ⟨.builtin .append, #[x, y], #[U, U]⟩, ty, pos, af, g⟩) (fun _ _ => trivial) (fun _ _ _ h => h) (fun _ _ h => h)
  refine ⟨gd_want hs hg, ?_⟩
  have e1 : a.eval x = .slice (some ⟨β k, 0, none⟩) n c := opd_reads hs (x := x) (by simp [Op.operands, Call.operands]) hx
  have h2 := opd_reads hs (x := y) (by simp [Op.operands, Call.operands]) hy
  obtain ⟨news, hsrc, hrn⟩ := src_of hU h2 hys
  obtain ⟨hu, i, z, hi, hz, hsz, hby, hzl, hzr⟩ := elB_spec hU
  obtain ⟨hvk, vs, ev, hr⟩ := hs.box k e cs hb
  subst hsz
  have hkn : (look k bx) ≠ none := by rw [hb]; simp
  have hle : n * i.size ≤ cs.length := by rw [hcs]; exact Nat.mul_le_mul_right _ hnc
  have hvl : vs.size = c * i.size := by have := hr.1; rw [hcs] at this; simpa using this
  have hr2 := hr.take (n * i.size)
  rw [hpre] at hr2
  have hlen : (vs.toList.take (n * i.size)).length = n * i.size := by
    rw [List.length_take, Array.length_toList, hvl]
    exact Nat.min_eq_left (Nat.mul_le_mul_right _ hnc)
  have ht : t < N := htn t rfl
  have hnl : news.length = q * i.size := hsrc.newsLen
  unfold Gives
  by_cases hroom : n + q ≤ c
  · -- in place
    have hfit : 0 + n * i.size + 0 + news.length ≤ vs.size := by
      rw [hvl, hnl]
      have := Nat.mul_le_mul_right i.size hroom
      rw [Nat.add_mul] at this; omega
    have hst := run_storeCells_at P (β k) (0 + n * i.size) e news 0 vs w ev hfit hsrc.one
    simp only [Nat.zero_add, Nat.add_zero] at hst
    have hrun : (Builtin.append_ #[U, U] ty #[.slice (some ⟨β k, 0, none⟩) n c, a.eval y]).run P w = .ok (.slice (some ⟨β k, 0, none⟩) (n + q) c) (w.setRow (β k) (vs.toList.take (n * i.size) ++ news ++ vs.toList.drop (n * i.size + news.length)).toArray) := by
      rcases hsrc.kind with ⟨e', hk⟩ | hk <;> simp [Builtin.append_, run_underlying hu, sizeOf, typeInfo, hi, hsrc.len, hroom, hsrc.cells, Addr.add_lit, hst]
    have hexec : (execOp a.eval ⟨some t, .call ⟨.builtin .append, #[x, y], #[U, U]⟩, ty, pos, af, g⟩).run P w = .ok (.value (.slice (some ⟨β k, 0, none⟩) (n + q) c)) (w.setRow (β k) (vs.toList.take (n * i.size) ++ news ++ vs.toList.drop (n * i.size + news.length)).toArray) := by
      simp only [execOp, resolve, invoke, builtin, Sem.run_bind, Sem.run_pure, Result.andThen_ok, List.map_toArray, List.map_cons, List.map_nil, e1]
      rw [hrun]
      rfl
    rw [hexec]
    have hrest : ((cs.drop (n * i.size + news.length))).length = (c - (n + q)) * i.size := by
      rw [List.length_drop, hcs, hnl, ← Nat.add_mul, ← Nat.sub_mul]
    refine ⟨⟨N, (t, .o t (n + q) c) :: killL k tm, (t, e, pre ++ ys ++ cs.drop (n * i.size + news.length)) :: dropL k bx⟩, fun l => if l = t then β k else β l, ⟨c, _, hroom, hcm, hrest, rfl⟩, rfl, ?_⟩
    have hren := hrel.ren (k := k) (d := t) hkn hd
    have hstore := hren.store (k := t) (U := e) (cs0 := cs) (cs := pre ++ ys ++ cs.drop (n * i.size + news.length)) (vs := (vs.toList.take (n * i.size) ++ news ++ vs.toList.drop (n * i.size + news.length)).toArray)
      (w' := w.setRow (β k) (vs.toList.take (n * i.size) ++ news ++ vs.toList.drop (n * i.size + news.length)).toArray) (by rw [if_pos rfl]; exact hb) (by rw [if_pos rfl]; exact setRow_heap_set ev) rfl rfl rfl ?_
    · have hval := hstore.value (d := some t) (x := .o t (n + q) c) (v := .slice (some ⟨β k, 0, none⟩) (n + q) c) (by intro s hs; injection hs with hs; subst hs; exact ht) (Below.refl _ _) (by show _ = Value.slice (some ⟨if t = t then β k else β t, 0, none⟩) _ _; rw [if_pos rfl]) (by intro l hl; injection hl with hl; subst hl; rw [if_pos rfl]; simp)
      refine hval.congr (fun s => ?_) (fun l => ?_)
      · rw [kill_T]; rfl
      · rw [drop_B]
        show (if some t = some l then _ else _) = (if t = l then _ else if l = t then _ else _)
        by_cases e : t = l
        · rw [if_pos (by rw [e]), if_pos e]
        · rw [if_neg (show ¬ some t = some l by simpa using e), if_neg e, if_neg (Ne.symm e)]; rfl
    · have hrd : RdCs (fun b => av b ∨ ∃ k, look k bx ≠ none ∧ β k = b) w (vs.toList.take (n * i.size) ++ news ++ vs.toList.drop (n * i.size + news.length)) (pre ++ ys ++ cs.drop (n * i.size + news.length)) := (hr2.append hrn).append (hr.drop _)
      refine RdCs.keep (av := fun b => av b ∨ ∃ k, look k bx ≠ none ∧ β k = b) ⟨Nat.le_refl _, fun _ _ _ => rfl, ?_⟩ hrd
      rintro b _ (hb' | ⟨l, hl, hb'⟩)
      · exact .inl hb'
      · try dsimp only at hl hb'
        by_cases e : l = t
        · rw [if_pos e] at hb'; exact .inr ⟨k, hkn, hb'⟩
        · rw [if_neg e] at hl hb'
          by_cases e2 : l = k
          · rw [if_pos e2] at hl; exact absurd rfl hl
          · rw [if_neg e2] at hl; exact .inr ⟨l, hl, hb'⟩
  · -- new memory
    have hgrow : c < n + q := by omega
    have hold : (Builtin.firstCells i.size n (.slice (some ⟨β k, 0, none⟩) n c)).run P w.drew = .ok (vs.toList.take (n * i.size)).toArray w.drew := by
      have := run_loadCells_list (P := P) w.drew ⟨β k, 0, none⟩ (vs.toList.take (n * i.size)) (fun j u hj => by
        rw [addr_add, Nat.zero_add]
        show w.cell? _ = _
        rw [List.getElem?_take] at hj
        split at hj
        · rw [cells_of_box ev, ← hj]; simp
        · cases hj)
      rw [hlen] at this
      exact this
    have hrun := run_append_grow_src (P := P) (w := w) U U ty e i z hu hi hz (some ⟨β k, 0, none⟩) n c _ hold (a.eval y) q news hsrc hgrow (by have : maxLen = 9223372036854775807 := rfl; omega) (growslice_fits hgrow (by rw [hby]; exact hbytes))
    generalize hcap : grownCap w (n + q) c e = c' at hrun
    have hc1 : n + q ≤ c' := by rw [← hcap]; exact grownCap_ge _ _ _ _
    have hc2 : c' ≤ maxLen := by rw [← hcap]; exact grownCap_le_maxLen _ _ _ _ h63
    have hexec : (execOp a.eval ⟨some t, .call ⟨.builtin .append, #[x, y], #[U, U]⟩, ty, pos, af, g⟩).run P w = .ok (.value (.slice (some ⟨w.heap.size, 0, none⟩) (n + q) c'))
        (w.drew.alloc (.cells ((vs.toList.take (n * i.size) ++ news).toArray ++ Builtin.zeroCells z.cells (c' - (n + q))) e)) := by
      simp only [execOp, resolve, invoke, builtin, Sem.run_bind, Sem.run_pure, Result.andThen_ok, List.map_toArray, List.map_cons, List.map_nil, e1]
      rw [hrun]
      rfl
    rw [hexec]
    have hdr := (hrel.drop k).drew
    obtain ⟨rest, hrl, hrz⟩ := zeroC hzl hzr (c' - (n + q))
    have hrd : RdCs (fun b => av b ∨ ∃ l, (if l = k then none else look l bx) ≠ none ∧ β l = b) w.drew ((vs.toList.take (n * i.size) ++ news).toArray ++ Builtin.zeroCells z.cells (c' - (n + q))).toList (pre ++ ys ++ rest) := by
      have h0 : RdCs (fun b => av b ∨ ∃ k, look k bx ≠ none ∧ β k = b) w (vs.toList.take (n * i.size) ++ news) (pre ++ ys) := hr2.append hrn
      have h1 := RdCs.append (RdCs.keep (av := fun b => av b ∨ ∃ k, look k bx ≠ none ∧ β k = b) (w := w) (av' := fun b => av b ∨ ∃ l, (if l = k then none else look l bx) ≠ none ∧ β l = b) (w' := w.drew) ⟨Nat.le_refl _, fun _ _ _ => rfl, fun b _ hb' => hb'.imp id fun ⟨l, hl, e⟩ => ⟨l, fun h0 => by rw [h0] at hl; exact hl (by split <;> rfl), e⟩⟩ h0) (hrz (fun b => av b ∨ ∃ l, (if l = k then none else look l bx) ≠ none ∧ β l = b) w.drew)
      simpa using h1
    have hbox := hdr.box (d := t) ht (by
      show (if t = k then none else look t bx) = none
      rcases hd with hd | hd
      · rw [if_pos hd]
      · rw [hd]; split <;> rfl) (U := e) (sl := some c') hrd
    refine ⟨⟨N, (t, .o t (n + q) c') :: killL k tm, (t, e, pre ++ ys ++ rest) :: dropL k bx⟩, fun l => if l = t then w.drew.heap.size else β l, ⟨c', _, hc1, hc2, hrl, rfl⟩, rfl, ?_⟩
    have hval := hbox.value (d := some t) (x := .o t (n + q) c') (v := .slice (some ⟨w.heap.size, 0, none⟩) (n + q) c') (by intro s hs; injection hs with hs; subst hs; exact ht) (Below.refl _ _) (by show _ = Value.slice (some ⟨if t = t then w.drew.heap.size else β t, 0, none⟩) _ _; rw [if_pos rfl]; rfl) (by intro l hl; injection hl with hl; subst hl; rw [if_pos rfl]; simp)
    rw [put_put] at hval
    refine hval.congr (fun s => ?_) (fun l => ?_)
    · rw [kill_T]
      show (if some t = some s then _ else _) = (if some t = some s then _ else if some t = some s then _ else killF k _ s)
      by_cases e : some t = some s
      · rw [if_pos e, if_pos e]
      · rw [if_neg e, if_neg e, if_neg e]; rfl
    · rw [drop_B]; rfl
/-- append onto a nil slice. -/
theorem gsem_append0 {t : Nat} {x y : Operand} {U e : TypeId} {ty : TypeId} {pos : String} {af : Array Edge} {g : Option (Nat × Bool)} {q m by_ : Nat} {ys zs : List CellD}
    (hU : elB P U = some (e, m, by_, zs)) (hx : opd (fun s => look s tm) x = some .z) (hy : opd (fun s => look s tm) y = some (.v (.c (.s q ys)))) (hys : ys.length = q * m) (hq : 0 < q)
    (hbytes : q * by_ ≤ 140737488355328) (h63 : q ≤ maxLen) (hd : look t bx = none)
    (hg : gd ops ⟨some t, .call ⟨.builtin .append, #[x, y], #[U, U]⟩, ty, pos, af, g⟩ (fun s => look s tm) = some true) :
    GSem P ops ⟨some t, .call ⟨.builtin .append, #[x, y], #[U, U]⟩, ty, pos, af, g⟩ ⟨N, tm, bx⟩ (fun σ' => ∃ c' rest, q ≤ c' ∧ c' ≤ maxLen ∧ rest.length = (c' - q) * m ∧ σ' = ⟨N, (t, .o t q c') :: tm, (t, e, ys ++ rest) :: bx⟩) := by
  intro av w0 β a w hrel htn
  have hs := Sees.of hrel.sees (L := Looks ops ⟨some t, .call ⟨.builtin .append, #[x, y], #[U, U]⟩, ty, pos, af, g⟩) (fun _ _ => trivial) (fun _ _ _ h => h) (fun _ _ h => h)
  refine ⟨gd_want hs hg, ?_⟩
  have e1 : a.eval x = .slice none 0 0 := opd_reads hs (x := x) (by simp [Op.operands, Call.operands]) hx
  have h2 := opd_reads hs (x := y) (by simp [Op.operands, Call.operands]) hy
  obtain ⟨news, hsrc, hrn⟩ := src_of hU h2 hys
  obtain ⟨hu, i, z, hi, hz, hsz, hby, hzl, hzr⟩ := elB_spec hU
  subst hsz
  have ht : t < N := htn t rfl
  unfold Gives
  have hold : (Builtin.firstCells i.size 0 (.slice none 0 0)).run P w.drew = .ok ([] : List Value).toArray w.drew := rfl
  have hgrow : 0 < 0 + q := by omega
  have hrun := run_append_grow_src (P := P) (w := w) U U ty e i z hu hi hz none 0 0 _ hold (a.eval y) q news hsrc hgrow (by have : maxLen = 9223372036854775807 := rfl; omega) (growslice_fits hgrow (by rw [hby, Nat.zero_add]; exact hbytes))
  rw [Nat.zero_add] at hrun
  generalize hcap : grownCap w q 0 e = c' at hrun
  have hc1 : q ≤ c' := by rw [← hcap]; exact grownCap_ge _ _ _ _
  have hc2 : c' ≤ maxLen := by rw [← hcap]; exact grownCap_le_maxLen _ _ _ _ h63
  have hexec : (execOp a.eval ⟨some t, .call ⟨.builtin .append, #[x, y], #[U, U]⟩, ty, pos, af, g⟩).run P w = .ok (.value (.slice (some ⟨w.heap.size, 0, none⟩) q c'))
      (w.drew.alloc (.cells (([] ++ news).toArray ++ Builtin.zeroCells z.cells (c' - q)) e)) := by
    simp only [execOp, resolve, invoke, builtin, Sem.run_bind, Sem.run_pure, Result.andThen_ok, List.map_toArray, List.map_cons, List.map_nil, e1]
    rw [hrun]
    rfl
  rw [hexec]
  obtain ⟨rest, hrl, hrz⟩ := zeroC hzl hzr (c' - q)
  have hrd : RdCs (fun b => av b ∨ ∃ k, look k bx ≠ none ∧ β k = b) w.drew (([] ++ news).toArray ++ Builtin.zeroCells z.cells (c' - q)).toList (ys ++ rest) := by
    have h1 : RdCs (fun b => av b ∨ ∃ k, look k bx ≠ none ∧ β k = b) w.drew (news ++ (Builtin.zeroCells z.cells (c' - q)).toList) (ys ++ rest) := RdCs.append (RdCs.keep (Keep.below (Below.refl _ w).drew) hrn) (hrz (fun b => av b ∨ ∃ k, look k bx ≠ none ∧ β k = b) w.drew)
    simpa using h1
  have hbox := hrel.drew.box (d := t) ht hd (U := e) (sl := some c') hrd
  refine ⟨⟨N, (t, .o t q c') :: tm, (t, e, ys ++ rest) :: bx⟩, fun l => if l = t then w.drew.heap.size else β l, ⟨c', _, hc1, hc2, hrl, rfl⟩, rfl, ?_⟩
  have hval := hbox.value (d := some t) (x := .o t q c') (v := .slice (some ⟨w.heap.size, 0, none⟩) q c') (by intro s hs; injection hs with hs; subst hs; exact ht) (Below.refl _ _) (by show _ = Value.slice (some ⟨if t = t then w.drew.heap.size else β t, 0, none⟩) _ _; rw [if_pos rfl]; rfl) (by intro l hl; injection hl with hl; subst hl; rw [if_pos rfl]; simp)
  rw [put_put] at hval
  refine hval.congr (fun s => ?_) (fun l => ?_)
  · show look s ((t, DV.o t q c') :: tm) = (if some t = some s then _ else if some t = some s then _ else look s tm)
    rw [look_cons]
    by_cases e : t = s
    · rw [if_pos e, if_pos (by rw [e])]
    · rw [if_neg e, if_neg (show ¬ some t = some s by simpa using e), if_neg (show ¬ some t = some s by simpa using e)]
  · show look l ((t, e, ys ++ rest) :: bx) = (if some t = some l then _ else look l bx)
    rw [look_cons]
    by_cases e : t = l
    · rw [if_pos e, if_pos (by rw [e])]
    · rw [if_neg e, if_neg (show ¬ some t = some l by simpa using e)]

variable {os : List Oper} {K : St → Prop}
theorem dl_grow {t : Nat} {x y : Operand} {U e : TypeId} {ty : TypeId} {pos : String} {af : Array Edge} {g : Option (Nat × Bool)} {n c q m by_ k : Nat} {us rest ys zs : List CellD}
    (hU : elB P U = some (e, m, by_, zs)) (hx : opd (fun s => look s tm) x = some (.o k n c)) (hy : opd (fun s => look s tm) y = some (.v (.c (.s q ys)))) (hb : look k bx = some (e, us ++ rest)) (hus : us.length = n * m) (hr : rest.length = (c - n) * m)
    (hys : ys.length = q * m) (hm : 0 < m) (hnc : n ≤ c) (hcm : c ≤ maxLen) (hbytes : (n + q) * by_ ≤ 140737488355328) (h63 : n + q ≤ maxLen) (hd : t = k ∨ look t bx = none)
    (hg : gd ops ⟨some t, .call ⟨.builtin .append, #[x, y], #[U, U]⟩, ty, pos, af, g⟩ (fun s => look s tm) = some true)
    (hk : ∀ c' rest', n + q ≤ c' → c' ≤ maxLen → rest'.length = (c' - (n + q)) * m → dl P ops os ⟨N, (t, .o t (n + q) c') :: killL k tm, (t, e, us ++ ys ++ rest') :: dropL k bx⟩ K) :
    dl P ops (⟨some t, .call ⟨.builtin .append, #[x, y], #[U, U]⟩, ty, pos, af, g⟩ :: os) ⟨N, tm, bx⟩ K :=
  .inr ⟨_, gsem_append (pre := us) hU hx hy hb (by rw [List.length_append, hus, hr, ← Nat.add_mul]; congr 1; omega) hys hm hnc hcm hbytes h63 (by rw [← hus]; simp) hd hg, fun σ' ⟨c', rest', h1, h2, h3, e⟩ => by subst e; exact hk c' rest' h1 h2 h3⟩
theorem dl_grow0 {t : Nat} {x y : Operand} {U e : TypeId} {ty : TypeId} {pos : String} {af : Array Edge} {g : Option (Nat × Bool)} {q m by_ : Nat} {ys zs : List CellD}
    (hU : elB P U = some (e, m, by_, zs)) (hx : opd (fun s => look s tm) x = some .z) (hy : opd (fun s => look s tm) y = some (.v (.c (.s q ys)))) (hys : ys.length = q * m) (hq : 0 < q)
    (hbytes : q * by_ ≤ 140737488355328) (h63 : q ≤ maxLen) (hd : look t bx = none)
    (hg : gd ops ⟨some t, .call ⟨.builtin .append, #[x, y], #[U, U]⟩, ty, pos, af, g⟩ (fun s => look s tm) = some true)
    (hk : ∀ c' rest', q ≤ c' → c' ≤ maxLen → rest'.length = (c' - q) * m → dl P ops os ⟨N, (t, .o t q c') :: tm, (t, e, ys ++ rest') :: bx⟩ K) :
    dl P ops (⟨some t, .call ⟨.builtin .append, #[x, y], #[U, U]⟩, ty, pos, af, g⟩ :: os) ⟨N, tm, bx⟩ K :=
  .inr ⟨_, gsem_append0 hU hx hy hys hq hbytes h63 hd hg, fun σ' ⟨c', rest', h1, h2, h3, e⟩ => by subst e; exact hk c' rest' h1 h2 h3⟩

/-- The nil slice, known as such; as data. -/
theorem sem_assign_z {T : TF} {B : BF} {dst : Option Nat} {ty : TypeId} {pos : String} {af : Array Edge} {g : Option (Nat × Bool)}
    (hg : gd ops ⟨dst, .assign (.const (.slice none 0 0)), ty, pos, af, g⟩ T = some true) : Sem P ops ⟨dst, .assign (.const (.slice none 0 0)), ty, pos, af, g⟩ T B (.r .z) :=
  sem_pure hg (fun k e => by cases e) (fun V β a w hs => ⟨.slice none 0 0, rfl, rfl⟩)
theorem dw_nil {c : Code} {Q : Exit → St → Prop} {t : Nat} (ht : look t tm = some .z) (h : Dw P c ⟨N, (t, .v (.c (.s 0 []))) :: tm, bx⟩ Q) : Dw P c ⟨N, tm, bx⟩ Q := fun av w0 β a w hr => by
  obtain ⟨v, hv, hx⟩ := hr.sees.tmp t _ trivial ht
  have hx : v = .slice none 0 0 := hx
  subst hx
  have h2 := hr.upd (t := t) (x := .v (.c (.s 0 []))) hv (.s0 _ _ (by decide)) rfl
  refine h av w0 β a w (h2.congr (fun s => ?_) (fun _ => rfl))
  show look s ((t, .v (.c (.s 0 []))) :: tm) = _
  rw [look_cons]; rfl
/-- A loop whose first round begins in a state of its own. -/
theorem dw_loop1 {ι : Type} {c : Code} {σ : St} {Q : Exit → St → Prop} (I : ι → St) (μ : ι → Nat) (M : Nat)
    (first : Dw P c σ (thenD (fun σ' => ∃ j, Sub σ' (I j) ∧ μ j < M) Q)) (round : ∀ i, Dw P c (I i) (thenD (fun σ' => ∃ j, Sub σ' (I j) ∧ μ j < μ i) Q)) : Dw P (.loop c) σ Q := fun av w0 β a w hr => by
  refine dw_loop (ι := Option ι) (fun i => match i with | none => σ | some i => I i) (fun i => match i with | none => M | some i => μ i) none ⟨rfl, fun _ _ h => h, fun _ _ h => h, hr.wf⟩ (fun i => ?_) av w0 β a w hr
  cases i with
  | none =>
    refine first.mono fun e σ' h => ?_
    cases e with
    | normal => obtain ⟨j, h1, h2⟩ := h; exact ⟨some j, h1, h2⟩
    | _ => exact h
  | some i =>
    refine (round i).mono fun e σ' h => ?_
    cases e with
    | normal => obtain ⟨j, h1, h2⟩ := h; exact ⟨some j, h1, h2⟩
    | _ => exact h
theorem g_len {us rest : List CellD} {n c m : Nat} (h : us.length = n * m) (hr : rest.length = (c - n) * m) (hn : n ≤ c) : (us ++ rest).length = c * m := by
  rw [List.length_append, h, hr, ← Nat.add_mul]; congr 1; omega
theorem g_take {us rest : List CellD} {n m : Nat} (h : us.length = n * m) : (us ++ rest).take (n * m) = us := by rw [← h]; simp
theorem g_max {n : Nat} (h : n ≤ 1000000) : n ≤ maxLen := Nat.le_trans h (by decide)
theorem sem_casti {o : Oper} {T : TF} {B : BF} {k : IntKind} {b c : Int} (h : Sem P ops o T B (.r (.v (.c (.i k b))))) (e : b = c) : Sem P ops o T B (.r (.v (.c (.i k c)))) := by subst e; exact h
theorem sem_max4 {T : TF} {B : BF} {dst : Option Nat} {x1 x2 x3 x4 : Operand} {t1 t2 t3 t4 : TypeId} {ty : TypeId} {pos : String} {af : Array Edge} {g : Option (Nat × Bool)} {k : IntKind} {m1 m2 m3 m4 : Int}
    (h1 : opd T x1 = some (.v (.c (.i k m1)))) (h2 : opd T x2 = some (.v (.c (.i k m2)))) (h3 : opd T x3 = some (.v (.c (.i k m3)))) (h4 : opd T x4 = some (.v (.c (.i k m4))))
    (hg : gd ops ⟨dst, .call ⟨.builtin .max, #[x1, x2, x3, x4], #[t1, t2, t3, t4]⟩, ty, pos, af, g⟩ T = some true) :
    Sem P ops ⟨dst, .call ⟨.builtin .max, #[x1, x2, x3, x4], #[t1, t2, t3, t4]⟩, ty, pos, af, g⟩ T B (.r (.v (.c (.i k (max (max (max m1 m2) m3) m4))))) :=
  sem_pure hg (nop rfl) (fun V β a w hs => by
    have e1 : a.eval x1 = .int k m1 := RdC.int_eq (opd_reads hs (x := x1) (by simp [Op.operands, Call.operands]) h1)
    have e2 : a.eval x2 = .int k m2 := RdC.int_eq (opd_reads hs (x := x2) (by simp [Op.operands, Call.operands]) h2)
    have e3 : a.eval x3 = .int k m3 := RdC.int_eq (opd_reads hs (x := x3) (by simp [Op.operands, Call.operands]) h3)
    have e4 : a.eval x4 = .int k m4 := RdC.int_eq (opd_reads hs (x := x4) (by simp [Op.operands, Call.operands]) h4)
    have q : ∀ a b : Int, Builtin.max2 (.int k a) (.int k b) = pure (.int k (max a b)) := fun a b => by
      show pure (Value.int k (if b > a then b else a)) = _
      congr 2; split <;> omega
    refine ⟨.int k (max (max (max m1 m2) m3) m4), ?_, .i _ _⟩
    simp [execOp, resolve, invoke, builtin, Builtin.max_, q, e1, e2, e3, e4])
end
end Go.Proofs.YtonjlikaacengaaGreat
