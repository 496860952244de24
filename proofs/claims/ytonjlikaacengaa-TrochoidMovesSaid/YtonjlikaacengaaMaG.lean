/- Sizes of fractions by a tactic; small facts for the walks on fractions. -/
import Derived.Test.YtonjlikaacengaaMaF
import Derived.Laws.StructEq
namespace Go.Proofs.Ytonjlikaacengaa
open Go Go.RowKit
theorem mul_ne {a b : Int} (ha : a ≠ 0) (hb : b ≠ 0) : a * b ≠ 0 := fun e => by rcases Int.mul_eq_zero.1 e with h | h <;> contradiction
theorem num_ne {x : Rat} (h : x ≠ 0) : x.num ≠ 0 := fun e => h (Rat.num_eq_zero.1 e)
theorem neg_ne {a : Int} (h : a ≠ 0) : -a ≠ 0 := by omega
theorem Sz.isq {k : Nat} {x : Int} (h : Sz k x) : Sz k (isqI x) := h.of_le isqI_abs
theorem Sz.natAbs {k : Nat} {x : Int} (h : Sz k x) : Sz k (x.natAbs : Int) := h.of_le (by omega)
theorem cmpR_t0 {x : Rat} (h : (cmpR x 0 == 0) = true) : x = 0 := by rw [← cmpR_num] at h; exact Rat.num_eq_zero.1 (t_eq h)
theorem cmpR_eq0 {x y : Rat} : cmpR x y = 0 ↔ x = y := by
  unfold cmpR
  rw [← cmp_rat, cmpI_eq0, Rat.eq_iff_mul_eq_mul]
theorem cmpR_lt0 {x y : Rat} : cmpR x y < 0 ↔ x < y := by
  unfold cmpR
  rw [← cmp_rat, cmpI_lt0, Rat.lt_iff]
theorem cmpR_gt0 {x y : Rat} : 0 < cmpR x y ↔ y < x := by
  unfold cmpR
  rw [← cmp_rat, cmpI_gt0, Rat.lt_iff]
theorem cmpR_num0 {x : Rat} : cmpR x 0 = cmpI x.num 0 := cmpR_num.symm
/-- signs that differ decide -/
theorem cmpR_signs {x y : Rat} (h : (cmpI (cmpR x 0) (cmpR y 0) != 0) = true) : cmpI (cmpR x 0) (cmpR y 0) = cmpR x y := by
  have h1 := t_ne h
  rw [cmpR_num0, cmpR_num0] at *
  have px := den_pos x
  have py := den_pos y
  have e1 : ∀ {a b : Int}, a < 0 → 0 < b → a * b < 0 := fun ha hb => Int.mul_neg_of_neg_of_pos ha hb
  have hr : cmpR x y = cmpI (x.num * (y.den : Int)) (y.num * (x.den : Int)) := by unfold cmpR; rw [← cmp_rat]
  rw [hr]
  rcases Int.lt_trichotomy x.num 0 with hx | hx | hx <;> rcases Int.lt_trichotomy y.num 0 with hy | hy | hy
  · rw [cmp_lt hx, cmp_lt hy] at h1; exact absurd rfl h1
  · rw [cmp_lt hx, cmp_eq hy, cmp_lt (a := -1) (by decide), cmp_lt]
    rw [hy, Int.zero_mul]; exact e1 hx py
  · rw [cmp_lt hx, cmp_gt hy, cmp_lt (a := -1) (by decide), cmp_lt]
    have := e1 hx py
    have := Int.mul_pos hy px
    omega
  · rw [cmp_eq hx, cmp_lt hy, cmp_gt (a := 0) (by decide), cmp_gt]
    rw [hx, Int.zero_mul]; exact e1 hy px
  · rw [cmp_eq hx, cmp_eq hy] at h1; exact absurd rfl h1
  · rw [cmp_eq hx, cmp_gt hy, cmp_lt (a := 0) (by decide), cmp_lt]
    rw [hx, Int.zero_mul]; exact Int.mul_pos hy px
  · rw [cmp_gt hx, cmp_lt hy, cmp_gt (a := 1) (by decide), cmp_gt]
    have := e1 hy px
    have := Int.mul_pos hx py
    omega
  · rw [cmp_gt hx, cmp_eq hy, cmp_gt (a := 1) (by decide), cmp_gt]
    rw [hy, Int.zero_mul]; exact Int.mul_pos hx py
  · rw [cmp_gt hx, cmp_gt hy] at h1; exact absurd rfl h1
theorem cmpR_mul {x y : Rat} : cmpR x y = cmpI (x.num * (y.den : Int)) (y.num * (x.den : Int)) := by unfold cmpR; rw [← cmp_rat]
theorem e7 {x : Int} (h : ((if x < 0 then (7 : Int) else 0) == 0) = false) : x < 0 := by
  by_cases hx : x < 0
  · exact hx
  · rw [if_neg hx] at h; cases h
theorem same_f {x y : Rat} (h : (x.num == y.num) = false) : decide (x = y) = false := by
  simp only [beq_eq_false_iff_ne, ne_eq] at h
  rw [decide_eq_false_iff_not]
  exact fun e => h (by rw [e])
theorem same_t {x y : Rat} (h : (x.num == y.num) = true) : decide (x = y) = ((x.den : Int) == (y.den : Int)) := by
  simp only [beq_iff_eq] at h
  rw [Bool.eq_iff_iff, decide_eq_true_eq, beq_iff_eq]
  exact ⟨fun e => by rw [e], fun e => Rat.ext h (by omega)⟩
theorem sqI_cmp {x : Int} : sqI x = (cmpI (isqI x * isqI x) x == 0) := by
  unfold sqI
  rcases Int.lt_trichotomy (isqI x * isqI x) x with h | h | h
  · rw [cmp_lt h]; simp; omega
  · rw [cmp_eq h]; simp; omega
  · rw [cmp_gt h]; simp; omega
theorem sqR_t {x : Rat} (h : sqI x.num = true) (h2 : sqI (x.den : Int) = true) : sqR x = true := by unfold sqR; rw [h, h2]; rfl
theorem sqR_f1 {x : Rat} (h : sqI x.num = false) : sqR x = false := by unfold sqR; rw [h]; rfl
theorem sqR_f2 {x : Rat} (h : sqI (x.den : Int) = false) : sqR x = false := by unfold sqR; rw [h]; cases sqI x.num <;> rfl
theorem dQ_zero : dQ 0 0 = .a (([.b false] ++ [.s 0 []]) ++ ([.b false] ++ [.s 0 []])) := by
  have h : cI 0 = [.b false] ++ [.s 0 []] := by
    have := dI_zero
    unfold dI at this
    injection this
  unfold dQ cQ
  rw [h]
theorem Sz.fdiv {k : Nat} {x y : Int} (h : Sz k x) : Sz k (x.fdiv y) := h.of_le (by
  have h0 : ∀ a b : Nat, a / b ≤ a := fun a b => Nat.div_le_self a b
  rcases Int.lt_trichotomy y 0 with hy | hy | hy
  · rw [← Int.neg_fdiv_neg, Int.fdiv_eq_ediv_of_nonneg _ (by omega)]
    have h2 : (-x / -y).natAbs ≤ (-x).natAbs := ediv_abs_le _ _
    omega
  · subst hy; simp
  · rw [Int.fdiv_eq_ediv_of_nonneg _ (by omega)]
    exact ediv_abs_le x y)
end Go.Proofs.Ytonjlikaacengaa
/- Package integer: DivMod. -/
namespace Go.Proofs.Ytonjlikaacengaa
open Go Go.RowKit
theorem iDivMod_ok {x y : Int} (hx : Sz 1000000 x) (hy : Sz 1000000 y) (h0 : y ≠ 0) : Ok Try.prog 88 [dI x, dI y] [dI (x.fdiv y), dI (x.fmod y), .c (.i .i64 0)] := by
  have hq : Sz 1000000 (q0 x y) := hx.q0
  have hr : Sz 1000000 (r0 x y) := hy.r0 h0
  have h1 : Sz 1000000 (1 : Int) := Sz.small (by omega) (by omega) (by omega)
  refine Ok.of (by kernel_rfl) Try.func88 rfl rfl ?_
  rw [show Try.f88.ntmps = 55 from rfl, show Try.f88.results.toList = [.cell 4 47, .cell 5 47, .tmp 6] from rfl]
  refine dw_seq ?_
  -- region 0
  refine dw_region (by kernel_rfl) ?_
  refine dl_new (sem_box_a rfl rfl) rfl ?_
  refine dl_new (sem_box_a rfl rfl) rfl ?_
  refine dl_new (sem_alloc zc47 rfl) rfl ?_
  refine dl_new (sem_alloc zc47 rfl) rfl ?_
  refine dl_r (sem_assign rfl rfl) ?_
  refine dl_end ?_
  refine dw_seq ?_
  refine dw_seq ?_
  -- region 1
  refine dw_region (by kernel_rfl) ?_
  refine dl_r (sem_field fd47_1 rfl rfl) ?_
  refine dl_r (sem_load1 ty45 rfl rfl rfl rfl) ?_
  refine dl_r (sem_len sl45 rfl rfl) ?_
  refine dl_r (sem_cmp rfl rfl rfl rfl) ?_
  refine dl_end ?_
  refine dw_cond rfl (fun hc1 => ?_) (fun hc1 => ?_)
  · exact absurd hc1 (by simp [lim_eq_nil, h0])
  · refine dw_skip ?_
    refine dw_seq ?_
    -- region 3
    refine dw_region (by kernel_rfl) ?_
    refine dl_r (sem_field fd47_1 rfl rfl) ?_
    refine dl_r (sem_load1 ty45 rfl rfl rfl rfl) ?_
    refine dl_r (sem_field fd47_1 rfl rfl) ?_
    refine dl_r (sem_load1 ty45 rfl rfl rfl rfl) ?_
    refine dl_r (sem_call rfl rfl (iDivide_ok (by assumption) (by assumption) (by assumption)) rfl) ?_
    refine dl_r (sem_move rfl rfl) ?_
    refine dl_r (sem_extract rfl rfl rfl) ?_
    refine dl_r (sem_extract rfl rfl rfl) ?_
    refine dl_r (sem_assign rfl rfl) ?_
    refine dl_r (sem_assign rfl rfl) ?_
    refine dl_end ?_
    refine dw_seq ?_
    -- region 4
    refine dw_draw 13 [] follows_mixed (by kernel_rfl) rfl rfl ?_
    refine dq_r (sem_field fd47_0 rfl rfl) ?_
    refine dq_r (sem_load1 ty4 rfl rfl rfl rfl) ?_
    refine dq_r (sem_field fd47_0 rfl rfl) ?_
    refine dq_r (sem_load1 ty4 rfl rfl rfl rfl) ?_
    refine dq_r (sem_bneq rfl rfl ty_bool rfl) ?_
    refine dq_r (sem_move rfl rfl) ?_
    refine dq_r (sem_call rfl rfl (iSigned_ok) rfl) ?_
    refine dq_r (sem_field fd47_0 rfl rfl) ?_
    refine dq_r (sem_load1 ty4 rfl rfl rfl rfl) ?_
    refine dq_r (sem_move rfl rfl) ?_
    refine dq_r (sem_call rfl rfl (iSigned_ok) rfl) ?_
    refine dq_new (sem_alloc zc47 rfl) rfl ?_
    refine dq_new (sem_alloc zc47 rfl) rfl ?_
    refine dq_end ?_
    refine dl_start2 ?_
    refine dl_st (sem_store_a ty47 rfl rfl rfl rfl rfl rfl) ?_
    refine dl_st (sem_store_a ty47 rfl rfl rfl rfl rfl rfl) ?_
    refine dl_end ?_
    refine dw_seq ?_
    refine dw_seq ?_
    -- region 5
    refine dw_region (by kernel_rfl) ?_
    refine dl_r (sem_field fd47_1 rfl rfl) ?_
    refine dl_r (sem_load1 ty45 rfl rfl rfl rfl) ?_
    refine dl_r (sem_len sl45 rfl rfl) ?_
    refine dl_r (sem_cmp rfl rfl rfl rfl) ?_
    refine dl_rb (sem_move rfl rfl) (fun c2 hb2 => ?_)
    cases c2
    · refine dl_skip (sem_skip rfl) ?_
      refine dl_skip (sem_skip rfl) ?_
      refine dl_skip (sem_skip rfl) ?_
      refine dl_skip (sem_skip rfl) ?_
      refine dl_skip (sem_skip rfl) ?_
      refine dl_r (sem_pick rfl rfl rfl rfl) ?_
      refine dl_end ?_
      refine dw_false rfl ?_
      refine dw_skip ?_
      refine dw_seq ?_
      -- region 7
      refine dw_draw 5 [4, 5] follows_mixed (by kernel_rfl) rfl rfl ?_
      refine dq_r (sem_load (us := cI (sg (!((decide (x < 0)) == (decide (y < 0)))) ((x.natAbs : Int) / y.natAbs))) ty47 rfl rfl rfl rfl rfl) ?_
      refine dq_r (sem_load (us := cI (sg (decide (x < 0)) ((x.natAbs : Int) % y.natAbs))) ty47 rfl rfl rfl rfl rfl) ?_
      refine dq_st (sem_store_a ty47 rfl rfl rfl rfl rfl rfl) rfl rfl rfl ?_
      refine dq_st (sem_store_a ty47 rfl rfl rfl rfl rfl rfl) rfl rfl rfl ?_
      refine dq_r (sem_assign rfl rfl) ?_
      refine dq_end ?_
      refine dl_start2 ?_
      refine dl_end ?_
      refine dw_ret ?_
      -- path Ff
      obtain ⟨e1, e2⟩ := dm_plain (x := x) h0 (.inl (lenL_zero hb2))
      rw [e1, e2]
      exact ⟨.inr rfl, (resL_cell (us := cI (sg (!((decide (x < 0)) == (decide (y < 0)))) ((x.natAbs : Int) / y.natAbs))) ty47 rfl rfl rfl rfl (resL_cell (us := cI (sg (decide (x < 0)) ((x.natAbs : Int) % y.natAbs))) ty47 rfl rfl rfl rfl (resL_tmp rfl resL_nil)))⟩
    · refine dl_r (sem_field fd47_0 rfl rfl) ?_
      refine dl_r (sem_load1 ty4 rfl rfl rfl rfl) ?_
      refine dl_r (sem_field fd47_0 rfl rfl) ?_
      refine dl_r (sem_load1 ty4 rfl rfl rfl rfl) ?_
      refine dl_r (sem_bneq rfl rfl ty_bool rfl) ?_
      refine dl_r (sem_pick rfl rfl rfl rfl) ?_
      refine dl_end ?_
      refine dw_cond rfl (fun hc3 => ?_) (fun hc3 => ?_)
      · -- region 6
        refine dw_draw 6 [] follows_mixed (by kernel_rfl) rfl rfl ?_
        refine dq_r (sem_load (us := cI (sg (!((decide (x < 0)) == (decide (y < 0)))) ((x.natAbs : Int) / y.natAbs))) ty47 rfl rfl rfl rfl rfl) ?_
        refine dq_r (sem_call rfl rfl (iFrom_ok (by omega) (by omega)) rfl) ?_
        refine dq_r (sem_call rfl rfl (iSub_ok (by assumption) (by assumption)) rfl) ?_
        refine dq_r (sem_load (us := cI (sg (decide (x < 0)) ((x.natAbs : Int) % y.natAbs))) ty47 rfl rfl rfl rfl rfl) ?_
        refine dq_r (sem_load (us := cI y) ty47 rfl rfl rfl rfl rfl) ?_
        refine dq_r (sem_call rfl rfl (iAdd_ok (by assumption) (by assumption)) rfl) ?_
        refine dq_end ?_
        refine dl_start0 ?_
        refine dl_st (sem_store_a ty47 rfl rfl rfl rfl rfl rfl) ?_
        refine dl_st (sem_store_a ty47 rfl rfl rfl rfl rfl rfl) ?_
        refine dl_end ?_
        refine dw_seq ?_
        -- region 7
        refine dw_draw 5 [4, 5] follows_mixed (by kernel_rfl) rfl rfl ?_
        refine dq_r (sem_load (us := cI ((sg (!((decide (x < 0)) == (decide (y < 0)))) ((x.natAbs : Int) / y.natAbs)) - 1)) ty47 rfl rfl rfl rfl rfl) ?_
        refine dq_r (sem_load (us := cI ((sg (decide (x < 0)) ((x.natAbs : Int) % y.natAbs)) + y)) ty47 rfl rfl rfl rfl rfl) ?_
        refine dq_st (sem_store_a ty47 rfl rfl rfl rfl rfl rfl) rfl rfl rfl ?_
        refine dq_st (sem_store_a ty47 rfl rfl rfl rfl rfl rfl) rfl rfl rfl ?_
        refine dq_r (sem_assign rfl rfl) ?_
        refine dq_end ?_
        refine dl_start2 ?_
        refine dl_end ?_
        refine dw_ret ?_
        -- path FtT
        obtain ⟨e1, e2⟩ := dm_shift (x := x) h0 (lenL_pos hb2) (sgn_ne hc3)
        rw [e1, e2]
        exact ⟨.inr rfl, (resL_cell (us := cI ((sg (!((decide (x < 0)) == (decide (y < 0)))) ((x.natAbs : Int) / y.natAbs)) - 1)) ty47 rfl rfl rfl rfl (resL_cell (us := cI ((sg (decide (x < 0)) ((x.natAbs : Int) % y.natAbs)) + y)) ty47 rfl rfl rfl rfl (resL_tmp rfl resL_nil)))⟩
      · refine dw_skip ?_
        refine dw_seq ?_
        -- region 7
        refine dw_draw 5 [4, 5] follows_mixed (by kernel_rfl) rfl rfl ?_
        refine dq_r (sem_load (us := cI (sg (!((decide (x < 0)) == (decide (y < 0)))) ((x.natAbs : Int) / y.natAbs))) ty47 rfl rfl rfl rfl rfl) ?_
        refine dq_r (sem_load (us := cI (sg (decide (x < 0)) ((x.natAbs : Int) % y.natAbs))) ty47 rfl rfl rfl rfl rfl) ?_
        refine dq_st (sem_store_a ty47 rfl rfl rfl rfl rfl rfl) rfl rfl rfl ?_
        refine dq_st (sem_store_a ty47 rfl rfl rfl rfl rfl rfl) rfl rfl rfl ?_
        refine dq_r (sem_assign rfl rfl) ?_
        refine dq_end ?_
        refine dl_start2 ?_
        refine dl_end ?_
        refine dw_ret ?_
        -- path FtF
        obtain ⟨e1, e2⟩ := dm_plain (x := x) h0 (.inr (sgn_eq hc3))
        rw [e1, e2]
        exact ⟨.inr rfl, (resL_cell (us := cI (sg (!((decide (x < 0)) == (decide (y < 0)))) ((x.natAbs : Int) / y.natAbs))) ty47 rfl rfl rfl rfl (resL_cell (us := cI (sg (decide (x < 0)) ((x.natAbs : Int) % y.natAbs))) ty47 rfl rfl rfl rfl (resL_tmp rfl resL_nil)))⟩
end Go.Proofs.Ytonjlikaacengaa
/- Package swarfref01: the functions on numbers. -/
namespace Go.Proofs.Ytonjlikaacengaa
open Go Go.RowKit
-- no function swarf/swarfref01.Sign in this seat
-- no function swarf/swarfref01.Cmp in this seat
theorem nFrom_ok {x : Int} (h0 : -9223372036854775808 ≤ x) (h1 : x ≤ 9223372036854775807) : Ok Try.prog 47 [.c (.i .i64 x)] [dI x] := by
  refine Ok.of (by kernel_rfl) Try.func47 rfl rfl ?_
  rw [show Try.f47.ntmps = 14 from rfl, show Try.f47.results.toList = [.cell 2 47] from rfl]
  refine dw_seq ?_
  -- region 0
  refine dw_region (by kernel_rfl) ?_
  refine dl_new (sem_alloc zc47 rfl) rfl ?_
  refine dl_end ?_
  refine dw_seq ?_
  refine dw_seq ?_
  -- region 1
  refine dw_region (by kernel_rfl) ?_
  refine dl_r (sem_move rfl rfl) ?_
  refine dl_r (sem_cmp rfl rfl rfl rfl) ?_
  refine dl_end ?_
  refine dw_cond rfl (fun hc1 => ?_) (fun hc1 => ?_)
  · have hn : x < 0 := by simpa using hc1
    refine dw_seq ?_
    -- region 2
    refine dw_region (by kernel_rfl) ?_
    refine dl_r (sem_move rfl rfl) ?_
    refine dl_r (sem_conv' (r := x + 18446744073709551616) und2 und64 rfl (wu64_neg hn h0) rfl) ?_
    refine dl_r (sem_neg' (r := -x) rfl (wu64_neg2 hn h0) rfl) ?_
    refine dl_r (sem_call rfl rfl (rLimbs_ok (by omega) (by omega)) rfl) ?_
    refine dl_r (sem_call rfl rfl (rSigned_c (Sz.small3 (by omega) (by omega))) rfl) ?_
    refine dl_st (sem_store_a ty47 rfl rfl rfl rfl rfl rfl) ?_
    refine dl_end ?_
    refine dw_ret ?_
    -- path T
    have hfin : dI x = dI (sg true (((-x).natAbs : Nat) : Int)) := congrArg dI (by rw [sg_true]; omega)
    rw [hfin]
    exact ⟨.inr rfl, (resL_cell (us := cI (sg true (((-x).natAbs : Nat) : Int))) ty47 rfl rfl rfl rfl resL_nil)⟩
  · have hn : 0 ≤ x := by have := hc1; simp at this; omega
    refine dw_skip ?_
    refine dw_seq ?_
    -- region 3
    refine dw_region (by kernel_rfl) ?_
    refine dl_r (sem_move rfl rfl) ?_
    refine dl_r (sem_conv' (r := x) und2 und64 rfl (nwu64 (by omega) (by omega)) rfl) ?_
    refine dl_r (sem_call rfl rfl (rLimbs_ok (by omega) (by omega)) rfl) ?_
    refine dl_r (sem_call rfl rfl (rSigned_c (Sz.small3 (by omega) (by omega))) rfl) ?_
    refine dl_st (sem_store_a ty47 rfl rfl rfl rfl rfl rfl) ?_
    refine dl_end ?_
    refine dw_ret ?_
    -- path F
    have hfin : dI x = dI (sg false ((x.natAbs : Nat) : Int)) := congrArg dI (by rw [sg_false]; omega)
    rw [hfin]
    exact ⟨.inr rfl, (resL_cell (us := cI (sg false ((x.natAbs : Nat) : Int))) ty47 rfl rfl rfl rfl resL_nil)⟩
-- no function swarf/swarfref01.Neg in this seat
-- no function swarf/swarfref01.Mul in this seat
-- no function swarf/swarfref01.Add in this seat
-- no function swarf/swarfref01.Sub in this seat
-- no function swarf/swarfref01.Same in this seat
-- no function swarf/swarfref01.DivMod in this seat
-- no function swarf/swarfref01.GCD in this seat
end Go.Proofs.Ytonjlikaacengaa
/- Square roots of integers, program and reference. -/
namespace Go.Proofs.Ytonjlikaacengaa
open Go Go.RowKit
-- no function swarf/integer.Sqrt in this seat
-- no function swarf/swarfref01.Sqrt in this seat
end Go.Proofs.Ytonjlikaacengaa
/- Package swarfref02. -/
namespace Go.Proofs.Ytonjlikaacengaa
open Go Go.RowKit
theorem sUnit_ok  : Ok Try.prog 48 [] [dI 1] := by
  refine Ok.of (by kernel_rfl) Try.func48 rfl rfl ?_
  rw [show Try.f48.ntmps = 2 from rfl, show Try.f48.results.toList = [.cell 0 47] from rfl]
  refine dw_seq ?_
  -- region 0
  refine dw_region (by kernel_rfl) ?_
  refine dl_new (sem_alloc zc47 rfl) rfl ?_
  refine dl_end ?_
  refine dw_seq ?_
  -- region 1
  refine dw_region (by kernel_rfl) ?_
  refine dl_r (sem_call rfl rfl (nFrom_ok (by omega) (by omega)) rfl) ?_
  refine dl_st (sem_store_a ty47 rfl rfl rfl rfl rfl rfl) ?_
  refine dl_end ?_
  refine dw_ret ?_
  -- path 
  exact ⟨.inr rfl, (resL_cell (us := cI 1) ty47 rfl rfl rfl rfl resL_nil)⟩
-- no function swarf/swarfref02.Sign in this seat
theorem sFrom_ok {n : Int} (h0 : -9223372036854775808 ≤ n) (h1 : n ≤ 9223372036854775807) : Ok Try.prog 35 [.c (.i .i64 n)] [dR (n : Rat)] := by
  refine Ok.of (by kernel_rfl) Try.func35 rfl rfl ?_
  rw [show Try.f35.ntmps = 7 from rfl, show Try.f35.results.toList = [.cell 2 49] from rfl]
  refine dw_seq ?_
  -- region 0
  refine dw_region (by kernel_rfl) ?_
  refine dl_new (sem_alloc zc49 rfl) rfl ?_
  refine dl_end ?_
  refine dw_seq ?_
  -- region 1
  refine dw_region (by kernel_rfl) ?_
  refine dl_r (sem_move rfl rfl) ?_
  refine dl_r (sem_call rfl rfl (nFrom_ok (by omega) (by omega)) rfl) ?_
  refine dl_r (sem_call rfl rfl (sUnit_ok) rfl) ?_
  refine dl_r (sem_build (us := cQ n 1) fs49 zc49 rfl rfl rfl) ?_
  refine dl_st (sem_store_a ty49 rfl rfl rfl rfl rfl rfl) ?_
  refine dl_end ?_
  refine dw_ret ?_
  -- path 
  rw [dR_int]
  exact ⟨.inr rfl, (resL_cell (us := cQ n 1) ty49 rfl rfl rfl rfl resL_nil)⟩
-- no function swarf/swarfref02.Of in this seat
-- no function swarf/swarfref02.Make in this seat
-- no function swarf/swarfref02.Frac in this seat
-- no function swarf/swarfref02.Neg in this seat
-- no function swarf/swarfref02.Add in this seat
-- no function swarf/swarfref02.Sub in this seat
-- no function swarf/swarfref02.Mul in this seat
-- no function swarf/swarfref02.Div in this seat
-- no function swarf/swarfref02.Cmp in this seat
-- no function swarf/swarfref02.Floor in this seat
-- no function swarf/swarfref02.perfect in this seat
-- no function swarf/swarfref02.Sqrt in this seat
-- no function swarf/swarfref02.Same in this seat
end Go.Proofs.Ytonjlikaacengaa
/- Data: slices that grow: the room behind a slice is not known. -/
namespace Go.Proofs.Ytonjlikaacengaa
open Go Go.RowKit
section
variable {P : Program} {ops : Array Oper} {T : TF} {B : BF} {av : Nat → Prop} {w0 w : World} {N : Nat} {β : Nat → Nat} {a : Act}

/-- A box goes by another number; what pointed to it is let go. -/
theorem Rel.ren (h : Rel av w0 N T B β a w) {k d : Nat} (hk : B k ≠ none) (hd : d = k ∨ B d = none) :
    Rel av w0 N (killF k T) (fun l => if l = d then B k else if l = k then none else B l) (fun l => if l = d then β k else β l) a w := by
  have hB : ∀ l, (if l = d then B k else if l = k then none else B l) ≠ none → (l = d ∨ (l ≠ d ∧ l ≠ k ∧ B l ≠ none)) := by
    intro l hl
    by_cases e : l = d
    · exact .inl e
    · rw [if_neg e] at hl
      by_cases e2 : l = k
      · rw [if_pos e2] at hl; exact absurd rfl hl
      · rw [if_neg e2] at hl; exact .inr ⟨e, e2, hl⟩
  have hne : ∀ l, B l ≠ none → l ≠ k → l ≠ d := by
    intro l hl e e2
    rcases hd with hd | hd
    · exact e (e2.trans hd)
    · rw [← e2] at hd; exact hl hd
  have hV : (fun b => av b ∨ ∃ l, (if l = d then B k else if l = k then none else B l) ≠ none ∧ (if l = d then β k else β l) = b) = (fun b => av b ∨ ∃ l, B l ≠ none ∧ β l = b) := by
    funext b
    refine propext ⟨?_, ?_⟩
    · rintro (hb | ⟨l, hl, hb⟩)
      · exact .inl hb
      · rcases hB l hl with e | ⟨e1, e2, e3⟩
        · rw [if_pos e] at hb; exact .inr ⟨k, hk, hb⟩
        · rw [if_neg e1] at hb; exact .inr ⟨l, e3, hb⟩
    · rintro (hb | ⟨l, hl, hb⟩)
      · exact .inl hb
      · by_cases e : l = k
        · exact .inr ⟨d, by rw [if_pos rfl]; exact hk, by rw [if_pos rfl, ← e]; exact hb⟩
        · have := hne l hl e
          exact .inr ⟨l, by rw [if_neg this, if_neg e]; exact hl, by rw [if_neg this]; exact hb⟩
  have hT : ∀ t x, killF k T t = some x → x = .n ∨ (T t = some x ∧ refs x ≠ some k) := by
    intro t x ht
    unfold killF at ht
    split at ht
    · rename_i y hy
      split at ht
      · injection ht with ht; exact .inl ht.symm
      · rename_i hr; injection ht with ht; subst ht; exact .inr ⟨hy, hr⟩
    · cases ht
  refine ⟨h.dfr, h.siz, h.bel, h.avl, ?_, ?_, ?_, ?_⟩
  · intro l m hl hm e
    rcases hB l hl with e1 | ⟨e1, e2, e3⟩ <;> rcases hB m hm with f1 | ⟨f1, f2, f3⟩
    · rw [e1, f1]
    · rw [if_pos e1, if_neg f1] at e
      exact absurd (h.inj k m hk f3 e).symm f2
    · rw [if_neg e1, if_pos f1] at e
      exact absurd (h.inj l k e3 hk e) e2
    · rw [if_neg e1, if_neg f1] at e
      exact h.inj l m e3 f3 e
  · intro l hl
    rcases hB l hl with e1 | ⟨e1, e2, e3⟩
    · rw [if_pos e1]; exact h.own k hk
    · rw [if_neg e1]; exact h.own l e3
  · intro t x l ht hx
    rcases hT t x ht with rfl | ⟨h1, h2⟩
    · cases hx
    · have h3 := h.wf t x l h1 hx
      have h4 : l ≠ k := fun e => h2 (by rw [hx, e])
      rw [if_neg (hne l h3 h4), if_neg h4]; exact h3
  · rw [hV]
    refine ⟨h.sees.av, ?_, ?_⟩
    · intro l U cs hl
      have hl0 : (if l = d then B k else if l = k then none else B l) = some (U, cs) := hl
      by_cases e : l = d
      · rw [if_pos e] at hl0
        show Box _ _ (if l = d then β k else β l) _ _
        rw [if_pos e]; exact h.sees.box k U cs hl0
      · rw [if_neg e] at hl0
        show Box _ _ (if l = d then β k else β l) _ _
        rw [if_neg e]
        by_cases e2 : l = k
        · rw [if_pos e2] at hl0; cases hl0
        · rw [if_neg e2] at hl0; exact h.sees.box l U cs hl0
    · intro t x hL ht
      rcases hT t x ht with rfl | ⟨h1, h2⟩
      · unfold killF at ht
        split at ht
        · rename_i y hy
          obtain ⟨v, e, _⟩ := h.sees.tmp t y hL hy
          exact ⟨v, e, trivial⟩
        · cases ht
      · obtain ⟨v, e, hr⟩ := h.sees.tmp t x hL h1
        refine ⟨v, e, ?_⟩
        cases x with
        | p l off =>
          have h3 := h.wf t _ l h1 rfl
          have h4 : l ≠ k := fun e => h2 (by rw [e]; rfl)
          show v = .pointer (some ⟨if l = d then β k else β l, off, none⟩)
          rw [if_neg (hne l h3 h4)]; exact hr
        | o l n c =>
          have h3 := h.wf t _ l h1 rfl
          have h4 : l ≠ k := fun e => h2 (by rw [e]; rfl)
          show v = .slice (some ⟨if l = d then β k else β l, 0, none⟩) n c
          rw [if_neg (hne l h3 h4)]; exact hr
        | v d => exact hr
        | t ds => exact hr
        | q us => exact hr
        | u => exact hr
        | n => trivial
        | z => exact hr

theorem put_put (a : Act) (d : Nat) (v v' : Value) : (a.put (some d) v).put (some d) v' = a.put (some d) v' := by simp [Act.put]

theorem kill_T {k t : Nat} {x : DV} {tm : List (Nat × DV)} {bx : List (Nat × TypeId × List CellD)} : (⟨N, (t, x) :: killL k tm, bx⟩ : St).T = fun s => if some t = some s then some x else killF k (fun s => look s tm) s := by
  funext s
  show look s ((t, x) :: killL k tm) = _
  rw [look_cons, killL_look]
  by_cases e : t = s
  · rw [if_pos e, if_pos (by rw [e])]
  · rw [if_neg e, if_neg (by simpa using e)]; rfl
theorem drop_B {k t : Nat} {x : TypeId × List CellD} {tm : List (Nat × DV)} {bx : List (Nat × TypeId × List CellD)} : (⟨N, tm, (t, x) :: dropL k bx⟩ : St).B = fun l => if some t = some l then some x else if l = k then none else look l bx := by
  funext s
  show look s ((t, x) :: dropL k bx) = (if some t = some s then some x else if s = k then none else look s bx)
  rw [look_cons, dropL_look]
  by_cases e : t = s
  · rw [if_pos e, if_pos (by rw [e])]
  · rw [if_neg e, if_neg (show ¬ some t = some s by simpa using e)]

theorem zeroC {z : Value} {zs : List CellD} {m : Nat} (hzl : zs.length = m) (hzr : ∀ (V : Nat → Prop) (w : World), RdCs V w z.cells.toList zs) (r : Nat) :
    ∃ rest : List CellD, rest.length = r * m ∧ ∀ (V : Nat → Prop) (w : World), RdCs V w (Builtin.zeroCells z.cells r).toList rest := by
  have hzs : z.cells.size = m := by have := (hzr (fun _ => False) default).1; rw [hzl] at this; simpa using this
  have key : ∀ (r : Nat) (V : Nat → Prop) (w : World), RdCs V w ((List.range (r * m)).map (fun j => z.cells[j % z.cells.size]!)) (List.replicate r zs).flatten := by
    intro r V w
    induction r with
    | zero => simp; exact RdCs.nil
    | succ r ih =>
      rw [Nat.succ_mul, List.range_add, List.map_append, List.replicate_succ', List.flatten_append]
      refine RdCs.append ih ?_
      have e2 : (List.map (fun x => r * m + x) (List.range m)).map (fun j => z.cells[j % z.cells.size]!) = z.cells.toList := by
        apply List.ext_getElem (by simp [hzs])
        intro j h1 h2
        simp at h1
        simp only [List.getElem_map, List.getElem_range, hzs]
        rw [Nat.mul_comm r, Nat.mul_add_mod, Nat.mod_eq_of_lt (by omega), getElem!_pos z.cells j (by omega)]
        simp
      rw [e2]
      simpa using hzr V w
  refine ⟨(List.replicate r zs).flatten, ?_, fun V w => ?_⟩
  · have := (key r (fun _ => False) default).1
    simpa using this.symm
  · have := key r V w
    unfold Builtin.zeroCells
    rw [hzs]
    simpa [hzs] using this

variable {tm : List (Nat × DV)} {bx : List (Nat × TypeId × List CellD)}
/-- append onto an own slice: with room or without. -/
theorem gsem_append {t : Nat} {x y : Operand} {U e : TypeId} {ty : TypeId} {pos : String} {af : Array Edge} {g : Option (Nat × Bool)} {n c q m by_ k : Nat} {cs ys zs pre : List CellD}
    (hU : elB P U = some (e, m, by_, zs)) (hx : opd (fun s => look s tm) x = some (.o k n c)) (hy : opd (fun s => look s tm) y = some (.v (.c (.s q ys)))) (hb : look k bx = some (e, cs)) (hcs : cs.length = c * m) (hys : ys.length = q * m) (hm : 0 < m)
    (hnc : n ≤ c) (hcm : c ≤ maxLen) (hbytes : (n + q) * by_ ≤ 140737488355328) (h63 : n + q ≤ maxLen) (hpre : cs.take (n * m) = pre) (hd : t = k ∨ look t bx = none)
    (hg : gd ops ⟨some t, .call ⟨.builtin .append, #[x, y], #[U, U]⟩, ty, pos, af, g⟩ (fun s => look s tm) = some true) :
    GSem P ops ⟨some t, .call ⟨.builtin .append, #[x, y], #[U, U]⟩, ty, pos, af, g⟩ ⟨N, tm, bx⟩ (fun σ' => ∃ c' rest, n + q ≤ c' ∧ c' ≤ maxLen ∧ rest.length = (c' - (n + q)) * m ∧ σ' = ⟨N, (t, .o t (n + q) c') :: killL k tm, (t, e, pre ++ ys ++ rest) :: dropL k bx⟩) := by
  intro av w0 β a w hrel htn
  have hs := Sees.of hrel.sees (L := Looks ops ⟨some t, .call ⟨.builtin .append, #[x, y], #[U, U]⟩, ty, pos, af, g⟩) (fun _ _ => trivial) (fun _ _ _ h => h) (fun _ _ h => h)
  refine ⟨gd_want hs hg, ?_⟩
  have e1 : a.eval x = .slice (some ⟨β k, 0, none⟩) n c := opd_reads hs (x := x) (by simp [Op.operands, Call.operands]) hx
  have h2 := opd_reads hs (x := y) (by simp [Op.operands, Call.operands]) hy
  obtain ⟨news, hsrc, hrn⟩ := src_of hU h2 hys
  obtain ⟨hu, i, z, hi, hz, hsz, hby, hzl, hzr⟩ := elB_spec hU
  obtain ⟨hvk, vs, ev, hr⟩ := hs.box k e cs hb
  subst hsz
  have hkn : (look k bx) ≠ none := by rw [hb]; simp
  have hle : n * i.size ≤ cs.length := by rw [hcs]; exact Nat.mul_le_mul_right _ hnc
  have hvl : vs.size = c * i.size := by have := hr.1; rw [hcs] at this; simpa using this
  have hr2 := hr.take (n * i.size)
  rw [hpre] at hr2
  have hlen : (vs.toList.take (n * i.size)).length = n * i.size := by
    rw [List.length_take, Array.length_toList, hvl]
    exact Nat.min_eq_left (Nat.mul_le_mul_right _ hnc)
  have ht : t < N := htn t rfl
  have hnl : news.length = q * i.size := hsrc.newsLen
  unfold Gives
  by_cases hroom : n + q ≤ c
  · -- in place
    have hfit : 0 + n * i.size + 0 + news.length ≤ vs.size := by
      rw [hvl, hnl]
      have := Nat.mul_le_mul_right i.size hroom
      rw [Nat.add_mul] at this; omega
    have hst := run_storeCells_at P (β k) (0 + n * i.size) e news 0 vs w ev hfit hsrc.one
    simp only [Nat.zero_add, Nat.add_zero] at hst
    have hrun : (Builtin.append_ #[U, U] ty #[.slice (some ⟨β k, 0, none⟩) n c, a.eval y]).run P w = .ok (.slice (some ⟨β k, 0, none⟩) (n + q) c) (w.setRow (β k) (vs.toList.take (n * i.size) ++ news ++ vs.toList.drop (n * i.size + news.length)).toArray) := by
      rcases hsrc.kind with ⟨e', hk⟩ | hk <;> simp [Builtin.append_, run_underlying hu, sizeOf, typeInfo, hi, hsrc.len, hroom, hsrc.cells, Addr.add_lit, hst]
    have hexec : (execOp a.eval ⟨some t, .call ⟨.builtin .append, #[x, y], #[U, U]⟩, ty, pos, af, g⟩).run P w = .ok (.value (.slice (some ⟨β k, 0, none⟩) (n + q) c)) (w.setRow (β k) (vs.toList.take (n * i.size) ++ news ++ vs.toList.drop (n * i.size + news.length)).toArray) := by
      simp only [execOp, resolve, invoke, builtin, Sem.run_bind, Sem.run_pure, Result.andThen_ok, List.map_toArray, List.map_cons, List.map_nil, e1]
      rw [hrun]
      rfl
    rw [hexec]
    have hrest : ((cs.drop (n * i.size + news.length))).length = (c - (n + q)) * i.size := by
      rw [List.length_drop, hcs, hnl, ← Nat.add_mul, ← Nat.sub_mul]
    refine ⟨⟨N, (t, .o t (n + q) c) :: killL k tm, (t, e, pre ++ ys ++ cs.drop (n * i.size + news.length)) :: dropL k bx⟩, fun l => if l = t then β k else β l, ⟨c, _, hroom, hcm, hrest, rfl⟩, rfl, ?_⟩
    have hren := hrel.ren (k := k) (d := t) hkn hd
    have hstore := hren.store (k := t) (U := e) (cs0 := cs) (cs := pre ++ ys ++ cs.drop (n * i.size + news.length)) (vs := (vs.toList.take (n * i.size) ++ news ++ vs.toList.drop (n * i.size + news.length)).toArray)
      (w' := w.setRow (β k) (vs.toList.take (n * i.size) ++ news ++ vs.toList.drop (n * i.size + news.length)).toArray) (by rw [if_pos rfl]; exact hb) (by rw [if_pos rfl]; exact setRow_heap_set ev) rfl rfl rfl ?_
    · have hval := hstore.value (d := some t) (x := .o t (n + q) c) (v := .slice (some ⟨β k, 0, none⟩) (n + q) c) (by intro s hs; injection hs with hs; subst hs; exact ht) (Below.refl _ _) (by show _ = Value.slice (some ⟨if t = t then β k else β t, 0, none⟩) _ _; rw [if_pos rfl]) (by intro l hl; injection hl with hl; subst hl; rw [if_pos rfl]; simp)
      refine hval.congr (fun s => ?_) (fun l => ?_)
      · rw [kill_T]; rfl
      · rw [drop_B]
        show (if some t = some l then _ else _) = (if t = l then _ else if l = t then _ else _)
        by_cases e : t = l
        · rw [if_pos (by rw [e]), if_pos e]
        · rw [if_neg (show ¬ some t = some l by simpa using e), if_neg e, if_neg (Ne.symm e)]; rfl
    · have hrd : RdCs (fun b => av b ∨ ∃ k, look k bx ≠ none ∧ β k = b) w (vs.toList.take (n * i.size) ++ news ++ vs.toList.drop (n * i.size + news.length)) (pre ++ ys ++ cs.drop (n * i.size + news.length)) := (hr2.append hrn).append (hr.drop _)
      refine RdCs.keep (av := fun b => av b ∨ ∃ k, look k bx ≠ none ∧ β k = b) ⟨Nat.le_refl _, fun _ _ _ => rfl, ?_⟩ hrd
      rintro b _ (hb' | ⟨l, hl, hb'⟩)
      · exact .inl hb'
      · try dsimp only at hl hb'
        by_cases e : l = t
        · rw [if_pos e] at hb'; exact .inr ⟨k, hkn, hb'⟩
        · rw [if_neg e] at hl hb'
          by_cases e2 : l = k
          · rw [if_pos e2] at hl; exact absurd rfl hl
          · rw [if_neg e2] at hl; exact .inr ⟨l, hl, hb'⟩
  · -- new memory
    have hgrow : c < n + q := by omega
    have hold : (Builtin.firstCells i.size n (.slice (some ⟨β k, 0, none⟩) n c)).run P w.drew = .ok (vs.toList.take (n * i.size)).toArray w.drew := by
      have := run_loadCells_list (P := P) w.drew ⟨β k, 0, none⟩ (vs.toList.take (n * i.size)) (fun j u hj => by
        rw [addr_add, Nat.zero_add]
        show w.cell? _ = _
        rw [List.getElem?_take] at hj
        split at hj
        · rw [cells_of_box ev, ← hj]; simp
        · cases hj)
      rw [hlen] at this
      exact this
    have hrun := run_append_grow_src (P := P) (w := w) U U ty e i z hu hi hz (some ⟨β k, 0, none⟩) n c _ hold (a.eval y) q news hsrc hgrow (by have : maxLen = 9223372036854775807 := rfl; omega) (growslice_fits hgrow (by rw [hby]; exact hbytes))
    generalize hcap : grownCap w (n + q) c e = c' at hrun
    have hc1 : n + q ≤ c' := by rw [← hcap]; exact grownCap_ge _ _ _ _
    have hc2 : c' ≤ maxLen := by rw [← hcap]; exact grownCap_le_maxLen _ _ _ _ h63
    have hexec : (execOp a.eval ⟨some t, .call ⟨.builtin .append, #[x, y], #[U, U]⟩, ty, pos, af, g⟩).run P w = .ok (.value (.slice (some ⟨w.heap.size, 0, none⟩) (n + q) c'))
        (w.drew.alloc (.cells ((vs.toList.take (n * i.size) ++ news).toArray ++ Builtin.zeroCells z.cells (c' - (n + q))) e)) := by
      simp only [execOp, resolve, invoke, builtin, Sem.run_bind, Sem.run_pure, Result.andThen_ok, List.map_toArray, List.map_cons, List.map_nil, e1]
      rw [hrun]
      rfl
    rw [hexec]
    have hdr := (hrel.drop k).drew
    obtain ⟨rest, hrl, hrz⟩ := zeroC hzl hzr (c' - (n + q))
    have hrd : RdCs (fun b => av b ∨ ∃ l, (if l = k then none else look l bx) ≠ none ∧ β l = b) w.drew ((vs.toList.take (n * i.size) ++ news).toArray ++ Builtin.zeroCells z.cells (c' - (n + q))).toList (pre ++ ys ++ rest) := by
      have h0 : RdCs (fun b => av b ∨ ∃ k, look k bx ≠ none ∧ β k = b) w (vs.toList.take (n * i.size) ++ news) (pre ++ ys) := hr2.append hrn
      have h1 := RdCs.append (RdCs.keep (av := fun b => av b ∨ ∃ k, look k bx ≠ none ∧ β k = b) (w := w) (av' := fun b => av b ∨ ∃ l, (if l = k then none else look l bx) ≠ none ∧ β l = b) (w' := w.drew) ⟨Nat.le_refl _, fun _ _ _ => rfl, fun b _ hb' => hb'.imp id fun ⟨l, hl, e⟩ => ⟨l, fun h0 => by rw [h0] at hl; exact hl (by split <;> rfl), e⟩⟩ h0) (hrz (fun b => av b ∨ ∃ l, (if l = k then none else look l bx) ≠ none ∧ β l = b) w.drew)
      simpa using h1
    have hbox := hdr.box (d := t) ht (by
      show (if t = k then none else look t bx) = none
      rcases hd with hd | hd
      · rw [if_pos hd]
      · rw [hd]; split <;> rfl) (U := e) (sl := some c') hrd
    refine ⟨⟨N, (t, .o t (n + q) c') :: killL k tm, (t, e, pre ++ ys ++ rest) :: dropL k bx⟩, fun l => if l = t then w.drew.heap.size else β l, ⟨c', _, hc1, hc2, hrl, rfl⟩, rfl, ?_⟩
    have hval := hbox.value (d := some t) (x := .o t (n + q) c') (v := .slice (some ⟨w.heap.size, 0, none⟩) (n + q) c') (by intro s hs; injection hs with hs; subst hs; exact ht) (Below.refl _ _) (by show _ = Value.slice (some ⟨if t = t then w.drew.heap.size else β t, 0, none⟩) _ _; rw [if_pos rfl]; rfl) (by intro l hl; injection hl with hl; subst hl; rw [if_pos rfl]; simp)
    rw [put_put] at hval
    refine hval.congr (fun s => ?_) (fun l => ?_)
    · rw [kill_T]
      show (if some t = some s then _ else _) = (if some t = some s then _ else if some t = some s then _ else killF k _ s)
      by_cases e : some t = some s
      · rw [if_pos e, if_pos e]
      · rw [if_neg e, if_neg e, if_neg e]; rfl
    · rw [drop_B]; rfl
/-- append onto a nil slice. -/
theorem gsem_append0 {t : Nat} {x y : Operand} {U e : TypeId} {ty : TypeId} {pos : String} {af : Array Edge} {g : Option (Nat × Bool)} {q m by_ : Nat} {ys zs : List CellD}
    (hU : elB P U = some (e, m, by_, zs)) (hx : opd (fun s => look s tm) x = some .z) (hy : opd (fun s => look s tm) y = some (.v (.c (.s q ys)))) (hys : ys.length = q * m) (hq : 0 < q)
    (hbytes : q * by_ ≤ 140737488355328) (h63 : q ≤ maxLen) (hd : look t bx = none)
    (hg : gd ops ⟨some t, .call ⟨.builtin .append, #[x, y], #[U, U]⟩, ty, pos, af, g⟩ (fun s => look s tm) = some true) :
    GSem P ops ⟨some t, .call ⟨.builtin .append, #[x, y], #[U, U]⟩, ty, pos, af, g⟩ ⟨N, tm, bx⟩ (fun σ' => ∃ c' rest, q ≤ c' ∧ c' ≤ maxLen ∧ rest.length = (c' - q) * m ∧ σ' = ⟨N, (t, .o t q c') :: tm, (t, e, ys ++ rest) :: bx⟩) := by
  intro av w0 β a w hrel htn
  have hs := Sees.of hrel.sees (L := Looks ops ⟨some t, .call ⟨.builtin .append, #[x, y], #[U, U]⟩, ty, pos, af, g⟩) (fun _ _ => trivial) (fun _ _ _ h => h) (fun _ _ h => h)
  refine ⟨gd_want hs hg, ?_⟩
  have e1 : a.eval x = .slice none 0 0 := opd_reads hs (x := x) (by simp [Op.operands, Call.operands]) hx
  have h2 := opd_reads hs (x := y) (by simp [Op.operands, Call.operands]) hy
  obtain ⟨news, hsrc, hrn⟩ := src_of hU h2 hys
  obtain ⟨hu, i, z, hi, hz, hsz, hby, hzl, hzr⟩ := elB_spec hU
  subst hsz
  have ht : t < N := htn t rfl
  unfold Gives
  have hold : (Builtin.firstCells i.size 0 (.slice none 0 0)).run P w.drew = .ok ([] : List Value).toArray w.drew := rfl
  have hgrow : 0 < 0 + q := by omega
  have hrun := run_append_grow_src (P := P) (w := w) U U ty e i z hu hi hz none 0 0 _ hold (a.eval y) q news hsrc hgrow (by have : maxLen = 9223372036854775807 := rfl; omega) (growslice_fits hgrow (by rw [hby, Nat.zero_add]; exact hbytes))
  rw [Nat.zero_add] at hrun
  generalize hcap : grownCap w q 0 e = c' at hrun
  have hc1 : q ≤ c' := by rw [← hcap]; exact grownCap_ge _ _ _ _
  have hc2 : c' ≤ maxLen := by rw [← hcap]; exact grownCap_le_maxLen _ _ _ _ h63
  have hexec : (execOp a.eval ⟨some t, .call ⟨.builtin .append, #[x, y], #[U, U]⟩, ty, pos, af, g⟩).run P w = .ok (.value (.slice (some ⟨w.heap.size, 0, none⟩) q c'))
      (w.drew.alloc (.cells (([] ++ news).toArray ++ Builtin.zeroCells z.cells (c' - q)) e)) := by
    simp only [execOp, resolve, invoke, builtin, Sem.run_bind, Sem.run_pure, Result.andThen_ok, List.map_toArray, List.map_cons, List.map_nil, e1]
    rw [hrun]
    rfl
  rw [hexec]
  obtain ⟨rest, hrl, hrz⟩ := zeroC hzl hzr (c' - q)
  have hrd : RdCs (fun b => av b ∨ ∃ k, look k bx ≠ none ∧ β k = b) w.drew (([] ++ news).toArray ++ Builtin.zeroCells z.cells (c' - q)).toList (ys ++ rest) := by
    have h1 : RdCs (fun b => av b ∨ ∃ k, look k bx ≠ none ∧ β k = b) w.drew (news ++ (Builtin.zeroCells z.cells (c' - q)).toList) (ys ++ rest) := RdCs.append (RdCs.keep (Keep.below (Below.refl _ w).drew) hrn) (hrz (fun b => av b ∨ ∃ k, look k bx ≠ none ∧ β k = b) w.drew)
    simpa using h1
  have hbox := hrel.drew.box (d := t) ht hd (U := e) (sl := some c') hrd
  refine ⟨⟨N, (t, .o t q c') :: tm, (t, e, ys ++ rest) :: bx⟩, fun l => if l = t then w.drew.heap.size else β l, ⟨c', _, hc1, hc2, hrl, rfl⟩, rfl, ?_⟩
  have hval := hbox.value (d := some t) (x := .o t q c') (v := .slice (some ⟨w.heap.size, 0, none⟩) q c') (by intro s hs; injection hs with hs; subst hs; exact ht) (Below.refl _ _) (by show _ = Value.slice (some ⟨if t = t then w.drew.heap.size else β t, 0, none⟩) _ _; rw [if_pos rfl]; rfl) (by intro l hl; injection hl with hl; subst hl; rw [if_pos rfl]; simp)
  rw [put_put] at hval
  refine hval.congr (fun s => ?_) (fun l => ?_)
  · show look s ((t, DV.o t q c') :: tm) = (if some t = some s then _ else if some t = some s then _ else look s tm)
    rw [look_cons]
    by_cases e : t = s
    · rw [if_pos e, if_pos (by rw [e])]
    · rw [if_neg e, if_neg (show ¬ some t = some s by simpa using e), if_neg (show ¬ some t = some s by simpa using e)]
  · show look l ((t, e, ys ++ rest) :: bx) = (if some t = some l then _ else look l bx)
    rw [look_cons]
    by_cases e : t = l
    · rw [if_pos e, if_pos (by rw [e])]
    · rw [if_neg e, if_neg (show ¬ some t = some l by simpa using e)]

variable {os : List Oper} {K : St → Prop}
theorem dl_grow {t : Nat} {x y : Operand} {U e : TypeId} {ty : TypeId} {pos : String} {af : Array Edge} {g : Option (Nat × Bool)} {n c q m by_ k : Nat} {us rest ys zs : List CellD}
    (hU : elB P U = some (e, m, by_, zs)) (hx : opd (fun s => look s tm) x = some (.o k n c)) (hy : opd (fun s => look s tm) y = some (.v (.c (.s q ys)))) (hb : look k bx = some (e, us ++ rest)) (hus : us.length = n * m) (hr : rest.length = (c - n) * m)
    (hys : ys.length = q * m) (hm : 0 < m) (hnc : n ≤ c) (hcm : c ≤ maxLen) (hbytes : (n + q) * by_ ≤ 140737488355328) (h63 : n + q ≤ maxLen) (hd : t = k ∨ look t bx = none)
    (hg : gd ops ⟨some t, .call ⟨.builtin .append, #[x, y], #[U, U]⟩, ty, pos, af, g⟩ (fun s => look s tm) = some true)
    (hk : ∀ c' rest', n + q ≤ c' → c' ≤ maxLen → rest'.length = (c' - (n + q)) * m → dl P ops os ⟨N, (t, .o t (n + q) c') :: killL k tm, (t, e, us ++ ys ++ rest') :: dropL k bx⟩ K) :
    dl P ops (⟨some t, .call ⟨.builtin .append, #[x, y], #[U, U]⟩, ty, pos, af, g⟩ :: os) ⟨N, tm, bx⟩ K :=
  .inr ⟨_, gsem_append (pre := us) hU hx hy hb (by rw [List.length_append, hus, hr, ← Nat.add_mul]; congr 1; omega) hys hm hnc hcm hbytes h63 (by rw [← hus]; simp) hd hg, fun σ' ⟨c', rest', h1, h2, h3, e⟩ => by subst e; exact hk c' rest' h1 h2 h3⟩
theorem dl_grow0 {t : Nat} {x y : Operand} {U e : TypeId} {ty : TypeId} {pos : String} {af : Array Edge} {g : Option (Nat × Bool)} {q m by_ : Nat} {ys zs : List CellD}
    (hU : elB P U = some (e, m, by_, zs)) (hx : opd (fun s => look s tm) x = some .z) (hy : opd (fun s => look s tm) y = some (.v (.c (.s q ys)))) (hys : ys.length = q * m) (hq : 0 < q)
    (hbytes : q * by_ ≤ 140737488355328) (h63 : q ≤ maxLen) (hd : look t bx = none)
    (hg : gd ops ⟨some t, .call ⟨.builtin .append, #[x, y], #[U, U]⟩, ty, pos, af, g⟩ (fun s => look s tm) = some true)
    (hk : ∀ c' rest', q ≤ c' → c' ≤ maxLen → rest'.length = (c' - q) * m → dl P ops os ⟨N, (t, .o t q c') :: tm, (t, e, ys ++ rest') :: bx⟩ K) :
    dl P ops (⟨some t, .call ⟨.builtin .append, #[x, y], #[U, U]⟩, ty, pos, af, g⟩ :: os) ⟨N, tm, bx⟩ K :=
  .inr ⟨_, gsem_append0 hU hx hy hys hq hbytes h63 hd hg, fun σ' ⟨c', rest', h1, h2, h3, e⟩ => by subst e; exact hk c' rest' h1 h2 h3⟩

/-- The nil slice, known as such; as data. -/
theorem sem_assign_z {T : TF} {B : BF} {dst : Option Nat} {ty : TypeId} {pos : String} {af : Array Edge} {g : Option (Nat × Bool)}
    (hg : gd ops ⟨dst, .assign (.const (.slice none 0 0)), ty, pos, af, g⟩ T = some true) : Sem P ops ⟨dst, .assign (.const (.slice none 0 0)), ty, pos, af, g⟩ T B (.r .z) :=
  sem_pure hg (fun k e => by cases e) (fun V β a w hs => ⟨.slice none 0 0, rfl, rfl⟩)
theorem dw_nil {c : Code} {Q : Exit → St → Prop} {t : Nat} (ht : look t tm = some .z) (h : Dw P c ⟨N, (t, .v (.c (.s 0 []))) :: tm, bx⟩ Q) : Dw P c ⟨N, tm, bx⟩ Q := fun av w0 β a w hr => by
  obtain ⟨v, hv, hx⟩ := hr.sees.tmp t _ trivial ht
  have hx : v = .slice none 0 0 := hx
  subst hx
  have h2 := hr.upd (t := t) (x := .v (.c (.s 0 []))) hv (.s0 _ _ (by decide)) rfl
  refine h av w0 β a w (h2.congr (fun s => ?_) (fun _ => rfl))
  show look s ((t, .v (.c (.s 0 []))) :: tm) = _
  rw [look_cons]; rfl
/-- A loop whose first round begins in a state of its own. -/
theorem dw_loop1 {ι : Type} {c : Code} {σ : St} {Q : Exit → St → Prop} (I : ι → St) (μ : ι → Nat) (M : Nat)
    (first : Dw P c σ (thenD (fun σ' => ∃ j, Sub σ' (I j) ∧ μ j < M) Q)) (round : ∀ i, Dw P c (I i) (thenD (fun σ' => ∃ j, Sub σ' (I j) ∧ μ j < μ i) Q)) : Dw P (.loop c) σ Q := fun av w0 β a w hr => by
  refine dw_loop (ι := Option ι) (fun i => match i with | none => σ | some i => I i) (fun i => match i with | none => M | some i => μ i) none ⟨rfl, fun _ _ h => h, fun _ _ h => h, hr.wf⟩ (fun i => ?_) av w0 β a w hr
  cases i with
  | none =>
    refine first.mono fun e σ' h => ?_
    cases e with
    | normal => obtain ⟨j, h1, h2⟩ := h; exact ⟨some j, h1, h2⟩
    | _ => exact h
  | some i =>
    refine (round i).mono fun e σ' h => ?_
    cases e with
    | normal => obtain ⟨j, h1, h2⟩ := h; exact ⟨some j, h1, h2⟩
    | _ => exact h
theorem g_len {us rest : List CellD} {n c m : Nat} (h : us.length = n * m) (hr : rest.length = (c - n) * m) (hn : n ≤ c) : (us ++ rest).length = c * m := by
  rw [List.length_append, h, hr, ← Nat.add_mul]; congr 1; omega
theorem g_take {us rest : List CellD} {n m : Nat} (h : us.length = n * m) : (us ++ rest).take (n * m) = us := by rw [← h]; simp
theorem g_max {n : Nat} (h : n ≤ 1000000) : n ≤ maxLen := Nat.le_trans h (by decide)
theorem sem_casti {o : Oper} {T : TF} {B : BF} {k : IntKind} {b c : Int} (h : Sem P ops o T B (.r (.v (.c (.i k b))))) (e : b = c) : Sem P ops o T B (.r (.v (.c (.i k c)))) := by subst e; exact h
theorem sem_max4 {T : TF} {B : BF} {dst : Option Nat} {x1 x2 x3 x4 : Operand} {t1 t2 t3 t4 : TypeId} {ty : TypeId} {pos : String} {af : Array Edge} {g : Option (Nat × Bool)} {k : IntKind} {m1 m2 m3 m4 : Int}
    (h1 : opd T x1 = some (.v (.c (.i k m1)))) (h2 : opd T x2 = some (.v (.c (.i k m2)))) (h3 : opd T x3 = some (.v (.c (.i k m3)))) (h4 : opd T x4 = some (.v (.c (.i k m4))))
    (hg : gd ops ⟨dst, .call ⟨.builtin .max, #[x1, x2, x3, x4], #[t1, t2, t3, t4]⟩, ty, pos, af, g⟩ T = some true) :
    Sem P ops ⟨dst, .call ⟨.builtin .max, #[x1, x2, x3, x4], #[t1, t2, t3, t4]⟩, ty, pos, af, g⟩ T B (.r (.v (.c (.i k (max (max (max m1 m2) m3) m4))))) :=
  sem_pure hg (nop rfl) (fun V β a w hs => by
    have e1 : a.eval x1 = .int k m1 := RdC.int_eq (opd_reads hs (x := x1) (by simp [Op.operands, Call.operands]) h1)
    have e2 : a.eval x2 = .int k m2 := RdC.int_eq (opd_reads hs (x := x2) (by simp [Op.operands, Call.operands]) h2)
    have e3 : a.eval x3 = .int k m3 := RdC.int_eq (opd_reads hs (x := x3) (by simp [Op.operands, Call.operands]) h3)
    have e4 : a.eval x4 = .int k m4 := RdC.int_eq (opd_reads hs (x := x4) (by simp [Op.operands, Call.operands]) h4)
    have q : ∀ a b : Int, Builtin.max2 (.int k a) (.int k b) = pure (.int k (max a b)) := fun a b => by
      show pure (Value.int k (if b > a then b else a)) = _
      congr 2; split <;> omega
    refine ⟨.int k (max (max (max m1 m2) m3) m4), ?_, .i _ _⟩
    simp [execOp, resolve, invoke, builtin, Builtin.max_, q, e1, e2, e3, e4])
end
end Go.Proofs.Ytonjlikaacengaa
/- Data: the greater and the lesser of two numbers, casts, structs of integers compared. -/
namespace Go.Proofs.Ytonjlikaacengaa
open Go Go.RowKit
section
variable {P : Program} {ops : Array Oper} {T : TF} {B : BF}
theorem sem_max {dst : Option Nat} {x y : Operand} {t1 t2 : TypeId} {ty : TypeId} {pos : String} {af : Array Edge} {g : Option (Nat × Bool)} {k : IntKind} {m n : Int}
    (hx : opd T x = some (.v (.c (.i k m)))) (hy : opd T y = some (.v (.c (.i k n)))) (hg : gd ops ⟨dst, .call ⟨.builtin .max, #[x, y], #[t1, t2]⟩, ty, pos, af, g⟩ T = some true) :
    Sem P ops ⟨dst, .call ⟨.builtin .max, #[x, y], #[t1, t2]⟩, ty, pos, af, g⟩ T B (.r (.v (.c (.i k (max m n))))) :=
  sem_pure hg (nop rfl) (fun V β a w hs => by
    have e1 : a.eval x = .int k m := RdC.int_eq (opd_reads hs (x := x) (by simp [Op.operands, Call.operands]) hx)
    have e2 : a.eval y = .int k n := RdC.int_eq (opd_reads hs (x := y) (by simp [Op.operands, Call.operands]) hy)
    refine ⟨.int k (max m n), ?_, .i _ _⟩
    simp [execOp, resolve, invoke, builtin, Builtin.max_, Builtin.max2, e1, e2]
    split <;> omega)
theorem sem_min {dst : Option Nat} {x y : Operand} {t1 t2 : TypeId} {ty : TypeId} {pos : String} {af : Array Edge} {g : Option (Nat × Bool)} {k : IntKind} {m n : Int}
    (hx : opd T x = some (.v (.c (.i k m)))) (hy : opd T y = some (.v (.c (.i k n)))) (hg : gd ops ⟨dst, .call ⟨.builtin .min, #[x, y], #[t1, t2]⟩, ty, pos, af, g⟩ T = some true) :
    Sem P ops ⟨dst, .call ⟨.builtin .min, #[x, y], #[t1, t2]⟩, ty, pos, af, g⟩ T B (.r (.v (.c (.i k (min m n))))) :=
  sem_pure hg (nop rfl) (fun V β a w hs => by
    have e1 : a.eval x = .int k m := RdC.int_eq (opd_reads hs (x := x) (by simp [Op.operands, Call.operands]) hx)
    have e2 : a.eval y = .int k n := RdC.int_eq (opd_reads hs (x := y) (by simp [Op.operands, Call.operands]) hy)
    refine ⟨.int k (min m n), ?_, .i _ _⟩
    simp [execOp, resolve, invoke, builtin, Builtin.min_, Builtin.min2, e1, e2]
    split <;> omega)
theorem sem_castb {o : Oper} {b c : Bool} (h : Sem P ops o T B (.r (.v (.c (.b b))))) (e : b = c) : Sem P ops o T B (.r (.v (.c (.b c)))) := by subst e; exact h
/-- The value of an integer cell. -/
def vI : CellD → Value
  | .i k m => .int k m
  | _ => undef
def isI : CellD → Bool
  | .i _ _ => true
  | _ => false
theorem ints_of {V : Nat → Prop} {w : World} : ∀ {vs : List Value} {us : List CellD}, us.all isI = true → RdCs V w vs us → vs = us.map vI
  | [], [], _, _ => rfl
  | [], _ :: _, _, h => by have := h.1; simp at this
  | _ :: _, [], _, h => by have := h.1; simp at this
  | v :: vs, u :: us, ha, h => by
    simp only [List.all_cons, Bool.and_eq_true] at ha
    obtain ⟨h1, h2⟩ := h.uncons
    rw [ints_of ha.2 h2, List.map_cons]
    congr 1
    cases u with
    | i k m => exact h1.int_eq
    | _ => cases ha.1
theorem agg_of {V : Nat → Prop} {w : World} {v : Value} {us : List CellD} (hi : us.all isI = true) (h : RdV V w v (.a us)) : v = .agg (us.map vI).toArray := by
  obtain ⟨cs, rfl, hr⟩ := h
  rw [← ints_of hi hr]
theorem sem_seq {dst : Option Nat} {xt yt : TypeId} {x y : Operand} {ty : TypeId} {pos : String} {af : Array Edge} {g : Option (Nat × Bool)} {us ws : List CellD} {r : Bool}
    (hx : opd T x = some (.v (.a us))) (hy : opd T y = some (.v (.a ws))) (hi : us.all isI = true) (hj : ws.all isI = true) (hq : P.eqGuardType P.depth xt = false)
    (he : ∀ w, (Op.equalIn 10000 xt (.agg (us.map vI).toArray) (.agg (ws.map vI).toArray)).run P w = .ok r w) (hg : gd ops ⟨dst, .binOp .eql xt x y yt, ty, pos, af, g⟩ T = some true) :
    Sem P ops ⟨dst, .binOp .eql xt x y yt, ty, pos, af, g⟩ T B (.r (.v (.c (.b r)))) :=
  sem_pure hg (nop rfl) (fun V β a w hs => by
      have e1 := agg_of hi (opd_reads hs (x := x) (by simp [Op.operands]) hx)
      have e2 := agg_of hj (opd_reads hs (x := y) (by simp [Op.operands]) hy)
      refine ⟨.bool r, ?_, .b _⟩
      simp only [execOp, e1, e2, Sem.run_bind, run_eqGuard_agg w .eql xt x y _ _ hq, Result.andThen_ok, run_eql_struct, he]
      rfl)
theorem sem_sne {dst : Option Nat} {xt yt : TypeId} {x y : Operand} {ty : TypeId} {pos : String} {af : Array Edge} {g : Option (Nat × Bool)} {us ws : List CellD} {r : Bool}
    (hx : opd T x = some (.v (.a us))) (hy : opd T y = some (.v (.a ws))) (hi : us.all isI = true) (hj : ws.all isI = true) (hq : P.eqGuardType P.depth xt = false)
    (he : ∀ w, (Op.equalIn 10000 xt (.agg (us.map vI).toArray) (.agg (ws.map vI).toArray)).run P w = .ok r w) (hg : gd ops ⟨dst, .binOp .neq xt x y yt, ty, pos, af, g⟩ T = some true) :
    Sem P ops ⟨dst, .binOp .neq xt x y yt, ty, pos, af, g⟩ T B (.r (.v (.c (.b (!r))))) :=
  sem_pure hg (nop rfl) (fun V β a w hs => by
      have e1 := agg_of hi (opd_reads hs (x := x) (by simp [Op.operands]) hx)
      have e2 := agg_of hj (opd_reads hs (x := y) (by simp [Op.operands]) hy)
      refine ⟨.bool (!r), ?_, .b _⟩
      simp only [execOp, e1, e2, Sem.run_bind, run_eqGuard_agg w .neq xt x y _ _ hq, Result.andThen_ok, run_neq_struct, he]
      rfl)
theorem eqf_step {d : Nat} {xs ys : Array Value} {f : Field} {fs : List Field} {x y : Value} {w : World} {r : Bool} (hn : f.name ≠ "_") (hx : (part f.type xs f.offset).run P w = .ok x w) (hy : (part f.type ys f.offset).run P w = .ok y w)
    (he : (Op.equalIn d f.type x y).run P w = .ok r w) : (Op.eqFields d xs ys (f :: fs)).run P w = if r then (Op.eqFields d xs ys fs).run P w else .ok false w := by
  simp only [Op.eqFields, if_pos hn, Sem.run_bind, hx, Result.andThen_ok, hy, he]
  cases r <;> simp
end
section
variable {P : Program} {f : FuncId} {ds rs : List D0}
theorem rcastb {b c : Bool} (h : Ok P f ds [.c (.b b)]) (e : b = c) : Ok P f ds [.c (.b c)] := by subst e; exact h
theorem rcasti {b c : Int} (h : Ok P f ds [.c (.i .i64 b)]) (e : b = c) : Ok P f ds [.c (.i .i64 c)] := by subst e; exact h
theorem icast2 {x y x' y' : Int} (h : Ok P f ds (.a ([.i .i64 x] ++ [.i .i64 y]) :: rs)) (e1 : x = x') (e2 : y = y') : Ok P f ds (.a ([.i .i64 x'] ++ [.i .i64 y']) :: rs) := by subst e1 e2; exact h
theorem icast2b {x y x' y' : Int} {b c : Bool} (h : Ok P f ds [.a ([.i .i64 x] ++ [.i .i64 y]), .c (.b b)]) (e1 : x = x') (e2 : y = y') (e3 : b = c) : Ok P f ds [.a ([.i .i64 x'] ++ [.i .i64 y']), .c (.b c)] := by subst e1 e2 e3; exact h
end
/-- A slice made of values, given out at once. -/
theorem sem_slit_D {P : Program} {ops : Array Oper} {T : TF} {B : BF} {dst : Option Nat} {U e : TypeId} {ps : Array (Nat × Operand)} {ty : TypeId} {pos : String} {af : Array Edge} {g : Option (Nat × Bool)} {n m by_ : Nat} {zs us : List CellD} {dps : List (Nat × D0)}
    (hU : elB P U = some (e, m, by_, zs)) (hp : partsD T ps.toList = some dps) (hf : fillD (fun i => some (i * m, m)) (List.replicate n zs).flatten dps = some us) (hl : us.length = n * m) (hn : n * m ≤ 16777216) (hm : 0 < n * m)
    (hg : gd ops ⟨dst, .buildSlice U n ps, ty, pos, af, g⟩ T = some true) : Sem P ops ⟨dst, .buildSlice U n ps, ty, pos, af, g⟩ T B (.r (.v (.c (.s n us)))) := by
  have h := sem_slit (B := B) hU hp hf hn hm hg
  refine ⟨nop rfl, fun V β a w hs => ?_⟩
  obtain ⟨hw, hg⟩ := h V β a w hs
  refine ⟨hw, hg.mono ?_⟩
  rintro v w' ⟨vs, rfl, rfl, hr⟩
  refine ⟨?_, (Below.refl _ w).alloc (Nat.le_refl _) _⟩
  have hkeep := Keep.below (av := V) ((Below.refl w.heap.size w).alloc (Nat.le_refl _) (.cells vs e))
  have hr2 := hr.keep hkeep
  have hvl : vs.size = n * m := by have := hr.1; rw [hl] at this; simpa using this
  have hn0 : 0 < n := by
    rcases Nat.eq_zero_or_pos n with h0 | h0
    · rw [h0, Nat.zero_mul] at hm; omega
    · exact h0
  have hm0 : 0 < m := by
    rcases Nat.eq_zero_or_pos m with h0 | h0
    · rw [h0, Nat.mul_zero] at hm; omega
    · exact h0
  have hnm : n ≤ n * m := Nat.le_mul_of_pos_right n hm0
  refine .s w.heap.size 0 n m n _ (fun j => vs.getD j undef) hn0 (Nat.le_refl _) (by omega) hl (by simp) (fun h => by have := hs.av _ h; omega) (fun j hj => ?_) (fun j u hj => ?_)
  · rw [Nat.zero_add, cells_of_box (heap_alloc_new w (.cells vs e))]
    have : j < vs.size := by omega
    simp [Array.getD, this]
  · have hlt : j < n * m := by have := (List.getElem?_eq_some_iff.1 hj).1; omega
    refine hr2.2 j _ u ?_ hj
    rw [Array.getElem?_toList]
    have : j < vs.size := by omega
    simp [Array.getD, this]
theorem ari_i64_mul {a b : Int} (h0 : -9223372036854775808 ≤ a * b) (h1 : a * b ≤ 9223372036854775807) : iari .mul .i64 a b = some (a * b) := congrArg some (nw64 h0 h1)
theorem eq_g2 (a b c e : Int) (w : World) : (Op.equalIn 10000 23 (.agg #[.int .i64 a, .int .i64 b]) (.agg #[.int .i64 c, .int .i64 e])).run Try.prog w = .ok (a == c && b == e) w := by
  rw [show (10000 : Nat) = 9998 + 1 + 1 from rfl, run_equalIn_agg w _ _ _ _ (by kernel_rfl) (by kernel_rfl),
    show (Try.prog.fieldsOf 23).toList = [(Try.prog.fieldsOf 23)[0]!, (Try.prog.fieldsOf 23)[1]!] from by kernel_rfl,
    eqf_step (x := .int .i64 a) (y := .int .i64 c) (r := a == c) (of_decide_eq_true (by kernel_rfl)) (by kernel_rfl) (by kernel_rfl) (run_equalIn_int w _ _ .i64 .i64 a c (by kernel_rfl)),
    eqf_step (x := .int .i64 b) (y := .int .i64 e) (r := b == e) (of_decide_eq_true (by kernel_rfl)) (by kernel_rfl) (by kernel_rfl) (run_equalIn_int w _ _ .i64 .i64 b e (by kernel_rfl))]
  cases a == c <;> cases b == e <;> rfl
theorem eq_pos (a b c : Int) (d : Nat) (w : World) : (Op.equalIn (d + 1 + 1) 37 (.agg #[.int .i64 a, .int .i64 b, .int .i64 c]) (.agg #[.int .i64 a, .int .i64 b, .int .i64 c])).run Try.prog w = .ok true w := by
  rw [run_equalIn_agg w _ _ _ _ (by kernel_rfl) (by kernel_rfl),
    show (Try.prog.fieldsOf 37).toList = [(Try.prog.fieldsOf 37)[0]!, (Try.prog.fieldsOf 37)[1]!, (Try.prog.fieldsOf 37)[2]!] from by kernel_rfl,
    eqf_step (x := .int .i64 a) (y := .int .i64 a) (r := true) (of_decide_eq_true (by kernel_rfl)) (by kernel_rfl) (by kernel_rfl) ((run_equalIn_int w _ _ .i64 .i64 a a (by kernel_rfl)).trans (by rw [beq_self_eq_true])),
    eqf_step (x := .int .i64 b) (y := .int .i64 b) (r := true) (of_decide_eq_true (by kernel_rfl)) (by kernel_rfl) (by kernel_rfl) ((run_equalIn_int w _ _ .i64 .i64 b b (by kernel_rfl)).trans (by rw [beq_self_eq_true])),
    eqf_step (x := .int .i64 c) (y := .int .i64 c) (r := true) (of_decide_eq_true (by kernel_rfl)) (by kernel_rfl) (by kernel_rfl) ((run_equalIn_int w _ _ .i64 .i64 c c (by kernel_rfl)).trans (by rw [beq_self_eq_true]))]
  rfl
end Go.Proofs.Ytonjlikaacengaa
/- Plain: ways in one direction, their centers; the range of coordinates. -/
namespace Go.Proofs.Ytonjlikaacengaa
open Go Go.RowKit
def dsg (a b : Int) : Int := if a < b then 1 else if a > b then -1 else 0
theorem dsg_p {a b : Int} (h : decide (a < b) = true) : dsg a b = 1 := if_pos (of_decide_eq_true h)
theorem dsg_m {a b : Int} (h : decide (a > b) = true) : dsg a b = -1 := by
  have := of_decide_eq_true h
  unfold dsg; rw [if_neg (by omega), if_pos this]
theorem dsg_z {a b : Int} (h : decide (a < b) = false) (h2 : decide (a > b) = false) : dsg a b = 0 := by
  unfold dsg; rw [if_neg (of_decide_eq_false h), if_neg (of_decide_eq_false h2)]
theorem dsg_bd (a b : Int) : -1 ≤ dsg a b ∧ dsg a b ≤ 1 := by unfold dsg; split <;> (try split) <;> omega
def dok (a1 a2 b1 b2 : Int) : Bool := !((dsg a1 b1 == 0) == (dsg a2 b2 == 0))
def far (x : Int) : Bool := if decide (x > 10000000) then true else decide (x < -10000000)
theorem far_t {x : Int} (h : decide (x > 10000000) = true) : far x = true := by unfold far; rw [h]; rfl
theorem far_f {x : Int} (h : decide (x > 10000000) = false) : far x = decide (x < -10000000) := by unfold far; rw [h]; rfl
theorem far_n {x : Int} (h : far x = false) : -10000000 ≤ x ∧ x ≤ 10000000 := by
  unfold far at h
  split at h
  · cases h
  · rename_i g; simp at h g; omega
theorem far_i {x : Int} (h1 : -10000000 ≤ x) (h2 : x ≤ 10000000) : far x = false := by
  unfold far
  rw [if_neg (by simp; omega)]
  simp; omega
def outb (x y r : Int) : Bool := (far x || (far y || far r)) || (far (x + r) || (far (x - r) || (far (y + r) || far (y - r))))
def rnd (x y r : Int) : Bool := (!(far x || far y) && decide (r ≤ 20000000)) && !(far (x - r) || (far (x + r) || (far (y - r) || far (y + r))))
theorem far_iff (x : Int) : far x = false ↔ (-10000000 ≤ x ∧ x ≤ 10000000) := ⟨far_n, fun h => far_i h.1 h.2⟩
theorem outb_iff (x y r : Int) : outb x y r = false ↔ ((-10000000 ≤ x ∧ x ≤ 10000000) ∧ (-10000000 ≤ y ∧ y ≤ 10000000) ∧ (-10000000 ≤ r ∧ r ≤ 10000000) ∧ (-10000000 ≤ x + r ∧ x + r ≤ 10000000) ∧ (-10000000 ≤ x - r ∧ x - r ≤ 10000000) ∧ (-10000000 ≤ y + r ∧ y + r ≤ 10000000) ∧ (-10000000 ≤ y - r ∧ y - r ≤ 10000000)) := by
  unfold outb
  simp only [Bool.or_eq_false_iff, far_iff]
  omega
theorem rnd_iff (x y r : Int) : rnd x y r = true ↔ ((-10000000 ≤ x ∧ x ≤ 10000000) ∧ (-10000000 ≤ y ∧ y ≤ 10000000) ∧ r ≤ 20000000 ∧ (-10000000 ≤ x + r ∧ x + r ≤ 10000000) ∧ (-10000000 ≤ x - r ∧ x - r ≤ 10000000) ∧ (-10000000 ≤ y + r ∧ y + r ≤ 10000000) ∧ (-10000000 ≤ y - r ∧ y - r ≤ 10000000)) := by
  unfold rnd
  simp only [Bool.and_eq_true, Bool.not_eq_true', Bool.or_eq_false_iff, far_iff, decide_eq_true_eq]
  omega
theorem rnd_out {x y r : Int} (h : 0 ≤ r) : rnd x y r = !outb x y r := by
  cases h1 : outb x y r with
  | false => rw [outb_iff] at h1; rw [Bool.not_false, rnd_iff]; omega
  | true =>
    rw [Bool.not_true]
    cases h2 : rnd x y r with
    | false => rfl
    | true =>
      rw [rnd_iff] at h2
      have : outb x y r = false := by rw [outb_iff]; omega
      rw [this] at h1; cases h1
/-- The four directions. -/
def Dir (dx dy : Int) : Prop := (dx = 1 ∧ dy = 0) ∨ (dx = -1 ∧ dy = 0) ∨ (dx = 0 ∧ dy = 1) ∨ (dx = 0 ∧ dy = -1)
theorem dir_of {a1 a2 b1 b2 : Int} (h : dok a1 a2 b1 b2 = true) : ∃ L dx dy, 1 ≤ L ∧ Dir dx dy ∧ b1 = a1 + L * dx ∧ b2 = a2 + L * dy := by
  by_cases h1 : a1 < b1
  · have e1 : dsg a1 b1 = 1 := by unfold dsg; rw [if_pos h1]
    by_cases h2 : a2 = b2
    · exact ⟨b1 - a1, 1, 0, by omega, .inl ⟨rfl, rfl⟩, by omega, by omega⟩
    · exfalso
      have e2 : dsg a2 b2 ≠ 0 := by unfold dsg; split <;> (try split) <;> omega
      unfold dok at h; rw [e1] at h; simp [e2] at h
  · by_cases h2 : a1 > b1
    · have e1 : dsg a1 b1 = -1 := by unfold dsg; rw [if_neg h1, if_pos h2]
      by_cases h2 : a2 = b2
      · exact ⟨a1 - b1, -1, 0, by omega, .inr (.inl ⟨rfl, rfl⟩), by omega, by omega⟩
      · exfalso
        have e2 : dsg a2 b2 ≠ 0 := by unfold dsg; split <;> (try split) <;> omega
        unfold dok at h; rw [e1] at h; simp [e2] at h
    · have e1 : dsg a1 b1 = 0 := by unfold dsg; rw [if_neg h1, if_neg h2]
      by_cases h3 : a2 < b2
      · exact ⟨b2 - a2, 0, 1, by omega, .inr (.inr (.inl ⟨rfl, rfl⟩)), by omega, by omega⟩
      · by_cases h4 : a2 > b2
        · exact ⟨a2 - b2, 0, -1, by omega, .inr (.inr (.inr ⟨rfl, rfl⟩)), by omega, by omega⟩
        · exfalso
          have e2 : dsg a2 b2 = 0 := by unfold dsg; rw [if_neg h3, if_neg h4]
          unfold dok at h; rw [e1, e2] at h; simp at h
section
variable {a L d dx dy : Int}
theorem dsg_dir (hL : 1 ≤ L) (hd : d = 1 ∨ d = -1 ∨ d = 0) : dsg a (a + L * d) = d := by
  rcases hd with h | h | h <;> subst h <;> unfold dsg
  · rw [if_pos (by omega)]
  · rw [if_neg (by omega), if_pos (by omega)]
  · rw [if_neg (by omega), if_neg (by omega)]
theorem Dir.x (h : Dir dx dy) : dx = 1 ∨ dx = -1 ∨ dx = 0 := by unfold Dir at h; omega
theorem Dir.y (h : Dir dx dy) : dy = 1 ∨ dy = -1 ∨ dy = 0 := by unfold Dir at h; omega
theorem dok_dir {a1 a2 : Int} (hL : 1 ≤ L) (h : Dir dx dy) : dok a1 a2 (a1 + L * dx) (a2 + L * dy) = true := by
  unfold dok
  rw [dsg_dir hL h.x, dsg_dir hL h.y]
  rcases h with ⟨rfl, rfl⟩ | ⟨rfl, rfl⟩ | ⟨rfl, rfl⟩ | ⟨rfl, rfl⟩ <;> rfl
end
/-- The first i + 1 centers. -/
def ctr (a1 a2 dx dy s : Int) : Nat → List CellD
  | 0 => [.i .i64 a1] ++ [.i .i64 a2]
  | i + 1 => ctr a1 a2 dx dy s i ++ ([.i .i64 (a1 + dx * (((i + 1 : Nat) : Int) * s))] ++ [.i .i64 (a2 + dy * (((i + 1 : Nat) : Int) * s))])
theorem ctr_len {a1 a2 dx dy s : Int} : ∀ i, (ctr a1 a2 dx dy s i).length = (i + 1) * 2
  | 0 => rfl
  | i + 1 => by
    show (ctr a1 a2 dx dy s i ++ _).length = _
    rw [List.length_append, ctr_len i, Nat.succ_mul (i + 1)]; rfl
theorem ctr_all {a1 a2 dx dy s : Int} : ∀ i, (ctr a1 a2 dx dy s i).all isI = true
  | 0 => rfl
  | i + 1 => by
    show (ctr a1 a2 dx dy s i ++ _).all isI = true
    rw [List.all_append, ctr_all i]; rfl
theorem ct_iff {L s : Int} {k : Nat} (hs : 1 ≤ s) (hk : (k : Int) = (L - 1) / s) (i : Nat) : ((i + 1 : Nat) : Int) * s < L ↔ i < k := by
  have h := Int.le_ediv_iff_mul_le (a := ((i + 1 : Nat) : Int)) (b := L - 1) (c := s) (by omega)
  constructor
  · intro h1; have := h.2 (by omega); omega
  · intro h1; have := h.1 (by omega); omega
theorem ct_nn {s : Int} (hs : 1 ≤ s) (i : Nat) : 0 ≤ (i : Int) * s := Int.mul_nonneg (by omega) (by omega)
theorem ct_ge {s : Int} (hs : 1 ≤ s) (i : Nat) : s ≤ ((i + 1 : Nat) : Int) * s := by
  have := Int.mul_le_mul_of_nonneg_right (show (1 : Int) ≤ ((i + 1 : Nat) : Int) by omega) (show 0 ≤ s by omega)
  omega
theorem ct_nx {s : Int} (i : Nat) : ((i + 1 : Nat) : Int) * s = (i : Int) * s + s := by
  rw [Int.natCast_add, Int.add_mul]; simp
theorem q_bd {L s : Int} (hL : 1 ≤ L) (hs : 1 ≤ s) : 0 ≤ (L - 1) / s ∧ (L - 1) / s ≤ L - 1 :=
  ⟨Int.ediv_nonneg (by omega) (by omega), Int.ediv_le_self _ (by omega)⟩
theorem cl_q {L s : Int} (hL : 1 ≤ L) (hL2 : L ≤ 20000000) (hs : 1 ≤ s) : IntKind.i64.wrap ((L + s - 1).tdiv s) = (L - 1) / s + 1 := by
  have hq := q_bd hL hs
  rw [Int.tdiv_eq_ediv_of_nonneg (by omega), show L + s - 1 = L - 1 + 1 * s by omega, Int.add_mul_ediv_right _ _ (by omega)]
  exact nw64 (by omega) (by omega)
theorem min_q {L s : Int} (hL : 1 ≤ L) (_hs : 1 ≤ s) : (L - 1) / min s L = (L - 1) / s := by
  by_cases h : s ≤ L
  · rw [Int.min_eq_left h]
  · rw [Int.min_eq_right (by omega), Int.ediv_eq_zero_of_lt (by omega) (by omega), Int.ediv_eq_zero_of_lt (by omega) (by omega)]
theorem min_ctr {a1 a2 dx dy L s : Int} {k : Nat} (hL : 1 ≤ L) (_hs : 1 ≤ s) (hk : (k : Int) = (L - 1) / s) : ctr a1 a2 dx dy (min s L) k = ctr a1 a2 dx dy s k := by
  by_cases h : s ≤ L
  · rw [Int.min_eq_left h]
  · rw [Int.ediv_eq_zero_of_lt (by omega) (by omega)] at hk
    obtain rfl : k = 0 := by omega
    rfl
theorem dir_L {a1 a2 L dx dy : Int} (_hL : 1 ≤ L) (hd : Dir dx dy) (r1 : -10000000 ≤ a1 ∧ a1 ≤ 10000000) (r2 : -10000000 ≤ a2 ∧ a2 ≤ 10000000) (r3 : -10000000 ≤ a1 + L * dx ∧ a1 + L * dx ≤ 10000000) (r4 : -10000000 ≤ a2 + L * dy ∧ a2 + L * dy ≤ 10000000) : L ≤ 20000000 := by
  rcases hd with ⟨rfl, rfl⟩ | ⟨rfl, rfl⟩ | ⟨rfl, rfl⟩ | ⟨rfl, rfl⟩ <;> omega
end Go.Proofs.Ytonjlikaacengaa
