/- Package rational. -/
import Derived.Test.YtedlgdliniokiaaGreatEaJ
namespace Go.Proofs.YtedlgdliniokiaaGreat
open Go Go.RowKit
theorem pUnit_ok  : Ok Tryz.prog 119 [] [dI 1] := by
  refine Ok.of (by kernel_rfl) Tryz.func119 rfl rfl ?_
  rw [show Tryz.f119.ntmps = 2 from rfl, show Tryz.f119.results.toList = [.cell 0 26] from rfl]
  refine dw_seq ?_
  -- region 0
  refine dw_region (by kernel_rfl) ?_
  refine dl_new (sem_alloc zc26 rfl) rfl ?_
  refine dl_end ?_
  refine dw_seq ?_
  -- region 1
  refine dw_region (by kernel_rfl) ?_
  refine dl_r (sem_call rfl rfl (iFrom_ok (by omega) (by omega)) rfl) ?_
  refine dl_st (sem_store_a ty26 rfl rfl rfl rfl rfl rfl) ?_
  refine dl_end ?_
  refine dw_ret ?_
  -- path 
  exact ⟨.inr rfl, (resL_cell (us := cI 1) ty26 rfl rfl rfl rfl resL_nil)⟩
theorem pSign_ok {x : Rat} : Ok Tryz.prog 27 [dR x] [.c (.i .i64 (cmpR x 0))] := by
  refine Ok.of (by kernel_rfl) Tryz.func27 rfl rfl ?_
  rw [show Tryz.f27.ntmps = 6 from rfl, show Tryz.f27.results.toList = [.tmp 2] from rfl]
  refine dw_seq ?_
  -- region 0
  refine dw_region (by kernel_rfl) ?_
  refine dl_new (sem_box_a rfl rfl) rfl ?_
  refine dl_r (sem_assign rfl rfl) ?_
  refine dl_end ?_
  refine dw_seq ?_
  -- region 1
  refine dw_region (by kernel_rfl) ?_
  refine dl_r (sem_field fd28_0 rfl rfl) ?_
  refine dl_r (sem_load (us := cI x.num) ty26 rfl rfl rfl rfl rfl) ?_
  refine dl_r (sem_call rfl rfl (iSign_ok) rfl) ?_
  refine dl_r (sem_assign rfl rfl) ?_
  refine dl_end ?_
  refine dw_ret ?_
  -- path 
  rw [← cmpR_num]
  exact ⟨.inr rfl, (resL_tmp rfl resL_nil)⟩
theorem pWhole_ok {n : Int} : Ok Tryz.prog 71 [dI n] [dR (n : Rat)] := by
  refine Ok.of (by kernel_rfl) Tryz.func71 rfl rfl ?_
  rw [show Tryz.f71.ntmps = 6 from rfl, show Tryz.f71.results.toList = [.cell 2 28] from rfl]
  refine dw_seq ?_
  -- region 0
  refine dw_region (by kernel_rfl) ?_
  refine dl_new (sem_box_a rfl rfl) rfl ?_
  refine dl_new (sem_alloc zc28 rfl) rfl ?_
  refine dl_end ?_
  refine dw_seq ?_
  -- region 1
  refine dw_draw 3 [] follows_mixed (by kernel_rfl) rfl rfl ?_
  refine dq_r (sem_load (us := cI n) ty26 rfl rfl rfl rfl rfl) ?_
  refine dq_r (sem_call rfl rfl (unit_ok) rfl) ?_
  refine dq_r (sem_build (us := cQ n 1) fs28 zc28 rfl rfl rfl) ?_
  refine dq_end ?_
  refine dl_start0 ?_
  refine dl_st (sem_store_a ty28 rfl rfl rfl rfl rfl rfl) ?_
  refine dl_end ?_
  refine dw_ret ?_
  -- path 
  rw [dR_int]
  exact ⟨.inr rfl, (resL_cell (us := cQ n 1) ty28 rfl rfl rfl rfl resL_nil)⟩
theorem pFrom_ok {n : Int} (h0 : -9223372036854775808 ≤ n) (h1 : n ≤ 9223372036854775807) : Ok Tryz.prog 29 [.c (.i .i64 n)] [dR (n : Rat)] := by
  refine Ok.of (by kernel_rfl) Tryz.func29 rfl rfl ?_
  rw [show Tryz.f29.ntmps = 6 from rfl, show Tryz.f29.results.toList = [.cell 2 28] from rfl]
  refine dw_seq ?_
  -- region 0
  refine dw_region (by kernel_rfl) ?_
  refine dl_new (sem_alloc zc28 rfl) rfl ?_
  refine dl_end ?_
  refine dw_seq ?_
  -- region 1
  refine dw_region (by kernel_rfl) ?_
  refine dl_r (sem_move rfl rfl) ?_
  refine dl_r (sem_call rfl rfl (iFrom_ok (by omega) (by omega)) rfl) ?_
  refine dl_r (sem_call rfl rfl (pWhole_ok) rfl) ?_
  refine dl_st (sem_store_a ty28 rfl rfl rfl rfl rfl rfl) ?_
  refine dl_end ?_
  refine dw_ret ?_
  -- path 
  exact ⟨.inr rfl, (resL_cell (us := cR (n : Rat)) ty28 rfl rfl rfl rfl resL_nil)⟩
theorem pExact_ok {x y : Int} (hx : Sz 1000000 x) (hy : Sz 1000000 y) (h0 : y ≠ 0) : Ok Tryz.prog 131 [dI x, dI y] [dI (x.fdiv y)] := by
  refine Ok.of (by kernel_rfl) Tryz.func131 rfl rfl ?_
  rw [show Tryz.f131.ntmps = 16 from rfl, show Tryz.f131.results.toList = [.cell 4 26] from rfl]
  refine dw_seq ?_
  -- region 0
  refine dw_region (by kernel_rfl) ?_
  refine dl_new (sem_box_a rfl rfl) rfl ?_
  refine dl_new (sem_box_a rfl rfl) rfl ?_
  refine dl_new (sem_alloc zc26 rfl) rfl ?_
  refine dl_end ?_
  refine dw_seq ?_
  -- region 1
  refine dw_region (by kernel_rfl) ?_
  refine dl_r (sem_load (us := cI x) ty26 rfl rfl rfl rfl rfl) ?_
  refine dl_r (sem_load (us := cI y) ty26 rfl rfl rfl rfl rfl) ?_
  refine dl_r (sem_call rfl rfl (iDivMod_ok (by first | assumption | exact Sz.mono hx (by decide)) (by first | assumption | exact Sz.mono hy (by decide)) (by assumption)) rfl) ?_
  refine dl_r (sem_move rfl rfl) ?_
  refine dl_r (sem_extract rfl rfl rfl) ?_
  refine dl_r (sem_extract rfl rfl rfl) ?_
  refine dl_r (sem_extract rfl rfl rfl) ?_
  refine dl_new (sem_alloc zc26 rfl) rfl ?_
  refine dl_new (sem_alloc zc26 rfl) rfl ?_
  refine dl_st (sem_store_a ty26 rfl rfl rfl rfl rfl rfl) ?_
  refine dl_st (sem_store_a ty26 rfl rfl rfl rfl rfl rfl) ?_
  refine dl_r (sem_assign rfl rfl) ?_
  refine dl_end ?_
  refine dw_seq ?_
  -- region 2
  refine dw_region (by kernel_rfl) ?_
  refine dl_r (sem_load (us := cI (x.fdiv y)) ty26 rfl rfl rfl rfl rfl) ?_
  refine dl_st (sem_store_a ty26 rfl rfl rfl rfl rfl rfl) ?_
  refine dl_end ?_
  refine dw_ret ?_
  -- path 
  exact ⟨.inr rfl, (resL_cell (us := cI (x.fdiv y)) ty26 rfl rfl rfl rfl resL_nil)⟩
theorem pReduce_ok {x y : Int} (hx : Sz 999 x) (hy : Sz 999 y) (h0 : y ≠ 0) : Ok Tryz.prog 84 [dI x, dI y] [dR (Rat.divInt x y)] := by
  have hg := gcd_ne (n := x) h0
  have hg2 := gcd_ne (n := -x) (d := -y) (by omega)
  have hgs := Sz.gcd (x := x) hy h0
  have hgs2 := Sz.gcd (x := -x) hy.neg (by omega)
  refine Ok.of (by kernel_rfl) Tryz.func84 rfl rfl ?_
  rw [show Tryz.f84.ntmps = 29 from rfl, show Tryz.f84.results.toList = [.cell 4 28] from rfl]
  refine dw_seq ?_
  -- region 0
  refine dw_region (by kernel_rfl) ?_
  refine dl_new (sem_box_a rfl rfl) rfl ?_
  refine dl_new (sem_box_a rfl rfl) rfl ?_
  refine dl_new (sem_alloc zc28 rfl) rfl ?_
  refine dl_end ?_
  refine dw_seq ?_
  refine dw_seq ?_
  -- region 1
  refine dw_region (by kernel_rfl) ?_
  refine dl_r (sem_load (us := cI y) ty26 rfl rfl rfl rfl rfl) ?_
  refine dl_r (sem_call rfl rfl (iSign_ok) rfl) ?_
  refine dl_r (sem_cmp rfl rfl rfl rfl) ?_
  refine dl_end ?_
  refine dw_cond rfl (fun hc1 => ?_) (fun hc1 => ?_)
  · have hn := t_lt hc1
    -- region 2
    refine dw_draw 4 [] follows_mixed (by kernel_rfl) rfl rfl ?_
    refine dq_r (sem_load (us := cI x) ty26 rfl rfl rfl rfl rfl) ?_
    refine dq_r (sem_call rfl rfl (iNeg_ok (by first | assumption | exact Sz.mono hx (by decide))) rfl) ?_
    refine dq_r (sem_load (us := cI y) ty26 rfl rfl rfl rfl rfl) ?_
    refine dq_r (sem_call rfl rfl (iNeg_ok (by first | assumption | exact Sz.mono hy (by decide))) rfl) ?_
    refine dq_end ?_
    refine dl_start0 ?_
    refine dl_st (sem_store_a ty26 rfl rfl rfl rfl rfl rfl) ?_
    refine dl_st (sem_store_a ty26 rfl rfl rfl rfl rfl rfl) ?_
    refine dl_end ?_
    refine dw_seq ?_
    refine dw_seq ?_
    -- region 3
    refine dw_region (by kernel_rfl) ?_
    refine dl_r (sem_load (us := cI (-x)) ty26 rfl rfl rfl rfl rfl) ?_
    refine dl_r (sem_load (us := cI (-y)) ty26 rfl rfl rfl rfl rfl) ?_
    refine dl_r (sem_call rfl rfl (iGCD_ok (by first | assumption | exact Sz.mono (Sz.neg hx) (by decide)) (by first | assumption | exact Sz.mono (Sz.neg hy) (by decide))) rfl) ?_
    refine dl_new (sem_alloc zc26 rfl) rfl ?_
    refine dl_st (sem_store_a ty26 rfl rfl rfl rfl rfl rfl) ?_
    refine dl_end ?_
    refine dw_seq ?_
    -- region 4
    refine dw_draw 4 [] follows_mixed (by kernel_rfl) rfl rfl ?_
    refine dq_r (sem_load (us := cI ((Int.gcd (-x) (-y) : Int))) ty26 rfl rfl rfl rfl rfl) ?_
    refine dq_r (sem_call rfl rfl (unit_ok) rfl) ?_
    refine dq_r (sem_call rfl rfl (iCmp_ok) rfl) ?_
    refine dq_r (sem_cmp rfl rfl rfl rfl) ?_
    refine dq_end ?_
    refine dl_start0 ?_
    refine dl_end ?_
    refine dw_cond rfl (fun hc2 => ?_) (fun hc2 => ?_)
    · -- region 5
      refine dw_draw 6 [] follows_mixed (by kernel_rfl) rfl rfl ?_
      refine dq_r (sem_load (us := cI (-x)) ty26 rfl rfl rfl rfl rfl) ?_
      refine dq_r (sem_load (us := cI ((Int.gcd (-x) (-y) : Int))) ty26 rfl rfl rfl rfl rfl) ?_
      refine dq_r (sem_call rfl rfl (pExact_ok (by first | assumption | exact Sz.mono (Sz.neg hx) (by decide)) (by first | assumption | exact Sz.mono (by assumption) (by decide)) (by first | assumption | exact neg_ne (by assumption) | exact mul_ne (by assumption) (by assumption))) rfl) ?_
      refine dq_r (sem_load (us := cI (-y)) ty26 rfl rfl rfl rfl rfl) ?_
      refine dq_r (sem_load (us := cI ((Int.gcd (-x) (-y) : Int))) ty26 rfl rfl rfl rfl rfl) ?_
      refine dq_r (sem_call rfl rfl (pExact_ok (by first | assumption | exact Sz.mono (Sz.neg hy) (by decide)) (by first | assumption | exact Sz.mono (by assumption) (by decide)) (by first | assumption | exact neg_ne (by assumption) | exact mul_ne (by assumption) (by assumption))) rfl) ?_
      refine dq_end ?_
      refine dl_start0 ?_
      refine dl_st (sem_store_a ty26 rfl rfl rfl rfl rfl rfl) ?_
      refine dl_st (sem_store_a ty26 rfl rfl rfl rfl rfl rfl) ?_
      refine dl_end ?_
      refine dw_seq ?_
      -- region 6
      refine dw_region (by kernel_rfl) ?_
      refine dl_r (sem_load (us := cI ((-x).fdiv ((Int.gcd (-x) (-y) : Int)))) ty26 rfl rfl rfl rfl rfl) ?_
      refine dl_r (sem_load (us := cI ((-y).fdiv ((Int.gcd (-x) (-y) : Int)))) ty26 rfl rfl rfl rfl rfl) ?_
      refine dl_r (sem_build (us := cQ ((-x).fdiv ((Int.gcd (-x) (-y) : Int))) ((-y).fdiv ((Int.gcd (-x) (-y) : Int)))) fs28 zc28 rfl rfl rfl) ?_
      refine dl_st (sem_store_a ty28 rfl rfl rfl rfl rfl rfl) ?_
      refine dl_end ?_
      refine dw_ret ?_
      -- path TT
      rw [dR_neg, dR_red (by omega)]
      exact ⟨.inr rfl, (resL_cell (us := cQ ((-x).fdiv ((Int.gcd (-x) (-y) : Int))) ((-y).fdiv ((Int.gcd (-x) (-y) : Int)))) ty28 rfl rfl rfl rfl resL_nil)⟩
    · refine dw_skip ?_
      refine dw_seq ?_
      -- region 6
      refine dw_region (by kernel_rfl) ?_
      refine dl_r (sem_load (us := cI (-x)) ty26 rfl rfl rfl rfl rfl) ?_
      refine dl_r (sem_load (us := cI (-y)) ty26 rfl rfl rfl rfl rfl) ?_
      refine dl_r (sem_build (us := cQ (-x) (-y)) fs28 zc28 rfl rfl rfl) ?_
      refine dl_st (sem_store_a ty28 rfl rfl rfl rfl rfl rfl) ?_
      refine dl_end ?_
      refine dw_ret ?_
      -- path TF
      rw [dR_neg, dR_red1 (by omega) (f_ne hc2)]
      exact ⟨.inr rfl, (resL_cell (us := cQ (-x) (-y)) ty28 rfl rfl rfl rfl resL_nil)⟩
  · have hn := f_lt hc1
    refine dw_skip ?_
    refine dw_seq ?_
    refine dw_seq ?_
    -- region 3
    refine dw_region (by kernel_rfl) ?_
    refine dl_r (sem_load (us := cI x) ty26 rfl rfl rfl rfl rfl) ?_
    refine dl_r (sem_load (us := cI y) ty26 rfl rfl rfl rfl rfl) ?_
    refine dl_r (sem_call rfl rfl (iGCD_ok (by first | assumption | exact Sz.mono hx (by decide)) (by first | assumption | exact Sz.mono hy (by decide))) rfl) ?_
    refine dl_new (sem_alloc zc26 rfl) rfl ?_
    refine dl_st (sem_store_a ty26 rfl rfl rfl rfl rfl rfl) ?_
    refine dl_end ?_
    refine dw_seq ?_
    -- region 4
    refine dw_draw 4 [] follows_mixed (by kernel_rfl) rfl rfl ?_
    refine dq_r (sem_load (us := cI (Int.gcd x y : Int)) ty26 rfl rfl rfl rfl rfl) ?_
    refine dq_r (sem_call rfl rfl (unit_ok) rfl) ?_
    refine dq_r (sem_call rfl rfl (iCmp_ok) rfl) ?_
    refine dq_r (sem_cmp rfl rfl rfl rfl) ?_
    refine dq_end ?_
    refine dl_start0 ?_
    refine dl_end ?_
    refine dw_cond rfl (fun hc3 => ?_) (fun hc3 => ?_)
    · -- region 5
      refine dw_draw 6 [] follows_mixed (by kernel_rfl) rfl rfl ?_
      refine dq_r (sem_load (us := cI x) ty26 rfl rfl rfl rfl rfl) ?_
      refine dq_r (sem_load (us := cI (Int.gcd x y : Int)) ty26 rfl rfl rfl rfl rfl) ?_
      refine dq_r (sem_call rfl rfl (pExact_ok (by first | assumption | exact Sz.mono hx (by decide)) (by first | assumption | exact Sz.mono (by assumption) (by decide)) (by first | assumption | exact neg_ne (by assumption) | exact mul_ne (by assumption) (by assumption))) rfl) ?_
      refine dq_r (sem_load (us := cI y) ty26 rfl rfl rfl rfl rfl) ?_
      refine dq_r (sem_load (us := cI (Int.gcd x y : Int)) ty26 rfl rfl rfl rfl rfl) ?_
      refine dq_r (sem_call rfl rfl (pExact_ok (by first | assumption | exact Sz.mono hy (by decide)) (by first | assumption | exact Sz.mono (by assumption) (by decide)) (by first | assumption | exact neg_ne (by assumption) | exact mul_ne (by assumption) (by assumption))) rfl) ?_
      refine dq_end ?_
      refine dl_start0 ?_
      refine dl_st (sem_store_a ty26 rfl rfl rfl rfl rfl rfl) ?_
      refine dl_st (sem_store_a ty26 rfl rfl rfl rfl rfl rfl) ?_
      refine dl_end ?_
      refine dw_seq ?_
      -- region 6
      refine dw_region (by kernel_rfl) ?_
      refine dl_r (sem_load (us := cI (x.fdiv (Int.gcd x y : Int))) ty26 rfl rfl rfl rfl rfl) ?_
      refine dl_r (sem_load (us := cI (y.fdiv (Int.gcd x y : Int))) ty26 rfl rfl rfl rfl rfl) ?_
      refine dl_r (sem_build (us := cQ (x.fdiv (Int.gcd x y : Int)) (y.fdiv (Int.gcd x y : Int))) fs28 zc28 rfl rfl rfl) ?_
      refine dl_st (sem_store_a ty28 rfl rfl rfl rfl rfl rfl) ?_
      refine dl_end ?_
      refine dw_ret ?_
      -- path FT
      rw [dR_red (by omega)]
      exact ⟨.inr rfl, (resL_cell (us := cQ (x.fdiv (Int.gcd x y : Int)) (y.fdiv (Int.gcd x y : Int))) ty28 rfl rfl rfl rfl resL_nil)⟩
    · refine dw_skip ?_
      refine dw_seq ?_
      -- region 6
      refine dw_region (by kernel_rfl) ?_
      refine dl_r (sem_load (us := cI x) ty26 rfl rfl rfl rfl rfl) ?_
      refine dl_r (sem_load (us := cI y) ty26 rfl rfl rfl rfl rfl) ?_
      refine dl_r (sem_build (us := cQ x y) fs28 zc28 rfl rfl rfl) ?_
      refine dl_st (sem_store_a ty28 rfl rfl rfl rfl rfl rfl) ?_
      refine dl_end ?_
      refine dw_ret ?_
      -- path FF
      rw [dR_red1 (by omega) (f_ne hc3)]
      exact ⟨.inr rfl, (resL_cell (us := cQ x y) ty28 rfl rfl rfl rfl resL_nil)⟩
theorem pMake_ok {x y : Int} (hx : Sz 999 x) (hy : Sz 999 y) (h0 : y ≠ 0) : Ok Tryz.prog 219 [dI x, dI y] [dR (Rat.divInt x y), .c (.i .i64 0)] := by
  refine Ok.of (by kernel_rfl) Tryz.func219 rfl rfl ?_
  rw [show Tryz.f219.ntmps = 13 from rfl, show Tryz.f219.results.toList = [.cell 4 28, .tmp 5] from rfl]
  refine dw_seq ?_
  -- region 0
  refine dw_region (by kernel_rfl) ?_
  refine dl_new (sem_box_a rfl rfl) rfl ?_
  refine dl_new (sem_box_a rfl rfl) rfl ?_
  refine dl_new (sem_alloc zc28 rfl) rfl ?_
  refine dl_r (sem_assign rfl rfl) ?_
  refine dl_end ?_
  refine dw_seq ?_
  refine dw_seq ?_
  -- region 1
  refine dw_region (by kernel_rfl) ?_
  refine dl_r (sem_load (us := cI y) ty26 rfl rfl rfl rfl rfl) ?_
  refine dl_r (sem_call rfl rfl (iSign_ok) rfl) ?_
  refine dl_r (sem_cmp rfl rfl rfl rfl) ?_
  refine dl_end ?_
  refine dw_cond rfl (fun hc1 => ?_) (fun hc1 => ?_)
  · exact absurd (t_eq hc1) h0
  · refine dw_skip ?_
    refine dw_seq ?_
    -- region 3
    refine dw_region (by kernel_rfl) ?_
    refine dl_r (sem_load (us := cI x) ty26 rfl rfl rfl rfl rfl) ?_
    refine dl_r (sem_load (us := cI y) ty26 rfl rfl rfl rfl rfl) ?_
    refine dl_r (sem_call rfl rfl (pReduce_ok (by first | assumption | exact Sz.mono hx (by decide)) (by first | assumption | exact Sz.mono hy (by decide)) (by first | assumption | exact neg_ne (by assumption) | exact mul_ne (by assumption) (by assumption))) rfl) ?_
    refine dl_st (sem_store_a ty28 rfl rfl rfl rfl rfl rfl) ?_
    refine dl_r (sem_assign rfl rfl) ?_
    refine dl_end ?_
    refine dw_ret ?_
    -- path F
    exact ⟨.inr rfl, (resL_cell (us := cR (Rat.divInt x y)) ty28 rfl rfl rfl rfl (resL_tmp rfl resL_nil))⟩
theorem pNeg_ok {x : Rat} (hx : Rz 300 x) : Ok Tryz.prog 31 [dR x] [dR (-x)] := by
  refine Ok.of (by kernel_rfl) Tryz.func31 rfl rfl ?_
  rw [show Tryz.f31.ntmps = 9 from rfl, show Tryz.f31.results.toList = [.cell 2 28] from rfl]
  refine dw_seq ?_
  -- region 0
  refine dw_region (by kernel_rfl) ?_
  refine dl_new (sem_box_a rfl rfl) rfl ?_
  refine dl_new (sem_alloc zc28 rfl) rfl ?_
  refine dl_end ?_
  refine dw_seq ?_
  -- region 1
  refine dw_draw 6 [] follows_mixed (by kernel_rfl) rfl rfl ?_
  refine dq_r (sem_field fd28_0 rfl rfl) ?_
  refine dq_r (sem_load (us := cI x.num) ty26 rfl rfl rfl rfl rfl) ?_
  refine dq_r (sem_call rfl rfl (iNeg_ok (by first | assumption | exact Sz.mono (Rz.n hx) (by decide))) rfl) ?_
  refine dq_r (sem_field fd28_1 rfl rfl) ?_
  refine dq_r (sem_load (us := cI (x.den : Int)) ty26 rfl rfl rfl rfl rfl) ?_
  refine dq_r (sem_build (us := cQ (-x.num) (x.den : Int)) fs28 zc28 rfl rfl rfl) ?_
  refine dq_end ?_
  refine dl_start0 ?_
  refine dl_st (sem_store_a ty28 rfl rfl rfl rfl rfl rfl) ?_
  refine dl_end ?_
  refine dw_ret ?_
  -- path 
  rw [dR_eq (Rat.neg_num x) (congrArg Int.ofNat (Rat.neg_den x))]
  exact ⟨.inr rfl, (resL_cell (us := cQ (-x.num) (x.den : Int)) ty28 rfl rfl rfl rfl resL_nil)⟩
theorem pAdd_ok {x y : Rat} (hx : Rz 300 x) (hy : Rz 300 y) : Ok Tryz.prog 83 [dR x, dR y] [dR (x + y)] := by
  have hn := mul_ne (den_ne x) (den_ne y)
  have hn1 := den_ne x
  refine Ok.of (by kernel_rfl) Tryz.func83 rfl rfl ?_
  rw [show Tryz.f83.ntmps = 36 from rfl, show Tryz.f83.results.toList = [.cell 4 28] from rfl]
  refine dw_seq ?_
  -- region 0
  refine dw_region (by kernel_rfl) ?_
  refine dl_new (sem_box_a rfl rfl) rfl ?_
  refine dl_new (sem_box_a rfl rfl) rfl ?_
  refine dl_new (sem_alloc zc28 rfl) rfl ?_
  refine dl_end ?_
  refine dw_seq ?_
  refine dw_seq ?_
  -- region 1
  refine dw_region (by kernel_rfl) ?_
  refine dl_r (sem_field fd28_1 rfl rfl) ?_
  refine dl_r (sem_load (us := cI (x.den : Int)) ty26 rfl rfl rfl rfl rfl) ?_
  refine dl_r (sem_field fd28_1 rfl rfl) ?_
  refine dl_r (sem_load (us := cI (y.den : Int)) ty26 rfl rfl rfl rfl rfl) ?_
  refine dl_r (sem_call rfl rfl (iCmp_ok) rfl) ?_
  refine dl_r (sem_cmp rfl rfl rfl rfl) ?_
  refine dl_end ?_
  refine dw_cond rfl (fun hc1 => ?_) (fun hc1 => ?_)
  · refine dw_seq ?_
    -- region 2
    refine dw_draw 8 [] follows_mixed (by kernel_rfl) rfl rfl ?_
    refine dq_r (sem_field fd28_0 rfl rfl) ?_
    refine dq_r (sem_load (us := cI x.num) ty26 rfl rfl rfl rfl rfl) ?_
    refine dq_r (sem_field fd28_0 rfl rfl) ?_
    refine dq_r (sem_load (us := cI y.num) ty26 rfl rfl rfl rfl rfl) ?_
    refine dq_r (sem_call rfl rfl (iAdd_ok (by first | assumption | exact Sz.mono (Rz.n hx) (by decide)) (by first | assumption | exact Sz.mono (Rz.n hy) (by decide))) rfl) ?_
    refine dq_r (sem_field fd28_1 rfl rfl) ?_
    refine dq_r (sem_load (us := cI (x.den : Int)) ty26 rfl rfl rfl rfl rfl) ?_
    refine dq_r (sem_call rfl rfl (pReduce_ok (by first | assumption | exact Sz.mono (Sz.addm (Rz.n hx) (Rz.n hy)) (by decide)) (by first | assumption | exact Sz.mono (Rz.d hx) (by decide)) (by first | assumption | exact neg_ne (by assumption) | exact mul_ne (by assumption) (by assumption))) rfl) ?_
    refine dq_end ?_
    refine dl_start0 ?_
    refine dl_st (sem_store_a ty28 rfl rfl rfl rfl rfl rfl) ?_
    refine dl_end ?_
    refine dw_ret ?_
    -- path T
    rw [← radd1 (t_eq hc1)]
    exact ⟨.inr rfl, (resL_cell (us := cR (Rat.divInt (x.num + y.num) (x.den : Int))) ty28 rfl rfl rfl rfl resL_nil)⟩
  · refine dw_skip ?_
    refine dw_seq ?_
    -- region 3
    refine dw_draw 17 [] follows_mixed (by kernel_rfl) rfl rfl ?_
    refine dq_r (sem_field fd28_0 rfl rfl) ?_
    refine dq_r (sem_load (us := cI x.num) ty26 rfl rfl rfl rfl rfl) ?_
    refine dq_r (sem_field fd28_1 rfl rfl) ?_
    refine dq_r (sem_load (us := cI (y.den : Int)) ty26 rfl rfl rfl rfl rfl) ?_
    refine dq_r (sem_call rfl rfl (iMul_ok (by first | assumption | exact Sz.mono (Rz.n hx) (by decide)) (by first | assumption | exact Sz.mono (Rz.d hy) (by decide))) rfl) ?_
    refine dq_r (sem_field fd28_0 rfl rfl) ?_
    refine dq_r (sem_load (us := cI y.num) ty26 rfl rfl rfl rfl rfl) ?_
    refine dq_r (sem_field fd28_1 rfl rfl) ?_
    refine dq_r (sem_load (us := cI (x.den : Int)) ty26 rfl rfl rfl rfl rfl) ?_
    refine dq_r (sem_call rfl rfl (iMul_ok (by first | assumption | exact Sz.mono (Rz.n hy) (by decide)) (by first | assumption | exact Sz.mono (Rz.d hx) (by decide))) rfl) ?_
    refine dq_r (sem_call rfl rfl (iAdd_ok (by first | assumption | exact Sz.mono (Sz.mul (Rz.n hx) (Rz.d hy)) (by decide)) (by first | assumption | exact Sz.mono (Sz.mul (Rz.n hy) (Rz.d hx)) (by decide))) rfl) ?_
    refine dq_r (sem_field fd28_1 rfl rfl) ?_
    refine dq_r (sem_load (us := cI (x.den : Int)) ty26 rfl rfl rfl rfl rfl) ?_
    refine dq_r (sem_field fd28_1 rfl rfl) ?_
    refine dq_r (sem_load (us := cI (y.den : Int)) ty26 rfl rfl rfl rfl rfl) ?_
    refine dq_r (sem_call rfl rfl (iMul_ok (by first | assumption | exact Sz.mono (Rz.d hx) (by decide)) (by first | assumption | exact Sz.mono (Rz.d hy) (by decide))) rfl) ?_
    refine dq_r (sem_call rfl rfl (pReduce_ok (by first | assumption | exact Sz.mono (Sz.addm (Sz.mul (Rz.n hx) (Rz.d hy)) (Sz.mul (Rz.n hy) (Rz.d hx))) (by decide)) (by first | assumption | exact Sz.mono (Sz.mul (Rz.d hx) (Rz.d hy)) (by decide)) (by first | assumption | exact neg_ne (by assumption) | exact mul_ne (by assumption) (by assumption))) rfl) ?_
    refine dq_end ?_
    refine dl_start0 ?_
    refine dl_st (sem_store_a ty28 rfl rfl rfl rfl rfl rfl) ?_
    refine dl_end ?_
    refine dw_ret ?_
    -- path F
    rw [← radd]
    exact ⟨.inr rfl, (resL_cell (us := cR (Rat.divInt ((x.num * (y.den : Int)) + (y.num * (x.den : Int))) ((x.den : Int) * (y.den : Int)))) ty28 rfl rfl rfl rfl resL_nil)⟩
theorem pSub_ok {x y : Rat} (hx : Rz 300 x) (hy : Rz 300 y) : Ok Tryz.prog 85 [dR x, dR y] [dR (x - y)] := by
  refine Ok.of (by kernel_rfl) Tryz.func85 rfl rfl ?_
  rw [show Tryz.f85.ntmps = 9 from rfl, show Tryz.f85.results.toList = [.cell 4 28] from rfl]
  refine dw_seq ?_
  -- region 0
  refine dw_region (by kernel_rfl) ?_
  refine dl_new (sem_box_a rfl rfl) rfl ?_
  refine dl_new (sem_box_a rfl rfl) rfl ?_
  refine dl_new (sem_alloc zc28 rfl) rfl ?_
  refine dl_end ?_
  refine dw_seq ?_
  -- region 1
  refine dw_draw 4 [] follows_mixed (by kernel_rfl) rfl rfl ?_
  refine dq_r (sem_load (us := cR x) ty28 rfl rfl rfl rfl rfl) ?_
  refine dq_r (sem_load (us := cR y) ty28 rfl rfl rfl rfl rfl) ?_
  refine dq_r (sem_call rfl rfl (pNeg_ok (by first | assumption | exact Rz.mono hy (by decide))) rfl) ?_
  refine dq_r (sem_call rfl rfl (pAdd_ok (by first | assumption | exact Rz.mono hx (by decide)) (by first | assumption | exact Rz.mono (Rz.neg hy) (by decide))) rfl) ?_
  refine dq_end ?_
  refine dl_start0 ?_
  refine dl_st (sem_store_a ty28 rfl rfl rfl rfl rfl rfl) ?_
  refine dl_end ?_
  refine dw_ret ?_
  -- path 
  rw [Rat.sub_eq_add_neg]
  exact ⟨.inr rfl, (resL_cell (us := cR (x + (-y))) ty28 rfl rfl rfl rfl resL_nil)⟩
theorem pMul_ok {x y : Rat} (hx : Rz 300 x) (hy : Rz 300 y) : Ok Tryz.prog 89 [dR x, dR y] [dR (x * y)] := by
  have hn := mul_ne (den_ne x) (den_ne y)
  refine Ok.of (by kernel_rfl) Tryz.func89 rfl rfl ?_
  rw [show Tryz.f89.ntmps = 16 from rfl, show Tryz.f89.results.toList = [.cell 4 28] from rfl]
  refine dw_seq ?_
  -- region 0
  refine dw_region (by kernel_rfl) ?_
  refine dl_new (sem_box_a rfl rfl) rfl ?_
  refine dl_new (sem_box_a rfl rfl) rfl ?_
  refine dl_new (sem_alloc zc28 rfl) rfl ?_
  refine dl_end ?_
  refine dw_seq ?_
  -- region 1
  refine dw_draw 11 [] follows_mixed (by kernel_rfl) rfl rfl ?_
  refine dq_r (sem_field fd28_0 rfl rfl) ?_
  refine dq_r (sem_load (us := cI x.num) ty26 rfl rfl rfl rfl rfl) ?_
  refine dq_r (sem_field fd28_0 rfl rfl) ?_
  refine dq_r (sem_load (us := cI y.num) ty26 rfl rfl rfl rfl rfl) ?_
  refine dq_r (sem_call rfl rfl (iMul_ok (by first | assumption | exact Sz.mono (Rz.n hx) (by decide)) (by first | assumption | exact Sz.mono (Rz.n hy) (by decide))) rfl) ?_
  refine dq_r (sem_field fd28_1 rfl rfl) ?_
  refine dq_r (sem_load (us := cI (x.den : Int)) ty26 rfl rfl rfl rfl rfl) ?_
  refine dq_r (sem_field fd28_1 rfl rfl) ?_
  refine dq_r (sem_load (us := cI (y.den : Int)) ty26 rfl rfl rfl rfl rfl) ?_
  refine dq_r (sem_call rfl rfl (iMul_ok (by first | assumption | exact Sz.mono (Rz.d hx) (by decide)) (by first | assumption | exact Sz.mono (Rz.d hy) (by decide))) rfl) ?_
  refine dq_r (sem_call rfl rfl (pReduce_ok (by first | assumption | exact Sz.mono (Sz.mul (Rz.n hx) (Rz.n hy)) (by decide)) (by first | assumption | exact Sz.mono (Sz.mul (Rz.d hx) (Rz.d hy)) (by decide)) (by first | assumption | exact neg_ne (by assumption) | exact mul_ne (by assumption) (by assumption))) rfl) ?_
  refine dq_end ?_
  refine dl_start0 ?_
  refine dl_st (sem_store_a ty28 rfl rfl rfl rfl rfl rfl) ?_
  refine dl_end ?_
  refine dw_ret ?_
  -- path 
  rw [← rmul]
  exact ⟨.inr rfl, (resL_cell (us := cR (Rat.divInt (x.num * y.num) ((x.den : Int) * (y.den : Int)))) ty28 rfl rfl rfl rfl resL_nil)⟩
theorem pDiv_ok {x y : Rat} (hx : Rz 300 x) (hy : Rz 300 y) (h0 : y ≠ 0) : Ok Tryz.prog 45 [dR x, dR y] [dR (x / y), .c (.i .i64 0)] := by
  have hn := mul_ne (den_ne x) (num_ne h0)
  refine Ok.of (by kernel_rfl) Tryz.func45 rfl rfl ?_
  rw [show Tryz.f45.ntmps = 21 from rfl, show Tryz.f45.results.toList = [.cell 4 28, .tmp 5] from rfl]
  refine dw_seq ?_
  -- region 0
  refine dw_region (by kernel_rfl) ?_
  refine dl_new (sem_box_a rfl rfl) rfl ?_
  refine dl_new (sem_box_a rfl rfl) rfl ?_
  refine dl_new (sem_alloc zc28 rfl) rfl ?_
  refine dl_r (sem_assign rfl rfl) ?_
  refine dl_end ?_
  refine dw_seq ?_
  refine dw_seq ?_
  -- region 1
  refine dw_region (by kernel_rfl) ?_
  refine dl_r (sem_load (us := cR y) ty28 rfl rfl rfl rfl rfl) ?_
  refine dl_r (sem_call rfl rfl (pSign_ok) rfl) ?_
  refine dl_r (sem_cmp rfl rfl rfl rfl) ?_
  refine dl_end ?_
  refine dw_cond rfl (fun hc1 => ?_) (fun hc1 => ?_)
  · exact absurd (cmpR_t0 hc1) h0
  · refine dw_skip ?_
    refine dw_seq ?_
    -- region 3
    refine dw_draw 11 [] follows_mixed (by kernel_rfl) rfl rfl ?_
    refine dq_r (sem_field fd28_0 rfl rfl) ?_
    refine dq_r (sem_load (us := cI x.num) ty26 rfl rfl rfl rfl rfl) ?_
    refine dq_r (sem_field fd28_1 rfl rfl) ?_
    refine dq_r (sem_load (us := cI (y.den : Int)) ty26 rfl rfl rfl rfl rfl) ?_
    refine dq_r (sem_call rfl rfl (iMul_ok (by first | assumption | exact Sz.mono (Rz.n hx) (by decide)) (by first | assumption | exact Sz.mono (Rz.d hy) (by decide))) rfl) ?_
    refine dq_r (sem_field fd28_1 rfl rfl) ?_
    refine dq_r (sem_load (us := cI (x.den : Int)) ty26 rfl rfl rfl rfl rfl) ?_
    refine dq_r (sem_field fd28_0 rfl rfl) ?_
    refine dq_r (sem_load (us := cI y.num) ty26 rfl rfl rfl rfl rfl) ?_
    refine dq_r (sem_call rfl rfl (iMul_ok (by first | assumption | exact Sz.mono (Rz.d hx) (by decide)) (by first | assumption | exact Sz.mono (Rz.n hy) (by decide))) rfl) ?_
    refine dq_r (sem_call rfl rfl (pReduce_ok (by first | assumption | exact Sz.mono (Sz.mul (Rz.n hx) (Rz.d hy)) (by decide)) (by first | assumption | exact Sz.mono (Sz.mul (Rz.d hx) (Rz.n hy)) (by decide)) (by first | assumption | exact neg_ne (by assumption) | exact mul_ne (by assumption) (by assumption))) rfl) ?_
    refine dq_end ?_
    refine dl_start0 ?_
    refine dl_st (sem_store_a ty28 rfl rfl rfl rfl rfl rfl) ?_
    refine dl_r (sem_assign rfl rfl) ?_
    refine dl_end ?_
    refine dw_ret ?_
    -- path F
    rw [← rdiv]
    exact ⟨.inr rfl, (resL_cell (us := cR (Rat.divInt (x.num * (y.den : Int)) ((x.den : Int) * y.num))) ty28 rfl rfl rfl rfl (resL_tmp rfl resL_nil))⟩
theorem pCmp_ok {x y : Rat} (hx : Rz 300 x) (hy : Rz 300 y) : Ok Tryz.prog 30 [dR x, dR y] [.c (.i .i64 (cmpR x y))] := by
  refine Ok.of (by kernel_rfl) Tryz.func30 rfl rfl ?_
  rw [show Tryz.f30.ntmps = 25 from rfl, show Tryz.f30.results.toList = [.tmp 4] from rfl]
  refine dw_seq ?_
  -- region 0
  refine dw_region (by kernel_rfl) ?_
  refine dl_new (sem_box_a rfl rfl) rfl ?_
  refine dl_new (sem_box_a rfl rfl) rfl ?_
  refine dl_r (sem_assign rfl rfl) ?_
  refine dl_end ?_
  refine dw_seq ?_
  refine dw_seq ?_
  -- region 1
  refine dw_draw 6 [] follows_mixed (by kernel_rfl) rfl rfl ?_
  refine dq_r (sem_load (us := cR x) ty28 rfl rfl rfl rfl rfl) ?_
  refine dq_r (sem_call rfl rfl (pSign_ok) rfl) ?_
  refine dq_r (sem_load (us := cR y) ty28 rfl rfl rfl rfl rfl) ?_
  refine dq_r (sem_call rfl rfl (pSign_ok) rfl) ?_
  refine dq_r (sem_call rfl rfl (cmpInt_ok) rfl) ?_
  refine dq_r (sem_assign rfl rfl) ?_
  refine dq_end ?_
  refine dl_start0 ?_
  refine dl_end ?_
  refine dw_seq ?_
  -- region 2
  refine dw_region (by kernel_rfl) ?_
  refine dl_r (sem_move rfl rfl) ?_
  refine dl_r (sem_cmp rfl rfl rfl rfl) ?_
  refine dl_end ?_
  refine dw_cond rfl (fun hc1 => ?_) (fun hc1 => ?_)
  · refine dw_seq ?_
    -- region 3
    refine dw_region (by kernel_rfl) ?_
    refine dl_r (sem_move rfl rfl) ?_
    refine dl_r (sem_assign rfl rfl) ?_
    refine dl_end ?_
    refine dw_ret ?_
    -- path T
    rw [← cmpR_signs hc1]
    exact ⟨.inr rfl, (resL_tmp rfl resL_nil)⟩
  · refine dw_skip ?_
    refine dw_seq ?_
    -- region 4
    refine dw_draw 12 [] follows_mixed (by kernel_rfl) rfl rfl ?_
    refine dq_r (sem_field fd28_0 rfl rfl) ?_
    refine dq_r (sem_load (us := cI x.num) ty26 rfl rfl rfl rfl rfl) ?_
    refine dq_r (sem_field fd28_1 rfl rfl) ?_
    refine dq_r (sem_load (us := cI (y.den : Int)) ty26 rfl rfl rfl rfl rfl) ?_
    refine dq_r (sem_call rfl rfl (iMul_ok (by first | assumption | exact Sz.mono (Rz.n hx) (by decide)) (by first | assumption | exact Sz.mono (Rz.d hy) (by decide))) rfl) ?_
    refine dq_r (sem_field fd28_0 rfl rfl) ?_
    refine dq_r (sem_load (us := cI y.num) ty26 rfl rfl rfl rfl rfl) ?_
    refine dq_r (sem_field fd28_1 rfl rfl) ?_
    refine dq_r (sem_load (us := cI (x.den : Int)) ty26 rfl rfl rfl rfl rfl) ?_
    refine dq_r (sem_call rfl rfl (iMul_ok (by first | assumption | exact Sz.mono (Rz.n hy) (by decide)) (by first | assumption | exact Sz.mono (Rz.d hx) (by decide))) rfl) ?_
    refine dq_r (sem_call rfl rfl (iCmp_ok) rfl) ?_
    refine dq_r (sem_assign rfl rfl) ?_
    refine dq_end ?_
    refine dl_start0 ?_
    refine dl_end ?_
    refine dw_ret ?_
    -- path F
    rw [cmpR_mul (x := x) (y := y)]
    exact ⟨.inr rfl, (resL_tmp rfl resL_nil)⟩
theorem pFloor_ok {x : Rat} (hx : Rz 300 x) : Ok Tryz.prog 229 [dR x] [dI (x.num.fdiv (x.den : Int))] := by
  have hn1 := den_ne x
  refine Ok.of (by kernel_rfl) Tryz.func229 rfl rfl ?_
  rw [show Tryz.f229.ntmps = 16 from rfl, show Tryz.f229.results.toList = [.cell 2 26] from rfl]
  refine dw_seq ?_
  -- region 0
  refine dw_region (by kernel_rfl) ?_
  refine dl_new (sem_box_a rfl rfl) rfl ?_
  refine dl_new (sem_alloc zc26 rfl) rfl ?_
  refine dl_end ?_
  refine dw_seq ?_
  -- region 1
  refine dw_region (by kernel_rfl) ?_
  refine dl_r (sem_field fd28_0 rfl rfl) ?_
  refine dl_r (sem_load (us := cI x.num) ty26 rfl rfl rfl rfl rfl) ?_
  refine dl_r (sem_field fd28_1 rfl rfl) ?_
  refine dl_r (sem_load (us := cI (x.den : Int)) ty26 rfl rfl rfl rfl rfl) ?_
  refine dl_r (sem_call rfl rfl (iDivMod_ok (by first | assumption | exact Sz.mono (Rz.n hx) (by decide)) (by first | assumption | exact Sz.mono (Rz.d hx) (by decide)) (by assumption)) rfl) ?_
  refine dl_r (sem_move rfl rfl) ?_
  refine dl_r (sem_extract rfl rfl rfl) ?_
  refine dl_r (sem_extract rfl rfl rfl) ?_
  refine dl_r (sem_extract rfl rfl rfl) ?_
  refine dl_new (sem_alloc zc26 rfl) rfl ?_
  refine dl_new (sem_alloc zc26 rfl) rfl ?_
  refine dl_st (sem_store_a ty26 rfl rfl rfl rfl rfl rfl) ?_
  refine dl_st (sem_store_a ty26 rfl rfl rfl rfl rfl rfl) ?_
  refine dl_r (sem_assign rfl rfl) ?_
  refine dl_end ?_
  refine dw_seq ?_
  -- region 2
  refine dw_region (by kernel_rfl) ?_
  refine dl_r (sem_load (us := cI (x.num.fdiv (x.den : Int))) ty26 rfl rfl rfl rfl rfl) ?_
  refine dl_st (sem_store_a ty26 rfl rfl rfl rfl rfl rfl) ?_
  refine dl_end ?_
  refine dw_ret ?_
  -- path 
  exact ⟨.inr rfl, (resL_cell (us := cI (x.num.fdiv (x.den : Int))) ty26 rfl rfl rfl rfl resL_nil)⟩
theorem pSide_ok {x : Int} (hx : Sz 300 x) : Ok Tryz.prog 269 [dI x] [dI (isqI x), .c (.b (sqI x))] := by
  have hs := Sz.isq hx
  refine Ok.of (by kernel_rfl) Tryz.func269 rfl rfl ?_
  rw [show Tryz.f269.ntmps = 22 from rfl, show Tryz.f269.results.toList = [.cell 2 26, .tmp 3] from rfl]
  refine dw_seq ?_
  -- region 0
  refine dw_region (by kernel_rfl) ?_
  refine dl_new (sem_box_a rfl rfl) rfl ?_
  refine dl_new (sem_alloc zc26 rfl) rfl ?_
  refine dl_r (sem_assign rfl rfl) ?_
  refine dl_end ?_
  refine dw_seq ?_
  -- region 1
  refine dw_region (by kernel_rfl) ?_
  refine dl_r (sem_load (us := cI x) ty26 rfl rfl rfl rfl rfl) ?_
  refine dl_r (sem_call rfl rfl (iSqrt_ok (by first | assumption | exact Sz.mono hx (by decide))) rfl) ?_
  refine dl_r (sem_move rfl rfl) ?_
  refine dl_r (sem_extract rfl rfl rfl) ?_
  refine dl_r (sem_extract rfl rfl rfl) ?_
  refine dl_new (sem_alloc zc26 rfl) rfl ?_
  refine dl_st (sem_store_a ty26 rfl rfl rfl rfl rfl rfl) ?_
  refine dl_r (sem_assign rfl rfl) ?_
  refine dl_end ?_
  refine dw_seq ?_
  -- region 2
  refine dw_draw 13 [2] follows_mixed (by kernel_rfl) rfl rfl ?_
  refine dq_r (sem_load (us := cI (isqI x)) ty26 rfl rfl rfl rfl rfl) ?_
  refine dq_r (sem_move rfl rfl) ?_
  refine dq_r (sem_cmp rfl rfl rfl rfl) ?_
  refine dq_rb (sem_move rfl rfl) (fun c1 hb1 => ?_)
  cases c1
  · refine dq_skip (sem_skip rfl) ?_
    refine dq_skip (sem_skip rfl) ?_
    refine dq_skip (sem_skip rfl) ?_
    refine dq_skip (sem_skip rfl) ?_
    refine dq_skip (sem_skip rfl) ?_
    refine dq_skip (sem_skip rfl) ?_
    refine dq_r (sem_pick rfl rfl rfl rfl) ?_
    refine dq_st (sem_store_a ty26 rfl rfl rfl rfl rfl rfl) rfl rfl rfl rfl ?_
    refine dq_r (sem_assign rfl rfl) ?_
    refine dq_end ?_
    refine dl_start1 ?_
    refine dl_end ?_
    refine dw_ret ?_
    -- path f
    rw [sqI_neg (e7 hb1)]
    exact ⟨.inr rfl, (resL_cell (us := cI (isqI x)) ty26 rfl rfl rfl rfl (resL_tmp rfl resL_nil))⟩
  · refine dq_r (sem_load (us := cI (isqI x)) ty26 rfl rfl rfl rfl rfl) ?_
    refine dq_r (sem_load (us := cI (isqI x)) ty26 rfl rfl rfl rfl rfl) ?_
    refine dq_r (sem_call rfl rfl (iMul_ok (by first | assumption | exact Sz.mono (Sz.isq hx) (by decide)) (by first | assumption | exact Sz.mono (Sz.isq hx) (by decide))) rfl) ?_
    refine dq_r (sem_load (us := cI x) ty26 rfl rfl rfl rfl rfl) ?_
    refine dq_r (sem_call rfl rfl (iCmp_ok) rfl) ?_
    refine dq_r (sem_cmp rfl rfl rfl rfl) ?_
    refine dq_r (sem_pick rfl rfl rfl rfl) ?_
    refine dq_st (sem_store_a ty26 rfl rfl rfl rfl rfl rfl) rfl rfl rfl rfl ?_
    refine dq_r (sem_assign rfl rfl) ?_
    refine dq_end ?_
    refine dl_start1 ?_
    refine dl_end ?_
    refine dw_ret ?_
    -- path t
    rw [sqI_cmp]
    exact ⟨.inr rfl, (resL_cell (us := cI (isqI x)) ty26 rfl rfl rfl rfl (resL_tmp rfl resL_nil))⟩
theorem pSqrt_ok {x : Rat} (hx : Rz 300 x) : Ok Tryz.prog 225 [dR x] [dQ (if sqR x then isqI x.num else 0) (if sqR x then isqI (x.den : Int) else 0), .c (.b (sqR x))] := by
  refine Ok.of (by kernel_rfl) Tryz.func225 rfl rfl ?_
  rw [show Tryz.f225.ntmps = 26 from rfl, show Tryz.f225.results.toList = [.cell 2 28, .tmp 3] from rfl]
  refine dw_seq ?_
  -- region 0
  refine dw_region (by kernel_rfl) ?_
  refine dl_new (sem_box_a rfl rfl) rfl ?_
  refine dl_new (sem_alloc zc28 rfl) rfl ?_
  refine dl_r (sem_assign rfl rfl) ?_
  refine dl_end ?_
  refine dw_seq ?_
  refine dw_seq ?_
  -- region 1
  refine dw_region (by kernel_rfl) ?_
  refine dl_r (sem_field fd28_0 rfl rfl) ?_
  refine dl_r (sem_load (us := cI x.num) ty26 rfl rfl rfl rfl rfl) ?_
  refine dl_r (sem_call rfl rfl (pSide_ok (by first | assumption | exact Sz.mono (Rz.n hx) (by decide))) rfl) ?_
  refine dl_r (sem_move rfl rfl) ?_
  refine dl_r (sem_extract rfl rfl rfl) ?_
  refine dl_r (sem_extract rfl rfl rfl) ?_
  refine dl_new (sem_alloc zc26 rfl) rfl ?_
  refine dl_st (sem_store_a ty26 rfl rfl rfl rfl rfl rfl) ?_
  refine dl_r (sem_assign rfl rfl) ?_
  refine dl_end ?_
  refine dw_seq ?_
  -- region 2
  refine dw_region (by kernel_rfl) ?_
  refine dl_r (sem_move rfl rfl) ?_
  refine dl_end ?_
  refine dw_cond rfl (fun hc1 => ?_) (fun hc1 => ?_)
  · refine dw_seq ?_
    -- region 3
    refine dw_region (by kernel_rfl) ?_
    refine dl_r (sem_field fd28_1 rfl rfl) ?_
    refine dl_r (sem_load (us := cI (x.den : Int)) ty26 rfl rfl rfl rfl rfl) ?_
    refine dl_r (sem_call rfl rfl (pSide_ok (by first | assumption | exact Sz.mono (Rz.d hx) (by decide))) rfl) ?_
    refine dl_r (sem_move rfl rfl) ?_
    refine dl_r (sem_extract rfl rfl rfl) ?_
    refine dl_r (sem_extract rfl rfl rfl) ?_
    refine dl_new (sem_alloc zc26 rfl) rfl ?_
    refine dl_st (sem_store_a ty26 rfl rfl rfl rfl rfl rfl) ?_
    refine dl_r (sem_assign rfl rfl) ?_
    refine dl_end ?_
    refine dw_seq ?_
    -- region 4
    refine dw_region (by kernel_rfl) ?_
    refine dl_r (sem_move rfl rfl) ?_
    refine dl_end ?_
    refine dw_cond rfl (fun hc2 => ?_) (fun hc2 => ?_)
    · refine dw_seq ?_
      -- region 5
      refine dw_region (by kernel_rfl) ?_
      refine dl_r (sem_load (us := cI (isqI x.num)) ty26 rfl rfl rfl rfl rfl) ?_
      refine dl_r (sem_load (us := cI (isqI (x.den : Int))) ty26 rfl rfl rfl rfl rfl) ?_
      refine dl_r (sem_build (us := cQ (isqI x.num) (isqI (x.den : Int))) fs28 zc28 rfl rfl rfl) ?_
      refine dl_st (sem_store_a ty28 rfl rfl rfl rfl rfl rfl) ?_
      refine dl_r (sem_assign rfl rfl) ?_
      refine dl_end ?_
      refine dw_ret ?_
      -- path TT
      rw [sqR_t hc1 hc2, if_pos rfl, if_pos rfl]
      exact ⟨.inr rfl, (resL_cell (us := cQ (isqI x.num) (isqI (x.den : Int))) ty28 rfl rfl rfl rfl (resL_tmp rfl resL_nil))⟩
    · refine dw_skip ?_
      refine dw_seq ?_
      -- region 6
      refine dw_region (by kernel_rfl) ?_
      refine dl_r (sem_build (us := (([.b false] ++ [.s 0 []]) ++ ([.b false] ++ [.s 0 []]))) fs28 zc28 rfl rfl rfl) ?_
      refine dl_st (sem_store_a ty28 rfl rfl rfl rfl rfl rfl) ?_
      refine dl_r (sem_assign rfl rfl) ?_
      refine dl_end ?_
      refine dw_ret ?_
      -- path TF
      rw [sqR_f2 hc2, if_neg (by decide), if_neg (by decide), dQ_zero]
      exact ⟨.inr rfl, (resL_cell (us := (([.b false] ++ [.s 0 []]) ++ ([.b false] ++ [.s 0 []]))) ty28 rfl rfl rfl rfl (resL_tmp rfl resL_nil))⟩
  · refine dw_skip ?_
    refine dw_seq ?_
    -- region 6
    refine dw_region (by kernel_rfl) ?_
    refine dl_r (sem_build (us := (([.b false] ++ [.s 0 []]) ++ ([.b false] ++ [.s 0 []]))) fs28 zc28 rfl rfl rfl) ?_
    refine dl_st (sem_store_a ty28 rfl rfl rfl rfl rfl rfl) ?_
    refine dl_r (sem_assign rfl rfl) ?_
    refine dl_end ?_
    refine dw_ret ?_
    -- path F
    rw [sqR_f1 hc1, if_neg (by decide), if_neg (by decide), dQ_zero]
    exact ⟨.inr rfl, (resL_cell (us := (([.b false] ++ [.s 0 []]) ++ ([.b false] ++ [.s 0 []]))) ty28 rfl rfl rfl rfl (resL_tmp rfl resL_nil))⟩
end Go.Proofs.YtedlgdliniokiaaGreat
/- The greatest step for an engagement: the program. -/
namespace Go.Proofs.YtedlgdliniokiaaGreat
open Go Go.RowKit
theorem eAdd_ok {x y : Rat} (hx : Rz 300 x) (hy : Rz 300 y) : Ok Tryz.prog 44 [dR x, dR y] [dR (x + y)] := by
  refine Ok.of (by kernel_rfl) Tryz.func44 rfl rfl ?_
  rw [show Tryz.f44.ntmps = 8 from rfl, show Tryz.f44.results.toList = [.cell 4 28] from rfl]
  refine dw_seq ?_
  -- region 0
  refine dw_region (by kernel_rfl) ?_
  refine dl_new (sem_box_a rfl rfl) rfl ?_
  refine dl_new (sem_box_a rfl rfl) rfl ?_
  refine dl_new (sem_alloc zc28 rfl) rfl ?_
  refine dl_end ?_
  refine dw_seq ?_
  -- region 1
  refine dw_region (by kernel_rfl) ?_
  refine dl_r (sem_load (us := cR x) ty28 rfl rfl rfl rfl rfl) ?_
  refine dl_r (sem_load (us := cR y) ty28 rfl rfl rfl rfl rfl) ?_
  refine dl_r (sem_call rfl rfl (pAdd_ok (by first | assumption | exact Rz.mono hx (by decide)) (by first | assumption | exact Rz.mono hy (by decide))) rfl) ?_
  refine dl_st (sem_store_a ty28 rfl rfl rfl rfl rfl rfl) ?_
  refine dl_end ?_
  refine dw_ret ?_
  -- path 
  exact ⟨.inr rfl, (resL_cell (us := cR (x + y)) ty28 rfl rfl rfl rfl resL_nil)⟩
theorem eSub_ok {x y : Rat} (hx : Rz 300 x) (hy : Rz 300 y) : Ok Tryz.prog 46 [dR x, dR y] [dR (x - y)] := by
  refine Ok.of (by kernel_rfl) Tryz.func46 rfl rfl ?_
  rw [show Tryz.f46.ntmps = 8 from rfl, show Tryz.f46.results.toList = [.cell 4 28] from rfl]
  refine dw_seq ?_
  -- region 0
  refine dw_region (by kernel_rfl) ?_
  refine dl_new (sem_box_a rfl rfl) rfl ?_
  refine dl_new (sem_box_a rfl rfl) rfl ?_
  refine dl_new (sem_alloc zc28 rfl) rfl ?_
  refine dl_end ?_
  refine dw_seq ?_
  -- region 1
  refine dw_region (by kernel_rfl) ?_
  refine dl_r (sem_load (us := cR x) ty28 rfl rfl rfl rfl rfl) ?_
  refine dl_r (sem_load (us := cR y) ty28 rfl rfl rfl rfl rfl) ?_
  refine dl_r (sem_call rfl rfl (pSub_ok (by first | assumption | exact Rz.mono hx (by decide)) (by first | assumption | exact Rz.mono hy (by decide))) rfl) ?_
  refine dl_st (sem_store_a ty28 rfl rfl rfl rfl rfl rfl) ?_
  refine dl_end ?_
  refine dw_ret ?_
  -- path 
  exact ⟨.inr rfl, (resL_cell (us := cR (x - y)) ty28 rfl rfl rfl rfl resL_nil)⟩
theorem eMul_ok {x y : Rat} (hx : Rz 300 x) (hy : Rz 300 y) : Ok Tryz.prog 50 [dR x, dR y] [dR (x * y)] := by
  refine Ok.of (by kernel_rfl) Tryz.func50 rfl rfl ?_
  rw [show Tryz.f50.ntmps = 8 from rfl, show Tryz.f50.results.toList = [.cell 4 28] from rfl]
  refine dw_seq ?_
  -- region 0
  refine dw_region (by kernel_rfl) ?_
  refine dl_new (sem_box_a rfl rfl) rfl ?_
  refine dl_new (sem_box_a rfl rfl) rfl ?_
  refine dl_new (sem_alloc zc28 rfl) rfl ?_
  refine dl_end ?_
  refine dw_seq ?_
  -- region 1
  refine dw_region (by kernel_rfl) ?_
  refine dl_r (sem_load (us := cR x) ty28 rfl rfl rfl rfl rfl) ?_
  refine dl_r (sem_load (us := cR y) ty28 rfl rfl rfl rfl rfl) ?_
  refine dl_r (sem_call rfl rfl (pMul_ok (by first | assumption | exact Rz.mono hx (by decide)) (by first | assumption | exact Rz.mono hy (by decide))) rfl) ?_
  refine dl_st (sem_store_a ty28 rfl rfl rfl rfl rfl rfl) ?_
  refine dl_end ?_
  refine dw_ret ?_
  -- path 
  exact ⟨.inr rfl, (resL_cell (us := cR (x * y)) ty28 rfl rfl rfl rfl resL_nil)⟩
theorem eCos_ok {x : Rat} (hx : Rz 300 x) : Ok Tryz.prog 38 [dR x] [.c (.b (cosB x))] := by
  refine Ok.of (by kernel_rfl) Tryz.func38 rfl rfl ?_
  rw [show Tryz.f38.ntmps = 16 from rfl, show Tryz.f38.results.toList = [.tmp 2] from rfl]
  refine dw_seq ?_
  -- region 0
  refine dw_region (by kernel_rfl) ?_
  refine dl_new (sem_box_a rfl rfl) rfl ?_
  refine dl_r (sem_assign rfl rfl) ?_
  refine dl_end ?_
  refine dw_seq ?_
  -- region 1
  refine dw_region (by kernel_rfl) ?_
  refine dl_r (sem_call rfl rfl (pFrom_ok (by omega) (by omega)) rfl) ?_
  refine dl_new (sem_alloc zc28 rfl) rfl ?_
  refine dl_st (sem_store_a ty28 rfl rfl rfl rfl rfl rfl) ?_
  refine dl_end ?_
  refine dw_seq ?_
  -- region 2
  refine dw_draw 12 [] follows_mixed (by kernel_rfl) rfl rfl ?_
  refine dq_r (sem_load (us := cR x) ty28 rfl rfl rfl rfl rfl) ?_
  refine dq_r (sem_load (us := cR (((1 : Int) : Rat))) ty28 rfl rfl rfl rfl rfl) ?_
  refine dq_r (sem_call rfl rfl (pCmp_ok (by first | assumption | exact Rz.mono hx (by decide)) (by first | assumption | exact Rz.mono (Rz.int (Sz.small (k := 3) (by decide) (by decide) (by decide)) (by decide)) (by decide))) rfl) ?_
  refine dq_r (sem_cmp rfl rfl rfl rfl) ?_
  refine dq_rb (sem_move rfl rfl) (fun c1 hb1 => ?_)
  cases c1
  · refine dq_skip (sem_skip rfl) ?_
    refine dq_skip (sem_skip rfl) ?_
    refine dq_skip (sem_skip rfl) ?_
    refine dq_skip (sem_skip rfl) ?_
    refine dq_skip (sem_skip rfl) ?_
    refine dq_r (sem_pick rfl rfl rfl rfl) ?_
    refine dq_r (sem_assign rfl rfl) ?_
    refine dq_end ?_
    refine dl_start0 ?_
    refine dl_end ?_
    refine dw_ret ?_
    -- path f
    rw [cosB_f hb1]
    exact ⟨.inr rfl, (resL_tmp rfl resL_nil)⟩
  · refine dq_r (sem_load (us := cR x) ty28 rfl rfl rfl rfl rfl) ?_
    refine dq_r (sem_call rfl rfl (pNeg_ok (by first | assumption | exact Rz.mono hx (by decide))) rfl) ?_
    refine dq_r (sem_load (us := cR (((1 : Int) : Rat))) ty28 rfl rfl rfl rfl rfl) ?_
    refine dq_r (sem_call rfl rfl (pCmp_ok (by first | assumption | exact Rz.mono (Rz.neg hx) (by decide)) (by first | assumption | exact Rz.mono (Rz.int (Sz.small (k := 3) (by decide) (by decide) (by decide)) (by decide)) (by decide))) rfl) ?_
    refine dq_r (sem_cmp rfl rfl rfl rfl) ?_
    refine dq_r (sem_pick rfl rfl rfl rfl) ?_
    refine dq_r (sem_assign rfl rfl) ?_
    refine dq_end ?_
    refine dl_start0 ?_
    refine dl_end ?_
    refine dw_ret ?_
    -- path t
    rw [cosB_t hb1]
    exact ⟨.inr rfl, (resL_tmp rfl resL_nil)⟩
-- no function swarf/trochoid.cosine in this seat
theorem eHalf_ok {R r e : Rat} (hR : Rz 20 R) (hr : Rz 20 r) (he : Rz 20 e) (h0 : ((2 : Int) : Rat) * (e * r) ≠ 0) : Ok Tryz.prog 28 [dR R, dR r, dR e] [dR (hfQ R r e)] := by
  refine Ok.of (by kernel_rfl) Tryz.func28 rfl rfl ?_
  rw [show Tryz.f28.ntmps = 35 from rfl, show Tryz.f28.results.toList = [.cell 6 28] from rfl]
  refine dw_seq ?_
  -- region 0
  refine dw_region (by kernel_rfl) ?_
  refine dl_new (sem_box_a rfl rfl) rfl ?_
  refine dl_new (sem_box_a rfl rfl) rfl ?_
  refine dl_new (sem_box_a rfl rfl) rfl ?_
  refine dl_new (sem_alloc zc28 rfl) rfl ?_
  refine dl_end ?_
  refine dw_seq ?_
  -- region 1
  refine dw_draw 12 [] follows_mixed (by kernel_rfl) rfl rfl ?_
  refine dq_r (sem_load (us := cR R) ty28 rfl rfl rfl rfl rfl) ?_
  refine dq_r (sem_load (us := cR R) ty28 rfl rfl rfl rfl rfl) ?_
  refine dq_r (sem_call rfl rfl (eMul_ok (by first | assumption | exact Rz.mono hR (by decide)) (by first | assumption | exact Rz.mono hR (by decide))) rfl) ?_
  refine dq_r (sem_load (us := cR e) ty28 rfl rfl rfl rfl rfl) ?_
  refine dq_r (sem_load (us := cR e) ty28 rfl rfl rfl rfl rfl) ?_
  refine dq_r (sem_call rfl rfl (eMul_ok (by first | assumption | exact Rz.mono he (by decide)) (by first | assumption | exact Rz.mono he (by decide))) rfl) ?_
  refine dq_r (sem_call rfl rfl (eSub_ok (by first | assumption | exact Rz.mono (Rz.mul hR hR) (by decide)) (by first | assumption | exact Rz.mono (Rz.mul he he) (by decide))) rfl) ?_
  refine dq_r (sem_load (us := cR r) ty28 rfl rfl rfl rfl rfl) ?_
  refine dq_r (sem_load (us := cR r) ty28 rfl rfl rfl rfl rfl) ?_
  refine dq_r (sem_call rfl rfl (eMul_ok (by first | assumption | exact Rz.mono hr (by decide)) (by first | assumption | exact Rz.mono hr (by decide))) rfl) ?_
  refine dq_r (sem_call rfl rfl (eSub_ok (by first | assumption | exact Rz.mono (Rz.sub (Rz.mul hR hR) (Rz.mul he he)) (by decide)) (by first | assumption | exact Rz.mono (Rz.mul hr hr) (by decide))) rfl) ?_
  refine dq_new (sem_alloc zc28 rfl) rfl ?_
  refine dq_end ?_
  refine dl_start1 ?_
  refine dl_st (sem_store_a ty28 rfl rfl rfl rfl rfl rfl) ?_
  refine dl_end ?_
  refine dw_seq ?_
  -- region 2
  refine dw_draw 13 [8] follows_mixed (by kernel_rfl) rfl rfl ?_
  refine dq_r (sem_load (us := cR (((R * R) - (e * e)) - (r * r))) ty28 rfl rfl rfl rfl rfl) ?_
  refine dq_r (sem_call rfl rfl (pFrom_ok (by omega) (by omega)) rfl) ?_
  refine dq_r (sem_load (us := cR e) ty28 rfl rfl rfl rfl rfl) ?_
  refine dq_r (sem_load (us := cR r) ty28 rfl rfl rfl rfl rfl) ?_
  refine dq_r (sem_call rfl rfl (eMul_ok (by first | assumption | exact Rz.mono he (by decide)) (by first | assumption | exact Rz.mono hr (by decide))) rfl) ?_
  refine dq_r (sem_call rfl rfl (eMul_ok (by first | assumption | exact Rz.mono (Rz.int (Sz.small (k := 3) (by decide) (by decide) (by decide)) (by decide)) (by decide)) (by first | assumption | exact Rz.mono (Rz.mul he hr) (by decide))) rfl) ?_
  refine dq_r (sem_call rfl rfl (pDiv_ok (by first | assumption | exact Rz.mono (Rz.sub (Rz.sub (Rz.mul hR hR) (Rz.mul he he)) (Rz.mul hr hr)) (by decide)) (by first | assumption | exact Rz.mono (Rz.mul (Rz.int (Sz.small (k := 3) (by decide) (by decide) (by decide)) (by decide)) (Rz.mul he hr)) (by decide)) h0) rfl) ?_
  refine dq_r (sem_move rfl rfl) ?_
  refine dq_r (sem_extract rfl rfl rfl) ?_
  refine dq_r (sem_extract rfl rfl rfl) ?_
  refine dq_new (sem_alloc zc28 rfl) rfl ?_
  refine dq_sn (sem_store_a ty28 rfl rfl rfl rfl rfl rfl) rfl rfl rfl rfl ?_
  refine dq_r (sem_assign rfl rfl) ?_
  refine dq_end ?_
  refine dl_start2 ?_
  refine dl_end ?_
  refine dw_seq ?_
  refine dw_seq ?_
  -- region 3
  refine dw_region (by kernel_rfl) ?_
  refine dl_r (sem_move rfl rfl) ?_
  refine dl_r (sem_cmp rfl rfl rfl rfl) ?_
  refine dl_end ?_
  refine dw_false rfl ?_
  refine dw_skip ?_
  refine dw_seq ?_
  -- region 5
  refine dw_region (by kernel_rfl) ?_
  refine dl_r (sem_load (us := cR ((((R * R) - (e * e)) - (r * r)) / ((((2 : Int) : Rat)) * (e * r)))) ty28 rfl rfl rfl rfl rfl) ?_
  refine dl_st (sem_store_a ty28 rfl rfl rfl rfl rfl rfl) ?_
  refine dl_end ?_
  refine dw_ret ?_
  -- path 
  exact ⟨.inr rfl, (resL_cell (us := cR ((((R * R) - (e * e)) - (r * r)) / ((((2 : Int) : Rat)) * (e * r)))) ty28 rfl rfl rfl rfl resL_nil)⟩
theorem eAll_ok {a t : Int} {c : Rat} (hc : Rz 20 c) (ha : 1 ≤ a) (ha2 : a ≤ 10000000) (ht : 1 ≤ t) (ht2 : t ≤ 10000000) {s : Int} (hs : 1 ≤ s) (hs2 : s ≤ 10000001) : Ok Tryz.prog 41 [.c (.i .i64 a), .c (.i .i64 t), .c (.i .i64 s), dR c] [.c (.b (alw a t s c))] := by
  have hza : Sz 3 a := Sz.small (by decide) (by omega) (by omega)
  have hzt : Sz 3 t := Sz.small (by decide) (by omega) (by omega)
  have hzs : Sz 3 s := Sz.small (by decide) (by omega) (by omega)
  have hz := cq_sz ha ht hs ha2 ht2 hs2
  have h0 : ((2 : Int) : Rat) * ((((a + s : Int)) : Rat) * ((t : Int) : Rat)) ≠ 0 := by
    have : (0 : Rat) < ((2 : Int) : Rat) * ((((a + s : Int)) : Rat) * ((t : Int) : Rat)) := Rat.mul_pos (by decide) (et_pos ha ht (by omega))
    grind
  refine Ok.of (by kernel_rfl) Tryz.func41 rfl rfl ?_
  rw [show Tryz.f41.ntmps = 44 from rfl, show Tryz.f41.results.toList = [.tmp 8] from rfl]
  refine dw_seq ?_
  -- region 0
  refine dw_region (by kernel_rfl) ?_
  refine dl_new (sem_box_a rfl rfl) rfl ?_
  refine dl_r (sem_assign rfl rfl) ?_
  refine dl_end ?_
  refine dw_seq ?_
  -- region 1
  refine dw_region (by kernel_rfl) ?_
  refine dl_r (sem_call rfl rfl (pFrom_ok (by omega) (by omega)) rfl) ?_
  refine dl_new (sem_alloc zc28 rfl) rfl ?_
  refine dl_st (sem_store_a ty28 rfl rfl rfl rfl rfl rfl) ?_
  refine dl_end ?_
  refine dw_seq ?_
  -- region 2
  refine dw_region (by kernel_rfl) ?_
  refine dl_r (sem_move rfl rfl) ?_
  refine dl_r (sem_move rfl rfl) ?_
  refine dl_r (sem_ari (r := a + t) rfl rfl (ari_i64_add (by omega) (by omega)) rfl) ?_
  refine dl_r (sem_call rfl rfl (pFrom_ok (by omega) (by omega)) rfl) ?_
  refine dl_r (sem_move rfl rfl) ?_
  refine dl_r (sem_call rfl rfl (pFrom_ok (by omega) (by omega)) rfl) ?_
  refine dl_r (sem_move rfl rfl) ?_
  refine dl_r (sem_move rfl rfl) ?_
  refine dl_r (sem_ari (r := a + s) rfl rfl (ari_i64_add (by omega) (by omega)) rfl) ?_
  refine dl_r (sem_call rfl rfl (pFrom_ok (by omega) (by omega)) rfl) ?_
  refine dl_r (sem_call rfl rfl (rcast1 (eHalf_ok (by first | assumption | exact Rz.mono (Rz.int (Sz.addm hza hzt) (by decide)) (by decide)) (by first | assumption | exact Rz.mono (Rz.int hzt (by decide)) (by decide)) (by first | assumption | exact Rz.mono (Rz.int (Sz.addm hza hzs) (by decide)) (by decide)) h0) (x' := cq a t s) rfl) rfl) ?_
  refine dl_new (sem_alloc zc28 rfl) rfl ?_
  refine dl_st (sem_store_a ty28 rfl rfl rfl rfl rfl rfl) ?_
  refine dl_end ?_
  refine dw_seq ?_
  refine dw_seq ?_
  -- region 3
  refine dw_region (by kernel_rfl) ?_
  refine dl_r (sem_load (us := cR (cq a t s)) ty28 rfl rfl rfl rfl rfl) ?_
  refine dl_r (sem_load (us := cR (((1 : Int) : Rat))) ty28 rfl rfl rfl rfl rfl) ?_
  refine dl_r (sem_call rfl rfl (pCmp_ok (by first | assumption | exact Rz.mono (by assumption) (by decide)) (by first | assumption | exact Rz.mono (Rz.int (Sz.small (k := 3) (by decide) (by decide) (by decide)) (by decide)) (by decide))) rfl) ?_
  refine dl_r (sem_cmp rfl rfl rfl rfl) ?_
  refine dl_end ?_
  refine dw_cond rfl (fun hc1 => ?_) (fun hc1 => ?_)
  · exact (no_full ha ht hs hc1).elim
  · refine dw_skip ?_
    refine dw_seq ?_
    -- region 5
    refine dw_region (by kernel_rfl) ?_
    refine dl_r (sem_load (us := cR (cq a t s)) ty28 rfl rfl rfl rfl rfl) ?_
    refine dl_r (sem_load (us := cR (cq a t s)) ty28 rfl rfl rfl rfl rfl) ?_
    refine dl_r (sem_call rfl rfl (eMul_ok (by first | assumption | exact Rz.mono (by assumption) (by decide)) (by first | assumption | exact Rz.mono (by assumption) (by decide))) rfl) ?_
    refine dl_new (sem_alloc zc28 rfl) rfl ?_
    refine dl_st (sem_store_a ty28 rfl rfl rfl rfl rfl rfl) ?_
    refine dl_end ?_
    refine dw_seq ?_
    -- region 6
    refine dw_draw 14 [] follows_mixed (by kernel_rfl) rfl rfl ?_
    refine dq_r (sem_load (us := cR (cq a t s)) ty28 rfl rfl rfl rfl rfl) ?_
    refine dq_r (sem_call rfl rfl (pSign_ok) rfl) ?_
    refine dq_r (sem_cmp rfl rfl rfl rfl) ?_
    refine dq_rb (sem_move rfl rfl) (fun c2 hb2 => ?_)
    cases c2
    · refine dq_skip (sem_skip rfl) ?_
      refine dq_skip (sem_skip rfl) ?_
      refine dq_skip (sem_skip rfl) ?_
      refine dq_skip (sem_skip rfl) ?_
      refine dq_skip (sem_skip rfl) ?_
      refine dq_skip (sem_skip rfl) ?_
      refine dq_skip (sem_skip rfl) ?_
      refine dq_skip (sem_skip rfl) ?_
      refine dq_r (sem_pick rfl rfl rfl rfl) ?_
      refine dq_r (sem_assign rfl rfl) ?_
      refine dq_end ?_
      refine dl_start0 ?_
      refine dl_end ?_
      refine dw_ret ?_
      -- path Ff
      rw [alw_f hb2]
      exact ⟨.inr rfl, (resL_tmp rfl resL_nil)⟩
    · refine dq_r (sem_load (us := cR ((cq a t s) * (cq a t s))) ty28 rfl rfl rfl rfl rfl) ?_
      refine dq_r (sem_load (us := cR ((cq a t s) * (cq a t s))) ty28 rfl rfl rfl rfl rfl) ?_
      refine dq_r (sem_call rfl rfl (eAdd_ok (by first | assumption | exact Rz.mono (Rz.mul (by assumption) (by assumption)) (by decide)) (by first | assumption | exact Rz.mono (Rz.mul (by assumption) (by assumption)) (by decide))) rfl) ?_
      refine dq_r (sem_load (us := cR (((1 : Int) : Rat))) ty28 rfl rfl rfl rfl rfl) ?_
      refine dq_r (sem_call rfl rfl (eSub_ok (by first | assumption | exact Rz.mono (Rz.add (Rz.mul (by assumption) (by assumption)) (Rz.mul (by assumption) (by assumption))) (by decide)) (by first | assumption | exact Rz.mono (Rz.int (Sz.small (k := 3) (by decide) (by decide) (by decide)) (by decide)) (by decide))) rfl) ?_
      refine dq_r (sem_load (us := cR c) ty28 rfl rfl rfl rfl rfl) ?_
      refine dq_r (sem_call rfl rfl (pCmp_ok (by first | assumption | exact Rz.mono (Rz.sub (Rz.add (Rz.mul (by assumption) (by assumption)) (Rz.mul (by assumption) (by assumption))) (Rz.int (Sz.small (k := 3) (by decide) (by decide) (by decide)) (by decide))) (by decide)) (by first | assumption | exact Rz.mono hc (by decide))) rfl) ?_
      refine dq_r (sem_cmp rfl rfl rfl rfl) ?_
      refine dq_r (sem_pick rfl rfl rfl rfl) ?_
      refine dq_r (sem_assign rfl rfl) ?_
      refine dq_end ?_
      refine dl_start0 ?_
      refine dl_end ?_
      refine dw_ret ?_
      -- path Ft
      rw [alw_t hb2]
      exact ⟨.inr rfl, (resL_tmp rfl resL_nil)⟩
theorem eStp1_ok {a t : Int} {c : Rat} (hc : Rz 20 c) (ha : 1 ≤ a) (ha2 : a ≤ 10000000) (ht : 1 ≤ t) (ht2 : t ≤ 10000000) {n : Int} (h0 : 0 ≤ n) (h1 : n ≤ t) : Ok Tryz.prog 40 [.c (.i .i64 n), .c (.p ([.i .i64 a])), .c (.p ([.i .i64 t])), .c (.p (cR c))] [.c (.b (!alw a t (n + 1) c))] := by
  refine Ok.of (by kernel_rfl) Tryz.func40 rfl rfl ?_
  rw [show Tryz.f40.ntmps = 13 from rfl, show Tryz.f40.results.toList = [.tmp 5] from rfl]
  refine dw_seq ?_
  -- region 0
  refine dw_region (by kernel_rfl) ?_
  refine dl_r (sem_assign rfl rfl) ?_
  refine dl_end ?_
  refine dw_seq ?_
  -- region 1
  refine dw_region (by kernel_rfl) ?_
  refine dl_r (sem_loadP1 ty2 rfl rfl rfl) ?_
  refine dl_r (sem_loadP1 ty2 rfl rfl rfl) ?_
  refine dl_r (sem_move rfl rfl) ?_
  refine dl_r (sem_ari (r := n + 1) rfl rfl (ari_i64_add (by omega) (by omega)) rfl) ?_
  refine dl_r (sem_loadP (us := cR c) ty28 rfl rfl rfl rfl) ?_
  refine dl_r (sem_call rfl rfl (eAll_ok hc ha ha2 ht ht2 (by omega) (by omega)) rfl) ?_
  refine dl_r (sem_not rfl rfl) ?_
  refine dl_r (sem_assign rfl rfl) ?_
  refine dl_end ?_
  refine dw_ret ?_
  -- path 
  exact ⟨.inr rfl, (resL_tmp rfl resL_nil)⟩
theorem eSrch_ok {a t N r : Int} {c : Rat} (hN0 : 0 ≤ N) (hN : N ≤ 1000000000) (hr0 : 0 ≤ r) (hr1 : r ≤ N) (hφ : ∀ i : Int, 0 ≤ i → i < N → Ok Tryz.prog 40 [.c (.i .i64 i), .c (.p ([.i .i64 a])), .c (.p ([.i .i64 t])), .c (.p (cR c))] [.c (.b (decide (r ≤ i)))]) : Ok Tryz.prog 39 [.c (.i .i64 N), .c (.k 40 [.p ([.i .i64 a]), .p ([.i .i64 t]), .p (cR c)])] [.c (.i .i64 r)] := by
  refine Ok.of (by kernel_rfl) Tryz.func39 rfl rfl ?_
  rw [show Tryz.f39.ntmps = 26 from rfl, show Tryz.f39.results.toList = [.tmp 4] from rfl]
  refine dw_seq ?_
  -- region 0
  refine dw_region (by kernel_rfl) ?_
  refine dl_r (sem_assign rfl rfl) ?_
  refine dl_end ?_
  refine dw_seq ?_
  -- region 1
  refine dw_region (by kernel_rfl) ?_
  refine dl_r (sem_move rfl rfl) ?_
  refine dl_r (sem_assign rfl rfl) ?_
  refine dl_r (sem_assign rfl rfl) ?_
  refine dl_end ?_
  refine dw_seq ?_
  refine dw_block ?_
  refine dw_loop (ι := {p : Int × Int // 0 ≤ p.1 ∧ p.1 ≤ r ∧ r ≤ p.2 ∧ p.2 ≤ N}) (fun i => ⟨26, [(0, .v (.c (.i .i64 N))), (1, .v (.c (.k 40 [.p ([.i .i64 a]), .p ([.i .i64 t]), .p (cR c)]))), (5, .v (.c (.i .i64 i.1.1))), (6, .v (.c (.i .i64 i.1.2)))], []⟩) (fun i => (i.1.2 - i.1.1).toNat) ⟨(0, N), by show (0 : Int) ≤ 0; omega, hr0, hr1, by show N ≤ N; omega⟩ (sub_of ⟨rfl, rfl, rfl, rfl, trivial⟩ trivial rfl) ?_
  rintro ⟨⟨lo, hi⟩, g1, g2, g3, g4⟩
  replace g1 : 0 ≤ lo := g1
  replace g2 : lo ≤ r := g2
  replace g3 : r ≤ hi := g3
  replace g4 : hi ≤ N := g4
  show Dw _ _ ⟨26, [(0, .v (.c (.i .i64 N))), (1, .v (.c (.k 40 [.p ([.i .i64 a]), .p ([.i .i64 t]), .p (cR c)]))), (5, .v (.c (.i .i64 lo))), (6, .v (.c (.i .i64 hi)))], []⟩ _
  refine dw_seq ?_
  refine dw_seq ?_
  -- region 2
  refine dw_region (by kernel_rfl) ?_
  refine dl_r (sem_move rfl rfl) ?_
  refine dl_r (sem_move rfl rfl) ?_
  refine dl_r (sem_cmp rfl rfl rfl rfl) ?_
  refine dl_end ?_
  refine dw_cond rfl (fun hc1 => ?_) (fun hc1 => ?_)
  · have hlt : lo < hi := of_decide_eq_true hc1
    refine dw_skip ?_
    refine dw_block ?_
    refine dw_seq ?_
    -- region 3
    refine dw_region (by kernel_rfl) ?_
    refine dl_r (sem_move rfl rfl) ?_
    refine dl_r (sem_move rfl rfl) ?_
    refine dl_r (sem_ari (r := lo + hi) rfl rfl (ari_i64_add (by omega) (by omega)) rfl) ?_
    refine dl_r (sem_conv' (r := lo + hi) und3 und101 rfl (nwu64 (by omega) (by omega)) rfl) ?_
    refine dl_r (sem_shrC (r := (lo + hi) / 2) rfl rfl (by decide) shr_half rfl) ?_
    refine dl_r (sem_conv' (r := (lo + hi) / 2) und101 und3 rfl (nw64 (by omega) (by omega)) rfl) ?_
    refine dl_r (sem_assign rfl rfl) ?_
    refine dl_end ?_
    refine dw_seq ?_
    -- region 4
    refine dw_region (by kernel_rfl) ?_
    refine dl_r (sem_move rfl rfl) ?_
    refine dl_r (sem_move rfl rfl) ?_
    refine dl_r (sem_callk rfl rfl (hφ _ (by omega) (by omega)) rfl) ?_
    refine dl_r (sem_not rfl rfl) ?_
    refine dl_end ?_
    refine dw_cond rfl (fun hc2 => ?_) (fun hc2 => ?_)
    · have hm : ¬ r ≤ (lo + hi) / 2 := by simpa using hc2
      -- region 5
      refine dw_region (by kernel_rfl) ?_
      refine dl_r (sem_move rfl rfl) ?_
      refine dl_r (sem_ari (r := ((lo + hi) / 2) + 1) rfl rfl (ari_i64_add (by omega) (by omega)) rfl) ?_
      refine dl_r (sem_assign rfl rfl) ?_
      refine dl_end ?_
      exact ⟨⟨((lo + hi) / 2 + 1, hi), by show 0 ≤ (lo + hi) / 2 + 1; omega, by show (lo + hi) / 2 + 1 ≤ r; omega, g3, g4⟩, sub_of ⟨rfl, rfl, rfl, rfl, trivial⟩ trivial rfl, by show (hi - ((lo + hi) / 2 + 1)).toNat < (hi - lo).toNat; omega⟩
    · have hm : r ≤ (lo + hi) / 2 := by simpa using hc2
      -- region 6
      refine dw_region (by kernel_rfl) ?_
      refine dl_r (sem_move rfl rfl) ?_
      refine dl_r (sem_assign rfl rfl) ?_
      refine dl_end ?_
      exact ⟨⟨(lo, (lo + hi) / 2), g1, g2, by show r ≤ (lo + hi) / 2; omega, by show (lo + hi) / 2 ≤ N; omega⟩, sub_of ⟨rfl, rfl, rfl, rfl, trivial⟩ trivial rfl, by show ((lo + hi) / 2 - lo).toNat < (hi - lo).toNat; omega⟩
  · have hlo : r = lo := by have := of_decide_eq_false hc1; omega
    refine dw_exit ?_
    refine dw_seq ?_
    -- region 7
    refine dw_region (by kernel_rfl) ?_
    refine dl_r (sem_move rfl rfl) ?_
    refine dl_r (sem_assign rfl rfl) ?_
    refine dl_end ?_
    refine dw_ret ?_
    -- path F
    rw [hlo]
    exact ⟨.inr rfl, (resL_tmp rfl resL_nil)⟩
theorem eStep_ok {a t : Int} {c : Rat} (hc : Rz 20 c) (ha : 1 ≤ a) (ha2 : a ≤ 10000000) (ht : 1 ≤ t) (ht2 : t ≤ 10000000) {r : Int} (hcos : cosB c = true) (hr0 : 0 ≤ r) (hr1 : r ≤ t + 1) (hφ : ∀ i : Int, 0 ≤ i → i < t + 1 → alw a t (i + 1) c = decide (i < r)) : Ok Tryz.prog 12 [.c (.i .i64 a), .c (.i .i64 t), dR c] [.c (.i .i64 r), .c (.i .i64 0)] := by
  refine Ok.of (by kernel_rfl) Tryz.func12 rfl rfl ?_
  rw [show Tryz.f12.ntmps = 33 from rfl, show Tryz.f12.results.toList = [.tmp 6, .tmp 7] from rfl]
  refine dw_seq ?_
  -- region 0
  refine dw_region (by kernel_rfl) ?_
  refine dl_new (sem_box_c rfl rfl) rfl ?_
  refine dl_new (sem_box_c rfl rfl) rfl ?_
  refine dl_new (sem_box_a rfl rfl) rfl ?_
  refine dl_r (sem_assign rfl rfl) ?_
  refine dl_r (sem_assign rfl rfl) ?_
  refine dl_end ?_
  refine dw_seq ?_
  refine dw_seq ?_
  -- region 1
  refine dw_region (by kernel_rfl) ?_
  refine dl_r (sem_load1 ty2 rfl rfl rfl rfl) ?_
  refine dl_r (sem_castb (c := false) (sem_cmp rfl rfl rfl rfl) (decide_eq_false (by omega))) ?_
  refine dl_r (sem_move rfl rfl) ?_
  refine dl_r (sem_load1 ty2 rfl rfl rfl rfl) ?_
  refine dl_r (sem_castb (c := false) (sem_cmp rfl rfl rfl rfl) (decide_eq_false (by omega))) ?_
  refine dl_r (sem_pick rfl rfl rfl rfl) ?_
  refine dl_r (sem_move rfl rfl) ?_
  refine dl_r (sem_load1 ty2 rfl rfl rfl rfl) ?_
  refine dl_r (sem_castb (c := false) (sem_cmp rfl rfl rfl rfl) (decide_eq_false (by omega))) ?_
  refine dl_r (sem_pick rfl rfl rfl rfl) ?_
  refine dl_r (sem_move rfl rfl) ?_
  refine dl_r (sem_load1 ty2 rfl rfl rfl rfl) ?_
  refine dl_r (sem_castb (c := false) (sem_cmp rfl rfl rfl rfl) (decide_eq_false (by omega))) ?_
  refine dl_r (sem_pick rfl rfl rfl rfl) ?_
  refine dl_r (sem_move rfl rfl) ?_
  refine dl_r (sem_load (us := cR c) ty28 rfl rfl rfl rfl rfl) ?_
  refine dl_r (sem_call rfl rfl (rcastb (eCos_ok (by first | assumption | exact Rz.mono hc (by decide))) hcos) rfl) ?_
  refine dl_r (sem_not rfl rfl) ?_
  refine dl_r (sem_pick rfl rfl rfl rfl) ?_
  refine dl_end ?_
  refine dw_false rfl ?_
  refine dw_skip ?_
  refine dw_seq ?_
  -- region 3
  refine dw_freeze (t := 3) (k := 3) rfl rfl ?_
  refine dw_freeze (t := 4) (k := 4) rfl rfl ?_
  refine dw_freeze (t := 5) (k := 5) rfl rfl ?_
  refine dw_region (by kernel_rfl) ?_
  refine dl_r (sem_loadP1 ty2 rfl rfl rfl) ?_
  refine dl_r (sem_ari (r := t + 1) rfl rfl (ari_i64_add (by omega) (by omega)) rfl) ?_
  refine dl_r (sem_mkfn (us := [.p ([.i .i64 a]), .p ([.i .i64 t]), .p (cR c)]) rfl rfl) ?_
  refine dl_r (sem_call rfl rfl (eSrch_ok (by omega) (by omega) hr0 hr1 (fun i g1 g2 => rcastb (eStp1_ok hc ha ha2 ht ht2 g1 (by omega)) (by rw [hφ i g1 g2]; exact not_lt_le i r))) rfl) ?_
  refine dl_r (sem_assign rfl rfl) ?_
  refine dl_end ?_
  refine dw_seq ?_
  -- region 4
  refine dw_region (by kernel_rfl) ?_
  refine dl_r (sem_move rfl rfl) ?_
  refine dl_r (sem_assign rfl rfl) ?_
  refine dl_r (sem_assign rfl rfl) ?_
  refine dl_end ?_
  refine dw_ret ?_
  -- path 
  exact ⟨.inr rfl, (resL_tmp rfl (resL_tmp rfl resL_nil))⟩
-- no function swarf/trochoid.bounded in this seat
end Go.Proofs.YtedlgdliniokiaaGreat
/- Plain: the cosines of layer 32: which inputs have an answer. -/
namespace Go.Proofs.YtedlgdliniokiaaGreat
open Go Go.RowKit
theorem cosB_t3 {c : Rat} (h : decide (cmpR c ((1 : Int) : Rat) ≤ 0) = true) : cosB c = decide (cmpR c (((-1) : Int) : Rat) ≥ 0) := by
  have h1 := cmpR_le.1 (of_decide_eq_true h)
  unfold cosB
  rw [decide_eq_true (show c ≤ 1 from h1), Bool.true_and]
  apply decide_eq_decide.2
  rw [cmpR_ge]
  exact Iff.rfl
theorem hfQ_ref (R r e : Rat) : hfQ R r e = (R * R - (e * e + r * r)) / (((2 : Int) : Rat) * (e * r)) := by
  unfold hfQ
  rw [show R * R - e * e - r * r = R * R - (e * e + r * r) by grind]
def dscB (R r e : Rat) : Bool := !(decide (cmpR R 0 ≤ 0) || (decide (cmpR r 0 ≤ 0) || decide (cmpR e 0 ≤ 0))) && !(decide (cmpR (hfQ R r e) ((1 : Int) : Rat) ≥ 0) || decide (cmpR (-(hfQ R r e)) ((1 : Int) : Rat) ≥ 0))
def strB (u r : Rat) : Bool := !(decide (cmpR r 0 ≤ 0) || (decide (cmpR u 0 < 0) || decide (cmpR u (r + r) > 0)))
def widB (r u : Rat) : Bool := !(decide (cmpR r 0 ≤ 0) || !cosB u)
theorem pos_of {x : Rat} (h : decide (cmpR x 0 ≤ 0) = false) : 0 < x := by
  have := of_decide_eq_false h
  rw [cmpR_le] at this
  grind
theorem dsc_ne {r e : Rat} (h1 : decide (cmpR r 0 ≤ 0) = false) (h2 : decide (cmpR e 0 ≤ 0) = false) : ((2 : Int) : Rat) * (e * r) ≠ 0 := by
  have : (0 : Rat) < ((2 : Int) : Rat) * (e * r) := Rat.mul_pos (by decide) (Rat.mul_pos (pos_of h2) (pos_of h1))
  grind
theorem dsc_m {R r e : Rat} : decide (cmpR (hfQ R r e) (((-1) : Int) : Rat) ≤ 0) = decide (cmpR (-(hfQ R r e)) ((1 : Int) : Rat) ≥ 0) := by
  apply decide_eq_decide.2
  rw [cmpR_le, cmpR_ge]
  generalize hfQ R r e = x
  have e1 : (((-1) : Int) : Rat) = -1 := rfl
  have e2 : ((1 : Int) : Rat) = 1 := rfl
  rw [e1, e2]
  constructor <;> intro h <;> grind
theorem str_ne {r : Rat} (h1 : decide (cmpR r 0 ≤ 0) = false) : r ≠ 0 := by
  have := pos_of h1
  grind
theorem hf_sz {R r e : Rat} (hR : Rz 20 R) (hr : Rz 20 r) (he : Rz 20 e) (h0 : ((2 : Int) : Rat) * (e * r) ≠ 0) : Rz 200 (hfQ R r e) := by
  have h2 : Rz 3 ((2 : Int) : Rat) := Rz.num (by decide) (by decide)
  exact ((((hR.mul hR).sub (he.mul he)).sub (hr.mul hr)).div (h2.mul (he.mul hr)) h0).mono (by decide)
/-- Half an angle, by its cosine, is at most a quarter turn, and the angle at most another. -/
def hlfB (x c : Rat) : Bool := decide (cmpR x 0 ≥ 0) && decide (cmpR (((2 : Int) : Rat) * (x * x) - ((1 : Int) : Rat)) c ≥ 0)
theorem hlfB_t {x c : Rat} (h : decide (cmpR x 0 ≥ 0) = true) : hlfB x c = decide (cmpR (((2 : Int) : Rat) * (x * x) - ((1 : Int) : Rat)) c ≥ 0) := by unfold hlfB; rw [h, Bool.true_and]
theorem hlfB_f {x c : Rat} (h : decide (cmpR x 0 ≥ 0) = false) : hlfB x c = false := by unfold hlfB; rw [h, Bool.false_and]
def alwR (a t s : Int) (c : Rat) : Bool := decide (cmpR (cq a t s) ((1 : Int) : Rat) ≥ 0) || hlfB (cq a t s) c
theorem alwR_t {a t s : Int} {c : Rat} (h : decide (cmpR (cq a t s) ((1 : Int) : Rat) ≥ 0) = true) : alwR a t s c = true := by unfold alwR; rw [h, Bool.true_or]
theorem alwR_f {a t s : Int} {c : Rat} (h : decide (cmpR (cq a t s) ((1 : Int) : Rat) ≥ 0) = false) : alwR a t s c = hlfB (cq a t s) c := by unfold alwR; rw [h, Bool.false_or]
theorem cq_ne {a t s : Int} (ha : 1 ≤ a) (ht : 1 ≤ t) (hs : 0 ≤ s) : ((2 : Int) : Rat) * ((((a + s : Int)) : Rat) * ((t : Int) : Rat)) ≠ 0 := by
  have : (0 : Rat) < ((2 : Int) : Rat) * ((((a + s : Int)) : Rat) * ((t : Int) : Rat)) := Rat.mul_pos (by decide) (et_pos ha ht hs)
  grind
theorem cq_sz0 {a t s : Int} (ha : 1 ≤ a) (ht : 1 ≤ t) (hs : 0 ≤ s) (ha2 : a ≤ 10000000) (ht2 : t ≤ 10000000) (hs2 : s ≤ 10000002) : Rz 60 (cq a t s) := by
  have r1 : Rz 3 (((a + t : Int)) : Rat) := Rz.num (by omega) (by omega)
  have r2 : Rz 3 (((a + s : Int)) : Rat) := Rz.num (by omega) (by omega)
  have r3 : Rz 3 ((t : Int) : Rat) := Rz.num (by omega) (by omega)
  have r4 : Rz 3 ((2 : Int) : Rat) := Rz.num (by omega) (by omega)
  exact ((((r1.mul r1).sub (r2.mul r2)).sub (r3.mul r3)).div (r4.mul (r2.mul r3)) (cq_ne ha ht hs)).mono (by decide)
def stpB (a t : Int) (c : Rat) : Bool := !(decide (a < 1) || (decide (a > 10000000) || (decide (t < 1) || (decide (t > 10000000) || !cosB c))))
/-- The two tests are the same. -/
theorem alwR_alw {a t s : Int} {c : Rat} (ha : 1 ≤ a) (ht : 1 ≤ t) (hs : 1 ≤ s) : alwR a t s c = alw a t s c := by
  have h : decide (cmpR (cq a t s) ((1 : Int) : Rat) ≥ 0) = false := by
    cases h : decide (cmpR (cq a t s) ((1 : Int) : Rat) ≥ 0) with
    | false => rfl
    | true => exact (no_full ha ht hs h).elim
  rw [alwR_f h]
  unfold hlfB alw
  rw [show ((2 : Int) : Rat) * (cq a t s * cq a t s) = cq a t s * cq a t s + cq a t s * cq a t s by
    have : ((2 : Int) : Rat) = 2 := rfl
    rw [this]; grind]
theorem alwR_zero {a t : Int} {c : Rat} (ha : 1 ≤ a) (ht : 1 ≤ t) : alwR a t 0 c = true := by
  apply alwR_t
  apply decide_eq_true
  rw [cmpR_ge]
  have h := cq_eq ha ht (show (0 : Int) ≤ 0 by omega)
  have hn := cq_ne ha ht (show (0 : Int) ≤ 0 by omega)
  rw [show ((a + t) * (a + t) - (a + 0) * (a + 0) - t * t : Int) = 2 * ((a + 0) * t) by grind, Rat.intCast_mul, Rat.intCast_mul] at h
  have h2 : cq a t 0 = 1 := by
    have := Rat.mul_div_cancel (a := cq a t 0) hn
    rw [h, Rat.div_def, Rat.mul_inv_cancel _ hn] at this
    exact this.symm
  rw [h2]
  exact show ((1 : Int) : Rat) ≤ 1 from by decide
/-- No step beyond the tool's radius. -/
theorem alw_far {a t s : Int} {c : Rat} (ha : 1 ≤ a) (ht : 1 ≤ t) (hs : t < s) : alw a t s c = false := by
  cases h : alw a t s c with
  | false => rfl
  | true =>
    exfalso
    have h1 := (alw_iff.1 h).1
    have h2 := cq_eq ha ht (show 0 ≤ s by omega)
    have hp := et_pos ha ht (show 0 ≤ s by omega)
    have h3 : (0 : Rat) ≤ cq a t s * (((2 : Int) : Rat) * ((((a + s : Int)) : Rat) * ((t : Int) : Rat))) := Rat.mul_nonneg h1 (by have : (0 : Rat) < ((2 : Int) : Rat) * ((((a + s : Int)) : Rat) * ((t : Int) : Rat)) := Rat.mul_pos (by decide) hp; grind)
    rw [h2] at h3
    have h4 := Rat.intCast_le_intCast.1 (show ((0 : Int) : Rat) ≤ (((a + t) * (a + t) - (a + s) * (a + s) - t * t : Int) : Rat) from h3)
    have h5 : (a + t) * (a + t) ≤ (a + s) * (a + s) := Int.mul_le_mul (by omega) (by omega) (by omega) (by omega)
    have h6 : 1 ≤ t * t := Int.mul_le_mul ht ht (by omega) (by omega)
    omega
theorem step_r {a t r : Int} {c : Rat} (ha : 1 ≤ a) (ht : 1 ≤ t) (hr1 : r ≤ t + 1) (hφ : ∀ i : Int, 0 ≤ i → i < t + 1 → alw a t (i + 1) c = decide (i < r)) (hr0 : 0 ≤ r) : r ≤ t ∧ alwR a t r c = true ∧ alwR a t (r + 1) c = false := by
  have h1 : r ≤ t := by
    have := hφ t (by omega) (by omega)
    rw [alw_far ha ht (by omega)] at this
    have := of_decide_eq_false this.symm
    omega
  refine ⟨h1, ?_, ?_⟩
  · by_cases h : r = 0
    · subst h; exact alwR_zero ha ht
    · rw [alwR_alw ha ht (by omega)]
      have := hφ (r - 1) (by omega) (by omega)
      rw [Int.sub_add_cancel] at this
      rw [this]; exact decide_eq_true (by omega)
  · rw [alwR_alw ha ht (by omega), hφ r hr0 (by omega)]
    exact decide_eq_false (by omega)
theorem wid_back {w r : Rat} (hr : r ≠ 0) : r * (((1 : Int) : Rat) - (((1 : Int) : Rat) - w / r)) = w := by
  have h : w / r * r = w := Rat.div_mul_cancel hr
  have e2 : ((1 : Int) : Rat) = 1 := rfl
  rw [e2]
  grind
end Go.Proofs.YtedlgdliniokiaaGreat
