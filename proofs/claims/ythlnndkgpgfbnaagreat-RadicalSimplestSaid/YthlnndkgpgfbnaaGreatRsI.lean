/- Package rational. -/
import Derived.Test.YthlnndkgpgfbnaaGreatRsH
namespace Go.Proofs.YthlnndkgpgfbnaaGreat
open Go Go.RowKit
theorem pSign_ok {x : Rat} : Ok Tryz.prog 57 [dR x] [.c (.i .i64 (cmpR x 0))] := by
  refine Ok.of (by kernel_rfl) Tryz.func57 rfl rfl ?_
  rw [show Tryz.f57.ntmps = 6 from rfl, show Tryz.f57.results.toList = [.tmp 2] from rfl]
  refine dw_seq <| dw_region (by kernel_rfl) <| dl_new (sem_box_a rfl rfl) rfl <| dl_r (sem_assign rfl rfl) <| dl_end <| dw_seq <| dw_region (by kernel_rfl) <| dl_r (sem_field fd26_0 rfl rfl) ?_
  refine dl_r (sem_load (us := cI x.num) ty24 rfl rfl rfl rfl rfl) <| dl_r (sem_call rfl rfl (iSign_ok) rfl) <| dl_r (sem_assign rfl rfl) <| dl_end <| dw_ret ?_
  rw [← cmpR_num]
  exact ⟨.inr rfl, (resL_tmp rfl resL_nil)⟩
theorem pSignL_ok {x : Rat} : Ok Tryz.prog 57 [dR x] [.c (.i .i64 (cmpR x 0))] := pSign_ok
theorem pWhole_ok {n : Int} : Ok Tryz.prog 68 [dI n] [dR (n : Rat)] := by
  refine Ok.of (by kernel_rfl) Tryz.func68 rfl rfl ?_
  rw [show Tryz.f68.ntmps = 6 from rfl, show Tryz.f68.results.toList = [.cell 2 26] from rfl]
  refine dw_seq <| dw_region (by kernel_rfl) <| dl_new (sem_box_a rfl rfl) rfl <| dl_new (sem_alloc zc26 rfl) rfl <| dl_end <| dw_seq <| dw_draw 3 [] follows_mixed (by kernel_rfl) rfl rfl <| dq_r (sem_load (us := cI n) ty24 rfl rfl rfl rfl rfl) ?_
  refine dq_r (sem_call rfl rfl (unit_ok) rfl) <| dq_r (sem_build (us := cQ n 1) fs26 zc26 rfl rfl rfl) <| dq_end <| dl_start0 <| dl_st (sem_store_a ty26 rfl rfl rfl rfl rfl rfl) <| dl_end <| dw_ret ?_
  rw [dR_int]
  exact ⟨.inr rfl, (resL_cell (us := cQ n 1) ty26 rfl rfl rfl rfl resL_nil)⟩
theorem pFrom_ok {n : Int} (h0 : -9223372036854775808 ≤ n) (h1 : n ≤ 9223372036854775807) : Ok Tryz.prog 29 [.c (.i .i64 n)] [dR (n : Rat)] := by
  refine Ok.of (by kernel_rfl) Tryz.func29 rfl rfl ?_
  rw [show Tryz.f29.ntmps = 6 from rfl, show Tryz.f29.results.toList = [.cell 2 26] from rfl]
  refine dw_seq <| dw_region (by kernel_rfl) <| dl_new (sem_alloc zc26 rfl) rfl <| dl_end <| dw_seq <| dw_region (by kernel_rfl) <| dl_r (sem_move rfl rfl) <| dl_r (sem_call rfl rfl (iFrom_ok (by omega) (by omega)) rfl) ?_
  refine dl_r (sem_call rfl rfl (pWhole_ok) rfl) <| dl_st (sem_store_a ty26 rfl rfl rfl rfl rfl rfl) <| dl_end <| dw_ret ?_
  exact ⟨.inr rfl, (resL_cell (us := cR (n : Rat)) ty26 rfl rfl rfl rfl resL_nil)⟩
theorem pFromL_ok {n : Int} (h0 : -9223372036854775808 ≤ n) (h1 : n ≤ 9223372036854775807) : Ok Tryz.prog 29 [.c (.i .i64 n)] [dR (n : Rat)] := pFrom_ok h0 h1
theorem pExactL_ok {x y : Int} (hx : Sz 1000000 x) (hy : Sz 1000000 y) (h0 : y ≠ 0) : Ok Tryz.prog 114 [dI x, dI y] [dI (x.fdiv y)] := by
  refine Ok.of (by kernel_rfl) Tryz.func114 rfl rfl ?_
  rw [show Tryz.f114.ntmps = 16 from rfl, show Tryz.f114.results.toList = [.cell 4 24] from rfl]
  refine dw_seq <| dw_region (by kernel_rfl) <| dl_new (sem_box_a rfl rfl) rfl <| dl_new (sem_box_a rfl rfl) rfl <| dl_new (sem_alloc zc24 rfl) rfl <| dl_end <| dw_seq <| dw_region (by kernel_rfl) ?_
  refine dl_r (sem_load (us := cI x) ty24 rfl rfl rfl rfl rfl) <| dl_r (sem_load (us := cI y) ty24 rfl rfl rfl rfl rfl) ?_
  refine dl_r (sem_call rfl rfl (iDivMod_ok (by first | assumption | exact Sz.mono hx (by decide)) (by first | assumption | exact Sz.mono hy (by decide)) (by assumption)) rfl) ?_
  refine dl_r (sem_move rfl rfl) <| dl_r (sem_extract rfl rfl rfl) <| dl_r (sem_extract rfl rfl rfl) <| dl_r (sem_extract rfl rfl rfl) <| dl_new (sem_alloc zc24 rfl) rfl <| dl_new (sem_alloc zc24 rfl) rfl <| dl_st (sem_store_a ty24 rfl rfl rfl rfl rfl rfl) <| dl_st (sem_store_a ty24 rfl rfl rfl rfl rfl rfl) ?_
  refine dl_r (sem_assign rfl rfl) <| dl_end <| dw_seq <| dw_region (by kernel_rfl) <| dl_r (sem_load (us := cI (x.fdiv y)) ty24 rfl rfl rfl rfl rfl) <| dl_st (sem_store_a ty24 rfl rfl rfl rfl rfl rfl) <| dl_end <| dw_ret ?_
  exact ⟨.inr rfl, (resL_cell (us := cI (x.fdiv y)) ty24 rfl rfl rfl rfl resL_nil)⟩
theorem pReduceL_ok {x y : Int} (hx : Sz 199800 x) (hy : Sz 199800 y) (h0 : y ≠ 0) : Ok Tryz.prog 88 [dI x, dI y] [dR (Rat.divInt x y)] := by
  have hg := gcd_ne (n := x) h0
  have hg2 := gcd_ne (n := -x) (d := -y) (by omega)
  have hgs := Sz.gcd (x := x) hy h0
  have hgs2 := Sz.gcd (x := -x) hy.neg (by omega)
  refine Ok.of (by kernel_rfl) Tryz.func88 rfl rfl ?_
  rw [show Tryz.f88.ntmps = 29 from rfl, show Tryz.f88.results.toList = [.cell 4 26] from rfl]
  refine dw_seq <| dw_region (by kernel_rfl) <| dl_new (sem_box_a rfl rfl) rfl <| dl_new (sem_box_a rfl rfl) rfl <| dl_new (sem_alloc zc26 rfl) rfl <| dl_end <| dw_seq <| dw_seq ?_
  refine dw_region (by kernel_rfl) <| dl_r (sem_load (us := cI y) ty24 rfl rfl rfl rfl rfl) <| dl_r (sem_call rfl rfl (iSign_ok) rfl) <| dl_r (sem_cmp rfl rfl rfl rfl) <| dl_end ?_
  refine dw_cond rfl (fun hc1 => ?_) (fun hc1 => ?_)
  · have hn := t_lt hc1
    refine dw_draw 4 [] follows_mixed (by kernel_rfl) rfl rfl <| dq_r (sem_load (us := cI x) ty24 rfl rfl rfl rfl rfl) ?_
    refine dq_r (sem_call rfl rfl (iNeg_ok (by first | assumption | exact Sz.mono hx (by decide))) rfl) ?_
    refine dq_r (sem_load (us := cI y) ty24 rfl rfl rfl rfl rfl) ?_
    refine dq_r (sem_call rfl rfl (iNeg_ok (by first | assumption | exact Sz.mono hy (by decide))) rfl) ?_
    refine dq_end <| dl_start0 <| dl_st (sem_store_a ty24 rfl rfl rfl rfl rfl rfl) <| dl_st (sem_store_a ty24 rfl rfl rfl rfl rfl rfl) <| dl_end <| dw_seq <| dw_seq <| dw_region (by kernel_rfl) ?_
    refine dl_r (sem_load (us := cI (-x)) ty24 rfl rfl rfl rfl rfl) <| dl_r (sem_load (us := cI (-y)) ty24 rfl rfl rfl rfl rfl) ?_
    refine dl_r (sem_call rfl rfl (iGCD_ok (by first | assumption | exact Sz.mono (Sz.neg hx) (by decide)) (by first | assumption | exact Sz.mono (Sz.neg hy) (by decide))) rfl) ?_
    refine dl_new (sem_alloc zc24 rfl) rfl <| dl_st (sem_store_a ty24 rfl rfl rfl rfl rfl rfl) <| dl_end <| dw_seq <| dw_draw 4 [] follows_mixed (by kernel_rfl) rfl rfl <| dq_r (sem_load (us := cI ((Int.gcd (-x) (-y) : Int))) ty24 rfl rfl rfl rfl rfl) <| dq_r (sem_call rfl rfl (unit_ok) rfl) <| dq_r (sem_call rfl rfl (iCmp_ok) rfl) ?_
    refine dq_r (sem_cmp rfl rfl rfl rfl) <| dq_end <| dl_start0 <| dl_end ?_
    refine dw_cond rfl (fun hc2 => ?_) (fun hc2 => ?_)
    · -- region 5
      refine dw_draw 6 [] follows_mixed (by kernel_rfl) rfl rfl <| dq_r (sem_load (us := cI (-x)) ty24 rfl rfl rfl rfl rfl) <| dq_r (sem_load (us := cI ((Int.gcd (-x) (-y) : Int))) ty24 rfl rfl rfl rfl rfl) ?_
      refine dq_r (sem_call rfl rfl (pExactL_ok (by first | assumption | exact Sz.mono (Sz.neg hx) (by decide)) (by first | assumption | exact Sz.mono (by assumption) (by decide)) (by first | assumption | exact neg_ne (by assumption) | exact mul_ne (by assumption) (by assumption))) rfl) ?_
      refine dq_r (sem_load (us := cI (-y)) ty24 rfl rfl rfl rfl rfl) <| dq_r (sem_load (us := cI ((Int.gcd (-x) (-y) : Int))) ty24 rfl rfl rfl rfl rfl) ?_
      refine dq_r (sem_call rfl rfl (pExactL_ok (by first | assumption | exact Sz.mono (Sz.neg hy) (by decide)) (by first | assumption | exact Sz.mono (by assumption) (by decide)) (by first | assumption | exact neg_ne (by assumption) | exact mul_ne (by assumption) (by assumption))) rfl) ?_
      refine dq_end <| dl_start0 <| dl_st (sem_store_a ty24 rfl rfl rfl rfl rfl rfl) <| dl_st (sem_store_a ty24 rfl rfl rfl rfl rfl rfl) <| dl_end <| dw_seq <| dw_region (by kernel_rfl) <| dl_r (sem_load (us := cI ((-x).fdiv ((Int.gcd (-x) (-y) : Int)))) ty24 rfl rfl rfl rfl rfl) ?_
      refine dl_r (sem_load (us := cI ((-y).fdiv ((Int.gcd (-x) (-y) : Int)))) ty24 rfl rfl rfl rfl rfl) <| dl_r (sem_build (us := cQ ((-x).fdiv ((Int.gcd (-x) (-y) : Int))) ((-y).fdiv ((Int.gcd (-x) (-y) : Int)))) fs26 zc26 rfl rfl rfl) <| dl_st (sem_store_a ty26 rfl rfl rfl rfl rfl rfl) <| dl_end <| dw_ret ?_
      rw [dR_neg, dR_red (by omega)]
      exact ⟨.inr rfl, (resL_cell (us := cQ ((-x).fdiv ((Int.gcd (-x) (-y) : Int))) ((-y).fdiv ((Int.gcd (-x) (-y) : Int)))) ty26 rfl rfl rfl rfl resL_nil)⟩
    · refine dw_skip <| dw_seq <| dw_region (by kernel_rfl) <| dl_r (sem_load (us := cI (-x)) ty24 rfl rfl rfl rfl rfl) <| dl_r (sem_load (us := cI (-y)) ty24 rfl rfl rfl rfl rfl) <| dl_r (sem_build (us := cQ (-x) (-y)) fs26 zc26 rfl rfl rfl) <| dl_st (sem_store_a ty26 rfl rfl rfl rfl rfl rfl) <| dl_end ?_
      refine dw_ret ?_
      rw [dR_neg, dR_red1 (by omega) (f_ne hc2)]
      exact ⟨.inr rfl, (resL_cell (us := cQ (-x) (-y)) ty26 rfl rfl rfl rfl resL_nil)⟩
  · have hn := f_lt hc1
    refine dw_skip <| dw_seq <| dw_seq <| dw_region (by kernel_rfl) <| dl_r (sem_load (us := cI x) ty24 rfl rfl rfl rfl rfl) <| dl_r (sem_load (us := cI y) ty24 rfl rfl rfl rfl rfl) ?_
    refine dl_r (sem_call rfl rfl (iGCD_ok (by first | assumption | exact Sz.mono hx (by decide)) (by first | assumption | exact Sz.mono hy (by decide))) rfl) ?_
    refine dl_new (sem_alloc zc24 rfl) rfl <| dl_st (sem_store_a ty24 rfl rfl rfl rfl rfl rfl) <| dl_end <| dw_seq <| dw_draw 4 [] follows_mixed (by kernel_rfl) rfl rfl <| dq_r (sem_load (us := cI (Int.gcd x y : Int)) ty24 rfl rfl rfl rfl rfl) <| dq_r (sem_call rfl rfl (unit_ok) rfl) <| dq_r (sem_call rfl rfl (iCmp_ok) rfl) ?_
    refine dq_r (sem_cmp rfl rfl rfl rfl) <| dq_end <| dl_start0 <| dl_end ?_
    refine dw_cond rfl (fun hc3 => ?_) (fun hc3 => ?_)
    · -- region 5
      refine dw_draw 6 [] follows_mixed (by kernel_rfl) rfl rfl <| dq_r (sem_load (us := cI x) ty24 rfl rfl rfl rfl rfl) <| dq_r (sem_load (us := cI (Int.gcd x y : Int)) ty24 rfl rfl rfl rfl rfl) ?_
      refine dq_r (sem_call rfl rfl (pExactL_ok (by first | assumption | exact Sz.mono hx (by decide)) (by first | assumption | exact Sz.mono (by assumption) (by decide)) (by first | assumption | exact neg_ne (by assumption) | exact mul_ne (by assumption) (by assumption))) rfl) ?_
      refine dq_r (sem_load (us := cI y) ty24 rfl rfl rfl rfl rfl) <| dq_r (sem_load (us := cI (Int.gcd x y : Int)) ty24 rfl rfl rfl rfl rfl) ?_
      refine dq_r (sem_call rfl rfl (pExactL_ok (by first | assumption | exact Sz.mono hy (by decide)) (by first | assumption | exact Sz.mono (by assumption) (by decide)) (by first | assumption | exact neg_ne (by assumption) | exact mul_ne (by assumption) (by assumption))) rfl) ?_
      refine dq_end <| dl_start0 <| dl_st (sem_store_a ty24 rfl rfl rfl rfl rfl rfl) <| dl_st (sem_store_a ty24 rfl rfl rfl rfl rfl rfl) <| dl_end <| dw_seq <| dw_region (by kernel_rfl) <| dl_r (sem_load (us := cI (x.fdiv (Int.gcd x y : Int))) ty24 rfl rfl rfl rfl rfl) ?_
      refine dl_r (sem_load (us := cI (y.fdiv (Int.gcd x y : Int))) ty24 rfl rfl rfl rfl rfl) <| dl_r (sem_build (us := cQ (x.fdiv (Int.gcd x y : Int)) (y.fdiv (Int.gcd x y : Int))) fs26 zc26 rfl rfl rfl) <| dl_st (sem_store_a ty26 rfl rfl rfl rfl rfl rfl) <| dl_end <| dw_ret ?_
      rw [dR_red (by omega)]
      exact ⟨.inr rfl, (resL_cell (us := cQ (x.fdiv (Int.gcd x y : Int)) (y.fdiv (Int.gcd x y : Int))) ty26 rfl rfl rfl rfl resL_nil)⟩
    · refine dw_skip <| dw_seq <| dw_region (by kernel_rfl) <| dl_r (sem_load (us := cI x) ty24 rfl rfl rfl rfl rfl) <| dl_r (sem_load (us := cI y) ty24 rfl rfl rfl rfl rfl) <| dl_r (sem_build (us := cQ x y) fs26 zc26 rfl rfl rfl) <| dl_st (sem_store_a ty26 rfl rfl rfl rfl rfl rfl) <| dl_end ?_
      refine dw_ret ?_
      rw [dR_red1 (by omega) (f_ne hc3)]
      exact ⟨.inr rfl, (resL_cell (us := cQ x y) ty26 rfl rfl rfl rfl resL_nil)⟩
theorem pMakeL_ok {x y : Int} (hx : Sz 199800 x) (hy : Sz 199800 y) (h0 : y ≠ 0) : Ok Tryz.prog 72 [dI x, dI y] [dR (Rat.divInt x y), .c (.i .i64 0)] := by
  refine Ok.of (by kernel_rfl) Tryz.func72 rfl rfl ?_
  rw [show Tryz.f72.ntmps = 13 from rfl, show Tryz.f72.results.toList = [.cell 4 26, .tmp 5] from rfl]
  refine dw_seq <| dw_region (by kernel_rfl) <| dl_new (sem_box_a rfl rfl) rfl <| dl_new (sem_box_a rfl rfl) rfl <| dl_new (sem_alloc zc26 rfl) rfl <| dl_r (sem_assign rfl rfl) <| dl_end <| dw_seq ?_
  refine dw_seq <| dw_region (by kernel_rfl) <| dl_r (sem_load (us := cI y) ty24 rfl rfl rfl rfl rfl) <| dl_r (sem_call rfl rfl (iSign_ok) rfl) <| dl_r (sem_cmp rfl rfl rfl rfl) <| dl_end ?_
  refine dw_cond rfl (fun hc1 => ?_) (fun hc1 => ?_)
  · exact absurd (t_eq hc1) h0
  · refine dw_skip <| dw_seq <| dw_region (by kernel_rfl) <| dl_r (sem_load (us := cI x) ty24 rfl rfl rfl rfl rfl) <| dl_r (sem_load (us := cI y) ty24 rfl rfl rfl rfl rfl) ?_
    refine dl_r (sem_call rfl rfl (pReduceL_ok (by first | assumption | exact Sz.mono hx (by decide)) (by first | assumption | exact Sz.mono hy (by decide)) (by first | assumption | exact neg_ne (by assumption) | exact mul_ne (by assumption) (by assumption))) rfl) ?_
    refine dl_st (sem_store_a ty26 rfl rfl rfl rfl rfl rfl) <| dl_r (sem_assign rfl rfl) <| dl_end <| dw_ret ?_
    exact ⟨.inr rfl, (resL_cell (us := cR (Rat.divInt x y)) ty26 rfl rfl rfl rfl (resL_tmp rfl resL_nil))⟩
theorem pMake_ok {x y : Int} (hx : Sz 999 x) (hy : Sz 999 y) (h0 : y ≠ 0) : Ok Tryz.prog 72 [dI x, dI y] [dR (Rat.divInt x y), .c (.i .i64 0)] := pMakeL_ok (hx.mono (by decide)) (hy.mono (by decide)) h0
theorem pNegL_ok {x : Rat} (hx : Rz 60000 x) : Ok Tryz.prog 31 [dR x] [dR (-x)] := by
  refine Ok.of (by kernel_rfl) Tryz.func31 rfl rfl ?_
  rw [show Tryz.f31.ntmps = 9 from rfl, show Tryz.f31.results.toList = [.cell 2 26] from rfl]
  refine dw_seq <| dw_region (by kernel_rfl) <| dl_new (sem_box_a rfl rfl) rfl <| dl_new (sem_alloc zc26 rfl) rfl <| dl_end <| dw_seq <| dw_draw 6 [] follows_mixed (by kernel_rfl) rfl rfl <| dq_r (sem_field fd26_0 rfl rfl) ?_
  refine dq_r (sem_load (us := cI x.num) ty24 rfl rfl rfl rfl rfl) ?_
  refine dq_r (sem_call rfl rfl (iNeg_ok (by first | assumption | exact Sz.mono (Rz.n hx) (by decide))) rfl) ?_
  refine dq_r (sem_field fd26_1 rfl rfl) <| dq_r (sem_load (us := cI (x.den : Int)) ty24 rfl rfl rfl rfl rfl) <| dq_r (sem_build (us := cQ (-x.num) (x.den : Int)) fs26 zc26 rfl rfl rfl) <| dq_end <| dl_start0 <| dl_st (sem_store_a ty26 rfl rfl rfl rfl rfl rfl) <| dl_end <| dw_ret ?_
  rw [dR_eq (Rat.neg_num x) (congrArg Int.ofNat (Rat.neg_den x))]
  exact ⟨.inr rfl, (resL_cell (us := cQ (-x.num) (x.den : Int)) ty26 rfl rfl rfl rfl resL_nil)⟩
theorem pAddL_ok {x y : Rat} (hx : Rz 60000 x) (hy : Rz 60000 y) : Ok Tryz.prog 63 [dR x, dR y] [dR (x + y)] := by
  have hn := mul_ne (den_ne x) (den_ne y)
  have hn1 := den_ne x
  refine Ok.of (by kernel_rfl) Tryz.func63 rfl rfl ?_
  rw [show Tryz.f63.ntmps = 36 from rfl, show Tryz.f63.results.toList = [.cell 4 26] from rfl]
  refine dw_seq <| dw_region (by kernel_rfl) <| dl_new (sem_box_a rfl rfl) rfl <| dl_new (sem_box_a rfl rfl) rfl <| dl_new (sem_alloc zc26 rfl) rfl <| dl_end <| dw_seq <| dw_seq ?_
  refine dw_region (by kernel_rfl) <| dl_r (sem_field fd26_1 rfl rfl) <| dl_r (sem_load (us := cI (x.den : Int)) ty24 rfl rfl rfl rfl rfl) <| dl_r (sem_field fd26_1 rfl rfl) <| dl_r (sem_load (us := cI (y.den : Int)) ty24 rfl rfl rfl rfl rfl) <| dl_r (sem_call rfl rfl (iCmp_ok) rfl) <| dl_r (sem_cmp rfl rfl rfl rfl) <| dl_end ?_
  refine dw_cond rfl (fun hc1 => ?_) (fun hc1 => ?_)
  · refine dw_seq <| dw_draw 8 [] follows_mixed (by kernel_rfl) rfl rfl <| dq_r (sem_field fd26_0 rfl rfl) <| dq_r (sem_load (us := cI x.num) ty24 rfl rfl rfl rfl rfl) <| dq_r (sem_field fd26_0 rfl rfl) <| dq_r (sem_load (us := cI y.num) ty24 rfl rfl rfl rfl rfl) ?_
    refine dq_r (sem_call rfl rfl (iAdd_ok (by first | assumption | exact Sz.mono (Rz.n hx) (by decide)) (by first | assumption | exact Sz.mono (Rz.n hy) (by decide))) rfl) ?_
    refine dq_r (sem_field fd26_1 rfl rfl) <| dq_r (sem_load (us := cI (x.den : Int)) ty24 rfl rfl rfl rfl rfl) ?_
    refine dq_r (sem_call rfl rfl (pReduceL_ok (by first | assumption | exact Sz.mono (Sz.addm (Rz.n hx) (Rz.n hy)) (by decide)) (by first | assumption | exact Sz.mono (Rz.d hx) (by decide)) (by first | assumption | exact neg_ne (by assumption) | exact mul_ne (by assumption) (by assumption))) rfl) ?_
    refine dq_end <| dl_start0 <| dl_st (sem_store_a ty26 rfl rfl rfl rfl rfl rfl) <| dl_end <| dw_ret ?_
    rw [← radd1 (t_eq hc1)]
    exact ⟨.inr rfl, (resL_cell (us := cR (Rat.divInt (x.num + y.num) (x.den : Int))) ty26 rfl rfl rfl rfl resL_nil)⟩
  · refine dw_skip <| dw_seq <| dw_draw 17 [] follows_mixed (by kernel_rfl) rfl rfl <| dq_r (sem_field fd26_0 rfl rfl) <| dq_r (sem_load (us := cI x.num) ty24 rfl rfl rfl rfl rfl) <| dq_r (sem_field fd26_1 rfl rfl) <| dq_r (sem_load (us := cI (y.den : Int)) ty24 rfl rfl rfl rfl rfl) ?_
    refine dq_r (sem_call rfl rfl (iMul_ok (by first | assumption | exact Sz.mono (Rz.n hx) (by decide)) (by first | assumption | exact Sz.mono (Rz.d hy) (by decide))) rfl) ?_
    refine dq_r (sem_field fd26_0 rfl rfl) <| dq_r (sem_load (us := cI y.num) ty24 rfl rfl rfl rfl rfl) <| dq_r (sem_field fd26_1 rfl rfl) <| dq_r (sem_load (us := cI (x.den : Int)) ty24 rfl rfl rfl rfl rfl) ?_
    refine dq_r (sem_call rfl rfl (iMul_ok (by first | assumption | exact Sz.mono (Rz.n hy) (by decide)) (by first | assumption | exact Sz.mono (Rz.d hx) (by decide))) rfl) ?_
    refine dq_r (sem_call rfl rfl (iAdd_ok (by first | assumption | exact Sz.mono (Sz.mul (Rz.n hx) (Rz.d hy)) (by decide)) (by first | assumption | exact Sz.mono (Sz.mul (Rz.n hy) (Rz.d hx)) (by decide))) rfl) ?_
    refine dq_r (sem_field fd26_1 rfl rfl) <| dq_r (sem_load (us := cI (x.den : Int)) ty24 rfl rfl rfl rfl rfl) <| dq_r (sem_field fd26_1 rfl rfl) <| dq_r (sem_load (us := cI (y.den : Int)) ty24 rfl rfl rfl rfl rfl) ?_
    refine dq_r (sem_call rfl rfl (iMul_ok (by first | assumption | exact Sz.mono (Rz.d hx) (by decide)) (by first | assumption | exact Sz.mono (Rz.d hy) (by decide))) rfl) ?_
    refine dq_r (sem_call rfl rfl (pReduceL_ok (by first | assumption | exact Sz.mono (Sz.addm (Sz.mul (Rz.n hx) (Rz.d hy)) (Sz.mul (Rz.n hy) (Rz.d hx))) (by decide)) (by first | assumption | exact Sz.mono (Sz.mul (Rz.d hx) (Rz.d hy)) (by decide)) (by first | assumption | exact neg_ne (by assumption) | exact mul_ne (by assumption) (by assumption))) rfl) ?_
    refine dq_end <| dl_start0 <| dl_st (sem_store_a ty26 rfl rfl rfl rfl rfl rfl) <| dl_end <| dw_ret ?_
    rw [← radd]
    exact ⟨.inr rfl, (resL_cell (us := cR (Rat.divInt ((x.num * (y.den : Int)) + (y.num * (x.den : Int))) ((x.den : Int) * (y.den : Int)))) ty26 rfl rfl rfl rfl resL_nil)⟩
theorem pAdd_ok {x y : Rat} (hx : Rz 300 x) (hy : Rz 300 y) : Ok Tryz.prog 63 [dR x, dR y] [dR (x + y)] := pAddL_ok (hx.mono (by decide)) (hy.mono (by decide))
theorem pSubL_ok {x y : Rat} (hx : Rz 60000 x) (hy : Rz 60000 y) : Ok Tryz.prog 58 [dR x, dR y] [dR (x - y)] := by
  refine Ok.of (by kernel_rfl) Tryz.func58 rfl rfl ?_
  rw [show Tryz.f58.ntmps = 9 from rfl, show Tryz.f58.results.toList = [.cell 4 26] from rfl]
  refine dw_seq <| dw_region (by kernel_rfl) <| dl_new (sem_box_a rfl rfl) rfl <| dl_new (sem_box_a rfl rfl) rfl <| dl_new (sem_alloc zc26 rfl) rfl <| dl_end <| dw_seq <| dw_draw 4 [] follows_mixed (by kernel_rfl) rfl rfl ?_
  refine dq_r (sem_load (us := cR x) ty26 rfl rfl rfl rfl rfl) <| dq_r (sem_load (us := cR y) ty26 rfl rfl rfl rfl rfl) ?_
  refine dq_r (sem_call rfl rfl (pNegL_ok (by first | assumption | exact Rz.mono hy (by decide))) rfl) ?_
  refine dq_r (sem_call rfl rfl (pAddL_ok (by first | assumption | exact Rz.mono hx (by decide)) (by first | assumption | exact Rz.mono (Rz.neg hy) (by decide))) rfl) ?_
  refine dq_end <| dl_start0 <| dl_st (sem_store_a ty26 rfl rfl rfl rfl rfl rfl) <| dl_end <| dw_ret ?_
  rw [Rat.sub_eq_add_neg]
  exact ⟨.inr rfl, (resL_cell (us := cR (x + (-y))) ty26 rfl rfl rfl rfl resL_nil)⟩
theorem pSub_ok {x y : Rat} (hx : Rz 300 x) (hy : Rz 300 y) : Ok Tryz.prog 58 [dR x, dR y] [dR (x - y)] := pSubL_ok (hx.mono (by decide)) (hy.mono (by decide))
theorem pMulL_ok {x y : Rat} (hx : Rz 60000 x) (hy : Rz 60000 y) : Ok Tryz.prog 59 [dR x, dR y] [dR (x * y)] := by
  have hn := mul_ne (den_ne x) (den_ne y)
  refine Ok.of (by kernel_rfl) Tryz.func59 rfl rfl ?_
  rw [show Tryz.f59.ntmps = 16 from rfl, show Tryz.f59.results.toList = [.cell 4 26] from rfl]
  refine dw_seq <| dw_region (by kernel_rfl) <| dl_new (sem_box_a rfl rfl) rfl <| dl_new (sem_box_a rfl rfl) rfl <| dl_new (sem_alloc zc26 rfl) rfl <| dl_end <| dw_seq <| dw_draw 11 [] follows_mixed (by kernel_rfl) rfl rfl ?_
  refine dq_r (sem_field fd26_0 rfl rfl) <| dq_r (sem_load (us := cI x.num) ty24 rfl rfl rfl rfl rfl) <| dq_r (sem_field fd26_0 rfl rfl) <| dq_r (sem_load (us := cI y.num) ty24 rfl rfl rfl rfl rfl) ?_
  refine dq_r (sem_call rfl rfl (iMul_ok (by first | assumption | exact Sz.mono (Rz.n hx) (by decide)) (by first | assumption | exact Sz.mono (Rz.n hy) (by decide))) rfl) ?_
  refine dq_r (sem_field fd26_1 rfl rfl) <| dq_r (sem_load (us := cI (x.den : Int)) ty24 rfl rfl rfl rfl rfl) <| dq_r (sem_field fd26_1 rfl rfl) <| dq_r (sem_load (us := cI (y.den : Int)) ty24 rfl rfl rfl rfl rfl) ?_
  refine dq_r (sem_call rfl rfl (iMul_ok (by first | assumption | exact Sz.mono (Rz.d hx) (by decide)) (by first | assumption | exact Sz.mono (Rz.d hy) (by decide))) rfl) ?_
  refine dq_r (sem_call rfl rfl (pReduceL_ok (by first | assumption | exact Sz.mono (Sz.mul (Rz.n hx) (Rz.n hy)) (by decide)) (by first | assumption | exact Sz.mono (Sz.mul (Rz.d hx) (Rz.d hy)) (by decide)) (by first | assumption | exact neg_ne (by assumption) | exact mul_ne (by assumption) (by assumption))) rfl) ?_
  refine dq_end <| dl_start0 <| dl_st (sem_store_a ty26 rfl rfl rfl rfl rfl rfl) <| dl_end <| dw_ret ?_
  rw [← rmul]
  exact ⟨.inr rfl, (resL_cell (us := cR (Rat.divInt (x.num * y.num) ((x.den : Int) * (y.den : Int)))) ty26 rfl rfl rfl rfl resL_nil)⟩
theorem pMul_ok {x y : Rat} (hx : Rz 300 x) (hy : Rz 300 y) : Ok Tryz.prog 59 [dR x, dR y] [dR (x * y)] := pMulL_ok (hx.mono (by decide)) (hy.mono (by decide))
theorem pDivL_ok {x y : Rat} (hx : Rz 60000 x) (hy : Rz 60000 y) (h0 : y ≠ 0) : Ok Tryz.prog 76 [dR x, dR y] [dR (x / y), .c (.i .i64 0)] := by
  have hn := mul_ne (den_ne x) (num_ne h0)
  refine Ok.of (by kernel_rfl) Tryz.func76 rfl rfl ?_
  rw [show Tryz.f76.ntmps = 21 from rfl, show Tryz.f76.results.toList = [.cell 4 26, .tmp 5] from rfl]
  refine dw_seq <| dw_region (by kernel_rfl) <| dl_new (sem_box_a rfl rfl) rfl <| dl_new (sem_box_a rfl rfl) rfl <| dl_new (sem_alloc zc26 rfl) rfl <| dl_r (sem_assign rfl rfl) <| dl_end <| dw_seq ?_
  refine dw_seq <| dw_region (by kernel_rfl) <| dl_r (sem_load (us := cR y) ty26 rfl rfl rfl rfl rfl) <| dl_r (sem_call rfl rfl (pSignL_ok) rfl) <| dl_r (sem_cmp rfl rfl rfl rfl) <| dl_end ?_
  refine dw_cond rfl (fun hc1 => ?_) (fun hc1 => ?_)
  · exact absurd (cmpR_t0 hc1) h0
  · refine dw_skip <| dw_seq <| dw_draw 11 [] follows_mixed (by kernel_rfl) rfl rfl <| dq_r (sem_field fd26_0 rfl rfl) <| dq_r (sem_load (us := cI x.num) ty24 rfl rfl rfl rfl rfl) <| dq_r (sem_field fd26_1 rfl rfl) <| dq_r (sem_load (us := cI (y.den : Int)) ty24 rfl rfl rfl rfl rfl) ?_
    refine dq_r (sem_call rfl rfl (iMul_ok (by first | assumption | exact Sz.mono (Rz.n hx) (by decide)) (by first | assumption | exact Sz.mono (Rz.d hy) (by decide))) rfl) ?_
    refine dq_r (sem_field fd26_1 rfl rfl) <| dq_r (sem_load (us := cI (x.den : Int)) ty24 rfl rfl rfl rfl rfl) <| dq_r (sem_field fd26_0 rfl rfl) <| dq_r (sem_load (us := cI y.num) ty24 rfl rfl rfl rfl rfl) ?_
    refine dq_r (sem_call rfl rfl (iMul_ok (by first | assumption | exact Sz.mono (Rz.d hx) (by decide)) (by first | assumption | exact Sz.mono (Rz.n hy) (by decide))) rfl) ?_
    refine dq_r (sem_call rfl rfl (pReduceL_ok (by first | assumption | exact Sz.mono (Sz.mul (Rz.n hx) (Rz.d hy)) (by decide)) (by first | assumption | exact Sz.mono (Sz.mul (Rz.d hx) (Rz.n hy)) (by decide)) (by first | assumption | exact neg_ne (by assumption) | exact mul_ne (by assumption) (by assumption))) rfl) ?_
    refine dq_end <| dl_start0 <| dl_st (sem_store_a ty26 rfl rfl rfl rfl rfl rfl) <| dl_r (sem_assign rfl rfl) <| dl_end <| dw_ret ?_
    rw [← rdiv]
    exact ⟨.inr rfl, (resL_cell (us := cR (Rat.divInt (x.num * (y.den : Int)) ((x.den : Int) * y.num))) ty26 rfl rfl rfl rfl (resL_tmp rfl resL_nil))⟩
theorem pDiv_ok {x y : Rat} (hx : Rz 300 x) (hy : Rz 300 y) (h0 : y ≠ 0) : Ok Tryz.prog 76 [dR x, dR y] [dR (x / y), .c (.i .i64 0)] := pDivL_ok (hx.mono (by decide)) (hy.mono (by decide)) h0
theorem pCmpL_ok {x y : Rat} (hx : Rz 60000 x) (hy : Rz 60000 y) : Ok Tryz.prog 65 [dR x, dR y] [.c (.i .i64 (cmpR x y))] := by
  refine Ok.of (by kernel_rfl) Tryz.func65 rfl rfl ?_
  rw [show Tryz.f65.ntmps = 25 from rfl, show Tryz.f65.results.toList = [.tmp 4] from rfl]
  refine dw_seq <| dw_region (by kernel_rfl) <| dl_new (sem_box_a rfl rfl) rfl <| dl_new (sem_box_a rfl rfl) rfl <| dl_r (sem_assign rfl rfl) <| dl_end <| dw_seq <| dw_seq ?_
  refine dw_draw 6 [] follows_mixed (by kernel_rfl) rfl rfl <| dq_r (sem_load (us := cR x) ty26 rfl rfl rfl rfl rfl) <| dq_r (sem_call rfl rfl (pSignL_ok) rfl) <| dq_r (sem_load (us := cR y) ty26 rfl rfl rfl rfl rfl) <| dq_r (sem_call rfl rfl (pSignL_ok) rfl) <| dq_r (sem_call rfl rfl (cmpInt_ok) rfl) <| dq_r (sem_assign rfl rfl) <| dq_end ?_
  refine dl_start0 <| dl_end <| dw_seq <| dw_region (by kernel_rfl) <| dl_r (sem_move rfl rfl) <| dl_r (sem_cmp rfl rfl rfl rfl) <| dl_end ?_
  refine dw_cond rfl (fun hc1 => ?_) (fun hc1 => ?_)
  · refine dw_seq <| dw_region (by kernel_rfl) <| dl_r (sem_move rfl rfl) <| dl_r (sem_assign rfl rfl) <| dl_end <| dw_ret ?_
    rw [← cmpR_signs hc1]
    exact ⟨.inr rfl, (resL_tmp rfl resL_nil)⟩
  · refine dw_skip <| dw_seq <| dw_draw 12 [] follows_mixed (by kernel_rfl) rfl rfl <| dq_r (sem_field fd26_0 rfl rfl) <| dq_r (sem_load (us := cI x.num) ty24 rfl rfl rfl rfl rfl) <| dq_r (sem_field fd26_1 rfl rfl) <| dq_r (sem_load (us := cI (y.den : Int)) ty24 rfl rfl rfl rfl rfl) ?_
    refine dq_r (sem_call rfl rfl (iMul_ok (by first | assumption | exact Sz.mono (Rz.n hx) (by decide)) (by first | assumption | exact Sz.mono (Rz.d hy) (by decide))) rfl) ?_
    refine dq_r (sem_field fd26_0 rfl rfl) <| dq_r (sem_load (us := cI y.num) ty24 rfl rfl rfl rfl rfl) <| dq_r (sem_field fd26_1 rfl rfl) <| dq_r (sem_load (us := cI (x.den : Int)) ty24 rfl rfl rfl rfl rfl) ?_
    refine dq_r (sem_call rfl rfl (iMul_ok (by first | assumption | exact Sz.mono (Rz.n hy) (by decide)) (by first | assumption | exact Sz.mono (Rz.d hx) (by decide))) rfl) ?_
    refine dq_r (sem_call rfl rfl (iCmp_ok) rfl) <| dq_r (sem_assign rfl rfl) <| dq_end <| dl_start0 <| dl_end <| dw_ret ?_
    rw [cmpR_mul (x := x) (y := y)]
    exact ⟨.inr rfl, (resL_tmp rfl resL_nil)⟩
theorem pFloorL_ok {x : Rat} (hx : Rz 60000 x) : Ok Tryz.prog 105 [dR x] [dI (x.num.fdiv (x.den : Int))] := by
  have hn1 := den_ne x
  refine Ok.of (by kernel_rfl) Tryz.func105 rfl rfl ?_
  rw [show Tryz.f105.ntmps = 16 from rfl, show Tryz.f105.results.toList = [.cell 2 24] from rfl]
  refine dw_seq <| dw_region (by kernel_rfl) <| dl_new (sem_box_a rfl rfl) rfl <| dl_new (sem_alloc zc24 rfl) rfl <| dl_end <| dw_seq <| dw_region (by kernel_rfl) <| dl_r (sem_field fd26_0 rfl rfl) ?_
  refine dl_r (sem_load (us := cI x.num) ty24 rfl rfl rfl rfl rfl) <| dl_r (sem_field fd26_1 rfl rfl) <| dl_r (sem_load (us := cI (x.den : Int)) ty24 rfl rfl rfl rfl rfl) ?_
  refine dl_r (sem_call rfl rfl (iDivMod_ok (by first | assumption | exact Sz.mono (Rz.n hx) (by decide)) (by first | assumption | exact Sz.mono (Rz.d hx) (by decide)) (by assumption)) rfl) ?_
  refine dl_r (sem_move rfl rfl) <| dl_r (sem_extract rfl rfl rfl) <| dl_r (sem_extract rfl rfl rfl) <| dl_r (sem_extract rfl rfl rfl) <| dl_new (sem_alloc zc24 rfl) rfl <| dl_new (sem_alloc zc24 rfl) rfl <| dl_st (sem_store_a ty24 rfl rfl rfl rfl rfl rfl) <| dl_st (sem_store_a ty24 rfl rfl rfl rfl rfl rfl) ?_
  refine dl_r (sem_assign rfl rfl) <| dl_end <| dw_seq <| dw_region (by kernel_rfl) <| dl_r (sem_load (us := cI (x.num.fdiv (x.den : Int))) ty24 rfl rfl rfl rfl rfl) <| dl_st (sem_store_a ty24 rfl rfl rfl rfl rfl rfl) <| dl_end <| dw_ret ?_
  exact ⟨.inr rfl, (resL_cell (us := cI (x.num.fdiv (x.den : Int))) ty24 rfl rfl rfl rfl resL_nil)⟩
theorem sUnit_ok  : Ok Tryz.prog 40 [] [dI 1] := by
  refine Ok.of (by kernel_rfl) Tryz.func40 rfl rfl ?_
  rw [show Tryz.f40.ntmps = 2 from rfl, show Tryz.f40.results.toList = [.cell 0 24] from rfl]
  refine dw_seq <| dw_region (by kernel_rfl) <| dl_new (sem_alloc zc24 rfl) rfl <| dl_end <| dw_seq <| dw_region (by kernel_rfl) <| dl_r (sem_call rfl rfl (nFrom_ok (by omega) (by omega)) rfl) <| dl_st (sem_store_a ty24 rfl rfl rfl rfl rfl rfl) ?_
  refine dl_end <| dw_ret ?_
  exact ⟨.inr rfl, (resL_cell (us := cI 1) ty24 rfl rfl rfl rfl resL_nil)⟩
theorem sSign_ok {x : Rat} : Ok Tryz.prog 16 [dR x] [.c (.i .i64 (cmpR x 0))] := by
  refine Ok.of (by kernel_rfl) Tryz.func16 rfl rfl ?_
  rw [show Tryz.f16.ntmps = 6 from rfl, show Tryz.f16.results.toList = [.tmp 2] from rfl]
  refine dw_seq <| dw_region (by kernel_rfl) <| dl_new (sem_box_a rfl rfl) rfl <| dl_r (sem_assign rfl rfl) <| dl_end <| dw_seq <| dw_region (by kernel_rfl) <| dl_r (sem_field fd26_0 rfl rfl) ?_
  refine dl_r (sem_load (us := cI x.num) ty24 rfl rfl rfl rfl rfl) <| dl_r (sem_call rfl rfl (nSign_ok) rfl) <| dl_r (sem_assign rfl rfl) <| dl_end <| dw_ret ?_
  rw [← cmpR_num]
  exact ⟨.inr rfl, (resL_tmp rfl resL_nil)⟩
theorem sSignL_ok {x : Rat} : Ok Tryz.prog 16 [dR x] [.c (.i .i64 (cmpR x 0))] := sSign_ok
theorem sFrom_ok {n : Int} (h0 : -9223372036854775808 ≤ n) (h1 : n ≤ 9223372036854775807) : Ok Tryz.prog 42 [.c (.i .i64 n)] [dR (n : Rat)] := by
  refine Ok.of (by kernel_rfl) Tryz.func42 rfl rfl ?_
  rw [show Tryz.f42.ntmps = 7 from rfl, show Tryz.f42.results.toList = [.cell 2 26] from rfl]
  refine dw_seq <| dw_region (by kernel_rfl) <| dl_new (sem_alloc zc26 rfl) rfl <| dl_end <| dw_seq <| dw_region (by kernel_rfl) <| dl_r (sem_move rfl rfl) <| dl_r (sem_call rfl rfl (nFrom_ok (by omega) (by omega)) rfl) ?_
  refine dl_r (sem_call rfl rfl (sUnit_ok) rfl) <| dl_r (sem_build (us := cQ n 1) fs26 zc26 rfl rfl rfl) <| dl_st (sem_store_a ty26 rfl rfl rfl rfl rfl rfl) <| dl_end <| dw_ret ?_
  rw [dR_int]
  exact ⟨.inr rfl, (resL_cell (us := cQ n 1) ty26 rfl rfl rfl rfl resL_nil)⟩
theorem sFromL_ok {n : Int} (h0 : -9223372036854775808 ≤ n) (h1 : n ≤ 9223372036854775807) : Ok Tryz.prog 42 [.c (.i .i64 n)] [dR (n : Rat)] := sFrom_ok h0 h1
theorem sReduceL_ok {x y : Int} (hx : Sz 199800 x) (hy : Sz 199800 y) (h0 : y ≠ 0) : Ok Tryz.prog 49 [dI x, dI y] [dR (Rat.divInt x y)] := by
  have hg := gcd_ne (n := x) h0
  have hg2 := gcd_ne (n := -x) (d := -y) (by omega)
  have hgs := (Sz.gcd (x := x) hy h0).mono (l := 200000) (by decide)
  have hgs2 := (Sz.gcd (x := -x) hy.neg (by omega)).mono (l := 200000) (by decide)
  refine Ok.of (by kernel_rfl) Tryz.func49 rfl rfl ?_
  rw [show Tryz.f49.ntmps = 39 from rfl, show Tryz.f49.results.toList = [.cell 4 26] from rfl]
  refine dw_seq <| dw_region (by kernel_rfl) <| dl_new (sem_box_a rfl rfl) rfl <| dl_new (sem_box_a rfl rfl) rfl <| dl_new (sem_alloc zc26 rfl) rfl <| dl_end <| dw_seq <| dw_seq ?_
  refine dw_region (by kernel_rfl) <| dl_r (sem_load (us := cI y) ty24 rfl rfl rfl rfl rfl) <| dl_r (sem_call rfl rfl (nSign_ok) rfl) <| dl_r (sem_cmp rfl rfl rfl rfl) <| dl_end ?_
  refine dw_cond rfl (fun hc1 => ?_) (fun hc1 => ?_)
  · have hn := t_lt hc1
    refine dw_draw 4 [] follows_mixed (by kernel_rfl) rfl rfl <| dq_r (sem_load (us := cI x) ty24 rfl rfl rfl rfl rfl) ?_
    refine dq_r (sem_call rfl rfl (nNeg_ok (by first | assumption | exact Sz.mono hx (by decide))) rfl) ?_
    refine dq_r (sem_load (us := cI y) ty24 rfl rfl rfl rfl rfl) ?_
    refine dq_r (sem_call rfl rfl (nNeg_ok (by first | assumption | exact Sz.mono hy (by decide))) rfl) ?_
    refine dq_end <| dl_start0 <| dl_st (sem_store_a ty24 rfl rfl rfl rfl rfl rfl) <| dl_st (sem_store_a ty24 rfl rfl rfl rfl rfl rfl) <| dl_end <| dw_seq <| dw_region (by kernel_rfl) <| dl_r (sem_load (us := cI (-x)) ty24 rfl rfl rfl rfl rfl) ?_
    refine dl_r (sem_load (us := cI (-y)) ty24 rfl rfl rfl rfl rfl) ?_
    refine dl_r (sem_call rfl rfl (nGCD_ok (by first | assumption | exact Sz.mono (Sz.neg hx) (by decide)) (by first | assumption | exact Sz.mono (Sz.neg hy) (by decide))) rfl) ?_
    refine dl_new (sem_alloc zc24 rfl) rfl <| dl_st (sem_store_a ty24 rfl rfl rfl rfl rfl rfl) <| dl_end <| dw_seq <| dw_region (by kernel_rfl) <| dl_r (sem_load (us := cI (-x)) ty24 rfl rfl rfl rfl rfl) <| dl_r (sem_load (us := cI ((Int.gcd (-x) (-y) : Int))) ty24 rfl rfl rfl rfl rfl) ?_
    refine dl_r (sem_call rfl rfl (nDivMod_ok (by first | assumption | exact Sz.mono (Sz.neg hx) (by decide)) (by first | assumption | exact Sz.mono (by assumption) (by decide)) (by assumption)) rfl) ?_
    refine dl_r (sem_move rfl rfl) <| dl_r (sem_extract rfl rfl rfl) <| dl_r (sem_extract rfl rfl rfl) <| dl_r (sem_extract rfl rfl rfl) <| dl_new (sem_alloc zc24 rfl) rfl <| dl_new (sem_alloc zc24 rfl) rfl <| dl_st (sem_store_a ty24 rfl rfl rfl rfl rfl rfl) <| dl_st (sem_store_a ty24 rfl rfl rfl rfl rfl rfl) ?_
    refine dl_r (sem_assign rfl rfl) <| dl_end <| dw_seq <| dw_region (by kernel_rfl) <| dl_r (sem_load (us := cI (-y)) ty24 rfl rfl rfl rfl rfl) <| dl_r (sem_load (us := cI ((Int.gcd (-x) (-y) : Int))) ty24 rfl rfl rfl rfl rfl) ?_
    refine dl_r (sem_call rfl rfl (nDivMod_ok (by first | assumption | exact Sz.mono (Sz.neg hy) (by decide)) (by first | assumption | exact Sz.mono (by assumption) (by decide)) (by assumption)) rfl) ?_
    refine dl_r (sem_move rfl rfl) <| dl_r (sem_extract rfl rfl rfl) <| dl_r (sem_extract rfl rfl rfl) <| dl_r (sem_extract rfl rfl rfl) <| dl_new (sem_alloc zc24 rfl) rfl <| dl_new (sem_alloc zc24 rfl) rfl <| dl_st (sem_store_a ty24 rfl rfl rfl rfl rfl rfl) <| dl_st (sem_store_a ty24 rfl rfl rfl rfl rfl rfl) ?_
    refine dl_r (sem_assign rfl rfl) <| dl_end <| dw_seq <| dw_region (by kernel_rfl) <| dl_r (sem_load (us := cI ((-x).fdiv ((Int.gcd (-x) (-y) : Int)))) ty24 rfl rfl rfl rfl rfl) <| dl_r (sem_load (us := cI ((-y).fdiv ((Int.gcd (-x) (-y) : Int)))) ty24 rfl rfl rfl rfl rfl) <| dl_r (sem_build (us := cQ ((-x).fdiv ((Int.gcd (-x) (-y) : Int))) ((-y).fdiv ((Int.gcd (-x) (-y) : Int)))) fs26 zc26 rfl rfl rfl) <| dl_st (sem_store_a ty26 rfl rfl rfl rfl rfl rfl) ?_
    refine dl_end <| dw_ret ?_
    rw [dR_neg, dR_red (by omega)]
    exact ⟨.inr rfl, (resL_cell (us := cQ ((-x).fdiv ((Int.gcd (-x) (-y) : Int))) ((-y).fdiv ((Int.gcd (-x) (-y) : Int)))) ty26 rfl rfl rfl rfl resL_nil)⟩
  · have hn := f_lt hc1
    refine dw_skip <| dw_seq <| dw_region (by kernel_rfl) <| dl_r (sem_load (us := cI x) ty24 rfl rfl rfl rfl rfl) <| dl_r (sem_load (us := cI y) ty24 rfl rfl rfl rfl rfl) ?_
    refine dl_r (sem_call rfl rfl (nGCD_ok (by first | assumption | exact Sz.mono hx (by decide)) (by first | assumption | exact Sz.mono hy (by decide))) rfl) ?_
    refine dl_new (sem_alloc zc24 rfl) rfl <| dl_st (sem_store_a ty24 rfl rfl rfl rfl rfl rfl) <| dl_end <| dw_seq <| dw_region (by kernel_rfl) <| dl_r (sem_load (us := cI x) ty24 rfl rfl rfl rfl rfl) <| dl_r (sem_load (us := cI (Int.gcd x y : Int)) ty24 rfl rfl rfl rfl rfl) ?_
    refine dl_r (sem_call rfl rfl (nDivMod_ok (by first | assumption | exact Sz.mono hx (by decide)) (by first | assumption | exact Sz.mono (by assumption) (by decide)) (by assumption)) rfl) ?_
    refine dl_r (sem_move rfl rfl) <| dl_r (sem_extract rfl rfl rfl) <| dl_r (sem_extract rfl rfl rfl) <| dl_r (sem_extract rfl rfl rfl) <| dl_new (sem_alloc zc24 rfl) rfl <| dl_new (sem_alloc zc24 rfl) rfl <| dl_st (sem_store_a ty24 rfl rfl rfl rfl rfl rfl) <| dl_st (sem_store_a ty24 rfl rfl rfl rfl rfl rfl) ?_
    refine dl_r (sem_assign rfl rfl) <| dl_end <| dw_seq <| dw_region (by kernel_rfl) <| dl_r (sem_load (us := cI y) ty24 rfl rfl rfl rfl rfl) <| dl_r (sem_load (us := cI (Int.gcd x y : Int)) ty24 rfl rfl rfl rfl rfl) ?_
    refine dl_r (sem_call rfl rfl (nDivMod_ok (by first | assumption | exact Sz.mono hy (by decide)) (by first | assumption | exact Sz.mono (by assumption) (by decide)) (by assumption)) rfl) ?_
    refine dl_r (sem_move rfl rfl) <| dl_r (sem_extract rfl rfl rfl) <| dl_r (sem_extract rfl rfl rfl) <| dl_r (sem_extract rfl rfl rfl) <| dl_new (sem_alloc zc24 rfl) rfl <| dl_new (sem_alloc zc24 rfl) rfl <| dl_st (sem_store_a ty24 rfl rfl rfl rfl rfl rfl) <| dl_st (sem_store_a ty24 rfl rfl rfl rfl rfl rfl) ?_
    refine dl_r (sem_assign rfl rfl) <| dl_end <| dw_seq <| dw_region (by kernel_rfl) <| dl_r (sem_load (us := cI (x.fdiv (Int.gcd x y : Int))) ty24 rfl rfl rfl rfl rfl) <| dl_r (sem_load (us := cI (y.fdiv (Int.gcd x y : Int))) ty24 rfl rfl rfl rfl rfl) <| dl_r (sem_build (us := cQ (x.fdiv (Int.gcd x y : Int)) (y.fdiv (Int.gcd x y : Int))) fs26 zc26 rfl rfl rfl) <| dl_st (sem_store_a ty26 rfl rfl rfl rfl rfl rfl) ?_
    refine dl_end <| dw_ret ?_
    rw [dR_red (by omega)]
    exact ⟨.inr rfl, (resL_cell (us := cQ (x.fdiv (Int.gcd x y : Int)) (y.fdiv (Int.gcd x y : Int))) ty26 rfl rfl rfl rfl resL_nil)⟩
theorem sMakeL_ok {x y : Int} (hx : Sz 199800 x) (hy : Sz 199800 y) (h0 : y ≠ 0) : Ok Tryz.prog 56 [dI x, dI y] [dR (Rat.divInt x y), .c (.i .i64 0)] := by
  refine Ok.of (by kernel_rfl) Tryz.func56 rfl rfl ?_
  rw [show Tryz.f56.ntmps = 13 from rfl, show Tryz.f56.results.toList = [.cell 4 26, .tmp 5] from rfl]
  refine dw_seq <| dw_region (by kernel_rfl) <| dl_new (sem_box_a rfl rfl) rfl <| dl_new (sem_box_a rfl rfl) rfl <| dl_new (sem_alloc zc26 rfl) rfl <| dl_r (sem_assign rfl rfl) <| dl_end <| dw_seq ?_
  refine dw_seq <| dw_region (by kernel_rfl) <| dl_r (sem_load (us := cI y) ty24 rfl rfl rfl rfl rfl) <| dl_r (sem_call rfl rfl (nSign_ok) rfl) <| dl_r (sem_cmp rfl rfl rfl rfl) <| dl_end ?_
  refine dw_cond rfl (fun hc1 => ?_) (fun hc1 => ?_)
  · exact absurd (t_eq hc1) h0
  · refine dw_skip <| dw_seq <| dw_region (by kernel_rfl) <| dl_r (sem_load (us := cI x) ty24 rfl rfl rfl rfl rfl) <| dl_r (sem_load (us := cI y) ty24 rfl rfl rfl rfl rfl) ?_
    refine dl_r (sem_call rfl rfl (sReduceL_ok (by first | assumption | exact Sz.mono hx (by decide)) (by first | assumption | exact Sz.mono hy (by decide)) (by first | assumption | exact neg_ne (by assumption) | exact mul_ne (by assumption) (by assumption))) rfl) ?_
    refine dl_st (sem_store_a ty26 rfl rfl rfl rfl rfl rfl) <| dl_r (sem_assign rfl rfl) <| dl_end <| dw_ret ?_
    exact ⟨.inr rfl, (resL_cell (us := cR (Rat.divInt x y)) ty26 rfl rfl rfl rfl (resL_tmp rfl resL_nil))⟩
theorem sFracL_ok {n d : Int} (h0 : -9223372036854775808 ≤ n) (h1 : n ≤ 9223372036854775807) (h2 : -9223372036854775808 ≤ d) (h3 : d ≤ 9223372036854775807) (hd : d ≠ 0) : Ok Tryz.prog 23 [.c (.i .i64 n), .c (.i .i64 d)] [dR (Rat.divInt n d)] := by
  have z1 : Sz 199800 n := Sz.small (by decide) h0 h1
  have z2 : Sz 199800 d := Sz.small (by decide) h2 h3
  refine Ok.of (by kernel_rfl) Tryz.func23 rfl rfl ?_
  rw [show Tryz.f23.ntmps = 12 from rfl, show Tryz.f23.results.toList = [.cell 4 26] from rfl]
  refine dw_seq <| dw_region (by kernel_rfl) <| dl_new (sem_alloc zc26 rfl) rfl <| dl_end <| dw_seq <| dw_seq <| dw_region (by kernel_rfl) <| dl_r (sem_move rfl rfl) ?_
  refine dl_r (sem_cmp rfl rfl rfl rfl) <| dl_end ?_
  refine dw_cond rfl (fun hc1 => ?_) (fun hc1 => ?_)
  · exact absurd (by simpa using hc1) hd
  · refine dw_skip <| dw_seq <| dw_region (by kernel_rfl) <| dl_r (sem_move rfl rfl) <| dl_r (sem_call rfl rfl (nFrom_ok (by omega) (by omega)) rfl) <| dl_r (sem_move rfl rfl) <| dl_r (sem_call rfl rfl (nFrom_ok (by omega) (by omega)) rfl) ?_
    refine dl_r (sem_call rfl rfl (sReduceL_ok (by first | assumption | exact Sz.mono (by assumption) (by decide)) (by first | assumption | exact Sz.mono (by assumption) (by decide)) (by first | assumption | exact neg_ne (by assumption) | exact mul_ne (by assumption) (by assumption))) rfl) ?_
    refine dl_st (sem_store_a ty26 rfl rfl rfl rfl rfl rfl) <| dl_end <| dw_ret ?_
    exact ⟨.inr rfl, (resL_cell (us := cR (Rat.divInt n d)) ty26 rfl rfl rfl rfl resL_nil)⟩
theorem sFrac_ok {n d : Int} (h0 : -9223372036854775808 ≤ n) (h1 : n ≤ 9223372036854775807) (h2 : -9223372036854775808 ≤ d) (h3 : d ≤ 9223372036854775807) (hd : d ≠ 0) : Ok Tryz.prog 23 [.c (.i .i64 n), .c (.i .i64 d)] [dR (Rat.divInt n d)] := sFracL_ok h0 h1 h2 h3 hd
theorem sNegL_ok {x : Rat} (hx : Rz 60000 x) : Ok Tryz.prog 48 [dR x] [dR (-x)] := by
  refine Ok.of (by kernel_rfl) Tryz.func48 rfl rfl ?_
  rw [show Tryz.f48.ntmps = 9 from rfl, show Tryz.f48.results.toList = [.cell 2 26] from rfl]
  refine dw_seq <| dw_region (by kernel_rfl) <| dl_new (sem_box_a rfl rfl) rfl <| dl_new (sem_alloc zc26 rfl) rfl <| dl_end <| dw_seq <| dw_draw 6 [] follows_mixed (by kernel_rfl) rfl rfl <| dq_r (sem_field fd26_0 rfl rfl) ?_
  refine dq_r (sem_load (us := cI x.num) ty24 rfl rfl rfl rfl rfl) ?_
  refine dq_r (sem_call rfl rfl (nNeg_ok (by first | assumption | exact Sz.mono (Rz.n hx) (by decide))) rfl) ?_
  refine dq_r (sem_field fd26_1 rfl rfl) <| dq_r (sem_load (us := cI (x.den : Int)) ty24 rfl rfl rfl rfl rfl) <| dq_r (sem_build (us := cQ (-x.num) (x.den : Int)) fs26 zc26 rfl rfl rfl) <| dq_end <| dl_start0 <| dl_st (sem_store_a ty26 rfl rfl rfl rfl rfl rfl) <| dl_end <| dw_ret ?_
  rw [dR_eq (Rat.neg_num x) (congrArg Int.ofNat (Rat.neg_den x))]
  exact ⟨.inr rfl, (resL_cell (us := cQ (-x.num) (x.den : Int)) ty26 rfl rfl rfl rfl resL_nil)⟩
theorem sAddL_ok {x y : Rat} (hx : Rz 60000 x) (hy : Rz 60000 y) : Ok Tryz.prog 18 [dR x, dR y] [dR (x + y)] := by
  have hn := mul_ne (den_ne x) (den_ne y)
  refine Ok.of (by kernel_rfl) Tryz.func18 rfl rfl ?_
  rw [show Tryz.f18.ntmps = 26 from rfl, show Tryz.f18.results.toList = [.cell 4 26] from rfl]
  refine dw_seq <| dw_region (by kernel_rfl) <| dl_new (sem_box_a rfl rfl) rfl <| dl_new (sem_box_a rfl rfl) rfl <| dl_new (sem_alloc zc26 rfl) rfl <| dl_end <| dw_seq <| dw_region (by kernel_rfl) ?_
  refine dl_r (sem_field fd26_0 rfl rfl) <| dl_r (sem_load (us := cI x.num) ty24 rfl rfl rfl rfl rfl) <| dl_r (sem_field fd26_1 rfl rfl) <| dl_r (sem_load (us := cI (y.den : Int)) ty24 rfl rfl rfl rfl rfl) ?_
  refine dl_r (sem_call rfl rfl (nMul_ok (by first | assumption | exact Sz.mono (Rz.n hx) (by decide)) (by first | assumption | exact Sz.mono (Rz.d hy) (by decide))) rfl) ?_
  refine dl_new (sem_alloc zc24 rfl) rfl <| dl_st (sem_store_a ty24 rfl rfl rfl rfl rfl rfl) <| dl_end <| dw_seq <| dw_region (by kernel_rfl) <| dl_r (sem_field fd26_0 rfl rfl) <| dl_r (sem_load (us := cI y.num) ty24 rfl rfl rfl rfl rfl) <| dl_r (sem_field fd26_1 rfl rfl) ?_
  refine dl_r (sem_load (us := cI (x.den : Int)) ty24 rfl rfl rfl rfl rfl) ?_
  refine dl_r (sem_call rfl rfl (nMul_ok (by first | assumption | exact Sz.mono (Rz.n hy) (by decide)) (by first | assumption | exact Sz.mono (Rz.d hx) (by decide))) rfl) ?_
  refine dl_new (sem_alloc zc24 rfl) rfl <| dl_st (sem_store_a ty24 rfl rfl rfl rfl rfl rfl) <| dl_end <| dw_seq <| dw_draw 9 [] follows_mixed (by kernel_rfl) rfl rfl <| dq_r (sem_load (us := cI (x.num * (y.den : Int))) ty24 rfl rfl rfl rfl rfl) <| dq_r (sem_load (us := cI (y.num * (x.den : Int))) ty24 rfl rfl rfl rfl rfl) ?_
  refine dq_r (sem_call rfl rfl (nAdd_ok (by first | assumption | exact Sz.mono (Sz.mul (Rz.n hx) (Rz.d hy)) (by decide)) (by first | assumption | exact Sz.mono (Sz.mul (Rz.n hy) (Rz.d hx)) (by decide))) rfl) ?_
  refine dq_r (sem_field fd26_1 rfl rfl) <| dq_r (sem_load (us := cI (x.den : Int)) ty24 rfl rfl rfl rfl rfl) <| dq_r (sem_field fd26_1 rfl rfl) <| dq_r (sem_load (us := cI (y.den : Int)) ty24 rfl rfl rfl rfl rfl) ?_
  refine dq_r (sem_call rfl rfl (nMul_ok (by first | assumption | exact Sz.mono (Rz.d hx) (by decide)) (by first | assumption | exact Sz.mono (Rz.d hy) (by decide))) rfl) ?_
  refine dq_r (sem_call rfl rfl (sReduceL_ok (by first | assumption | exact Sz.mono (Sz.addm (Sz.mul (Rz.n hx) (Rz.d hy)) (Sz.mul (Rz.n hy) (Rz.d hx))) (by decide)) (by first | assumption | exact Sz.mono (Sz.mul (Rz.d hx) (Rz.d hy)) (by decide)) (by first | assumption | exact neg_ne (by assumption) | exact mul_ne (by assumption) (by assumption))) rfl) ?_
  refine dq_end <| dl_start0 <| dl_st (sem_store_a ty26 rfl rfl rfl rfl rfl rfl) <| dl_end <| dw_ret ?_
  rw [← radd]
  exact ⟨.inr rfl, (resL_cell (us := cR (Rat.divInt ((x.num * (y.den : Int)) + (y.num * (x.den : Int))) ((x.den : Int) * (y.den : Int)))) ty26 rfl rfl rfl rfl resL_nil)⟩
theorem sSubL_ok {x y : Rat} (hx : Rz 60000 x) (hy : Rz 60000 y) : Ok Tryz.prog 14 [dR x, dR y] [dR (x - y)] := by
  refine Ok.of (by kernel_rfl) Tryz.func14 rfl rfl ?_
  rw [show Tryz.f14.ntmps = 9 from rfl, show Tryz.f14.results.toList = [.cell 4 26] from rfl]
  refine dw_seq <| dw_region (by kernel_rfl) <| dl_new (sem_box_a rfl rfl) rfl <| dl_new (sem_box_a rfl rfl) rfl <| dl_new (sem_alloc zc26 rfl) rfl <| dl_end <| dw_seq <| dw_draw 4 [] follows_mixed (by kernel_rfl) rfl rfl ?_
  refine dq_r (sem_load (us := cR x) ty26 rfl rfl rfl rfl rfl) <| dq_r (sem_load (us := cR y) ty26 rfl rfl rfl rfl rfl) ?_
  refine dq_r (sem_call rfl rfl (sNegL_ok (by first | assumption | exact Rz.mono hy (by decide))) rfl) ?_
  refine dq_r (sem_call rfl rfl (sAddL_ok (by first | assumption | exact Rz.mono hx (by decide)) (by first | assumption | exact Rz.mono (Rz.neg hy) (by decide))) rfl) ?_
  refine dq_end <| dl_start0 <| dl_st (sem_store_a ty26 rfl rfl rfl rfl rfl rfl) <| dl_end <| dw_ret ?_
  rw [Rat.sub_eq_add_neg]
  exact ⟨.inr rfl, (resL_cell (us := cR (x + (-y))) ty26 rfl rfl rfl rfl resL_nil)⟩
theorem sMulL_ok {x y : Rat} (hx : Rz 60000 x) (hy : Rz 60000 y) : Ok Tryz.prog 17 [dR x, dR y] [dR (x * y)] := by
  have hn := mul_ne (den_ne x) (den_ne y)
  refine Ok.of (by kernel_rfl) Tryz.func17 rfl rfl ?_
  rw [show Tryz.f17.ntmps = 16 from rfl, show Tryz.f17.results.toList = [.cell 4 26] from rfl]
  refine dw_seq <| dw_region (by kernel_rfl) <| dl_new (sem_box_a rfl rfl) rfl <| dl_new (sem_box_a rfl rfl) rfl <| dl_new (sem_alloc zc26 rfl) rfl <| dl_end <| dw_seq <| dw_draw 11 [] follows_mixed (by kernel_rfl) rfl rfl ?_
  refine dq_r (sem_field fd26_0 rfl rfl) <| dq_r (sem_load (us := cI x.num) ty24 rfl rfl rfl rfl rfl) <| dq_r (sem_field fd26_0 rfl rfl) <| dq_r (sem_load (us := cI y.num) ty24 rfl rfl rfl rfl rfl) ?_
  refine dq_r (sem_call rfl rfl (nMul_ok (by first | assumption | exact Sz.mono (Rz.n hx) (by decide)) (by first | assumption | exact Sz.mono (Rz.n hy) (by decide))) rfl) ?_
  refine dq_r (sem_field fd26_1 rfl rfl) <| dq_r (sem_load (us := cI (x.den : Int)) ty24 rfl rfl rfl rfl rfl) <| dq_r (sem_field fd26_1 rfl rfl) <| dq_r (sem_load (us := cI (y.den : Int)) ty24 rfl rfl rfl rfl rfl) ?_
  refine dq_r (sem_call rfl rfl (nMul_ok (by first | assumption | exact Sz.mono (Rz.d hx) (by decide)) (by first | assumption | exact Sz.mono (Rz.d hy) (by decide))) rfl) ?_
  refine dq_r (sem_call rfl rfl (sReduceL_ok (by first | assumption | exact Sz.mono (Sz.mul (Rz.n hx) (Rz.n hy)) (by decide)) (by first | assumption | exact Sz.mono (Sz.mul (Rz.d hx) (Rz.d hy)) (by decide)) (by first | assumption | exact neg_ne (by assumption) | exact mul_ne (by assumption) (by assumption))) rfl) ?_
  refine dq_end <| dl_start0 <| dl_st (sem_store_a ty26 rfl rfl rfl rfl rfl rfl) <| dl_end <| dw_ret ?_
  rw [← rmul]
  exact ⟨.inr rfl, (resL_cell (us := cR (Rat.divInt (x.num * y.num) ((x.den : Int) * (y.den : Int)))) ty26 rfl rfl rfl rfl resL_nil)⟩
theorem sDivL_ok {x y : Rat} (hx : Rz 60000 x) (hy : Rz 60000 y) (h0 : y ≠ 0) : Ok Tryz.prog 20 [dR x, dR y] [dR (x / y), .c (.i .i64 0)] := by
  have hn := mul_ne (den_ne x) (num_ne h0)
  refine Ok.of (by kernel_rfl) Tryz.func20 rfl rfl ?_
  rw [show Tryz.f20.ntmps = 19 from rfl, show Tryz.f20.results.toList = [.cell 4 26, .tmp 5] from rfl]
  refine dw_seq <| dw_region (by kernel_rfl) <| dl_new (sem_box_a rfl rfl) rfl <| dl_new (sem_box_a rfl rfl) rfl <| dl_new (sem_alloc zc26 rfl) rfl <| dl_r (sem_assign rfl rfl) <| dl_end <| dw_seq ?_
  refine dw_draw 13 [] follows_mixed (by kernel_rfl) rfl rfl <| dq_r (sem_field fd26_0 rfl rfl) <| dq_r (sem_load (us := cI x.num) ty24 rfl rfl rfl rfl rfl) <| dq_r (sem_field fd26_1 rfl rfl) <| dq_r (sem_load (us := cI (y.den : Int)) ty24 rfl rfl rfl rfl rfl) ?_
  refine dq_r (sem_call rfl rfl (nMul_ok (by first | assumption | exact Sz.mono (Rz.n hx) (by decide)) (by first | assumption | exact Sz.mono (Rz.d hy) (by decide))) rfl) ?_
  refine dq_r (sem_field fd26_1 rfl rfl) <| dq_r (sem_load (us := cI (x.den : Int)) ty24 rfl rfl rfl rfl rfl) <| dq_r (sem_field fd26_0 rfl rfl) <| dq_r (sem_load (us := cI y.num) ty24 rfl rfl rfl rfl rfl) ?_
  refine dq_r (sem_call rfl rfl (nMul_ok (by first | assumption | exact Sz.mono (Rz.d hx) (by decide)) (by first | assumption | exact Sz.mono (Rz.n hy) (by decide))) rfl) ?_
  refine dq_r (sem_call rfl rfl (sMakeL_ok (by first | assumption | exact Sz.mono (Sz.mul (Rz.n hx) (Rz.d hy)) (by decide)) (by first | assumption | exact Sz.mono (Sz.mul (Rz.d hx) (Rz.n hy)) (by decide)) (by first | assumption | exact neg_ne (by assumption) | exact mul_ne (by assumption) (by assumption))) rfl) ?_
  refine dq_r (sem_extract rfl rfl rfl) <| dq_r (sem_extract rfl rfl rfl) <| dq_end <| dl_start0 <| dl_st (sem_store_a ty26 rfl rfl rfl rfl rfl rfl) <| dl_r (sem_assign rfl rfl) <| dl_end <| dw_ret ?_
  rw [← rdiv]
  exact ⟨.inr rfl, (resL_cell (us := cR (Rat.divInt (x.num * (y.den : Int)) ((x.den : Int) * y.num))) ty26 rfl rfl rfl rfl (resL_tmp rfl resL_nil))⟩
theorem sCmpL_ok {x y : Rat} (hx : Rz 60000 x) (hy : Rz 60000 y) : Ok Tryz.prog 82 [dR x, dR y] [.c (.i .i64 (cmpR x y))] := by
  refine Ok.of (by kernel_rfl) Tryz.func82 rfl rfl ?_
  rw [show Tryz.f82.ntmps = 16 from rfl, show Tryz.f82.results.toList = [.tmp 4] from rfl]
  refine dw_seq <| dw_region (by kernel_rfl) <| dl_new (sem_box_a rfl rfl) rfl <| dl_new (sem_box_a rfl rfl) rfl <| dl_r (sem_assign rfl rfl) <| dl_end <| dw_seq <| dw_draw 12 [] follows_mixed (by kernel_rfl) rfl rfl ?_
  refine dq_r (sem_field fd26_0 rfl rfl) <| dq_r (sem_load (us := cI x.num) ty24 rfl rfl rfl rfl rfl) <| dq_r (sem_field fd26_1 rfl rfl) <| dq_r (sem_load (us := cI (y.den : Int)) ty24 rfl rfl rfl rfl rfl) ?_
  refine dq_r (sem_call rfl rfl (nMul_ok (by first | assumption | exact Sz.mono (Rz.n hx) (by decide)) (by first | assumption | exact Sz.mono (Rz.d hy) (by decide))) rfl) ?_
  refine dq_r (sem_field fd26_0 rfl rfl) <| dq_r (sem_load (us := cI y.num) ty24 rfl rfl rfl rfl rfl) <| dq_r (sem_field fd26_1 rfl rfl) <| dq_r (sem_load (us := cI (x.den : Int)) ty24 rfl rfl rfl rfl rfl) ?_
  refine dq_r (sem_call rfl rfl (nMul_ok (by first | assumption | exact Sz.mono (Rz.n hy) (by decide)) (by first | assumption | exact Sz.mono (Rz.d hx) (by decide))) rfl) ?_
  refine dq_r (sem_call rfl rfl (nCmp_ok (by first | assumption | exact Sz.mono (Sz.mul (Rz.n hx) (Rz.d hy)) (by decide)) (by first | assumption | exact Sz.mono (Sz.mul (Rz.n hy) (Rz.d hx)) (by decide))) rfl) ?_
  refine dq_r (sem_assign rfl rfl) <| dq_end <| dl_start0 <| dl_end <| dw_ret ?_
  rw [cmpR_mul (x := x) (y := y)]
  exact ⟨.inr rfl, (resL_tmp rfl resL_nil)⟩
theorem sFloorL_ok {x : Rat} (hx : Rz 60000 x) : Ok Tryz.prog 53 [dR x] [dI (x.num.fdiv (x.den : Int))] := by
  have hn1 := den_ne x
  refine Ok.of (by kernel_rfl) Tryz.func53 rfl rfl ?_
  rw [show Tryz.f53.ntmps = 16 from rfl, show Tryz.f53.results.toList = [.cell 2 24] from rfl]
  refine dw_seq <| dw_region (by kernel_rfl) <| dl_new (sem_box_a rfl rfl) rfl <| dl_new (sem_alloc zc24 rfl) rfl <| dl_end <| dw_seq <| dw_region (by kernel_rfl) <| dl_r (sem_field fd26_0 rfl rfl) ?_
  refine dl_r (sem_load (us := cI x.num) ty24 rfl rfl rfl rfl rfl) <| dl_r (sem_field fd26_1 rfl rfl) <| dl_r (sem_load (us := cI (x.den : Int)) ty24 rfl rfl rfl rfl rfl) ?_
  refine dl_r (sem_call rfl rfl (nDivMod_ok (by first | assumption | exact Sz.mono (Rz.n hx) (by decide)) (by first | assumption | exact Sz.mono (Rz.d hx) (by decide)) (by assumption)) rfl) ?_
  refine dl_r (sem_move rfl rfl) <| dl_r (sem_extract rfl rfl rfl) <| dl_r (sem_extract rfl rfl rfl) <| dl_r (sem_extract rfl rfl rfl) <| dl_new (sem_alloc zc24 rfl) rfl <| dl_new (sem_alloc zc24 rfl) rfl <| dl_st (sem_store_a ty24 rfl rfl rfl rfl rfl rfl) <| dl_st (sem_store_a ty24 rfl rfl rfl rfl rfl rfl) ?_
  refine dl_r (sem_assign rfl rfl) <| dl_end <| dw_seq <| dw_region (by kernel_rfl) <| dl_r (sem_load (us := cI (x.num.fdiv (x.den : Int))) ty24 rfl rfl rfl rfl rfl) <| dl_st (sem_store_a ty24 rfl rfl rfl rfl rfl rfl) <| dl_end <| dw_ret ?_
  exact ⟨.inr rfl, (resL_cell (us := cI (x.num.fdiv (x.den : Int))) ty24 rfl rfl rfl rfl resL_nil)⟩
theorem sSideL_ok {x : Int} (hx : Sz 60000 x) : Ok Tryz.prog 64 [dI x] [dI (isqI x), .c (.b (sqI x))] := by
  have hs := Sz.isq hx
  refine Ok.of (by kernel_rfl) Tryz.func64 rfl rfl ?_
  rw [show Tryz.f64.ntmps = 21 from rfl, show Tryz.f64.results.toList = [.cell 2 24, .tmp 3] from rfl]
  refine dw_seq <| dw_region (by kernel_rfl) <| dl_new (sem_box_a rfl rfl) rfl <| dl_new (sem_alloc zc24 rfl) rfl <| dl_r (sem_assign rfl rfl) <| dl_end <| dw_seq <| dw_region (by kernel_rfl) ?_
  refine dl_r (sem_load (us := cI x) ty24 rfl rfl rfl rfl rfl) ?_
  refine dl_r (sem_call rfl rfl (nSqrt_ok (by first | assumption | exact Sz.mono hx (by decide))) rfl) ?_
  refine dl_r (sem_move rfl rfl) <| dl_r (sem_extract rfl rfl rfl) <| dl_r (sem_extract rfl rfl rfl) <| dl_new (sem_alloc zc24 rfl) rfl <| dl_st (sem_store_a ty24 rfl rfl rfl rfl rfl rfl) <| dl_r (sem_assign rfl rfl) <| dl_end <| dw_seq ?_
  refine dw_draw 12 [2] follows_mixed (by kernel_rfl) rfl rfl <| dq_r (sem_load (us := cI (isqI x)) ty24 rfl rfl rfl rfl rfl) <| dq_r (sem_move rfl rfl) <| dq_r (sem_cmp rfl rfl rfl rfl) ?_
  refine dq_rb (sem_move rfl rfl) (fun c1 hb1 => ?_)
  cases c1
  · refine dq_skip (sem_skip rfl) <| dq_skip (sem_skip rfl) <| dq_skip (sem_skip rfl) <| dq_skip (sem_skip rfl) <| dq_skip (sem_skip rfl) <| dq_r (sem_pick rfl rfl rfl rfl) <| dq_st (sem_store_a ty24 rfl rfl rfl rfl rfl rfl) rfl rfl rfl rfl <| dq_r (sem_assign rfl rfl) ?_
    refine dq_end <| dl_start1 <| dl_end <| dw_ret ?_
    rw [sqI_neg (e7 hb1)]
    exact ⟨.inr rfl, (resL_cell (us := cI (isqI x)) ty24 rfl rfl rfl rfl (resL_tmp rfl resL_nil))⟩
  · refine dq_r (sem_load (us := cI (isqI x)) ty24 rfl rfl rfl rfl rfl) <| dq_r (sem_load (us := cI (isqI x)) ty24 rfl rfl rfl rfl rfl) ?_
    refine dq_r (sem_call rfl rfl (nMul_ok (by first | assumption | exact Sz.mono (Sz.isq hx) (by decide)) (by first | assumption | exact Sz.mono (Sz.isq hx) (by decide))) rfl) ?_
    refine dq_r (sem_load (us := cI x) ty24 rfl rfl rfl rfl rfl) ?_
    refine dq_r (sem_call rfl rfl (nSame_ok (by first | assumption | exact Sz.mono (Sz.mul (Sz.isq hx) (Sz.isq hx)) (by decide)) (by first | assumption | exact Sz.mono hx (by decide))) rfl) ?_
    refine dq_r (sem_pick rfl rfl rfl rfl) <| dq_st (sem_store_a ty24 rfl rfl rfl rfl rfl rfl) rfl rfl rfl rfl <| dq_r (sem_assign rfl rfl) <| dq_end <| dl_start1 <| dl_end <| dw_ret ?_
    rw [show sqI x = (isqI x * isqI x == x) from rfl]
    exact ⟨.inr rfl, (resL_cell (us := cI (isqI x)) ty24 rfl rfl rfl rfl (resL_tmp rfl resL_nil))⟩
theorem sSqrtL_ok {x : Rat} (hx : Rz 60000 x) : Ok Tryz.prog 27 [dR x] [dQ (if sqR x then isqI x.num else 0) (if sqR x then isqI (x.den : Int) else 0), .c (.b (sqR x))] := by
  refine Ok.of (by kernel_rfl) Tryz.func27 rfl rfl ?_
  rw [show Tryz.f27.ntmps = 30 from rfl, show Tryz.f27.results.toList = [.cell 2 26, .tmp 3] from rfl]
  refine dw_seq <| dw_region (by kernel_rfl) <| dl_new (sem_box_a rfl rfl) rfl <| dl_new (sem_alloc zc26 rfl) rfl <| dl_r (sem_assign rfl rfl) <| dl_end <| dw_seq <| dw_region (by kernel_rfl) ?_
  refine dl_r (sem_field fd26_0 rfl rfl) <| dl_r (sem_load (us := cI x.num) ty24 rfl rfl rfl rfl rfl) ?_
  refine dl_r (sem_call rfl rfl (sSideL_ok (by first | assumption | exact Sz.mono (Rz.n hx) (by decide))) rfl) ?_
  refine dl_r (sem_move rfl rfl) <| dl_r (sem_extract rfl rfl rfl) <| dl_r (sem_extract rfl rfl rfl) <| dl_new (sem_alloc zc24 rfl) rfl <| dl_st (sem_store_a ty24 rfl rfl rfl rfl rfl rfl) <| dl_r (sem_assign rfl rfl) <| dl_end <| dw_seq ?_
  refine dw_region (by kernel_rfl) <| dl_r (sem_field fd26_1 rfl rfl) <| dl_r (sem_load (us := cI (x.den : Int)) ty24 rfl rfl rfl rfl rfl) ?_
  refine dl_r (sem_call rfl rfl (sSideL_ok (by first | assumption | exact Sz.mono (Rz.d hx) (by decide))) rfl) ?_
  refine dl_r (sem_move rfl rfl) <| dl_r (sem_extract rfl rfl rfl) <| dl_r (sem_extract rfl rfl rfl) <| dl_new (sem_alloc zc24 rfl) rfl <| dl_st (sem_store_a ty24 rfl rfl rfl rfl rfl rfl) <| dl_r (sem_assign rfl rfl) <| dl_end <| dw_seq ?_
  refine dw_seq <| dw_region (by kernel_rfl) <| dl_r (sem_move rfl rfl) <| dl_r (sem_not rfl rfl) ?_
  refine dl_rb (sem_move rfl rfl) (fun c1 hb1 => ?_)
  cases c1
  · refine dl_r (sem_move rfl rfl) <| dl_r (sem_not rfl rfl) <| dl_r (sem_pick rfl rfl rfl rfl) <| dl_end ?_
    refine dw_cond rfl (fun hc2 => ?_) (fun hc2 => ?_)
    · refine dw_seq <| dw_region (by kernel_rfl) <| dl_r (sem_build (us := (([.b false] ++ [.s 0 []]) ++ ([.b false] ++ [.s 0 []]))) fs26 zc26 rfl rfl rfl) <| dl_st (sem_store_a ty26 rfl rfl rfl rfl rfl rfl) <| dl_r (sem_assign rfl rfl) <| dl_end <| dw_ret ?_
      rw [sqR_f2 (by simpa using hc2), if_neg (by decide), if_neg (by decide), dQ_zero]
      exact ⟨.inr rfl, (resL_cell (us := (([.b false] ++ [.s 0 []]) ++ ([.b false] ++ [.s 0 []]))) ty26 rfl rfl rfl rfl (resL_tmp rfl resL_nil))⟩
    · refine dw_skip <| dw_seq <| dw_region (by kernel_rfl) <| dl_r (sem_load (us := cI (isqI x.num)) ty24 rfl rfl rfl rfl rfl) <| dl_r (sem_load (us := cI (isqI (x.den : Int))) ty24 rfl rfl rfl rfl rfl) <| dl_r (sem_build (us := cQ (isqI x.num) (isqI (x.den : Int))) fs26 zc26 rfl rfl rfl) <| dl_st (sem_store_a ty26 rfl rfl rfl rfl rfl rfl) <| dl_r (sem_assign rfl rfl) ?_
      refine dl_end <| dw_ret ?_
      rw [sqR_t (by simpa using hb1) (by simpa using hc2), if_pos rfl, if_pos rfl]
      exact ⟨.inr rfl, (resL_cell (us := cQ (isqI x.num) (isqI (x.den : Int))) ty26 rfl rfl rfl rfl (resL_tmp rfl resL_nil))⟩
  · refine dl_skip (sem_skip rfl) <| dl_skip (sem_skip rfl) <| dl_r (sem_pick rfl rfl rfl rfl) <| dl_end <| dw_true rfl <| dw_seq <| dw_region (by kernel_rfl) <| dl_r (sem_build (us := (([.b false] ++ [.s 0 []]) ++ ([.b false] ++ [.s 0 []]))) fs26 zc26 rfl rfl rfl) ?_
    refine dl_st (sem_store_a ty26 rfl rfl rfl rfl rfl rfl) <| dl_r (sem_assign rfl rfl) <| dl_end <| dw_ret ?_
    rw [sqR_f1 (by simpa using hb1), if_neg (by decide), if_neg (by decide), dQ_zero]
    exact ⟨.inr rfl, (resL_cell (us := (([.b false] ++ [.s 0 []]) ++ ([.b false] ++ [.s 0 []]))) ty26 rfl rfl rfl rfl (resL_tmp rfl resL_nil))⟩
theorem sSqrt_ok {x : Rat} (hx : Rz 300 x) : Ok Tryz.prog 27 [dR x] [dQ (if sqR x then isqI x.num else 0) (if sqR x then isqI (x.den : Int) else 0), .c (.b (sqR x))] := sSqrtL_ok (hx.mono (by decide))
theorem sSameL_ok {x y : Rat} (hx : Rz 60000 x) (hy : Rz 60000 y) : Ok Tryz.prog 11 [dR x, dR y] [.c (.b (decide (x = y)))] := by
  refine Ok.of (by kernel_rfl) Tryz.func11 rfl rfl ?_
  rw [show Tryz.f11.ntmps = 17 from rfl, show Tryz.f11.results.toList = [.tmp 4] from rfl]
  refine dw_seq <| dw_region (by kernel_rfl) <| dl_new (sem_box_a rfl rfl) rfl <| dl_new (sem_box_a rfl rfl) rfl <| dl_r (sem_assign rfl rfl) <| dl_end <| dw_seq <| dw_region (by kernel_rfl) ?_
  refine dl_r (sem_field fd26_0 rfl rfl) <| dl_r (sem_load (us := cI x.num) ty24 rfl rfl rfl rfl rfl) <| dl_r (sem_field fd26_0 rfl rfl) <| dl_r (sem_load (us := cI y.num) ty24 rfl rfl rfl rfl rfl) ?_
  refine dl_r (sem_call rfl rfl (nSame_ok (by first | assumption | exact Sz.mono (Rz.n hx) (by decide)) (by first | assumption | exact Sz.mono (Rz.n hy) (by decide))) rfl) ?_
  refine dl_rb (sem_move rfl rfl) (fun c1 hb1 => ?_)
  cases c1
  · refine dl_skip (sem_skip rfl) <| dl_skip (sem_skip rfl) <| dl_skip (sem_skip rfl) <| dl_skip (sem_skip rfl) <| dl_skip (sem_skip rfl) <| dl_r (sem_pick rfl rfl rfl rfl) <| dl_r (sem_assign rfl rfl) <| dl_end ?_
    refine dw_ret ?_
    rw [same_f hb1]
    exact ⟨.inr rfl, (resL_tmp rfl resL_nil)⟩
  · refine dl_r (sem_field fd26_1 rfl rfl) <| dl_r (sem_load (us := cI (x.den : Int)) ty24 rfl rfl rfl rfl rfl) <| dl_r (sem_field fd26_1 rfl rfl) <| dl_r (sem_load (us := cI (y.den : Int)) ty24 rfl rfl rfl rfl rfl) ?_
    refine dl_r (sem_call rfl rfl (nSame_ok (by first | assumption | exact Sz.mono (Rz.d hx) (by decide)) (by first | assumption | exact Sz.mono (Rz.d hy) (by decide))) rfl) ?_
    refine dl_r (sem_pick rfl rfl rfl rfl) <| dl_r (sem_assign rfl rfl) <| dl_end <| dw_ret ?_
    rw [same_t hb1]
    exact ⟨.inr rfl, (resL_tmp rfl resL_nil)⟩
theorem sSame_ok {x y : Rat} (hx : Rz 300 x) (hy : Rz 300 y) : Ok Tryz.prog 11 [dR x, dR y] [.c (.b (decide (x = y)))] := sSameL_ok (hx.mono (by decide)) (hy.mono (by decide))
theorem nValid_ok {neg : Bool} {xs : List Int} (hb : U32s xs) (hn : xs.length ≤ 1000) : Ok Tryz.prog 36 [.a ([.b neg] ++ [cM xs])] [.c (.b (vI neg xs))] := by
  refine Ok.of (by kernel_rfl) Tryz.func36 rfl rfl ?_
  rw [show Tryz.f36.ntmps = 36 from rfl, show Tryz.f36.results.toList = [.tmp 2] from rfl]
  refine dw_seq <| dw_region (by kernel_rfl) <| dl_new (sem_box_a rfl rfl) rfl <| dl_r (sem_assign rfl rfl) <| dl_end <| dw_seq <| dw_seq <| dw_region (by kernel_rfl) ?_
  refine dl_r (sem_assign rfl rfl) <| dl_end <| dw_block <| dw_loop (ι := {k : Nat // k ≤ xs.length ∧ ∀ j, j < k → xs.getD j 0 < 1000000000}) (fun i => ⟨36, [(1, .p 1 0), (3, .v (.c (.i .i64 (i.1 : Int))))], [(1, 24, ([.b neg] ++ [cM xs]))]⟩) (fun i => xs.length - i.1) ⟨0, Nat.zero_le _, fun j hj => by omega⟩ (sub_of ⟨rfl, rfl, trivial⟩ ⟨rfl, trivial⟩ rfl) ?_
  rintro ⟨k, hk0, hall⟩
  replace hk0 : k ≤ xs.length := hk0
  replace hall : ∀ j, j < k → xs.getD j 0 < 1000000000 := hall
  have hg := u32_getD hb k
  show Dw _ _ ⟨36, [(1, .p 1 0), (3, .v (.c (.i .i64 (k : Int))))], [(1, 24, ([.b neg] ++ [cM xs]))]⟩ _
  refine dw_seq <| dw_seq <| dw_region (by kernel_rfl) <| dl_r (sem_move rfl rfl) <| dl_r (sem_field fd24_1 rfl rfl) <| dl_r (sem_load1 ty22 rfl rfl rfl rfl) <| dl_r (sem_len sl22 rfl rfl) <| dl_r (sem_cmp rfl rfl rfl rfl) ?_
  refine dl_end ?_
  refine dw_cond rfl (fun hc1 => ?_) (fun hc1 => ?_)
  · have hk : k < xs.length := by simp only [decide_eq_true_eq] at hc1; omega
    refine dw_skip <| dw_seq <| dw_block <| dw_seq <| dw_region (by kernel_rfl) <| dl_r (sem_field fd24_1 rfl rfl) <| dl_r (sem_load1 ty22 rfl rfl rfl rfl) <| dl_r (sem_move rfl rfl) ?_
    refine dl_r (sem_index sl22 rfl rfl (by omega) (M_len _) rfl rfl) <| dl_r (sem_loadq1 ty89 rfl (M_get (i := k) (by omega)) rfl) <| dl_r (sem_cmp rfl rfl rfl rfl) <| dl_end ?_
    refine dw_cond rfl (fun hc2 => ?_) (fun hc2 => ?_)
    · have hbad : xs.getD k 0 ≥ 1000000000 := by simpa using hc2
      refine dw_seq <| dw_region (by kernel_rfl) <| dl_r (sem_assign rfl rfl) <| dl_end <| dw_ret ?_
      rw [vI_bad hk hbad]
      exact ⟨.inr rfl, (resL_tmp rfl resL_nil)⟩
    · have hok : ¬ xs.getD k 0 ≥ 1000000000 := by simpa using hc2
      have hstep : ∀ j, j < k + 1 → xs.getD j 0 < 1000000000 := fun j hj => by
        rcases Nat.lt_or_ge j k with h1 | h1
        · exact hall j h1
        · rw [show j = k from by omega]; omega
      refine dw_skip <| dw_region (by kernel_rfl) <| dl_r (sem_move rfl rfl) <| dl_r (sem_ari (r := (k : Int) + 1) rfl rfl (ari_i64_add (by omega) (by omega)) rfl) <| dl_r (sem_assign rfl rfl) <| dl_end ?_
      exact ⟨⟨k + 1, hk, hstep⟩, sub_of ⟨rfl, by rw [show ((k + 1 : Nat) : Int) = (k : Int) + 1 from by omega]; rfl, trivial⟩ ⟨rfl, trivial⟩ rfl, by show xs.length - (k + 1) < xs.length - k; omega⟩
  · have hk : k = xs.length := by simp only [decide_eq_false_iff_not] at hc1; omega
    have hL : Lim xs := lim_of_all hb (by rw [← hk]; exact hall)
    refine dw_exit <| dw_seq <| dw_draw 20 [] follows_mixed (by kernel_rfl) rfl rfl <| dq_r (sem_field fd24_1 rfl rfl) <| dq_r (sem_load1 ty22 rfl rfl rfl rfl) <| dq_r (sem_call rfl rfl (rTrim_ok hL (by omega)) rfl) <| dq_r (sem_len sl22 rfl rfl) <| dq_r (sem_field fd24_1 rfl rfl) ?_
    refine dq_r (sem_load1 ty22 rfl rfl rfl rfl) <| dq_r (sem_len sl22 rfl rfl) <| dq_r (sem_cmp rfl rfl rfl rfl) ?_
    refine dq_rb (sem_move rfl rfl) (fun c3 hb3 => ?_)
    cases c3
    · refine dq_skip (sem_skip rfl) <| dq_skip (sem_skip rfl) <| dq_skip (sem_skip rfl) <| dq_skip (sem_skip rfl) <| dq_skip (sem_skip rfl) <| dq_skip (sem_skip rfl) <| dq_skip (sem_skip rfl) <| dq_skip (sem_skip rfl) ?_
      refine dq_skip (sem_skip rfl) <| dq_r (sem_pick rfl rfl rfl rfl) <| dq_r (sem_assign rfl rfl) <| dq_end <| dl_start0 <| dl_end <| dw_ret ?_
      rw [vI_ref hL, hb3, Bool.false_and]
      exact ⟨.inr rfl, (resL_tmp rfl resL_nil)⟩
    · refine dq_r (sem_field fd24_0 rfl rfl) <| dq_r (sem_load1 ty4 rfl rfl rfl rfl) <| dq_r (sem_not rfl rfl) ?_
      refine dq_rb (sem_move rfl rfl) (fun c4 hb4 => ?_)
      cases c4
      · refine dq_r (sem_field fd24_1 rfl rfl) <| dq_r (sem_load1 ty22 rfl rfl rfl rfl) <| dq_r (sem_len sl22 rfl rfl) <| dq_r (sem_cmp rfl rfl rfl rfl) <| dq_r (sem_pick rfl rfl rfl rfl) <| dq_r (sem_pick rfl rfl rfl rfl) <| dq_r (sem_assign rfl rfl) <| dq_end ?_
        refine dl_start0 <| dl_end <| dw_ret ?_
        rw [vI_ref hL, hb3, hb4, Bool.false_or, Bool.true_and]
        exact ⟨.inr rfl, (resL_tmp rfl resL_nil)⟩
      · refine dq_skip (sem_skip rfl) <| dq_skip (sem_skip rfl) <| dq_skip (sem_skip rfl) <| dq_skip (sem_skip rfl) <| dq_r (sem_pick rfl rfl rfl rfl) <| dq_r (sem_pick rfl rfl rfl rfl) <| dq_r (sem_assign rfl rfl) <| dq_end ?_
        refine dl_start0 <| dl_end <| dw_ret ?_
        rw [vI_ref hL, hb3, hb4, Bool.true_or, Bool.true_and]
        exact ⟨.inr rfl, (resL_tmp rfl resL_nil)⟩
structure RN where
  n1 : Bool
  x1 : List Int
  n2 : Bool
  x2 : List Int
def cN (r : RN) : List CellD := ([.b r.n1] ++ [cM r.x1]) ++ ([.b r.n2] ++ [cM r.x2])
structure RN.Wf (r : RN) : Prop where
  u1 : U32s r.x1
  u2 : U32s r.x2
def vQ (x y : Int) : Bool := decide (0 < y) && (((Int.gcd x y : Nat) : Int) == 1)
def RN.vv (r : RN) : Bool := vI r.n1 r.x1 && vI r.n2 r.x2
def RN.a (r : RN) : Int := sg r.n1 (val r.x1)
def RN.b (r : RN) : Int := sg r.n2 (val r.x2)
def RN.v (r : RN) : Bool := r.vv && vQ r.a r.b
def RN.s (r : RN) (k : Int) : Bool := decide ((r.x1.length : Int) ≤ k) && decide ((r.x2.length : Int) ≤ k) && r.v
theorem vv_data {r : RN} (h : r.Wf) (hv : r.vv = true) : cN r = cQ r.a r.b ∧ (lim r.a.natAbs).length = r.x1.length ∧ (lim r.b.natAbs).length = r.x2.length := by
  unfold RN.vv at hv
  rw [Bool.and_eq_true] at hv
  obtain ⟨h1, h2⟩ := vI_data h.u1 hv.1
  obtain ⟨h3, h4⟩ := vI_data h.u2 hv.2
  refine ⟨?_, h2.symm, h4.symm⟩
  unfold cN cQ
  rw [h1, h3]; rfl
theorem vI_I {x : Int} : vI (decide (x < 0)) (lim x.natAbs) = true := by
  unfold vI
  rw [all_of_lim (lim_lim _), show trm (lim x.natAbs) = lim x.natAbs from nrm_lim _]
  by_cases h : x < 0
  · have : lim x.natAbs ≠ [] := fun e => by have := lim_eq_nil.1 e; omega
    have := List.length_pos_iff.2 this
    simp [h, this]
  · simp [h]
theorem u32_lim (v : Nat) : U32s (lim v) := fun x hx => by have := lim_lim v x hx; omega
theorem nValid_I {x : Int} (hx : Sz 1000 x) : Ok Tryz.prog 36 [dI x] [.c (.b true)] := by
  have := nValid_ok (neg := decide (x < 0)) (xs := lim x.natAbs) (u32_lim _) (lim_len hx)
  rw [vI_I] at this; exact this
theorem vv_f1 {r : RN} (h : r.vv = false) (h1 : (!vI r.n1 r.x1) = false) : (!vI r.n2 r.x2) = true := by
  unfold RN.vv at h
  simp at h1
  rw [h1, Bool.true_and] at h
  rw [h]; rfl
theorem sz_of_len {x : Int} {k : Nat} (h : (lim x.natAbs).length ≤ k) : Sz k x := by
  have h1 := val_lt (lim_lim x.natAbs)
  rw [val_lim] at h1
  have h2 := pw_le h
  exact ⟨by omega, by omega⟩
theorem vQ_R {x y : Int} (h : vQ x y = true) : cQ x y = cR (Rat.divInt x y) := by
  unfold vQ at h
  simp only [Bool.and_eq_true, decide_eq_true_eq, beq_iff_eq] at h
  have := dR_red1 (n := x) h.1 h.2
  unfold dR dQ at this
  injection this with this
  exact this.symm
theorem vQ_of (x : Rat) : vQ x.num (x.den : Int) = true := by
  unfold vQ
  simp only [Bool.and_eq_true, decide_eq_true_eq, beq_iff_eq]
  refine ⟨den_pos x, ?_⟩
  have : Int.gcd x.num (x.den : Int) = 1 := x.reduced
  rw [this]; rfl
theorem vQ_parts {x y : Int} (h : vQ x y = true) : (Rat.divInt x y).num = x ∧ ((Rat.divInt x y).den : Int) = y := by
  unfold vQ at h
  simp only [Bool.and_eq_true, decide_eq_true_eq, beq_iff_eq] at h
  obtain ⟨h1, h2⟩ := h
  have h3 : Int.gcd x y = 1 := by omega
  rw [Rat.num_divInt, Rat.den_divInt, if_neg (by omega), Int.sign_eq_one_of_pos h1, Int.one_mul, Int.gcd_comm y x, h3]
  simp; omega
theorem s_data {r : RN} {k : Nat} (h : r.Wf) (hs : r.s (k : Int) = true) : ∃ x : Rat, Rz k x ∧ cN r = cR x := by
  unfold RN.s RN.v at hs
  simp only [Bool.and_eq_true, decide_eq_true_eq] at hs
  obtain ⟨⟨h1, h2⟩, h3, h4⟩ := hs
  obtain ⟨e1, e2, e3⟩ := vv_data h h3
  obtain ⟨p1, p2⟩ := vQ_parts h4
  refine ⟨Rat.divInt r.a r.b, ⟨?_, ?_⟩, by rw [e1, vQ_R h4]⟩
  · rw [p1]; exact sz_of_len (by omega)
  · rw [p2]; exact sz_of_len (by omega)
theorem vQ_n1 {x y : Int} (h : (cmpI y 0 != 1) = true) : vQ x y = false := by
  unfold vQ
  have h1 : ¬ 0 < y := fun e => by rw [cmp_gt e] at h; cases h
  rw [show decide (0 < y) = false from by simpa using h1]; rfl
theorem n1_ne {y : Int} (h : (cmpI y 0 != 1) = false) : y ≠ 0 := fun e => by rw [cmp_eq e] at h; cases h
theorem vQ_e1 {x y : Int} (h : (cmpI y 0 != 1) = false) : vQ x y = (((Int.gcd x y : Nat) : Int) == 1) := by
  unfold vQ
  have h1 : 0 < y := by
    rcases Int.lt_trichotomy y 0 with e | e | e
    · rw [cmp_lt e] at h; cases h
    · rw [cmp_eq e] at h; cases h
    · exact e
  rw [show decide (0 < y) = true from by simpa using h1, Bool.true_and]
def zc (b c : Rat) : Rat := if b = 0 then 0 else c
theorem zc_t {b c : Rat} (h : b = 0) : zc b c = 0 := by unfold zc; rw [if_pos h]
theorem zc_f {b c : Rat} (h : b ≠ 0) : zc b c = c := by unfold zc; rw [if_neg h]
theorem r_eq {x : Rat} (h : (cmpR x 0 == 0) = true) : x = 0 := cmpR_t0 h
theorem r_ne {x : Rat} (h : (cmpR x 0 == 0) = false) : x ≠ 0 := fun e => by rw [cmpR_eq0.2 e] at h; cases h
theorem z_int : (0 : Rat) = ((0 : Int) : Rat) := rfl
def vRoot (b c : Rat) : Bool := if b = 0 ∨ c = 0 then decide (b = 0 ∧ c = 0) else decide (0 < c) && !sqR c
theorem r_eqb {x : Rat} : (cmpR x 0 == 0) = decide (x = 0) := by rw [Bool.eq_iff_iff, beq_iff_eq, decide_eq_true_eq, cmpR_eq0]
theorem r_gtb {x : Rat} : decide (cmpR x 0 > 0) = decide (0 < x) := by rw [Bool.eq_iff_iff, decide_eq_true_eq, decide_eq_true_eq]; exact cmpR_gt0
theorem vRoot_b {b c : Rat} (h : (cmpR b 0 == 0) = true) : vRoot b c = (cmpR c 0 == 0) := by
  have := r_eq h
  unfold vRoot; rw [if_pos (.inl this), r_eqb, Bool.eq_iff_iff, decide_eq_true_eq, decide_eq_true_eq]
  exact ⟨fun e => e.2, fun e => ⟨this, e⟩⟩
theorem vRoot_c {b c : Rat} (h : (cmpR b 0 == 0) = false) (h2 : (cmpR c 0 == 0) = true) : vRoot b c = false := by
  have := r_ne h
  unfold vRoot; rw [if_pos (.inr (r_eq h2)), decide_eq_false_iff_not]
  exact fun e => this e.1
theorem vRoot_n {b c : Rat} (h : (cmpR b 0 == 0) = false) (h2 : (cmpR c 0 == 0) = false) : vRoot b c = (decide (cmpR c 0 > 0) && !sqR c) := by
  unfold vRoot; rw [if_neg (fun e => e.elim (r_ne h) (r_ne h2)), r_gtb]
theorem sValidA {r : RN} (hr : r.Wf) (hv : r.vv = false) (h1 : r.x1.length ≤ 1000) (h2 : r.x2.length ≤ 1000) : Ok Tryz.prog 9 [.a (cN r)] [.c (.b false)] := by
  have u1 := hr.u1
  have u2 := hr.u2
  refine Ok.of (by kernel_rfl) Tryz.func9 rfl rfl ?_
  rw [show Tryz.f9.ntmps = 26 from rfl, show Tryz.f9.results.toList = [.tmp 2] from rfl]
  refine dw_seq <| dw_region (by kernel_rfl) <| dl_new (sem_box_a rfl rfl) rfl <| dl_r (sem_assign rfl rfl) <| dl_end <| dw_seq <| dw_seq <| dw_region (by kernel_rfl) ?_
  refine dl_r (sem_field fd26_0 rfl rfl) <| dl_r (sem_load (us := ([.b r.n1] ++ [cM r.x1])) ty24 rfl rfl rfl rfl rfl) <| dl_r (sem_call rfl rfl (nValid_ok (by assumption) (by assumption)) rfl) <| dl_r (sem_not rfl rfl) ?_
  refine dl_rb (sem_move rfl rfl) (fun c1 hb1 => ?_)
  cases c1
  · refine dl_r (sem_field fd26_1 rfl rfl) <| dl_r (sem_load (us := ([.b r.n2] ++ [cM r.x2])) ty24 rfl rfl rfl rfl rfl) <| dl_r (sem_call rfl rfl (nValid_ok (by assumption) (by assumption)) rfl) <| dl_r (sem_not rfl rfl) <| dl_r (sem_pick rfl rfl rfl rfl) ?_
    refine dl_rb (sem_move rfl rfl) (fun c2 hb2 => ?_)
    cases c2
    · exact absurd (vv_f1 hv hb1) (by rw [hb2]; decide)
    · refine dl_skip (sem_skip rfl) <| dl_skip (sem_skip rfl) <| dl_skip (sem_skip rfl) <| dl_skip (sem_skip rfl) <| dl_r (sem_pick rfl rfl rfl rfl) <| dl_end <| dw_true rfl <| dw_seq ?_
      refine dw_region (by kernel_rfl) <| dl_r (sem_assign rfl rfl) <| dl_end <| dw_ret ?_
      exact ⟨.inr rfl, (resL_tmp rfl resL_nil)⟩
  · refine dl_skip (sem_skip rfl) <| dl_skip (sem_skip rfl) <| dl_skip (sem_skip rfl) <| dl_skip (sem_skip rfl) <| dl_r (sem_pick rfl rfl rfl rfl) <| dl_r (sem_move rfl rfl) <| dl_skip (sem_skip rfl) <| dl_skip (sem_skip rfl) ?_
    refine dl_skip (sem_skip rfl) <| dl_skip (sem_skip rfl) <| dl_r (sem_pick rfl rfl rfl rfl) <| dl_end <| dw_true rfl <| dw_seq <| dw_region (by kernel_rfl) <| dl_r (sem_assign rfl rfl) ?_
    refine dl_end <| dw_ret ?_
    exact ⟨.inr rfl, (resL_tmp rfl resL_nil)⟩
theorem sValidB {x y : Int} (hx : Sz 999 x) (hy : Sz 999 y) : Ok Tryz.prog 9 [dQ x y] [.c (.b (vQ x y))] := by
  have hx1 : Sz 1000 x := hx.mono (by decide)
  have hy1 : Sz 1000 y := hy.mono (by decide)
  refine Ok.of (by kernel_rfl) Tryz.func9 rfl rfl ?_
  rw [show Tryz.f9.ntmps = 26 from rfl, show Tryz.f9.results.toList = [.tmp 2] from rfl]
  refine dw_seq <| dw_region (by kernel_rfl) <| dl_new (sem_box_a rfl rfl) rfl <| dl_r (sem_assign rfl rfl) <| dl_end <| dw_seq <| dw_seq <| dw_region (by kernel_rfl) ?_
  refine dl_r (sem_field fd26_0 rfl rfl) <| dl_r (sem_load (us := cI x) ty24 rfl rfl rfl rfl rfl) <| dl_r (sem_call rfl rfl (nValid_I (by assumption)) rfl) <| dl_r (sem_not rfl rfl) <| dl_r (sem_move rfl rfl) <| dl_r (sem_field fd26_1 rfl rfl) <| dl_r (sem_load (us := cI y) ty24 rfl rfl rfl rfl rfl) <| dl_r (sem_call rfl rfl (nValid_I (by assumption)) rfl) ?_
  refine dl_r (sem_not rfl rfl) <| dl_r (sem_pick rfl rfl rfl rfl) <| dl_r (sem_move rfl rfl) <| dl_r (sem_field fd26_1 rfl rfl) <| dl_r (sem_load (us := cI y) ty24 rfl rfl rfl rfl rfl) <| dl_r (sem_call rfl rfl (nSign_ok) rfl) <| dl_r (sem_cmp rfl rfl rfl rfl) <| dl_r (sem_pick rfl rfl rfl rfl) ?_
  refine dl_end ?_
  refine dw_cond rfl (fun hc1 => ?_) (fun hc1 => ?_)
  · refine dw_seq <| dw_region (by kernel_rfl) <| dl_r (sem_assign rfl rfl) <| dl_end <| dw_ret ?_
    rw [vQ_n1 hc1]
    exact ⟨.inr rfl, (resL_tmp rfl resL_nil)⟩
  · have hgc : Sz 1000000 ((Int.gcd x y : Nat) : Int) := (Sz.gcd (x := x) hy (n1_ne hc1)).mono (by decide)
    refine dw_skip <| dw_seq <| dw_region (by kernel_rfl) <| dl_r (sem_field fd26_0 rfl rfl) <| dl_r (sem_load (us := cI x) ty24 rfl rfl rfl rfl rfl) <| dl_r (sem_field fd26_1 rfl rfl) <| dl_r (sem_load (us := cI y) ty24 rfl rfl rfl rfl rfl) ?_
    refine dl_r (sem_call rfl rfl (nGCD_ok (by first | assumption | exact Sz.mono hx (by decide)) (by first | assumption | exact Sz.mono hy (by decide))) rfl) ?_
    refine dl_r (sem_call rfl rfl (sUnit_ok) rfl) ?_
    refine dl_r (sem_call rfl rfl (nSame_ok (by first | assumption | exact Sz.mono (by assumption) (by decide)) (by first | assumption | exact Sz.mono (Sz.small (k := 3) (by decide) (by decide) (by decide)) (by decide))) rfl) ?_
    refine dl_r (sem_assign rfl rfl) <| dl_end <| dw_ret ?_
    rw [vQ_e1 hc1]
    exact ⟨.inr rfl, (resL_tmp rfl resL_nil)⟩
theorem sValid_ok {r : RN} (hr : r.Wf) (h1 : r.x1.length ≤ 999) (h2 : r.x2.length ≤ 999) : Ok Tryz.prog 9 [.a (cN r)] [.c (.b r.v)] := by
  cases hv : r.vv with
  | false =>
    have := sValidA hr hv (by omega) (by omega)
    rw [show r.v = false from by unfold RN.v; rw [hv]; rfl]
    exact this
  | true =>
    obtain ⟨e1, e2, e3⟩ := vv_data hr hv
    rw [e1, show r.v = vQ r.a r.b from by unfold RN.v; rw [hv]; rfl]
    exact sValidB (sz_of_len (by omega)) (sz_of_len (by omega))
theorem sValid_R {x : Rat} (hx : Rz 999 x) : Ok Tryz.prog 9 [dR x] [.c (.b true)] := by
  have := sValidB hx.n hx.d
  rw [vQ_of] at this; exact this
def fitB (x : Int) : Bool := decide (-9223372036854775808 ≤ x) && decide (x ≤ 9223372036854775807)
theorem fit_lo {x : Int} (h : x < -9223372036854775808) : fitB x = false := by unfold fitB; rw [decide_eq_false (by omega)]; rfl
theorem fit_hi {x : Int} (h : 9223372036854775807 < x) : fitB x = false := by unfold fitB; rw [decide_eq_false (p := x ≤ 9223372036854775807) (by omega), Bool.and_false]
theorem fit_in {x : Int} (h : ¬ x < -9223372036854775808) (h2 : ¬ 9223372036854775807 < x) : fitB x = true := by unfold fitB; rw [decide_eq_true (by omega), decide_eq_true (by omega)]; rfl
theorem fit_iff {x : Int} : fitB x = true ↔ -9223372036854775808 ≤ x ∧ x ≤ 9223372036854775807 := by unfold fitB; simp
theorem w_neg1 {r : Int} (h0 : 1 ≤ r) (h1 : r ≤ 9223372036854775808) : IntKind.u64.wrap (0 - r) = 18446744073709551616 - r := by unfold IntKind.wrap; simp [IntKind.bits, IntKind.signed]; omega
theorem w_neg2 {r : Int} (h0 : 1 ≤ r) (h1 : r ≤ 9223372036854775808) : IntKind.i64.wrap (18446744073709551616 - r) = -r := by unfold IntKind.wrap; simp [IntKind.bits, IntKind.signed]; omega
theorem dec_t {p : Prop} [Decidable p] (h : decide p = true) : p := by simpa using h
theorem dec_f {p : Prop} [Decidable p] (h : decide p = false) : ¬ p := by simpa using h
theorem not_f {b : Bool} (h : (!b) = false) : b = true := by simpa using h
theorem not_t {b : Bool} (h : (!b) = true) : b = false := by simpa using h
def okI (lo hi : Int) : Bool := decide (-2305843009213693952 ≤ lo) && decide (hi ≤ 2305843009213693952)
theorem ok_lo {lo hi : Int} (h : lo < -2305843009213693952) : okI lo hi = false := by unfold okI; rw [decide_eq_false (by omega)]; rfl
theorem ok_hi {lo hi : Int} (h : hi > 2305843009213693952) : okI lo hi = false := by unfold okI; rw [decide_eq_false (p := hi ≤ 2305843009213693952) (by omega), Bool.and_false]
theorem ok_in {lo hi : Int} (h : ¬ lo < -2305843009213693952) (h2 : ¬ hi > 2305843009213693952) : okI lo hi = true := by unfold okI; rw [decide_eq_true (by omega), decide_eq_true (by omega)]; rfl
def frLo (a : Rat) : Int := (a * ((65536 : Int) : Rat)).num.fdiv ((a * ((65536 : Int) : Rat)).den : Int)
def frHi (a : Rat) : Int := -((-(a * ((65536 : Int) : Rat))).num.fdiv ((-(a * ((65536 : Int) : Rat))).den : Int))
def frOk (a : Rat) : Bool := fitB (frLo a) && (fitB (frHi a) && okI (frLo a) (frHi a))
theorem iInt64_ok {x : Int} (hx : Sz 1000000 x) : Ok Tryz.prog 118 [dI x] [.c (.i .i64 (if fitB x then x else 0)), .c (.b (fitB x))] := by
  refine Ok.of (by kernel_rfl) Tryz.func118 rfl rfl ?_
  rw [show Tryz.f118.ntmps = 39 from rfl, show Tryz.f118.results.toList = [.tmp 2, .tmp 3] from rfl]
  refine dw_seq <| dw_region (by kernel_rfl) <| dl_new (sem_box_a rfl rfl) rfl <| dl_r (sem_assign rfl rfl) <| dl_r (sem_assign rfl rfl) <| dl_end <| dw_seq <| dw_seq ?_
  refine dw_draw 10 [] follows_mixed (by kernel_rfl) rfl rfl <| dq_r (sem_load (us := cI x) ty24 rfl rfl rfl rfl rfl) <| dq_r (sem_call rfl rfl (iFrom_ok (by omega) (by omega)) rfl) <| dq_r (sem_call rfl rfl (iCmp_ok) rfl) <| dq_r (sem_cmp rfl rfl rfl rfl) ?_
  refine dq_rb (sem_move rfl rfl) (fun c1 hb1 => ?_)
  cases c1
  · refine dq_r (sem_load (us := cI x) ty24 rfl rfl rfl rfl rfl) <| dq_r (sem_call rfl rfl (iFrom_ok (by omega) (by omega)) rfl) <| dq_r (sem_call rfl rfl (iCmp_ok) rfl) <| dq_r (sem_cmp rfl rfl rfl rfl) <| dq_r (sem_pick rfl rfl rfl rfl) <| dq_end <| dl_start0 <| dl_end ?_
    refine dw_cond rfl (fun hc2 => ?_) (fun hc2 => ?_)
    · refine dw_seq <| dw_region (by kernel_rfl) <| dl_r (sem_assign rfl rfl) <| dl_r (sem_assign rfl rfl) <| dl_end <| dw_ret ?_
      rw [fit_hi (t_gt hc2), if_neg (by decide)]
      exact ⟨.inr rfl, (resL_tmp rfl (resL_tmp rfl resL_nil))⟩
    · have hlo := f_lt hb1
      have hhi := f_gt hc2
      have hln := lim_len hx
      refine dw_skip <| dw_seq <| dw_region (by kernel_rfl) <| dl_r (sem_assign rfl rfl) <| dl_end <| dw_seq <| dw_seq <| dw_region (by kernel_rfl) ?_
      refine dl_r (sem_field fd24_1 rfl rfl) <| dl_r (sem_load1 ty22 rfl rfl rfl rfl) <| dl_r (sem_len sl22 rfl rfl) ?_
      refine dl_r (sem_ari (r := (((lim x.natAbs).length : Int)) - 1) rfl rfl (ari_i64_sub (by (first | omega | (simp; omega))) (by (first | omega | (simp; omega)))) rfl) ?_
      refine dl_r (sem_assign rfl rfl) <| dl_end <| dw_block <| dw_loop (ι := {t : Nat × Int // ShInv (lim x.natAbs) t.1 t.2}) (fun i => ⟨39, [(1, .p 1 0), (4, .v (.c (.i .u64 i.1.2))), (5, .v (.c (.i .i64 ((i.1.1 : Int) - 1))))], [(1, 24, cI x)]⟩) (fun i => i.1.1) ⟨((lim x.natAbs).length, 0), ⟨Nat.le_refl _, Int.le_refl 0, by rw [List.take_length]; simp⟩⟩ (sub_of ⟨rfl, rfl, rfl, trivial⟩ ⟨rfl, trivial⟩ rfl) ?_
      rintro ⟨⟨j, r⟩, hI⟩
      replace hI : ShInv (lim x.natAbs) j r := hI
      have g5 := hI.le
      have g3 := hI.r0
      have g4 := hI.bound (lim_lim _)
      rw [val_lim] at g4
      show Dw _ _ ⟨39, [(1, .p 1 0), (4, .v (.c (.i .u64 r))), (5, .v (.c (.i .i64 ((j : Int) - 1))))], [(1, 24, cI x)]⟩ _
      refine dw_seq <| dw_seq <| dw_region (by kernel_rfl) <| dl_r (sem_move rfl rfl) <| dl_r (sem_cmp rfl rfl rfl rfl) <| dl_end ?_
      refine dw_cond rfl (fun hc3 => ?_) (fun hc3 => ?_)
      · obtain ⟨q, rfl⟩ : ∃ q, j = q + 1 := ⟨j - 1, by have := dec_t hc3; omega⟩
        have hS := hI.step (lim_lim _)
        have hB := hS.bound (lim_lim _)
        have g1 := lim_getD (lim_lim x.natAbs) q
        rw [val_lim] at hB
        refine Dw.weak (σ' := ⟨39, [(1, .p 1 0), (4, .v (.c (.i .u64 r))), (5, .v (.c (.i .i64 (q : Int))))], [(1, 24, cI x)]⟩) (sub_of ⟨rfl, rfl, by rw [show (q : Int) = ((q + 1 : Nat) : Int) - 1 from by omega]; rfl, trivial⟩ ⟨rfl, trivial⟩ rfl) <| dw_skip <| dw_seq <| dw_block <| dw_region (by kernel_rfl) <| dl_r (sem_move rfl rfl) ?_
        refine dl_r (sem_ari (r := r * 1000000000) rfl rfl (ari_u64_mul (by (first | omega | (simp; omega))) (by (first | omega | (simp; omega)))) rfl) ?_
        refine dl_r (sem_field fd24_1 rfl rfl) <| dl_r (sem_load1 ty22 rfl rfl rfl rfl) <| dl_r (sem_move rfl rfl) ?_
        refine dl_r (sem_index sl22 rfl rfl (by (first | omega | (simp; omega))) (M_len _) rfl rfl) ?_
        refine dl_r (sem_loadq1 ty89 rfl (M_get (i := q) (by (first | omega | (simp; omega)))) rfl) ?_
        refine dl_r (sem_conv' (r := (lim x.natAbs).getD q 0) und89 und69 rfl (nwu64 (by (first | omega | (simp; omega))) (by (first | omega | (simp; omega)))) rfl) ?_
        refine dl_r (sem_ari (r := (r * 1000000000) + ((lim x.natAbs).getD q 0)) rfl rfl (ari_u64_add (by (first | omega | (simp; omega))) (by (first | omega | (simp; omega)))) rfl) ?_
        refine dl_r (sem_assign rfl rfl) <| dl_end <| dw_region (by kernel_rfl) <| dl_r (sem_move rfl rfl) ?_
        refine dl_r (sem_ari (r := (q : Int) - 1) rfl rfl (ari_i64_sub (by (first | omega | (simp; omega))) (by (first | omega | (simp; omega)))) rfl) ?_
        refine dl_r (sem_assign rfl rfl) <| dl_end ?_
        exact ⟨⟨(q, r * 1000000000 + (lim x.natAbs).getD q 0), hS⟩, sub_of ⟨rfl, rfl, rfl, trivial⟩ ⟨rfl, trivial⟩ rfl, by show q < q + 1; omega⟩
      · have hz : j = 0 := by have := dec_f hc3; omega
        have hfin : (x.natAbs : Int) = r := by subst hz; have := hI.v; rw [val_lim] at this; simp [val, pw_zero] at this; omega
        refine dw_exit <| dw_seq <| dw_seq <| dw_region (by kernel_rfl) <| dl_r (sem_field fd24_0 rfl rfl) <| dl_r (sem_load1 ty4 rfl rfl rfl rfl) <| dl_end ?_
        refine dw_cond rfl (fun hc4 => ?_) (fun hc4 => ?_)
        · have hn := dec_t hc4
          refine dw_region (by kernel_rfl) <| dl_r (sem_move rfl rfl) <| dl_r (sem_neg' (r := 18446744073709551616 - r) rfl (w_neg1 (by omega) (by omega)) rfl) <| dl_r (sem_assign rfl rfl) <| dl_end <| dw_seq <| dw_region (by kernel_rfl) <| dl_r (sem_move rfl rfl) ?_
          refine dl_r (sem_conv' (r := x) und69 und2 rfl (by rw [w_neg2 (by omega) (by omega)]; omega) rfl) <| dl_r (sem_assign rfl rfl) <| dl_r (sem_assign rfl rfl) <| dl_end <| dw_ret ?_
          rw [fit_in hlo hhi, if_pos rfl]
          exact ⟨.inr rfl, (resL_tmp rfl (resL_tmp rfl resL_nil))⟩
        · have hn := dec_f hc4
          refine dw_skip <| dw_seq <| dw_region (by kernel_rfl) <| dl_r (sem_move rfl rfl) <| dl_r (sem_conv' (r := x) und69 und2 rfl (by rw [← hfin]; rw [nw64 (by omega) (by omega)]; omega) rfl) <| dl_r (sem_assign rfl rfl) <| dl_r (sem_assign rfl rfl) <| dl_end ?_
          refine dw_ret ?_
          rw [fit_in hlo hhi, if_pos rfl]
          exact ⟨.inr rfl, (resL_tmp rfl (resL_tmp rfl resL_nil))⟩
  · refine dq_skip (sem_skip rfl) <| dq_skip (sem_skip rfl) <| dq_skip (sem_skip rfl) <| dq_skip (sem_skip rfl) <| dq_r (sem_pick rfl rfl rfl rfl) <| dq_end <| dl_start0 <| dl_end ?_
    refine dw_true rfl <| dw_seq <| dw_region (by kernel_rfl) <| dl_r (sem_assign rfl rfl) <| dl_r (sem_assign rfl rfl) <| dl_end <| dw_ret ?_
    rw [fit_lo (t_lt hb1), if_neg (by decide)]
    exact ⟨.inr rfl, (resL_tmp rfl (resL_tmp rfl resL_nil))⟩
end Go.Proofs.YthlnndkgpgfbnaaGreat
