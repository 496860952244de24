/- Package swarfref02. -/
import Derived.Test.YthhhlpdbainlaaaGreatTaI
namespace Go.Proofs.YthhhlpdbainlaaaGreat
open Go Go.RowKit
theorem sUnit_ok  : Ok Tryz.prog 99 [] [dI 1] := by
  refine Ok.of (by kernel_rfl) Tryz.func99 rfl rfl ?_
  rw [show Tryz.f99.ntmps = 2 from rfl, show Tryz.f99.results.toList = [.cell 0 29] from rfl]
  refine dw_seq <| dw_region (by kernel_rfl) <| dl_new (sem_alloc zc29 rfl) rfl <| dl_end <| dw_seq <| dw_region (by kernel_rfl) <| dl_r (sem_call rfl rfl (nFrom_ok (by omega) (by omega)) rfl) <| dl_st (sem_store_a ty29 rfl rfl rfl rfl rfl rfl) ?_
  refine dl_end <| dw_ret ?_
  exact ⟨.inr rfl, (resL_cell (us := cI 1) ty29 rfl rfl rfl rfl resL_nil)⟩
theorem sSign_ok {x : Rat} : Ok Tryz.prog 58 [dR x] [.c (.i .i64 (cmpR x 0))] := by
  refine Ok.of (by kernel_rfl) Tryz.func58 rfl rfl ?_
  rw [show Tryz.f58.ntmps = 6 from rfl, show Tryz.f58.results.toList = [.tmp 2] from rfl]
  refine dw_seq <| dw_region (by kernel_rfl) <| dl_new (sem_box_a rfl rfl) rfl <| dl_r (sem_assign rfl rfl) <| dl_end <| dw_seq <| dw_region (by kernel_rfl) <| dl_r (sem_field fd31_0 rfl rfl) ?_
  refine dl_r (sem_load (us := cI x.num) ty29 rfl rfl rfl rfl rfl) <| dl_r (sem_call rfl rfl (nSign_ok) rfl) <| dl_r (sem_assign rfl rfl) <| dl_end <| dw_ret ?_
  rw [← cmpR_num]
  exact ⟨.inr rfl, (resL_tmp rfl resL_nil)⟩
theorem sFrom_ok {n : Int} (h0 : -9223372036854775808 ≤ n) (h1 : n ≤ 9223372036854775807) : Ok Tryz.prog 50 [.c (.i .i64 n)] [dR (n : Rat)] := by
  refine Ok.of (by kernel_rfl) Tryz.func50 rfl rfl ?_
  rw [show Tryz.f50.ntmps = 7 from rfl, show Tryz.f50.results.toList = [.cell 2 31] from rfl]
  refine dw_seq <| dw_region (by kernel_rfl) <| dl_new (sem_alloc zc31 rfl) rfl <| dl_end <| dw_seq <| dw_region (by kernel_rfl) <| dl_r (sem_move rfl rfl) <| dl_r (sem_call rfl rfl (nFrom_ok (by omega) (by omega)) rfl) ?_
  refine dl_r (sem_call rfl rfl (sUnit_ok) rfl) <| dl_r (sem_build (us := cQ n 1) fs31 zc31 rfl rfl rfl) <| dl_st (sem_store_a ty31 rfl rfl rfl rfl rfl rfl) <| dl_end <| dw_ret ?_
  rw [dR_int]
  exact ⟨.inr rfl, (resL_cell (us := cQ n 1) ty31 rfl rfl rfl rfl resL_nil)⟩
theorem sReduce_ok {x y : Int} (hx : Sz 999 x) (hy : Sz 999 y) (h0 : y ≠ 0) : Ok Tryz.prog 29 [dI x, dI y] [dR (Rat.divInt x y)] := by
  have hg := gcd_ne (n := x) h0
  have hg2 := gcd_ne (n := -x) (d := -y) (by omega)
  have hgs := (Sz.gcd (x := x) hy h0).mono (l := 1000) (by decide)
  have hgs2 := (Sz.gcd (x := -x) hy.neg (by omega)).mono (l := 1000) (by decide)
  refine Ok.of (by kernel_rfl) Tryz.func29 rfl rfl ?_
  rw [show Tryz.f29.ntmps = 39 from rfl, show Tryz.f29.results.toList = [.cell 4 31] from rfl]
  refine dw_seq <| dw_region (by kernel_rfl) <| dl_new (sem_box_a rfl rfl) rfl <| dl_new (sem_box_a rfl rfl) rfl <| dl_new (sem_alloc zc31 rfl) rfl <| dl_end <| dw_seq <| dw_seq ?_
  refine dw_region (by kernel_rfl) <| dl_r (sem_load (us := cI y) ty29 rfl rfl rfl rfl rfl) <| dl_r (sem_call rfl rfl (nSign_ok) rfl) <| dl_r (sem_cmp rfl rfl rfl rfl) <| dl_end ?_
  refine dw_cond rfl (fun hc1 => ?_) (fun hc1 => ?_)
  · have hn := t_lt hc1
    refine dw_draw 4 [] follows_mixed (by kernel_rfl) rfl rfl <| dq_r (sem_load (us := cI x) ty29 rfl rfl rfl rfl rfl) ?_
    refine dq_r (sem_call rfl rfl (nNeg_ok (by first | assumption | exact Sz.mono hx (by decide))) rfl) ?_
    refine dq_r (sem_load (us := cI y) ty29 rfl rfl rfl rfl rfl) ?_
    refine dq_r (sem_call rfl rfl (nNeg_ok (by first | assumption | exact Sz.mono hy (by decide))) rfl) ?_
    refine dq_end <| dl_start0 <| dl_st (sem_store_a ty29 rfl rfl rfl rfl rfl rfl) <| dl_st (sem_store_a ty29 rfl rfl rfl rfl rfl rfl) <| dl_end <| dw_seq <| dw_region (by kernel_rfl) <| dl_r (sem_load (us := cI (-x)) ty29 rfl rfl rfl rfl rfl) ?_
    refine dl_r (sem_load (us := cI (-y)) ty29 rfl rfl rfl rfl rfl) ?_
    refine dl_r (sem_call rfl rfl (nGCD_ok (by first | assumption | exact Sz.mono (Sz.neg hx) (by decide)) (by first | assumption | exact Sz.mono (Sz.neg hy) (by decide))) rfl) ?_
    refine dl_new (sem_alloc zc29 rfl) rfl <| dl_st (sem_store_a ty29 rfl rfl rfl rfl rfl rfl) <| dl_end <| dw_seq <| dw_region (by kernel_rfl) <| dl_r (sem_load (us := cI (-x)) ty29 rfl rfl rfl rfl rfl) <| dl_r (sem_load (us := cI ((Int.gcd (-x) (-y) : Int))) ty29 rfl rfl rfl rfl rfl) ?_
    refine dl_r (sem_call rfl rfl (nDivMod_ok (by first | assumption | exact Sz.mono (Sz.neg hx) (by decide)) (by first | assumption | exact Sz.mono (by assumption) (by decide)) (by assumption)) rfl) ?_
    refine dl_r (sem_move rfl rfl) <| dl_r (sem_extract rfl rfl rfl) <| dl_r (sem_extract rfl rfl rfl) <| dl_r (sem_extract rfl rfl rfl) <| dl_new (sem_alloc zc29 rfl) rfl <| dl_new (sem_alloc zc29 rfl) rfl <| dl_st (sem_store_a ty29 rfl rfl rfl rfl rfl rfl) <| dl_st (sem_store_a ty29 rfl rfl rfl rfl rfl rfl) ?_
    refine dl_r (sem_assign rfl rfl) <| dl_end <| dw_seq <| dw_region (by kernel_rfl) <| dl_r (sem_load (us := cI (-y)) ty29 rfl rfl rfl rfl rfl) <| dl_r (sem_load (us := cI ((Int.gcd (-x) (-y) : Int))) ty29 rfl rfl rfl rfl rfl) ?_
    refine dl_r (sem_call rfl rfl (nDivMod_ok (by first | assumption | exact Sz.mono (Sz.neg hy) (by decide)) (by first | assumption | exact Sz.mono (by assumption) (by decide)) (by assumption)) rfl) ?_
    refine dl_r (sem_move rfl rfl) <| dl_r (sem_extract rfl rfl rfl) <| dl_r (sem_extract rfl rfl rfl) <| dl_r (sem_extract rfl rfl rfl) <| dl_new (sem_alloc zc29 rfl) rfl <| dl_new (sem_alloc zc29 rfl) rfl <| dl_st (sem_store_a ty29 rfl rfl rfl rfl rfl rfl) <| dl_st (sem_store_a ty29 rfl rfl rfl rfl rfl rfl) ?_
    refine dl_r (sem_assign rfl rfl) <| dl_end <| dw_seq <| dw_region (by kernel_rfl) <| dl_r (sem_load (us := cI ((-x).fdiv ((Int.gcd (-x) (-y) : Int)))) ty29 rfl rfl rfl rfl rfl) <| dl_r (sem_load (us := cI ((-y).fdiv ((Int.gcd (-x) (-y) : Int)))) ty29 rfl rfl rfl rfl rfl) <| dl_r (sem_build (us := cQ ((-x).fdiv ((Int.gcd (-x) (-y) : Int))) ((-y).fdiv ((Int.gcd (-x) (-y) : Int)))) fs31 zc31 rfl rfl rfl) <| dl_st (sem_store_a ty31 rfl rfl rfl rfl rfl rfl) ?_
    refine dl_end <| dw_ret ?_
    rw [dR_neg, dR_red (by omega)]
    exact ⟨.inr rfl, (resL_cell (us := cQ ((-x).fdiv ((Int.gcd (-x) (-y) : Int))) ((-y).fdiv ((Int.gcd (-x) (-y) : Int)))) ty31 rfl rfl rfl rfl resL_nil)⟩
  · have hn := f_lt hc1
    refine dw_skip <| dw_seq <| dw_region (by kernel_rfl) <| dl_r (sem_load (us := cI x) ty29 rfl rfl rfl rfl rfl) <| dl_r (sem_load (us := cI y) ty29 rfl rfl rfl rfl rfl) ?_
    refine dl_r (sem_call rfl rfl (nGCD_ok (by first | assumption | exact Sz.mono hx (by decide)) (by first | assumption | exact Sz.mono hy (by decide))) rfl) ?_
    refine dl_new (sem_alloc zc29 rfl) rfl <| dl_st (sem_store_a ty29 rfl rfl rfl rfl rfl rfl) <| dl_end <| dw_seq <| dw_region (by kernel_rfl) <| dl_r (sem_load (us := cI x) ty29 rfl rfl rfl rfl rfl) <| dl_r (sem_load (us := cI (Int.gcd x y : Int)) ty29 rfl rfl rfl rfl rfl) ?_
    refine dl_r (sem_call rfl rfl (nDivMod_ok (by first | assumption | exact Sz.mono hx (by decide)) (by first | assumption | exact Sz.mono (by assumption) (by decide)) (by assumption)) rfl) ?_
    refine dl_r (sem_move rfl rfl) <| dl_r (sem_extract rfl rfl rfl) <| dl_r (sem_extract rfl rfl rfl) <| dl_r (sem_extract rfl rfl rfl) <| dl_new (sem_alloc zc29 rfl) rfl <| dl_new (sem_alloc zc29 rfl) rfl <| dl_st (sem_store_a ty29 rfl rfl rfl rfl rfl rfl) <| dl_st (sem_store_a ty29 rfl rfl rfl rfl rfl rfl) ?_
    refine dl_r (sem_assign rfl rfl) <| dl_end <| dw_seq <| dw_region (by kernel_rfl) <| dl_r (sem_load (us := cI y) ty29 rfl rfl rfl rfl rfl) <| dl_r (sem_load (us := cI (Int.gcd x y : Int)) ty29 rfl rfl rfl rfl rfl) ?_
    refine dl_r (sem_call rfl rfl (nDivMod_ok (by first | assumption | exact Sz.mono hy (by decide)) (by first | assumption | exact Sz.mono (by assumption) (by decide)) (by assumption)) rfl) ?_
    refine dl_r (sem_move rfl rfl) <| dl_r (sem_extract rfl rfl rfl) <| dl_r (sem_extract rfl rfl rfl) <| dl_r (sem_extract rfl rfl rfl) <| dl_new (sem_alloc zc29 rfl) rfl <| dl_new (sem_alloc zc29 rfl) rfl <| dl_st (sem_store_a ty29 rfl rfl rfl rfl rfl rfl) <| dl_st (sem_store_a ty29 rfl rfl rfl rfl rfl rfl) ?_
    refine dl_r (sem_assign rfl rfl) <| dl_end <| dw_seq <| dw_region (by kernel_rfl) <| dl_r (sem_load (us := cI (x.fdiv (Int.gcd x y : Int))) ty29 rfl rfl rfl rfl rfl) <| dl_r (sem_load (us := cI (y.fdiv (Int.gcd x y : Int))) ty29 rfl rfl rfl rfl rfl) <| dl_r (sem_build (us := cQ (x.fdiv (Int.gcd x y : Int)) (y.fdiv (Int.gcd x y : Int))) fs31 zc31 rfl rfl rfl) <| dl_st (sem_store_a ty31 rfl rfl rfl rfl rfl rfl) ?_
    refine dl_end <| dw_ret ?_
    rw [dR_red (by omega)]
    exact ⟨.inr rfl, (resL_cell (us := cQ (x.fdiv (Int.gcd x y : Int)) (y.fdiv (Int.gcd x y : Int))) ty31 rfl rfl rfl rfl resL_nil)⟩
theorem sMake_ok {x y : Int} (hx : Sz 999 x) (hy : Sz 999 y) (h0 : y ≠ 0) : Ok Tryz.prog 333 [dI x, dI y] [dR (Rat.divInt x y), .c (.i .i64 0)] := by
  refine Ok.of (by kernel_rfl) Tryz.func333 rfl rfl ?_
  rw [show Tryz.f333.ntmps = 13 from rfl, show Tryz.f333.results.toList = [.cell 4 31, .tmp 5] from rfl]
  refine dw_seq <| dw_region (by kernel_rfl) <| dl_new (sem_box_a rfl rfl) rfl <| dl_new (sem_box_a rfl rfl) rfl <| dl_new (sem_alloc zc31 rfl) rfl <| dl_r (sem_assign rfl rfl) <| dl_end <| dw_seq ?_
  refine dw_seq <| dw_region (by kernel_rfl) <| dl_r (sem_load (us := cI y) ty29 rfl rfl rfl rfl rfl) <| dl_r (sem_call rfl rfl (nSign_ok) rfl) <| dl_r (sem_cmp rfl rfl rfl rfl) <| dl_end ?_
  refine dw_cond rfl (fun hc1 => ?_) (fun hc1 => ?_)
  · exact absurd (t_eq hc1) h0
  · refine dw_skip <| dw_seq <| dw_region (by kernel_rfl) <| dl_r (sem_load (us := cI x) ty29 rfl rfl rfl rfl rfl) <| dl_r (sem_load (us := cI y) ty29 rfl rfl rfl rfl rfl) ?_
    refine dl_r (sem_call rfl rfl (sReduce_ok (by first | assumption | exact Sz.mono hx (by decide)) (by first | assumption | exact Sz.mono hy (by decide)) (by first | assumption | exact neg_ne (by assumption) | exact mul_ne (by assumption) (by assumption))) rfl) ?_
    refine dl_st (sem_store_a ty31 rfl rfl rfl rfl rfl rfl) <| dl_r (sem_assign rfl rfl) <| dl_end <| dw_ret ?_
    exact ⟨.inr rfl, (resL_cell (us := cR (Rat.divInt x y)) ty31 rfl rfl rfl rfl (resL_tmp rfl resL_nil))⟩
theorem sFrac_ok {n d : Int} (h0 : -9223372036854775808 ≤ n) (h1 : n ≤ 9223372036854775807) (h2 : -9223372036854775808 ≤ d) (h3 : d ≤ 9223372036854775807) (hd : d ≠ 0) : Ok Tryz.prog 7 [.c (.i .i64 n), .c (.i .i64 d)] [dR (Rat.divInt n d)] := by
  have z1 : Sz 999 n := Sz.small (by decide) h0 h1
  have z2 : Sz 999 d := Sz.small (by decide) h2 h3
  refine Ok.of (by kernel_rfl) Tryz.func7 rfl rfl ?_
  rw [show Tryz.f7.ntmps = 12 from rfl, show Tryz.f7.results.toList = [.cell 4 31] from rfl]
  refine dw_seq <| dw_region (by kernel_rfl) <| dl_new (sem_alloc zc31 rfl) rfl <| dl_end <| dw_seq <| dw_seq <| dw_region (by kernel_rfl) <| dl_r (sem_move rfl rfl) ?_
  refine dl_r (sem_cmp rfl rfl rfl rfl) <| dl_end ?_
  refine dw_cond rfl (fun hc1 => ?_) (fun hc1 => ?_)
  · exact absurd (by simpa using hc1) hd
  · refine dw_skip <| dw_seq <| dw_region (by kernel_rfl) <| dl_r (sem_move rfl rfl) <| dl_r (sem_call rfl rfl (nFrom_ok (by omega) (by omega)) rfl) <| dl_r (sem_move rfl rfl) <| dl_r (sem_call rfl rfl (nFrom_ok (by omega) (by omega)) rfl) ?_
    refine dl_r (sem_call rfl rfl (sReduce_ok (by first | assumption | exact Sz.mono (by assumption) (by decide)) (by first | assumption | exact Sz.mono (by assumption) (by decide)) (by first | assumption | exact neg_ne (by assumption) | exact mul_ne (by assumption) (by assumption))) rfl) ?_
    refine dl_st (sem_store_a ty31 rfl rfl rfl rfl rfl rfl) <| dl_end <| dw_ret ?_
    exact ⟨.inr rfl, (resL_cell (us := cR (Rat.divInt n d)) ty31 rfl rfl rfl rfl resL_nil)⟩
theorem sNeg_ok {x : Rat} (hx : Rz 300 x) : Ok Tryz.prog 47 [dR x] [dR (-x)] := by
  refine Ok.of (by kernel_rfl) Tryz.func47 rfl rfl ?_
  rw [show Tryz.f47.ntmps = 9 from rfl, show Tryz.f47.results.toList = [.cell 2 31] from rfl]
  refine dw_seq <| dw_region (by kernel_rfl) <| dl_new (sem_box_a rfl rfl) rfl <| dl_new (sem_alloc zc31 rfl) rfl <| dl_end <| dw_seq <| dw_draw 6 [] follows_mixed (by kernel_rfl) rfl rfl <| dq_r (sem_field fd31_0 rfl rfl) ?_
  refine dq_r (sem_load (us := cI x.num) ty29 rfl rfl rfl rfl rfl) ?_
  refine dq_r (sem_call rfl rfl (nNeg_ok (by first | assumption | exact Sz.mono (Rz.n hx) (by decide))) rfl) ?_
  refine dq_r (sem_field fd31_1 rfl rfl) <| dq_r (sem_load (us := cI (x.den : Int)) ty29 rfl rfl rfl rfl rfl) <| dq_r (sem_build (us := cQ (-x.num) (x.den : Int)) fs31 zc31 rfl rfl rfl) <| dq_end <| dl_start0 <| dl_st (sem_store_a ty31 rfl rfl rfl rfl rfl rfl) <| dl_end <| dw_ret ?_
  rw [dR_eq (Rat.neg_num x) (congrArg Int.ofNat (Rat.neg_den x))]
  exact ⟨.inr rfl, (resL_cell (us := cQ (-x.num) (x.den : Int)) ty31 rfl rfl rfl rfl resL_nil)⟩
theorem sAdd_ok {x y : Rat} (hx : Rz 300 x) (hy : Rz 300 y) : Ok Tryz.prog 46 [dR x, dR y] [dR (x + y)] := by
  have hn := mul_ne (den_ne x) (den_ne y)
  refine Ok.of (by kernel_rfl) Tryz.func46 rfl rfl ?_
  rw [show Tryz.f46.ntmps = 26 from rfl, show Tryz.f46.results.toList = [.cell 4 31] from rfl]
  refine dw_seq <| dw_region (by kernel_rfl) <| dl_new (sem_box_a rfl rfl) rfl <| dl_new (sem_box_a rfl rfl) rfl <| dl_new (sem_alloc zc31 rfl) rfl <| dl_end <| dw_seq <| dw_region (by kernel_rfl) ?_
  refine dl_r (sem_field fd31_0 rfl rfl) <| dl_r (sem_load (us := cI x.num) ty29 rfl rfl rfl rfl rfl) <| dl_r (sem_field fd31_1 rfl rfl) <| dl_r (sem_load (us := cI (y.den : Int)) ty29 rfl rfl rfl rfl rfl) ?_
  refine dl_r (sem_call rfl rfl (nMul_ok (by first | assumption | exact Sz.mono (Rz.n hx) (by decide)) (by first | assumption | exact Sz.mono (Rz.d hy) (by decide))) rfl) ?_
  refine dl_new (sem_alloc zc29 rfl) rfl <| dl_st (sem_store_a ty29 rfl rfl rfl rfl rfl rfl) <| dl_end <| dw_seq <| dw_region (by kernel_rfl) <| dl_r (sem_field fd31_0 rfl rfl) <| dl_r (sem_load (us := cI y.num) ty29 rfl rfl rfl rfl rfl) <| dl_r (sem_field fd31_1 rfl rfl) ?_
  refine dl_r (sem_load (us := cI (x.den : Int)) ty29 rfl rfl rfl rfl rfl) ?_
  refine dl_r (sem_call rfl rfl (nMul_ok (by first | assumption | exact Sz.mono (Rz.n hy) (by decide)) (by first | assumption | exact Sz.mono (Rz.d hx) (by decide))) rfl) ?_
  refine dl_new (sem_alloc zc29 rfl) rfl <| dl_st (sem_store_a ty29 rfl rfl rfl rfl rfl rfl) <| dl_end <| dw_seq <| dw_draw 9 [] follows_mixed (by kernel_rfl) rfl rfl <| dq_r (sem_load (us := cI (x.num * (y.den : Int))) ty29 rfl rfl rfl rfl rfl) <| dq_r (sem_load (us := cI (y.num * (x.den : Int))) ty29 rfl rfl rfl rfl rfl) ?_
  refine dq_r (sem_call rfl rfl (nAdd_ok (by first | assumption | exact Sz.mono (Sz.mul (Rz.n hx) (Rz.d hy)) (by decide)) (by first | assumption | exact Sz.mono (Sz.mul (Rz.n hy) (Rz.d hx)) (by decide))) rfl) ?_
  refine dq_r (sem_field fd31_1 rfl rfl) <| dq_r (sem_load (us := cI (x.den : Int)) ty29 rfl rfl rfl rfl rfl) <| dq_r (sem_field fd31_1 rfl rfl) <| dq_r (sem_load (us := cI (y.den : Int)) ty29 rfl rfl rfl rfl rfl) ?_
  refine dq_r (sem_call rfl rfl (nMul_ok (by first | assumption | exact Sz.mono (Rz.d hx) (by decide)) (by first | assumption | exact Sz.mono (Rz.d hy) (by decide))) rfl) ?_
  refine dq_r (sem_call rfl rfl (sReduce_ok (by first | assumption | exact Sz.mono (Sz.addm (Sz.mul (Rz.n hx) (Rz.d hy)) (Sz.mul (Rz.n hy) (Rz.d hx))) (by decide)) (by first | assumption | exact Sz.mono (Sz.mul (Rz.d hx) (Rz.d hy)) (by decide)) (by first | assumption | exact neg_ne (by assumption) | exact mul_ne (by assumption) (by assumption))) rfl) ?_
  refine dq_end <| dl_start0 <| dl_st (sem_store_a ty31 rfl rfl rfl rfl rfl rfl) <| dl_end <| dw_ret ?_
  rw [← radd]
  exact ⟨.inr rfl, (resL_cell (us := cR (Rat.divInt ((x.num * (y.den : Int)) + (y.num * (x.den : Int))) ((x.den : Int) * (y.den : Int)))) ty31 rfl rfl rfl rfl resL_nil)⟩
theorem sSub_ok {x y : Rat} (hx : Rz 300 x) (hy : Rz 300 y) : Ok Tryz.prog 17 [dR x, dR y] [dR (x - y)] := by
  refine Ok.of (by kernel_rfl) Tryz.func17 rfl rfl ?_
  rw [show Tryz.f17.ntmps = 9 from rfl, show Tryz.f17.results.toList = [.cell 4 31] from rfl]
  refine dw_seq <| dw_region (by kernel_rfl) <| dl_new (sem_box_a rfl rfl) rfl <| dl_new (sem_box_a rfl rfl) rfl <| dl_new (sem_alloc zc31 rfl) rfl <| dl_end <| dw_seq <| dw_draw 4 [] follows_mixed (by kernel_rfl) rfl rfl ?_
  refine dq_r (sem_load (us := cR x) ty31 rfl rfl rfl rfl rfl) <| dq_r (sem_load (us := cR y) ty31 rfl rfl rfl rfl rfl) ?_
  refine dq_r (sem_call rfl rfl (sNeg_ok (by first | assumption | exact Rz.mono hy (by decide))) rfl) ?_
  refine dq_r (sem_call rfl rfl (sAdd_ok (by first | assumption | exact Rz.mono hx (by decide)) (by first | assumption | exact Rz.mono (Rz.neg hy) (by decide))) rfl) ?_
  refine dq_end <| dl_start0 <| dl_st (sem_store_a ty31 rfl rfl rfl rfl rfl rfl) <| dl_end <| dw_ret ?_
  rw [Rat.sub_eq_add_neg]
  exact ⟨.inr rfl, (resL_cell (us := cR (x + (-y))) ty31 rfl rfl rfl rfl resL_nil)⟩
theorem sMul_ok {x y : Rat} (hx : Rz 300 x) (hy : Rz 300 y) : Ok Tryz.prog 61 [dR x, dR y] [dR (x * y)] := by
  have hn := mul_ne (den_ne x) (den_ne y)
  refine Ok.of (by kernel_rfl) Tryz.func61 rfl rfl ?_
  rw [show Tryz.f61.ntmps = 16 from rfl, show Tryz.f61.results.toList = [.cell 4 31] from rfl]
  refine dw_seq <| dw_region (by kernel_rfl) <| dl_new (sem_box_a rfl rfl) rfl <| dl_new (sem_box_a rfl rfl) rfl <| dl_new (sem_alloc zc31 rfl) rfl <| dl_end <| dw_seq <| dw_draw 11 [] follows_mixed (by kernel_rfl) rfl rfl ?_
  refine dq_r (sem_field fd31_0 rfl rfl) <| dq_r (sem_load (us := cI x.num) ty29 rfl rfl rfl rfl rfl) <| dq_r (sem_field fd31_0 rfl rfl) <| dq_r (sem_load (us := cI y.num) ty29 rfl rfl rfl rfl rfl) ?_
  refine dq_r (sem_call rfl rfl (nMul_ok (by first | assumption | exact Sz.mono (Rz.n hx) (by decide)) (by first | assumption | exact Sz.mono (Rz.n hy) (by decide))) rfl) ?_
  refine dq_r (sem_field fd31_1 rfl rfl) <| dq_r (sem_load (us := cI (x.den : Int)) ty29 rfl rfl rfl rfl rfl) <| dq_r (sem_field fd31_1 rfl rfl) <| dq_r (sem_load (us := cI (y.den : Int)) ty29 rfl rfl rfl rfl rfl) ?_
  refine dq_r (sem_call rfl rfl (nMul_ok (by first | assumption | exact Sz.mono (Rz.d hx) (by decide)) (by first | assumption | exact Sz.mono (Rz.d hy) (by decide))) rfl) ?_
  refine dq_r (sem_call rfl rfl (sReduce_ok (by first | assumption | exact Sz.mono (Sz.mul (Rz.n hx) (Rz.n hy)) (by decide)) (by first | assumption | exact Sz.mono (Sz.mul (Rz.d hx) (Rz.d hy)) (by decide)) (by first | assumption | exact neg_ne (by assumption) | exact mul_ne (by assumption) (by assumption))) rfl) ?_
  refine dq_end <| dl_start0 <| dl_st (sem_store_a ty31 rfl rfl rfl rfl rfl rfl) <| dl_end <| dw_ret ?_
  rw [← rmul]
  exact ⟨.inr rfl, (resL_cell (us := cR (Rat.divInt (x.num * y.num) ((x.den : Int) * (y.den : Int)))) ty31 rfl rfl rfl rfl resL_nil)⟩
theorem sDiv_ok {x y : Rat} (hx : Rz 300 x) (hy : Rz 300 y) (h0 : y ≠ 0) : Ok Tryz.prog 292 [dR x, dR y] [dR (x / y), .c (.i .i64 0)] := by
  have hn := mul_ne (den_ne x) (num_ne h0)
  refine Ok.of (by kernel_rfl) Tryz.func292 rfl rfl ?_
  rw [show Tryz.f292.ntmps = 19 from rfl, show Tryz.f292.results.toList = [.cell 4 31, .tmp 5] from rfl]
  refine dw_seq <| dw_region (by kernel_rfl) <| dl_new (sem_box_a rfl rfl) rfl <| dl_new (sem_box_a rfl rfl) rfl <| dl_new (sem_alloc zc31 rfl) rfl <| dl_r (sem_assign rfl rfl) <| dl_end <| dw_seq ?_
  refine dw_draw 13 [] follows_mixed (by kernel_rfl) rfl rfl <| dq_r (sem_field fd31_0 rfl rfl) <| dq_r (sem_load (us := cI x.num) ty29 rfl rfl rfl rfl rfl) <| dq_r (sem_field fd31_1 rfl rfl) <| dq_r (sem_load (us := cI (y.den : Int)) ty29 rfl rfl rfl rfl rfl) ?_
  refine dq_r (sem_call rfl rfl (nMul_ok (by first | assumption | exact Sz.mono (Rz.n hx) (by decide)) (by first | assumption | exact Sz.mono (Rz.d hy) (by decide))) rfl) ?_
  refine dq_r (sem_field fd31_1 rfl rfl) <| dq_r (sem_load (us := cI (x.den : Int)) ty29 rfl rfl rfl rfl rfl) <| dq_r (sem_field fd31_0 rfl rfl) <| dq_r (sem_load (us := cI y.num) ty29 rfl rfl rfl rfl rfl) ?_
  refine dq_r (sem_call rfl rfl (nMul_ok (by first | assumption | exact Sz.mono (Rz.d hx) (by decide)) (by first | assumption | exact Sz.mono (Rz.n hy) (by decide))) rfl) ?_
  refine dq_r (sem_call rfl rfl (sMake_ok (by first | assumption | exact Sz.mono (Sz.mul (Rz.n hx) (Rz.d hy)) (by decide)) (by first | assumption | exact Sz.mono (Sz.mul (Rz.d hx) (Rz.n hy)) (by decide)) (by first | assumption | exact neg_ne (by assumption) | exact mul_ne (by assumption) (by assumption))) rfl) ?_
  refine dq_r (sem_extract rfl rfl rfl) <| dq_r (sem_extract rfl rfl rfl) <| dq_end <| dl_start0 <| dl_st (sem_store_a ty31 rfl rfl rfl rfl rfl rfl) <| dl_r (sem_assign rfl rfl) <| dl_end <| dw_ret ?_
  rw [← rdiv]
  exact ⟨.inr rfl, (resL_cell (us := cR (Rat.divInt (x.num * (y.den : Int)) ((x.den : Int) * y.num))) ty31 rfl rfl rfl rfl (resL_tmp rfl resL_nil))⟩
theorem sCmp_ok {x y : Rat} (hx : Rz 300 x) (hy : Rz 300 y) : Ok Tryz.prog 95 [dR x, dR y] [.c (.i .i64 (cmpR x y))] := by
  refine Ok.of (by kernel_rfl) Tryz.func95 rfl rfl ?_
  rw [show Tryz.f95.ntmps = 16 from rfl, show Tryz.f95.results.toList = [.tmp 4] from rfl]
  refine dw_seq <| dw_region (by kernel_rfl) <| dl_new (sem_box_a rfl rfl) rfl <| dl_new (sem_box_a rfl rfl) rfl <| dl_r (sem_assign rfl rfl) <| dl_end <| dw_seq <| dw_draw 12 [] follows_mixed (by kernel_rfl) rfl rfl ?_
  refine dq_r (sem_field fd31_0 rfl rfl) <| dq_r (sem_load (us := cI x.num) ty29 rfl rfl rfl rfl rfl) <| dq_r (sem_field fd31_1 rfl rfl) <| dq_r (sem_load (us := cI (y.den : Int)) ty29 rfl rfl rfl rfl rfl) ?_
  refine dq_r (sem_call rfl rfl (nMul_ok (by first | assumption | exact Sz.mono (Rz.n hx) (by decide)) (by first | assumption | exact Sz.mono (Rz.d hy) (by decide))) rfl) ?_
  refine dq_r (sem_field fd31_0 rfl rfl) <| dq_r (sem_load (us := cI y.num) ty29 rfl rfl rfl rfl rfl) <| dq_r (sem_field fd31_1 rfl rfl) <| dq_r (sem_load (us := cI (x.den : Int)) ty29 rfl rfl rfl rfl rfl) ?_
  refine dq_r (sem_call rfl rfl (nMul_ok (by first | assumption | exact Sz.mono (Rz.n hy) (by decide)) (by first | assumption | exact Sz.mono (Rz.d hx) (by decide))) rfl) ?_
  refine dq_r (sem_call rfl rfl (nCmp_ok (by first | assumption | exact Sz.mono (Sz.mul (Rz.n hx) (Rz.d hy)) (by decide)) (by first | assumption | exact Sz.mono (Sz.mul (Rz.n hy) (Rz.d hx)) (by decide))) rfl) ?_
  refine dq_r (sem_assign rfl rfl) <| dq_end <| dl_start0 <| dl_end <| dw_ret ?_
  rw [cmpR_mul (x := x) (y := y)]
  exact ⟨.inr rfl, (resL_tmp rfl resL_nil)⟩
theorem sSide_ok {x : Int} (hx : Sz 300 x) : Ok Tryz.prog 109 [dI x] [dI (isqI x), .c (.b (sqI x))] := by
  have hs := Sz.isq hx
  refine Ok.of (by kernel_rfl) Tryz.func109 rfl rfl ?_
  rw [show Tryz.f109.ntmps = 21 from rfl, show Tryz.f109.results.toList = [.cell 2 29, .tmp 3] from rfl]
  refine dw_seq <| dw_region (by kernel_rfl) <| dl_new (sem_box_a rfl rfl) rfl <| dl_new (sem_alloc zc29 rfl) rfl <| dl_r (sem_assign rfl rfl) <| dl_end <| dw_seq <| dw_region (by kernel_rfl) ?_
  refine dl_r (sem_load (us := cI x) ty29 rfl rfl rfl rfl rfl) ?_
  refine dl_r (sem_call rfl rfl (nSqrt_ok (by first | assumption | exact Sz.mono hx (by decide))) rfl) ?_
  refine dl_r (sem_move rfl rfl) <| dl_r (sem_extract rfl rfl rfl) <| dl_r (sem_extract rfl rfl rfl) <| dl_new (sem_alloc zc29 rfl) rfl <| dl_st (sem_store_a ty29 rfl rfl rfl rfl rfl rfl) <| dl_r (sem_assign rfl rfl) <| dl_end <| dw_seq ?_
  refine dw_draw 12 [2] follows_mixed (by kernel_rfl) rfl rfl <| dq_r (sem_load (us := cI (isqI x)) ty29 rfl rfl rfl rfl rfl) <| dq_r (sem_move rfl rfl) <| dq_r (sem_cmp rfl rfl rfl rfl) ?_
  refine dq_rb (sem_move rfl rfl) (fun c1 hb1 => ?_)
  cases c1
  · refine dq_skip (sem_skip rfl) <| dq_skip (sem_skip rfl) <| dq_skip (sem_skip rfl) <| dq_skip (sem_skip rfl) <| dq_skip (sem_skip rfl) <| dq_r (sem_pick rfl rfl rfl rfl) <| dq_st (sem_store_a ty29 rfl rfl rfl rfl rfl rfl) rfl rfl rfl rfl <| dq_r (sem_assign rfl rfl) ?_
    refine dq_end <| dl_start1 <| dl_end <| dw_ret ?_
    rw [sqI_neg (e7 hb1)]
    exact ⟨.inr rfl, (resL_cell (us := cI (isqI x)) ty29 rfl rfl rfl rfl (resL_tmp rfl resL_nil))⟩
  · refine dq_r (sem_load (us := cI (isqI x)) ty29 rfl rfl rfl rfl rfl) <| dq_r (sem_load (us := cI (isqI x)) ty29 rfl rfl rfl rfl rfl) ?_
    refine dq_r (sem_call rfl rfl (nMul_ok (by first | assumption | exact Sz.mono (Sz.isq hx) (by decide)) (by first | assumption | exact Sz.mono (Sz.isq hx) (by decide))) rfl) ?_
    refine dq_r (sem_load (us := cI x) ty29 rfl rfl rfl rfl rfl) ?_
    refine dq_r (sem_call rfl rfl (nSame_ok (by first | assumption | exact Sz.mono (Sz.mul (Sz.isq hx) (Sz.isq hx)) (by decide)) (by first | assumption | exact Sz.mono hx (by decide))) rfl) ?_
    refine dq_r (sem_pick rfl rfl rfl rfl) <| dq_st (sem_store_a ty29 rfl rfl rfl rfl rfl rfl) rfl rfl rfl rfl <| dq_r (sem_assign rfl rfl) <| dq_end <| dl_start1 <| dl_end <| dw_ret ?_
    rw [show sqI x = (isqI x * isqI x == x) from rfl]
    exact ⟨.inr rfl, (resL_cell (us := cI (isqI x)) ty29 rfl rfl rfl rfl (resL_tmp rfl resL_nil))⟩
theorem sSqrt_ok {x : Rat} (hx : Rz 300 x) : Ok Tryz.prog 59 [dR x] [dQ (if sqR x then isqI x.num else 0) (if sqR x then isqI (x.den : Int) else 0), .c (.b (sqR x))] := by
  refine Ok.of (by kernel_rfl) Tryz.func59 rfl rfl ?_
  rw [show Tryz.f59.ntmps = 30 from rfl, show Tryz.f59.results.toList = [.cell 2 31, .tmp 3] from rfl]
  refine dw_seq <| dw_region (by kernel_rfl) <| dl_new (sem_box_a rfl rfl) rfl <| dl_new (sem_alloc zc31 rfl) rfl <| dl_r (sem_assign rfl rfl) <| dl_end <| dw_seq <| dw_region (by kernel_rfl) ?_
  refine dl_r (sem_field fd31_0 rfl rfl) <| dl_r (sem_load (us := cI x.num) ty29 rfl rfl rfl rfl rfl) ?_
  refine dl_r (sem_call rfl rfl (sSide_ok (by first | assumption | exact Sz.mono (Rz.n hx) (by decide))) rfl) ?_
  refine dl_r (sem_move rfl rfl) <| dl_r (sem_extract rfl rfl rfl) <| dl_r (sem_extract rfl rfl rfl) <| dl_new (sem_alloc zc29 rfl) rfl <| dl_st (sem_store_a ty29 rfl rfl rfl rfl rfl rfl) <| dl_r (sem_assign rfl rfl) <| dl_end <| dw_seq ?_
  refine dw_region (by kernel_rfl) <| dl_r (sem_field fd31_1 rfl rfl) <| dl_r (sem_load (us := cI (x.den : Int)) ty29 rfl rfl rfl rfl rfl) ?_
  refine dl_r (sem_call rfl rfl (sSide_ok (by first | assumption | exact Sz.mono (Rz.d hx) (by decide))) rfl) ?_
  refine dl_r (sem_move rfl rfl) <| dl_r (sem_extract rfl rfl rfl) <| dl_r (sem_extract rfl rfl rfl) <| dl_new (sem_alloc zc29 rfl) rfl <| dl_st (sem_store_a ty29 rfl rfl rfl rfl rfl rfl) <| dl_r (sem_assign rfl rfl) <| dl_end <| dw_seq ?_
  refine dw_seq <| dw_region (by kernel_rfl) <| dl_r (sem_move rfl rfl) <| dl_r (sem_not rfl rfl) ?_
  refine dl_rb (sem_move rfl rfl) (fun c1 hb1 => ?_)
  cases c1
  · refine dl_r (sem_move rfl rfl) <| dl_r (sem_not rfl rfl) <| dl_r (sem_pick rfl rfl rfl rfl) <| dl_end ?_
    refine dw_cond rfl (fun hc2 => ?_) (fun hc2 => ?_)
    · refine dw_seq <| dw_region (by kernel_rfl) <| dl_r (sem_build (us := (([.b false] ++ [.s 0 []]) ++ ([.b false] ++ [.s 0 []]))) fs31 zc31 rfl rfl rfl) <| dl_st (sem_store_a ty31 rfl rfl rfl rfl rfl rfl) <| dl_r (sem_assign rfl rfl) <| dl_end <| dw_ret ?_
      rw [sqR_f2 (by simpa using hc2), if_neg (by decide), if_neg (by decide), dQ_zero]
      exact ⟨.inr rfl, (resL_cell (us := (([.b false] ++ [.s 0 []]) ++ ([.b false] ++ [.s 0 []]))) ty31 rfl rfl rfl rfl (resL_tmp rfl resL_nil))⟩
    · refine dw_skip <| dw_seq <| dw_region (by kernel_rfl) <| dl_r (sem_load (us := cI (isqI x.num)) ty29 rfl rfl rfl rfl rfl) <| dl_r (sem_load (us := cI (isqI (x.den : Int))) ty29 rfl rfl rfl rfl rfl) <| dl_r (sem_build (us := cQ (isqI x.num) (isqI (x.den : Int))) fs31 zc31 rfl rfl rfl) <| dl_st (sem_store_a ty31 rfl rfl rfl rfl rfl rfl) <| dl_r (sem_assign rfl rfl) ?_
      refine dl_end <| dw_ret ?_
      rw [sqR_t (by simpa using hb1) (by simpa using hc2), if_pos rfl, if_pos rfl]
      exact ⟨.inr rfl, (resL_cell (us := cQ (isqI x.num) (isqI (x.den : Int))) ty31 rfl rfl rfl rfl (resL_tmp rfl resL_nil))⟩
  · refine dl_skip (sem_skip rfl) <| dl_skip (sem_skip rfl) <| dl_r (sem_pick rfl rfl rfl rfl) <| dl_end <| dw_true rfl <| dw_seq <| dw_region (by kernel_rfl) <| dl_r (sem_build (us := (([.b false] ++ [.s 0 []]) ++ ([.b false] ++ [.s 0 []]))) fs31 zc31 rfl rfl rfl) ?_
    refine dl_st (sem_store_a ty31 rfl rfl rfl rfl rfl rfl) <| dl_r (sem_assign rfl rfl) <| dl_end <| dw_ret ?_
    rw [sqR_f1 (by simpa using hb1), if_neg (by decide), if_neg (by decide), dQ_zero]
    exact ⟨.inr rfl, (resL_cell (us := (([.b false] ++ [.s 0 []]) ++ ([.b false] ++ [.s 0 []]))) ty31 rfl rfl rfl rfl (resL_tmp rfl resL_nil))⟩
theorem nValid_ok {neg : Bool} {xs : List Int} (hb : U32s xs) (hn : xs.length ≤ 1000) : Ok Tryz.prog 241 [.a ([.b neg] ++ [cM xs])] [.c (.b (vI neg xs))] := by
  refine Ok.of (by kernel_rfl) Tryz.func241 rfl rfl ?_
  rw [show Tryz.f241.ntmps = 36 from rfl, show Tryz.f241.results.toList = [.tmp 2] from rfl]
  refine dw_seq <| dw_region (by kernel_rfl) <| dl_new (sem_box_a rfl rfl) rfl <| dl_r (sem_assign rfl rfl) <| dl_end <| dw_seq <| dw_seq <| dw_region (by kernel_rfl) ?_
  refine dl_r (sem_assign rfl rfl) <| dl_end <| dw_block <| dw_loop (ι := {k : Nat // k ≤ xs.length ∧ ∀ j, j < k → xs.getD j 0 < 1000000000}) (fun i => ⟨36, [(1, .p 1 0), (3, .v (.c (.i .i64 (i.1 : Int))))], [(1, 29, ([.b neg] ++ [cM xs]))]⟩) (fun i => xs.length - i.1) ⟨0, Nat.zero_le _, fun j hj => by omega⟩ (sub_of ⟨rfl, rfl, trivial⟩ ⟨rfl, trivial⟩ rfl) ?_
  rintro ⟨k, hk0, hall⟩
  replace hk0 : k ≤ xs.length := hk0
  replace hall : ∀ j, j < k → xs.getD j 0 < 1000000000 := hall
  have hg := u32_getD hb k
  show Dw _ _ ⟨36, [(1, .p 1 0), (3, .v (.c (.i .i64 (k : Int))))], [(1, 29, ([.b neg] ++ [cM xs]))]⟩ _
  refine dw_seq <| dw_seq <| dw_region (by kernel_rfl) <| dl_r (sem_move rfl rfl) <| dl_r (sem_field fd29_1 rfl rfl) <| dl_r (sem_load1 ty27 rfl rfl rfl rfl) <| dl_r (sem_len sl27 rfl rfl) <| dl_r (sem_cmp rfl rfl rfl rfl) ?_
  refine dl_end ?_
  refine dw_cond rfl (fun hc1 => ?_) (fun hc1 => ?_)
  · have hk : k < xs.length := by simp only [decide_eq_true_eq] at hc1; omega
    refine dw_skip <| dw_seq <| dw_block <| dw_seq <| dw_region (by kernel_rfl) <| dl_r (sem_field fd29_1 rfl rfl) <| dl_r (sem_load1 ty27 rfl rfl rfl rfl) <| dl_r (sem_move rfl rfl) ?_
    refine dl_r (sem_index sl27 rfl rfl (by omega) (M_len _) rfl rfl) <| dl_r (sem_loadq1 ty134 rfl (M_get (i := k) (by omega)) rfl) <| dl_r (sem_cmp rfl rfl rfl rfl) <| dl_end ?_
    refine dw_cond rfl (fun hc2 => ?_) (fun hc2 => ?_)
    · have hbad : xs.getD k 0 ≥ 1000000000 := by simpa using hc2
      refine dw_seq <| dw_region (by kernel_rfl) <| dl_r (sem_assign rfl rfl) <| dl_end <| dw_ret ?_
      rw [vI_bad hk hbad]
      exact ⟨.inr rfl, (resL_tmp rfl resL_nil)⟩
    · have hok : ¬ xs.getD k 0 ≥ 1000000000 := by simpa using hc2
      have hstep : ∀ j, j < k + 1 → xs.getD j 0 < 1000000000 := fun j hj => by
        rcases Nat.lt_or_ge j k with h1 | h1
        · exact hall j h1
        · rw [show j = k from by omega]; omega
      refine dw_skip <| dw_region (by kernel_rfl) <| dl_r (sem_move rfl rfl) <| dl_r (sem_ari (r := (k : Int) + 1) rfl rfl (ari_i64_add (by omega) (by omega)) rfl) <| dl_r (sem_assign rfl rfl) <| dl_end ?_
      exact ⟨⟨k + 1, hk, hstep⟩, sub_of ⟨rfl, by rw [show ((k + 1 : Nat) : Int) = (k : Int) + 1 from by omega]; rfl, trivial⟩ ⟨rfl, trivial⟩ rfl, by show xs.length - (k + 1) < xs.length - k; omega⟩
  · have hk : k = xs.length := by simp only [decide_eq_false_iff_not] at hc1; omega
    have hL : Lim xs := lim_of_all hb (by rw [← hk]; exact hall)
    refine dw_exit <| dw_seq <| dw_draw 20 [] follows_mixed (by kernel_rfl) rfl rfl <| dq_r (sem_field fd29_1 rfl rfl) <| dq_r (sem_load1 ty27 rfl rfl rfl rfl) <| dq_r (sem_call rfl rfl (rTrim_ok hL (by omega)) rfl) <| dq_r (sem_len sl27 rfl rfl) <| dq_r (sem_field fd29_1 rfl rfl) ?_
    refine dq_r (sem_load1 ty27 rfl rfl rfl rfl) <| dq_r (sem_len sl27 rfl rfl) <| dq_r (sem_cmp rfl rfl rfl rfl) ?_
    refine dq_rb (sem_move rfl rfl) (fun c3 hb3 => ?_)
    cases c3
    · refine dq_skip (sem_skip rfl) <| dq_skip (sem_skip rfl) <| dq_skip (sem_skip rfl) <| dq_skip (sem_skip rfl) <| dq_skip (sem_skip rfl) <| dq_skip (sem_skip rfl) <| dq_skip (sem_skip rfl) <| dq_skip (sem_skip rfl) ?_
      refine dq_skip (sem_skip rfl) <| dq_r (sem_pick rfl rfl rfl rfl) <| dq_r (sem_assign rfl rfl) <| dq_end <| dl_start0 <| dl_end <| dw_ret ?_
      rw [vI_ref hL, hb3, Bool.false_and]
      exact ⟨.inr rfl, (resL_tmp rfl resL_nil)⟩
    · refine dq_r (sem_field fd29_0 rfl rfl) <| dq_r (sem_load1 ty4 rfl rfl rfl rfl) <| dq_r (sem_not rfl rfl) ?_
      refine dq_rb (sem_move rfl rfl) (fun c4 hb4 => ?_)
      cases c4
      · refine dq_r (sem_field fd29_1 rfl rfl) <| dq_r (sem_load1 ty27 rfl rfl rfl rfl) <| dq_r (sem_len sl27 rfl rfl) <| dq_r (sem_cmp rfl rfl rfl rfl) <| dq_r (sem_pick rfl rfl rfl rfl) <| dq_r (sem_pick rfl rfl rfl rfl) <| dq_r (sem_assign rfl rfl) <| dq_end ?_
        refine dl_start0 <| dl_end <| dw_ret ?_
        rw [vI_ref hL, hb3, hb4, Bool.false_or, Bool.true_and]
        exact ⟨.inr rfl, (resL_tmp rfl resL_nil)⟩
      · refine dq_skip (sem_skip rfl) <| dq_skip (sem_skip rfl) <| dq_skip (sem_skip rfl) <| dq_skip (sem_skip rfl) <| dq_r (sem_pick rfl rfl rfl rfl) <| dq_r (sem_pick rfl rfl rfl rfl) <| dq_r (sem_assign rfl rfl) <| dq_end ?_
        refine dl_start0 <| dl_end <| dw_ret ?_
        rw [vI_ref hL, hb3, hb4, Bool.true_or, Bool.true_and]
        exact ⟨.inr rfl, (resL_tmp rfl resL_nil)⟩
def vQ (x y : Int) : Bool := decide (0 < y) && (((Int.gcd x y : Nat) : Int) == 1)
theorem vI_I {x : Int} : vI (decide (x < 0)) (lim x.natAbs) = true := by
  unfold vI
  rw [all_of_lim (lim_lim _), show trm (lim x.natAbs) = lim x.natAbs from nrm_lim _]
  by_cases h : x < 0
  · have : lim x.natAbs ≠ [] := fun e => by have := lim_eq_nil.1 e; omega
    have := List.length_pos_iff.2 this
    simp [h, this]
  · simp [h]
theorem u32_lim (v : Nat) : U32s (lim v) := fun x hx => by have := lim_lim v x hx; omega
theorem nValid_I {x : Int} (hx : Sz 1000 x) : Ok Tryz.prog 241 [dI x] [.c (.b true)] := by
  have := nValid_ok (neg := decide (x < 0)) (xs := lim x.natAbs) (u32_lim _) (lim_len hx)
  rw [vI_I] at this; exact this
theorem vQ_R {x y : Int} (h : vQ x y = true) : cQ x y = cR (Rat.divInt x y) := by
  unfold vQ at h
  simp only [Bool.and_eq_true, decide_eq_true_eq, beq_iff_eq] at h
  have := dR_red1 (n := x) h.1 h.2
  unfold dR dQ at this
  injection this with this
  exact this.symm
theorem vQ_of (x : Rat) : vQ x.num (x.den : Int) = true := by
  unfold vQ
  simp only [Bool.and_eq_true, decide_eq_true_eq, beq_iff_eq]
  refine ⟨den_pos x, ?_⟩
  have : Int.gcd x.num (x.den : Int) = 1 := x.reduced
  rw [this]; rfl
theorem vQ_parts {x y : Int} (h : vQ x y = true) : (Rat.divInt x y).num = x ∧ ((Rat.divInt x y).den : Int) = y := by
  unfold vQ at h
  simp only [Bool.and_eq_true, decide_eq_true_eq, beq_iff_eq] at h
  obtain ⟨h1, h2⟩ := h
  have h3 : Int.gcd x y = 1 := by omega
  rw [Rat.num_divInt, Rat.den_divInt, if_neg (by omega), Int.sign_eq_one_of_pos h1, Int.one_mul, Int.gcd_comm y x, h3]
  simp; omega
theorem vQ_n1 {x y : Int} (h : (cmpI y 0 != 1) = true) : vQ x y = false := by
  unfold vQ
  have h1 : ¬ 0 < y := fun e => by rw [cmp_gt e] at h; cases h
  rw [show decide (0 < y) = false from by simpa using h1]; rfl
theorem n1_ne {y : Int} (h : (cmpI y 0 != 1) = false) : y ≠ 0 := fun e => by rw [cmp_eq e] at h; cases h
theorem vQ_e1 {x y : Int} (h : (cmpI y 0 != 1) = false) : vQ x y = (((Int.gcd x y : Nat) : Int) == 1) := by
  unfold vQ
  have h1 : 0 < y := by
    rcases Int.lt_trichotomy y 0 with e | e | e
    · rw [cmp_lt e] at h; cases h
    · rw [cmp_eq e] at h; cases h
    · exact e
  rw [show decide (0 < y) = true from by simpa using h1, Bool.true_and]
def zc (b c : Rat) : Rat := if b = 0 then 0 else c
theorem zc_t {b c : Rat} (h : b = 0) : zc b c = 0 := by unfold zc; rw [if_pos h]
theorem zc_f {b c : Rat} (h : b ≠ 0) : zc b c = c := by unfold zc; rw [if_neg h]
theorem r_eq {x : Rat} (h : (cmpR x 0 == 0) = true) : x = 0 := cmpR_t0 h
theorem r_ne {x : Rat} (h : (cmpR x 0 == 0) = false) : x ≠ 0 := fun e => by rw [cmpR_eq0.2 e] at h; cases h
theorem z_int : (0 : Rat) = ((0 : Int) : Rat) := rfl
theorem sValidB {x y : Int} (hx : Sz 999 x) (hy : Sz 999 y) : Ok Tryz.prog 192 [dQ x y] [.c (.b (vQ x y))] := by
  have hx1 : Sz 1000 x := hx.mono (by decide)
  have hy1 : Sz 1000 y := hy.mono (by decide)
  refine Ok.of (by kernel_rfl) Tryz.func192 rfl rfl ?_
  rw [show Tryz.f192.ntmps = 26 from rfl, show Tryz.f192.results.toList = [.tmp 2] from rfl]
  refine dw_seq <| dw_region (by kernel_rfl) <| dl_new (sem_box_a rfl rfl) rfl <| dl_r (sem_assign rfl rfl) <| dl_end <| dw_seq <| dw_seq <| dw_region (by kernel_rfl) ?_
  refine dl_r (sem_field fd31_0 rfl rfl) <| dl_r (sem_load (us := cI x) ty29 rfl rfl rfl rfl rfl) <| dl_r (sem_call rfl rfl (nValid_I (by assumption)) rfl) <| dl_r (sem_not rfl rfl) <| dl_r (sem_move rfl rfl) <| dl_r (sem_field fd31_1 rfl rfl) <| dl_r (sem_load (us := cI y) ty29 rfl rfl rfl rfl rfl) <| dl_r (sem_call rfl rfl (nValid_I (by assumption)) rfl) ?_
  refine dl_r (sem_not rfl rfl) <| dl_r (sem_pick rfl rfl rfl rfl) <| dl_r (sem_move rfl rfl) <| dl_r (sem_field fd31_1 rfl rfl) <| dl_r (sem_load (us := cI y) ty29 rfl rfl rfl rfl rfl) <| dl_r (sem_call rfl rfl (nSign_ok) rfl) <| dl_r (sem_cmp rfl rfl rfl rfl) <| dl_r (sem_pick rfl rfl rfl rfl) ?_
  refine dl_end ?_
  refine dw_cond rfl (fun hc1 => ?_) (fun hc1 => ?_)
  · refine dw_seq <| dw_region (by kernel_rfl) <| dl_r (sem_assign rfl rfl) <| dl_end <| dw_ret ?_
    rw [vQ_n1 hc1]
    exact ⟨.inr rfl, (resL_tmp rfl resL_nil)⟩
  · have hgc : Sz 1000000 ((Int.gcd x y : Nat) : Int) := (Sz.gcd (x := x) hy (n1_ne hc1)).mono (by decide)
    refine dw_skip <| dw_seq <| dw_region (by kernel_rfl) <| dl_r (sem_field fd31_0 rfl rfl) <| dl_r (sem_load (us := cI x) ty29 rfl rfl rfl rfl rfl) <| dl_r (sem_field fd31_1 rfl rfl) <| dl_r (sem_load (us := cI y) ty29 rfl rfl rfl rfl rfl) ?_
    refine dl_r (sem_call rfl rfl (nGCD_ok (by first | assumption | exact Sz.mono hx (by decide)) (by first | assumption | exact Sz.mono hy (by decide))) rfl) ?_
    refine dl_r (sem_call rfl rfl (sUnit_ok) rfl) ?_
    refine dl_r (sem_call rfl rfl (nSame_ok (by first | assumption | exact Sz.mono (by assumption) (by decide)) (by first | assumption | exact Sz.mono (Sz.small (k := 3) (by decide) (by decide) (by decide)) (by decide))) rfl) ?_
    refine dl_r (sem_assign rfl rfl) <| dl_end <| dw_ret ?_
    rw [vQ_e1 hc1]
    exact ⟨.inr rfl, (resL_tmp rfl resL_nil)⟩
theorem sValid_R {x : Rat} (hx : Rz 999 x) : Ok Tryz.prog 192 [dR x] [.c (.b true)] := by
  have := sValidB hx.n hx.d
  rw [vQ_of] at this; exact this
theorem ptZero_ok  : Ok Tryz.prog 108 [] [dR 0] := by
  refine Ok.of (by kernel_rfl) Tryz.func108 rfl rfl ?_
  rw [show Tryz.f108.ntmps = 2 from rfl, show Tryz.f108.results.toList = [.cell 0 31] from rfl]
  refine dw_seq <| dw_region (by kernel_rfl) <| dl_new (sem_alloc zc31 rfl) rfl <| dl_end <| dw_seq <| dw_region (by kernel_rfl) <| dl_r (sem_call rfl rfl (pFrom_ok (by omega) (by omega)) rfl) <| dl_st (sem_store_a ty31 rfl rfl rfl rfl rfl rfl) ?_
  refine dl_end <| dw_ret ?_
  rw [z_int]
  exact ⟨.inr rfl, (resL_cell (us := cR (((0 : Int) : Rat))) ty31 rfl rfl rfl rfl resL_nil)⟩
theorem rrZero_ok  : Ok Tryz.prog 110 [] [dR 0] := by
  refine Ok.of (by kernel_rfl) Tryz.func110 rfl rfl ?_
  rw [show Tryz.f110.ntmps = 2 from rfl, show Tryz.f110.results.toList = [.cell 0 31] from rfl]
  refine dw_seq <| dw_region (by kernel_rfl) <| dl_new (sem_alloc zc31 rfl) rfl <| dl_end <| dw_seq <| dw_region (by kernel_rfl) <| dl_r (sem_call rfl rfl (sFrom_ok (by omega) (by omega)) rfl) <| dl_st (sem_store_a ty31 rfl rfl rfl rfl rfl rfl) ?_
  refine dl_end <| dw_ret ?_
  rw [z_int]
  exact ⟨.inr rfl, (resL_cell (us := cR (((0 : Int) : Rat))) ty31 rfl rfl rfl rfl resL_nil)⟩
theorem rrFromRat_ok {a : Rat} : Ok Tryz.prog 60 [dR a] [.a (cR a ++ cR 0 ++ cR 0)] := by
  refine Ok.of (by kernel_rfl) Tryz.func60 rfl rfl ?_
  rw [show Tryz.f60.ntmps = 7 from rfl, show Tryz.f60.results.toList = [.cell 2 33] from rfl]
  refine dw_seq <| dw_region (by kernel_rfl) <| dl_new (sem_box_a rfl rfl) rfl <| dl_new (sem_alloc zc33 rfl) rfl <| dl_end <| dw_seq <| dw_draw 4 [] follows_mixed (by kernel_rfl) rfl rfl <| dq_r (sem_load (us := cR a) ty31 rfl rfl rfl rfl rfl) ?_
  refine dq_r (sem_call rfl rfl (rrZero_ok) rfl) <| dq_r (sem_call rfl rfl (rrZero_ok) rfl) <| dq_r (sem_build (us := (cR a ++ cR 0 ++ cR 0)) fs33 zc33 rfl rfl rfl) <| dq_end <| dl_start0 <| dl_st (sem_store_a ty33 rfl rfl rfl rfl rfl rfl) <| dl_end <| dw_ret ?_
  exact ⟨.inr rfl, (resL_cell (us := (cR a ++ cR 0 ++ cR 0)) ty33 rfl rfl rfl rfl resL_nil)⟩
def fitB (x : Int) : Bool := decide (-9223372036854775808 ≤ x) && decide (x ≤ 9223372036854775807)
theorem fit_lo {x : Int} (h : x < -9223372036854775808) : fitB x = false := by unfold fitB; rw [decide_eq_false (by omega)]; rfl
theorem fit_hi {x : Int} (h : 9223372036854775807 < x) : fitB x = false := by unfold fitB; rw [decide_eq_false (p := x ≤ 9223372036854775807) (by omega), Bool.and_false]
theorem fit_in {x : Int} (h : ¬ x < -9223372036854775808) (h2 : ¬ 9223372036854775807 < x) : fitB x = true := by unfold fitB; rw [decide_eq_true (by omega), decide_eq_true (by omega)]; rfl
theorem fit_iff {x : Int} : fitB x = true ↔ -9223372036854775808 ≤ x ∧ x ≤ 9223372036854775807 := by unfold fitB; simp
theorem w_neg1 {r : Int} (h0 : 1 ≤ r) (h1 : r ≤ 9223372036854775808) : IntKind.u64.wrap (0 - r) = 18446744073709551616 - r := by unfold IntKind.wrap; simp [IntKind.bits, IntKind.signed]; omega
theorem w_neg2 {r : Int} (h0 : 1 ≤ r) (h1 : r ≤ 9223372036854775808) : IntKind.i64.wrap (18446744073709551616 - r) = -r := by unfold IntKind.wrap; simp [IntKind.bits, IntKind.signed]; omega
theorem dec_t {p : Prop} [Decidable p] (h : decide p = true) : p := by simpa using h
theorem dec_f {p : Prop} [Decidable p] (h : decide p = false) : ¬ p := by simpa using h
theorem not_f {b : Bool} (h : (!b) = false) : b = true := by simpa using h
theorem not_t {b : Bool} (h : (!b) = true) : b = false := by simpa using h
def okI (lo hi : Int) : Bool := decide (-2305843009213693952 ≤ lo) && decide (hi ≤ 2305843009213693952)
theorem ok_lo {lo hi : Int} (h : lo < -2305843009213693952) : okI lo hi = false := by unfold okI; rw [decide_eq_false (by omega)]; rfl
theorem ok_hi {lo hi : Int} (h : hi > 2305843009213693952) : okI lo hi = false := by unfold okI; rw [decide_eq_false (p := hi ≤ 2305843009213693952) (by omega), Bool.and_false]
theorem ok_in {lo hi : Int} (h : ¬ lo < -2305843009213693952) (h2 : ¬ hi > 2305843009213693952) : okI lo hi = true := by unfold okI; rw [decide_eq_true (by omega), decide_eq_true (by omega)]; rfl
def frLo (a : Rat) : Int := (a * ((65536 : Int) : Rat)).num.fdiv ((a * ((65536 : Int) : Rat)).den : Int)
def frHi (a : Rat) : Int := -((-(a * ((65536 : Int) : Rat))).num.fdiv ((-(a * ((65536 : Int) : Rat))).den : Int))
def frOk (a : Rat) : Bool := fitB (frLo a) && (fitB (frHi a) && okI (frLo a) (frHi a))
theorem iInt64_ok {x : Int} (hx : Sz 1000000 x) : Ok Tryz.prog 64 [dI x] [.c (.i .i64 (if fitB x then x else 0)), .c (.b (fitB x))] := by
  refine Ok.of (by kernel_rfl) Tryz.func64 rfl rfl ?_
  rw [show Tryz.f64.ntmps = 39 from rfl, show Tryz.f64.results.toList = [.tmp 2, .tmp 3] from rfl]
  refine dw_seq <| dw_region (by kernel_rfl) <| dl_new (sem_box_a rfl rfl) rfl <| dl_r (sem_assign rfl rfl) <| dl_r (sem_assign rfl rfl) <| dl_end <| dw_seq <| dw_seq ?_
  refine dw_draw 10 [] follows_mixed (by kernel_rfl) rfl rfl <| dq_r (sem_load (us := cI x) ty29 rfl rfl rfl rfl rfl) <| dq_r (sem_call rfl rfl (iFrom_ok (by omega) (by omega)) rfl) <| dq_r (sem_call rfl rfl (iCmp_ok) rfl) <| dq_r (sem_cmp rfl rfl rfl rfl) ?_
  refine dq_rb (sem_move rfl rfl) (fun c1 hb1 => ?_)
  cases c1
  · refine dq_r (sem_load (us := cI x) ty29 rfl rfl rfl rfl rfl) <| dq_r (sem_call rfl rfl (iFrom_ok (by omega) (by omega)) rfl) <| dq_r (sem_call rfl rfl (iCmp_ok) rfl) <| dq_r (sem_cmp rfl rfl rfl rfl) <| dq_r (sem_pick rfl rfl rfl rfl) <| dq_end <| dl_start0 <| dl_end ?_
    refine dw_cond rfl (fun hc2 => ?_) (fun hc2 => ?_)
    · refine dw_seq <| dw_region (by kernel_rfl) <| dl_r (sem_assign rfl rfl) <| dl_r (sem_assign rfl rfl) <| dl_end <| dw_ret ?_
      rw [fit_hi (t_gt hc2), if_neg (by decide)]
      exact ⟨.inr rfl, (resL_tmp rfl (resL_tmp rfl resL_nil))⟩
    · have hlo := f_lt hb1
      have hhi := f_gt hc2
      have hln := lim_len hx
      refine dw_skip <| dw_seq <| dw_region (by kernel_rfl) <| dl_r (sem_assign rfl rfl) <| dl_end <| dw_seq <| dw_seq <| dw_region (by kernel_rfl) ?_
      refine dl_r (sem_field fd29_1 rfl rfl) <| dl_r (sem_load1 ty27 rfl rfl rfl rfl) <| dl_r (sem_len sl27 rfl rfl) ?_
      refine dl_r (sem_ari (r := (((lim x.natAbs).length : Int)) - 1) rfl rfl (ari_i64_sub (by (first | omega | (simp; omega))) (by (first | omega | (simp; omega)))) rfl) ?_
      refine dl_r (sem_assign rfl rfl) <| dl_end <| dw_block <| dw_loop (ι := {t : Nat × Int // ShInv (lim x.natAbs) t.1 t.2}) (fun i => ⟨39, [(1, .p 1 0), (4, .v (.c (.i .u64 i.1.2))), (5, .v (.c (.i .i64 ((i.1.1 : Int) - 1))))], [(1, 29, cI x)]⟩) (fun i => i.1.1) ⟨((lim x.natAbs).length, 0), ⟨Nat.le_refl _, Int.le_refl 0, by rw [List.take_length]; simp⟩⟩ (sub_of ⟨rfl, rfl, rfl, trivial⟩ ⟨rfl, trivial⟩ rfl) ?_
      rintro ⟨⟨j, r⟩, hI⟩
      replace hI : ShInv (lim x.natAbs) j r := hI
      have g5 := hI.le
      have g3 := hI.r0
      have g4 := hI.bound (lim_lim _)
      rw [val_lim] at g4
      show Dw _ _ ⟨39, [(1, .p 1 0), (4, .v (.c (.i .u64 r))), (5, .v (.c (.i .i64 ((j : Int) - 1))))], [(1, 29, cI x)]⟩ _
      refine dw_seq <| dw_seq <| dw_region (by kernel_rfl) <| dl_r (sem_move rfl rfl) <| dl_r (sem_cmp rfl rfl rfl rfl) <| dl_end ?_
      refine dw_cond rfl (fun hc3 => ?_) (fun hc3 => ?_)
      · obtain ⟨q, rfl⟩ : ∃ q, j = q + 1 := ⟨j - 1, by have := dec_t hc3; omega⟩
        have hS := hI.step (lim_lim _)
        have hB := hS.bound (lim_lim _)
        have g1 := lim_getD (lim_lim x.natAbs) q
        rw [val_lim] at hB
        refine Dw.weak (σ' := ⟨39, [(1, .p 1 0), (4, .v (.c (.i .u64 r))), (5, .v (.c (.i .i64 (q : Int))))], [(1, 29, cI x)]⟩) (sub_of ⟨rfl, rfl, by rw [show (q : Int) = ((q + 1 : Nat) : Int) - 1 from by omega]; rfl, trivial⟩ ⟨rfl, trivial⟩ rfl) <| dw_skip <| dw_seq <| dw_block <| dw_region (by kernel_rfl) <| dl_r (sem_move rfl rfl) ?_
        refine dl_r (sem_ari (r := r * 1000000000) rfl rfl (ari_u64_mul (by (first | omega | (simp; omega))) (by (first | omega | (simp; omega)))) rfl) ?_
        refine dl_r (sem_field fd29_1 rfl rfl) <| dl_r (sem_load1 ty27 rfl rfl rfl rfl) <| dl_r (sem_move rfl rfl) ?_
        refine dl_r (sem_index sl27 rfl rfl (by (first | omega | (simp; omega))) (M_len _) rfl rfl) ?_
        refine dl_r (sem_loadq1 ty134 rfl (M_get (i := q) (by (first | omega | (simp; omega)))) rfl) ?_
        refine dl_r (sem_conv' (r := (lim x.natAbs).getD q 0) und134 und84 rfl (nwu64 (by (first | omega | (simp; omega))) (by (first | omega | (simp; omega)))) rfl) ?_
        refine dl_r (sem_ari (r := (r * 1000000000) + ((lim x.natAbs).getD q 0)) rfl rfl (ari_u64_add (by (first | omega | (simp; omega))) (by (first | omega | (simp; omega)))) rfl) ?_
        refine dl_r (sem_assign rfl rfl) <| dl_end <| dw_region (by kernel_rfl) <| dl_r (sem_move rfl rfl) ?_
        refine dl_r (sem_ari (r := (q : Int) - 1) rfl rfl (ari_i64_sub (by (first | omega | (simp; omega))) (by (first | omega | (simp; omega)))) rfl) ?_
        refine dl_r (sem_assign rfl rfl) <| dl_end ?_
        exact ⟨⟨(q, r * 1000000000 + (lim x.natAbs).getD q 0), hS⟩, sub_of ⟨rfl, rfl, rfl, trivial⟩ ⟨rfl, trivial⟩ rfl, by show q < q + 1; omega⟩
      · have hz : j = 0 := by have := dec_f hc3; omega
        have hfin : (x.natAbs : Int) = r := by subst hz; have := hI.v; rw [val_lim] at this; simp [val, pw_zero] at this; omega
        refine dw_exit <| dw_seq <| dw_seq <| dw_region (by kernel_rfl) <| dl_r (sem_field fd29_0 rfl rfl) <| dl_r (sem_load1 ty4 rfl rfl rfl rfl) <| dl_end ?_
        refine dw_cond rfl (fun hc4 => ?_) (fun hc4 => ?_)
        · have hn := dec_t hc4
          refine dw_region (by kernel_rfl) <| dl_r (sem_move rfl rfl) <| dl_r (sem_neg' (r := 18446744073709551616 - r) rfl (w_neg1 (by omega) (by omega)) rfl) <| dl_r (sem_assign rfl rfl) <| dl_end <| dw_seq <| dw_region (by kernel_rfl) <| dl_r (sem_move rfl rfl) ?_
          refine dl_r (sem_conv' (r := x) und84 und2 rfl (by rw [w_neg2 (by omega) (by omega)]; omega) rfl) <| dl_r (sem_assign rfl rfl) <| dl_r (sem_assign rfl rfl) <| dl_end <| dw_ret ?_
          rw [fit_in hlo hhi, if_pos rfl]
          exact ⟨.inr rfl, (resL_tmp rfl (resL_tmp rfl resL_nil))⟩
        · have hn := dec_f hc4
          refine dw_skip <| dw_seq <| dw_region (by kernel_rfl) <| dl_r (sem_move rfl rfl) <| dl_r (sem_conv' (r := x) und84 und2 rfl (by rw [← hfin]; rw [nw64 (by omega) (by omega)]; omega) rfl) <| dl_r (sem_assign rfl rfl) <| dl_r (sem_assign rfl rfl) <| dl_end ?_
          refine dw_ret ?_
          rw [fit_in hlo hhi, if_pos rfl]
          exact ⟨.inr rfl, (resL_tmp rfl (resL_tmp rfl resL_nil))⟩
  · refine dq_skip (sem_skip rfl) <| dq_skip (sem_skip rfl) <| dq_skip (sem_skip rfl) <| dq_skip (sem_skip rfl) <| dq_r (sem_pick rfl rfl rfl rfl) <| dq_end <| dl_start0 <| dl_end ?_
    refine dw_true rfl <| dw_seq <| dw_region (by kernel_rfl) <| dl_r (sem_assign rfl rfl) <| dl_r (sem_assign rfl rfl) <| dl_end <| dw_ret ?_
    rw [fit_lo (t_lt hb1), if_neg (by decide)]
    exact ⟨.inr rfl, (resL_tmp rfl (resL_tmp rfl resL_nil))⟩
theorem fProper_ok {x y : Int} : Ok Tryz.prog 67 [.c (.i .i64 x), .c (.i .i64 y)] [.a ([.i .i64 (if okI x y then x else 0)] ++ [.i .i64 (if okI x y then y else 0)]), .c (.b (okI x y))] := by
  refine Ok.of (by kernel_rfl) Tryz.func67 rfl rfl ?_
  rw [show Tryz.f67.ntmps = 16 from rfl, show Tryz.f67.results.toList = [.cell 4 36, .tmp 5] from rfl]
  refine dw_seq <| dw_region (by kernel_rfl) <| dl_new (sem_alloc zc36 rfl) rfl <| dl_r (sem_assign rfl rfl) <| dl_end <| dw_seq <| dw_seq <| dw_region (by kernel_rfl) ?_
  refine dl_r (sem_move rfl rfl) <| dl_r (sem_cmp rfl rfl rfl rfl) ?_
  refine dl_rb (sem_move rfl rfl) (fun c1 hb1 => ?_)
  cases c1
  · refine dl_r (sem_move rfl rfl) <| dl_r (sem_cmp rfl rfl rfl rfl) <| dl_r (sem_pick rfl rfl rfl rfl) <| dl_end ?_
    refine dw_cond rfl (fun hc2 => ?_) (fun hc2 => ?_)
    · refine dw_seq <| dw_region (by kernel_rfl) <| dl_r (sem_build (us := ([.i .i64 0] ++ [.i .i64 0])) fs36 zc36 rfl rfl rfl) <| dl_st (sem_store_a ty36 rfl rfl rfl rfl rfl rfl) <| dl_r (sem_assign rfl rfl) <| dl_end <| dw_ret ?_
      rw [ok_hi (dec_t hc2), if_neg (by decide), if_neg (by decide)]
      exact ⟨.inr rfl, (resL_cell (us := ([.i .i64 0] ++ [.i .i64 0])) ty36 rfl rfl rfl rfl (resL_tmp rfl resL_nil))⟩
    · refine dw_skip <| dw_seq <| dw_region (by kernel_rfl) <| dl_r (sem_move rfl rfl) <| dl_r (sem_move rfl rfl) <| dl_r (sem_build (us := ([.i .i64 x] ++ [.i .i64 y])) fs36 zc36 rfl rfl rfl) <| dl_st (sem_store_a ty36 rfl rfl rfl rfl rfl rfl) <| dl_r (sem_assign rfl rfl) ?_
      refine dl_end <| dw_ret ?_
      rw [ok_in (dec_f hb1) (dec_f hc2), if_pos rfl, if_pos rfl]
      exact ⟨.inr rfl, (resL_cell (us := ([.i .i64 x] ++ [.i .i64 y])) ty36 rfl rfl rfl rfl (resL_tmp rfl resL_nil))⟩
  · refine dl_skip (sem_skip rfl) <| dl_skip (sem_skip rfl) <| dl_r (sem_pick rfl rfl rfl rfl) <| dl_end <| dw_true rfl <| dw_seq <| dw_region (by kernel_rfl) <| dl_r (sem_build (us := ([.i .i64 0] ++ [.i .i64 0])) fs36 zc36 rfl rfl rfl) ?_
    refine dl_st (sem_store_a ty36 rfl rfl rfl rfl rfl rfl) <| dl_r (sem_assign rfl rfl) <| dl_end <| dw_ret ?_
    rw [ok_lo (dec_t hb1), if_neg (by decide), if_neg (by decide)]
    exact ⟨.inr rfl, (resL_cell (us := ([.i .i64 0] ++ [.i .i64 0])) ty36 rfl rfl rfl rfl (resL_tmp rfl resL_nil))⟩
def comb (s t c : Int) : Int := if t = 0 ∨ s = t then s else if s = 0 then t else s * c
def plainS (a b m : Rat) : Int := comb (cmpR a 0) (cmpR b 0 * cmpR m 0) (cmpR (a * a) (b * b * m))
def quadA (A B C D M N : Rat) : Rat := A * A + B * B * M - N * (C * C + D * D * M)
def quadB (A B C D N : Rat) : Rat := A * B - N * (C * D)
def signQ (A B C D M N : Rat) : Int := if M < 0 ∨ N < 0 then 0 else comb (plainS A B M) (plainS C D M * cmpR N 0) (plainS (quadA A B C D M N) (quadB A B C D N + quadB A B C D N) M)
theorem comb_s0 {s t c : Int} (h : (s == 0) = true) : comb s t c = t := by
  have h : s = 0 := by simpa using h
  subst h
  unfold comb
  by_cases ht : t = 0
  · rw [if_pos (.inl ht), ht]
  · rw [if_neg (by omega), if_pos rfl]
theorem comb_t0 {s t c : Int} (h : (t == 0) = true) : comb s t c = s := by
  have h : t = 0 := by simpa using h
  unfold comb; rw [if_pos (.inl h)]
theorem comb_eq {s t c : Int} (h : (s == t) = true) : comb s t c = s := by
  have h : s = t := by simpa using h
  unfold comb; rw [if_pos (.inr h)]
theorem comb_ne {s t c : Int} (h1 : (s == 0) = false) (h2 : (t == 0) = false) (h3 : (s == t) = false) : comb s t c = s * c := by
  have h1 : s ≠ 0 := by simpa using h1
  have h2 : t ≠ 0 := by simpa using h2
  have h3 : s ≠ t := by simpa using h3
  unfold comb; rw [if_neg (by omega), if_neg h1]
theorem cmpR_bd (x y : Rat) : -1 ≤ cmpR x y ∧ cmpR x y ≤ 1 := by
  unfold cmpR
  split
  · omega
  · split <;> omega
theorem prod_bd {s t : Int} (h : -1 ≤ s ∧ s ≤ 1) (h' : -1 ≤ t ∧ t ≤ 1) : -1 ≤ s * t ∧ s * t ≤ 1 := by
  have hs : s = -1 ∨ s = 0 ∨ s = 1 := by omega
  rcases hs with rfl | rfl | rfl <;> omega
theorem comb_bd {s t c : Int} (h : -1 ≤ s ∧ s ≤ 1) (h' : -1 ≤ t ∧ t ≤ 1) (h2 : -1 ≤ c ∧ c ≤ 1) : -1 ≤ comb s t c ∧ comb s t c ≤ 1 := by
  unfold comb
  split
  · exact h
  · split
    · exact h'
    · exact prod_bd h h2
theorem plainS_bd (a b m : Rat) : -1 ≤ plainS a b m ∧ plainS a b m ≤ 1 := comb_bd (cmpR_bd _ _) (prod_bd (cmpR_bd _ _) (cmpR_bd _ _)) (cmpR_bd _ _)
theorem r_lt {x : Rat} (h : decide (cmpR x 0 < 0) = true) : x < 0 := cmpR_lt0.1 (by simpa using h)
theorem r_nlt {x : Rat} (h : decide (cmpR x 0 < 0) = false) : ¬ x < 0 := fun e => by have := cmpR_lt0.2 e; simp at h; omega
theorem signQ_p {A B C D M N : Rat} (h : ¬ M < 0) (h' : ¬ N < 0) : signQ A B C D M N = comb (plainS A B M) (plainS C D M * cmpR N 0) (plainS (quadA A B C D M N) (quadB A B C D N + quadB A B C D N) M) := by
  unfold signQ; rw [if_neg (fun e => e.elim h h')]
theorem xPlain_ok {a b m : Rat} (ha : Rz 100 a) (hb : Rz 100 b) (hm : Rz 100 m) : Ok Tryz.prog 77 [dR a, dR b, dR m] [.c (.i .i64 (plainS a b m))] := by
  have ka : Rz 300 a := ha.mono (by decide)
  have kb : Rz 300 b := hb.mono (by decide)
  have hp := prod_bd (cmpR_bd b 0) (cmpR_bd m 0)
  have hp2 := prod_bd (cmpR_bd a 0) (cmpR_bd (a * a) (b * b * m))
  refine Ok.of (by kernel_rfl) Tryz.func77 rfl rfl ?_
  rw [show Tryz.f77.ntmps = 40 from rfl, show Tryz.f77.results.toList = [.tmp 6] from rfl]
  refine dw_seq <| dw_region (by kernel_rfl) <| dl_new (sem_box_a rfl rfl) rfl <| dl_new (sem_box_a rfl rfl) rfl <| dl_new (sem_box_a rfl rfl) rfl <| dl_r (sem_assign rfl rfl) <| dl_end <| dw_seq ?_
  refine dw_draw 9 [] follows_mixed (by kernel_rfl) rfl rfl <| dq_r (sem_load (us := cR a) ty31 rfl rfl rfl rfl rfl) <| dq_r (sem_call rfl rfl (pSign_ok) rfl) <| dq_r (sem_load (us := cR b) ty31 rfl rfl rfl rfl rfl) <| dq_r (sem_call rfl rfl (pSign_ok) rfl) <| dq_r (sem_load (us := cR m) ty31 rfl rfl rfl rfl rfl) <| dq_r (sem_call rfl rfl (pSign_ok) rfl) <| dq_r (sem_ari (r := (cmpR b 0) * (cmpR m 0)) rfl rfl (ari_i64_mul (by omega) (by omega)) rfl) ?_
  refine dq_r (sem_assign rfl rfl) <| dq_r (sem_assign rfl rfl) <| dq_end <| dl_start0 <| dl_end <| dw_seq <| dw_block <| dw_seq ?_
  refine dw_region (by kernel_rfl) <| dl_r (sem_move rfl rfl) <| dl_r (sem_cmp rfl rfl rfl rfl) ?_
  refine dl_rb (sem_move rfl rfl) (fun c1 hb1 => ?_)
  cases c1
  · refine dl_r (sem_move rfl rfl) <| dl_r (sem_move rfl rfl) <| dl_r (sem_cmp rfl rfl rfl rfl) <| dl_r (sem_pick rfl rfl rfl rfl) <| dl_r (sem_assign rfl rfl) <| dl_end ?_
    refine dw_cond rfl (fun hc2 => ?_) (fun hc2 => ?_)
    · refine dw_seq <| dw_region (by kernel_rfl) <| dl_r (sem_move rfl rfl) <| dl_r (sem_assign rfl rfl) <| dl_end <| dw_ret ?_
      unfold plainS
      rw [comb_eq hc2]
      exact ⟨.inr rfl, (resL_tmp rfl resL_nil)⟩
    · refine dw_seq <| dw_region (by kernel_rfl) <| dl_r (sem_move rfl rfl) <| dl_r (sem_cmp rfl rfl rfl rfl) <| dl_r (sem_assign rfl rfl) <| dl_end ?_
      refine dw_cond rfl (fun hc3 => ?_) (fun hc3 => ?_)
      · refine dw_seq <| dw_region (by kernel_rfl) <| dl_r (sem_move rfl rfl) <| dl_r (sem_assign rfl rfl) <| dl_end <| dw_ret ?_
        unfold plainS
        rw [comb_s0 hc3]
        exact ⟨.inr rfl, (resL_tmp rfl resL_nil)⟩
      · refine dw_skip <| dw_seq <| dw_draw 12 [] follows_mixed (by kernel_rfl) rfl rfl <| dq_r (sem_move rfl rfl) <| dq_r (sem_load (us := cR a) ty31 rfl rfl rfl rfl rfl) <| dq_r (sem_load (us := cR a) ty31 rfl rfl rfl rfl rfl) ?_
        refine dq_r (sem_call rfl rfl (pMul_ok (by first | assumption | exact Rz.mono ha (by decide)) (by first | assumption | exact Rz.mono ha (by decide))) rfl) ?_
        refine dq_r (sem_load (us := cR b) ty31 rfl rfl rfl rfl rfl) <| dq_r (sem_load (us := cR b) ty31 rfl rfl rfl rfl rfl) ?_
        refine dq_r (sem_call rfl rfl (pMul_ok (by first | assumption | exact Rz.mono hb (by decide)) (by first | assumption | exact Rz.mono hb (by decide))) rfl) ?_
        refine dq_r (sem_load (us := cR m) ty31 rfl rfl rfl rfl rfl) ?_
        refine dq_r (sem_call rfl rfl (pMul_ok (by first | assumption | exact Rz.mono (Rz.mul hb hb) (by decide)) (by first | assumption | exact Rz.mono hm (by decide))) rfl) ?_
        refine dq_r (sem_call rfl rfl (pCmp_ok (by first | assumption | exact Rz.mono (Rz.mul ha ha) (by decide)) (by first | assumption | exact Rz.mono (Rz.mul (Rz.mul hb hb) hm) (by decide))) rfl) ?_
        refine dq_r (sem_ari (r := (cmpR a 0) * (cmpR (a * a) ((b * b) * m))) rfl rfl (ari_i64_mul (by omega) (by omega)) rfl) <| dq_r (sem_assign rfl rfl) <| dq_end <| dl_start0 <| dl_end <| dw_ret ?_
        unfold plainS
        rw [comb_ne hc3 hb1 hc2]
        exact ⟨.inr rfl, (resL_tmp rfl resL_nil)⟩
  · refine dl_skip (sem_skip rfl) <| dl_skip (sem_skip rfl) <| dl_skip (sem_skip rfl) <| dl_r (sem_pick rfl rfl rfl rfl) <| dl_r (sem_assign rfl rfl) <| dl_end <| dw_true rfl <| dw_seq ?_
    refine dw_region (by kernel_rfl) <| dl_r (sem_move rfl rfl) <| dl_r (sem_assign rfl rfl) <| dl_end <| dw_ret ?_
    unfold plainS
    rw [comb_t0 hb1]
    exact ⟨.inr rfl, (resL_tmp rfl resL_nil)⟩
end Go.Proofs.YthhhlpdbainlaaaGreat
