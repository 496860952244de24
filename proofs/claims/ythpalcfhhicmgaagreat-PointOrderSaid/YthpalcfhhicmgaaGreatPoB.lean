/- PointTranslate, PointAt: the laws at all readings. -/
import Derived.Test.YthpalcfhhicmgaaGreatPoA
namespace Go.Proofs.YthpalcfhhicmgaaGreat
open Go Go.RowKit
theorem r_cancel (a d : Rat) : a + d + -d = a := by grind
theorem lwSmallVec {v w : RN} (wv : v.Wf) (ww : w.Wf) : Ok Tryz.prog 23 [.a (cN v ++ cN w)] [.c (.b (v.s 3 && w.s 3))] := by
  refine Ok.of (by kernel_rfl) Tryz.func23 rfl rfl ?_
  rw [show Tryz.f23.ntmps = 11 from rfl, show Tryz.f23.results.toList = [.tmp 2] from rfl]
  refine dw_seq ?_
  -- region 0
  refine dw_region (by kernel_rfl) ?_
  refine dl_new (sem_box_a rfl rfl) rfl ?_
  refine dl_r (sem_assign rfl rfl) ?_
  refine dl_end ?_
  refine dw_seq ?_
  -- region 1
  refine dw_region (by kernel_rfl) ?_
  refine dl_r (sem_field fd42_0 rfl rfl) ?_
  refine dl_r (sem_load (us := cN v) ty26 rfl rfl rfl rfl rfl) ?_
  refine dl_r (sem_call rfl rfl (sSmall_ok (by assumption) (by omega)) rfl) ?_
  refine dl_rb (sem_move rfl rfl) (fun c1 hb1 => ?_)
  cases c1
  · refine dl_skip (sem_skip rfl) ?_
    refine dl_skip (sem_skip rfl) ?_
    refine dl_skip (sem_skip rfl) ?_
    refine dl_r (sem_pick rfl rfl rfl rfl) ?_
    refine dl_r (sem_assign rfl rfl) ?_
    refine dl_end ?_
    refine dw_ret ?_
    -- path f
    rw [show (v.s 3 && w.s 3) = false from by rw [hb1]; rfl]
    exact ⟨.inr rfl, (resL_tmp rfl resL_nil)⟩
  · refine dl_r (sem_field fd42_1 rfl rfl) ?_
    refine dl_r (sem_load (us := cN w) ty26 rfl rfl rfl rfl rfl) ?_
    refine dl_r (sem_call rfl rfl (sSmall_ok (by assumption) (by omega)) rfl) ?_
    refine dl_r (sem_pick rfl rfl rfl rfl) ?_
    refine dl_r (sem_assign rfl rfl) ?_
    refine dl_end ?_
    refine dw_ret ?_
    -- path t
    rw [show (v.s 3 && w.s 3) = w.s 3 from by rw [hb1, Bool.true_and]]
    exact ⟨.inr rfl, (resL_tmp rfl resL_nil)⟩
theorem lwSmallVec_R {d e : Rat} (hd : Rz 3 d) (he : Rz 3 e) : Ok Tryz.prog 23 [.a (cR d ++ cR e)] [.c (.b true)] := by
  refine Ok.of (by kernel_rfl) Tryz.func23 rfl rfl ?_
  rw [show Tryz.f23.ntmps = 11 from rfl, show Tryz.f23.results.toList = [.tmp 2] from rfl]
  refine dw_seq ?_
  -- region 0
  refine dw_region (by kernel_rfl) ?_
  refine dl_new (sem_box_a rfl rfl) rfl ?_
  refine dl_r (sem_assign rfl rfl) ?_
  refine dl_end ?_
  refine dw_seq ?_
  -- region 1
  refine dw_region (by kernel_rfl) ?_
  refine dl_r (sem_field fd42_0 rfl rfl) ?_
  refine dl_r (sem_load (us := cR d) ty26 rfl rfl rfl rfl rfl) ?_
  refine dl_r (sem_call rfl rfl (sSmall_R (k := 3) (by assumption) (by omega)) rfl) ?_
  refine dl_r (sem_move rfl rfl) ?_
  refine dl_r (sem_field fd42_1 rfl rfl) ?_
  refine dl_r (sem_load (us := cR e) ty26 rfl rfl rfl rfl rfl) ?_
  refine dl_r (sem_call rfl rfl (sSmall_R (k := 3) (by assumption) (by omega)) rfl) ?_
  refine dl_r (sem_pick rfl rfl rfl rfl) ?_
  refine dl_r (sem_assign rfl rfl) ?_
  refine dl_end ?_
  refine dw_ret ?_
  -- path 
  exact ⟨.inr rfl, (resL_tmp rfl resL_nil)⟩
theorem lwTr_A {x1 x2 x3 x4 x5 : RN} (wx1 : x1.Wf) (wx2 : x2.Wf) (wx3 : x3.Wf) (wx4 : x4.Wf) (wx5 : x5.Wf) (hv : (x1.s 3 && (x2.s 3 && (x3.s 3 && (x4.s 3 && x5.s 3)))) = false) {v w : RN} : Ok Tryz.prog 7 [.a (cN x1 ++ cN x2 ++ cN x3 ++ cN x4 ++ cN x5), .a (cN v ++ cN w)] [.c (.b true)] := by
  refine Ok.of (by kernel_rfl) Tryz.func7 rfl rfl ?_
  rw [show Tryz.f7.ntmps = 36 from rfl, show Tryz.f7.results.toList = [.tmp 4] from rfl]
  refine dw_seq ?_
  -- region 0
  refine dw_region (by kernel_rfl) ?_
  refine dl_new (sem_box_a rfl rfl) rfl ?_
  refine dl_new (sem_box_a rfl rfl) rfl ?_
  refine dl_r (sem_assign rfl rfl) ?_
  refine dl_end ?_
  refine dw_seq ?_
  refine dw_seq ?_
  -- region 1
  refine dw_region (by kernel_rfl) ?_
  refine dl_r (sem_call rfl rfl (awake_ok) rfl) ?_
  refine dl_r (sem_not rfl rfl) ?_
  refine dl_r (sem_move rfl rfl) ?_
  refine dl_r (sem_load (us := (cN x1 ++ cN x2 ++ cN x3 ++ cN x4 ++ cN x5)) ty32 rfl rfl rfl rfl rfl) ?_
  refine dl_r (sem_slit_D (n := 1) (us := (cN x1 ++ cN x2 ++ cN x3 ++ cN x4 ++ cN x5)) el82 rfl rfl rfl (by decide) (by decide) rfl) ?_
  refine dl_r (sem_call rfl rfl (sm1_A (by assumption) (by assumption) (by assumption) (by assumption) (by assumption) hv) rfl) ?_
  refine dl_r (sem_not rfl rfl) ?_
  refine dl_r (sem_pick rfl rfl rfl rfl) ?_
  refine dl_r (sem_move rfl rfl) ?_
  refine dl_skip (sem_skip rfl) ?_
  refine dl_skip (sem_skip rfl) ?_
  refine dl_skip (sem_skip rfl) ?_
  refine dl_r (sem_pick rfl rfl rfl rfl) ?_
  refine dl_end ?_
  refine dw_true rfl ?_
  refine dw_seq ?_
  -- region 2
  refine dw_region (by kernel_rfl) ?_
  refine dl_r (sem_call rfl rfl (awake_ok) rfl) ?_
  refine dl_r (sem_assign rfl rfl) ?_
  refine dl_end ?_
  refine dw_ret ?_
  -- path 
  exact ⟨.inr rfl, (resL_tmp rfl resL_nil)⟩
theorem lwTr_B {a1 b1 a2 b2 c : Rat} (ha1 : Rz 3 a1) (hb1 : Rz 3 b1) (ha2 : Rz 3 a2) (hb2 : Rz 3 b2) (hc : Rz 3 c) (v1 : vPt b1 b2 c = false) {v w : RN} : Ok Tryz.prog 7 [.a (cR a1 ++ cR b1 ++ cR a2 ++ cR b2 ++ cR c), .a (cN v ++ cN w)] [.c (.b true)] := by
  refine Ok.of (by kernel_rfl) Tryz.func7 rfl rfl ?_
  rw [show Tryz.f7.ntmps = 36 from rfl, show Tryz.f7.results.toList = [.tmp 4] from rfl]
  refine dw_seq ?_
  -- region 0
  refine dw_region (by kernel_rfl) ?_
  refine dl_new (sem_box_a rfl rfl) rfl ?_
  refine dl_new (sem_box_a rfl rfl) rfl ?_
  refine dl_r (sem_assign rfl rfl) ?_
  refine dl_end ?_
  refine dw_seq ?_
  refine dw_seq ?_
  -- region 1
  refine dw_region (by kernel_rfl) ?_
  refine dl_r (sem_call rfl rfl (awake_ok) rfl) ?_
  refine dl_r (sem_not rfl rfl) ?_
  refine dl_r (sem_move rfl rfl) ?_
  refine dl_r (sem_load (us := (cR a1 ++ cR b1 ++ cR a2 ++ cR b2 ++ cR c)) ty32 rfl rfl rfl rfl rfl) ?_
  refine dl_r (sem_slit_D (n := 1) (us := (cR a1 ++ cR b1 ++ cR a2 ++ cR b2 ++ cR c)) el82 rfl rfl rfl (by decide) (by decide) rfl) ?_
  refine dl_r (sem_call rfl rfl (sm1_false (by assumption) (by assumption) (by assumption) (by assumption) (by assumption) v1) rfl) ?_
  refine dl_r (sem_not rfl rfl) ?_
  refine dl_r (sem_pick rfl rfl rfl rfl) ?_
  refine dl_r (sem_move rfl rfl) ?_
  refine dl_skip (sem_skip rfl) ?_
  refine dl_skip (sem_skip rfl) ?_
  refine dl_skip (sem_skip rfl) ?_
  refine dl_r (sem_pick rfl rfl rfl rfl) ?_
  refine dl_end ?_
  refine dw_true rfl ?_
  refine dw_seq ?_
  -- region 2
  refine dw_region (by kernel_rfl) ?_
  refine dl_r (sem_call rfl rfl (awake_ok) rfl) ?_
  refine dl_r (sem_assign rfl rfl) ?_
  refine dl_end ?_
  refine dw_ret ?_
  -- path 
  exact ⟨.inr rfl, (resL_tmp rfl resL_nil)⟩
theorem lwTr_C {a1 b1 a2 b2 c : Rat} (ha1 : Rz 3 a1) (hb1 : Rz 3 b1) (ha2 : Rz 3 a2) (hb2 : Rz 3 b2) (hc : Rz 3 c) (v1 : vPt b1 b2 c = true) {v w : RN} (wv : v.Wf) (ww : w.Wf) (hw : (v.s 3 && w.s 3) = false) : Ok Tryz.prog 7 [.a (cR a1 ++ cR b1 ++ cR a2 ++ cR b2 ++ cR c), .a (cN v ++ cN w)] [.c (.b true)] := by
  refine Ok.of (by kernel_rfl) Tryz.func7 rfl rfl ?_
  rw [show Tryz.f7.ntmps = 36 from rfl, show Tryz.f7.results.toList = [.tmp 4] from rfl]
  refine dw_seq ?_
  -- region 0
  refine dw_region (by kernel_rfl) ?_
  refine dl_new (sem_box_a rfl rfl) rfl ?_
  refine dl_new (sem_box_a rfl rfl) rfl ?_
  refine dl_r (sem_assign rfl rfl) ?_
  refine dl_end ?_
  refine dw_seq ?_
  refine dw_seq ?_
  -- region 1
  refine dw_region (by kernel_rfl) ?_
  refine dl_r (sem_call rfl rfl (awake_ok) rfl) ?_
  refine dl_r (sem_not rfl rfl) ?_
  refine dl_r (sem_move rfl rfl) ?_
  refine dl_r (sem_load (us := (cR a1 ++ cR b1 ++ cR a2 ++ cR b2 ++ cR c)) ty32 rfl rfl rfl rfl rfl) ?_
  refine dl_r (sem_slit_D (n := 1) (us := (cR a1 ++ cR b1 ++ cR a2 ++ cR b2 ++ cR c)) el82 rfl rfl rfl (by decide) (by decide) rfl) ?_
  refine dl_r (sem_call rfl rfl (sm1_true (by assumption) (by assumption) (by assumption) (by assumption) (by assumption) v1) rfl) ?_
  refine dl_r (sem_not rfl rfl) ?_
  refine dl_r (sem_pick rfl rfl rfl rfl) ?_
  refine dl_r (sem_move rfl rfl) ?_
  refine dl_r (sem_load (us := (cN v ++ cN w)) ty42 rfl rfl rfl rfl rfl) ?_
  refine dl_r (sem_call rfl rfl (rcastb (lwSmallVec (by assumption) (by assumption)) hw) rfl) ?_
  refine dl_r (sem_not rfl rfl) ?_
  refine dl_r (sem_pick rfl rfl rfl rfl) ?_
  refine dl_end ?_
  refine dw_true rfl ?_
  refine dw_seq ?_
  -- region 2
  refine dw_region (by kernel_rfl) ?_
  refine dl_r (sem_call rfl rfl (awake_ok) rfl) ?_
  refine dl_r (sem_assign rfl rfl) ?_
  refine dl_end ?_
  refine dw_ret ?_
  -- path 
  exact ⟨.inr rfl, (resL_tmp rfl resL_nil)⟩
theorem lwTr_D {a1 b1 a2 b2 c : Rat} (ha1 : Rz 3 a1) (hb1 : Rz 3 b1) (ha2 : Rz 3 a2) (hb2 : Rz 3 b2) (hc : Rz 3 c) (v1 : vPt b1 b2 c = true) {d e : Rat} (hd : Rz 3 d) (he : Rz 3 e) : Ok Tryz.prog 7 [.a (cR a1 ++ cR b1 ++ cR a2 ++ cR b2 ++ cR c), .a (cR d ++ cR e)] [.c (.b true)] := by
  have ka1 : Rz 300 a1 := ha1.mono (by decide)
  have kb1 : Rz 300 b1 := hb1.mono (by decide)
  have ka2 : Rz 300 a2 := ha2.mono (by decide)
  have kb2 : Rz 300 b2 := hb2.mono (by decide)
  have kc : Rz 300 c := hc.mono (by decide)
  have kd : Rz 300 d := hd.mono (by decide)
  have ke : Rz 300 e := he.mono (by decide)
  have k1 : Rz 300 (a1 + d) := (ha1.add hd).mono (by decide)
  have k2 : Rz 300 (a2 + e) := (ha2.add he).mono (by decide)
  have k3 : Rz 300 (-d) := kd.neg
  have k4 : Rz 300 (-e) := ke.neg
  refine Ok.of (by kernel_rfl) Tryz.func7 rfl rfl ?_
  rw [show Tryz.f7.ntmps = 36 from rfl, show Tryz.f7.results.toList = [.tmp 4] from rfl]
  refine dw_seq ?_
  -- region 0
  refine dw_region (by kernel_rfl) ?_
  refine dl_new (sem_box_a rfl rfl) rfl ?_
  refine dl_new (sem_box_a rfl rfl) rfl ?_
  refine dl_r (sem_assign rfl rfl) ?_
  refine dl_end ?_
  refine dw_seq ?_
  refine dw_seq ?_
  -- region 1
  refine dw_region (by kernel_rfl) ?_
  refine dl_r (sem_call rfl rfl (awake_ok) rfl) ?_
  refine dl_r (sem_not rfl rfl) ?_
  refine dl_r (sem_move rfl rfl) ?_
  refine dl_r (sem_load (us := (cR a1 ++ cR b1 ++ cR a2 ++ cR b2 ++ cR c)) ty32 rfl rfl rfl rfl rfl) ?_
  refine dl_r (sem_slit_D (n := 1) (us := (cR a1 ++ cR b1 ++ cR a2 ++ cR b2 ++ cR c)) el82 rfl rfl rfl (by decide) (by decide) rfl) ?_
  refine dl_r (sem_call rfl rfl (sm1_true (by assumption) (by assumption) (by assumption) (by assumption) (by assumption) v1) rfl) ?_
  refine dl_r (sem_not rfl rfl) ?_
  refine dl_r (sem_pick rfl rfl rfl rfl) ?_
  refine dl_r (sem_move rfl rfl) ?_
  refine dl_r (sem_load (us := (cR d ++ cR e)) ty42 rfl rfl rfl rfl rfl) ?_
  refine dl_r (sem_call rfl rfl (lwSmallVec_R (by assumption) (by assumption)) rfl) ?_
  refine dl_r (sem_not rfl rfl) ?_
  refine dl_r (sem_pick rfl rfl rfl rfl) ?_
  refine dl_end ?_
  refine dw_false rfl ?_
  refine dw_skip ?_
  refine dw_seq ?_
  -- region 3
  refine dw_region (by kernel_rfl) ?_
  refine dl_r (sem_load (us := (cR a1 ++ cR b1 ++ cR a2 ++ cR b2 ++ cR c)) ty32 rfl rfl rfl rfl rfl) ?_
  refine dl_r (sem_load (us := (cR d ++ cR e)) ty42 rfl rfl rfl rfl rfl) ?_
  refine dl_r (sem_call rfl rfl (ptTranslate_ok (by assumption) (by assumption) (by assumption) (by assumption)) rfl) ?_
  refine dl_new (sem_alloc zc32 rfl) rfl ?_
  refine dl_st (sem_store_a ty32 rfl rfl rfl rfl rfl rfl) ?_
  refine dl_end ?_
  refine dw_seq ?_
  -- region 4
  refine dw_draw 14 [] follows_mixed (by kernel_rfl) rfl rfl ?_
  refine dq_r (sem_load (us := (cR (a1 + d) ++ cR b1 ++ cR (a2 + e) ++ cR b2 ++ cR c)) ty32 rfl rfl rfl rfl rfl) ?_
  refine dq_r (sem_load (us := (cR a1 ++ cR b1 ++ cR a2 ++ cR b2 ++ cR c)) ty32 rfl rfl rfl rfl rfl) ?_
  refine dq_r (sem_load (us := (cR d ++ cR e)) ty42 rfl rfl rfl rfl rfl) ?_
  refine dq_r (sem_call rfl rfl (rpTranslate_ok (by assumption) (by assumption) (by assumption) (by assumption)) rfl) ?_
  refine dq_r (sem_call rfl rfl (rcastb (rpSame_ok (by assumption) (by assumption) (by assumption) (by assumption) (by assumption) (by assumption) (by assumption) (by assumption) (by assumption) (by assumption)) (psame_refl _ _ _ _ _)) rfl) ?_
  refine dq_r (sem_move rfl rfl) ?_
  refine dq_r (sem_load (us := (cR (a1 + d) ++ cR b1 ++ cR (a2 + e) ++ cR b2 ++ cR c)) ty32 rfl rfl rfl rfl rfl) ?_
  refine dq_r (sem_load (us := (cR d ++ cR e)) ty42 rfl rfl rfl rfl rfl) ?_
  refine dq_r (sem_call rfl rfl (rpBack_ok (by assumption) (by assumption)) rfl) ?_
  refine dq_r (sem_call rfl rfl (rcast5a (ptTranslate_ok (by assumption) (by assumption) (by assumption) (by assumption)) (r_cancel _ _) rfl (r_cancel _ _) rfl rfl) rfl) ?_
  refine dq_r (sem_load (us := (cR a1 ++ cR b1 ++ cR a2 ++ cR b2 ++ cR c)) ty32 rfl rfl rfl rfl rfl) ?_
  refine dq_r (sem_call rfl rfl (rcastb (rpSame_ok (by assumption) (by assumption) (by assumption) (by assumption) (by assumption) (by assumption) (by assumption) (by assumption) (by assumption) (by assumption)) (psame_refl _ _ _ _ _)) rfl) ?_
  refine dq_r (sem_pick rfl rfl rfl rfl) ?_
  refine dq_r (sem_assign rfl rfl) ?_
  refine dq_end ?_
  refine dl_start0 ?_
  refine dl_end ?_
  refine dw_ret ?_
  -- path 
  exact ⟨.inr rfl, (resL_tmp rfl resL_nil)⟩
theorem lwAt_A {v w : RN} (wv : v.Wf) (ww : w.Wf) (hw : (v.s 3 && w.s 3) = false) {x y : Int} (_g0 : -9223372036854775808 ≤ x) (_g1 : x ≤ 9223372036854775807) (_g2 : -9223372036854775808 ≤ y) (_g3 : y ≤ 9223372036854775807) {x1 x2 x3 x4 x5 : RN} : Ok Tryz.prog 8 [.a (cN v ++ cN w), .a ([.i .i64 x] ++ [.i .i64 y]), .a (cN x1 ++ cN x2 ++ cN x3 ++ cN x4 ++ cN x5)] [.c (.b true)] := by
  refine Ok.of (by kernel_rfl) Tryz.func8 rfl rfl ?_
  rw [show Tryz.f8.ntmps = 73 from rfl, show Tryz.f8.results.toList = [.tmp 6] from rfl]
  refine dw_seq ?_
  -- region 0
  refine dw_region (by kernel_rfl) ?_
  refine dl_new (sem_box_a rfl rfl) rfl ?_
  refine dl_new (sem_box_a rfl rfl) rfl ?_
  refine dl_new (sem_box_a rfl rfl) rfl ?_
  refine dl_r (sem_assign rfl rfl) ?_
  refine dl_end ?_
  refine dw_seq ?_
  refine dw_seq ?_
  -- region 1
  refine dw_region (by kernel_rfl) ?_
  refine dl_r (sem_call rfl rfl (awake_ok) rfl) ?_
  refine dl_r (sem_not rfl rfl) ?_
  refine dl_r (sem_move rfl rfl) ?_
  refine dl_r (sem_load (us := (cN v ++ cN w)) ty42 rfl rfl rfl rfl rfl) ?_
  refine dl_r (sem_call rfl rfl (rcastb (lwSmallVec (by assumption) (by assumption)) hw) rfl) ?_
  refine dl_r (sem_not rfl rfl) ?_
  refine dl_r (sem_pick rfl rfl rfl rfl) ?_
  refine dl_r (sem_move rfl rfl) ?_
  refine dl_skip (sem_skip rfl) ?_
  refine dl_skip (sem_skip rfl) ?_
  refine dl_skip (sem_skip rfl) ?_
  refine dl_skip (sem_skip rfl) ?_
  refine dl_r (sem_pick rfl rfl rfl rfl) ?_
  refine dl_end ?_
  refine dw_true rfl ?_
  refine dw_seq ?_
  -- region 2
  refine dw_region (by kernel_rfl) ?_
  refine dl_r (sem_call rfl rfl (awake_ok) rfl) ?_
  refine dl_r (sem_assign rfl rfl) ?_
  refine dl_end ?_
  refine dw_ret ?_
  -- path 
  exact ⟨.inr rfl, (resL_tmp rfl resL_nil)⟩
theorem lwAt_B {d e : Rat} (hd : Rz 3 d) (he : Rz 3 e) {x y : Int} (_g0 : -9223372036854775808 ≤ x) (_g1 : x ≤ 9223372036854775807) (_g2 : -9223372036854775808 ≤ y) (_g3 : y ≤ 9223372036854775807) {x1 x2 x3 x4 x5 : RN} (wx1 : x1.Wf) (wx2 : x2.Wf) (wx3 : x3.Wf) (wx4 : x4.Wf) (wx5 : x5.Wf) (hv : (x1.s 3 && (x2.s 3 && (x3.s 3 && (x4.s 3 && x5.s 3)))) = false) : Ok Tryz.prog 8 [.a (cR d ++ cR e), .a ([.i .i64 x] ++ [.i .i64 y]), .a (cN x1 ++ cN x2 ++ cN x3 ++ cN x4 ++ cN x5)] [.c (.b true)] := by
  refine Ok.of (by kernel_rfl) Tryz.func8 rfl rfl ?_
  rw [show Tryz.f8.ntmps = 73 from rfl, show Tryz.f8.results.toList = [.tmp 6] from rfl]
  refine dw_seq ?_
  -- region 0
  refine dw_region (by kernel_rfl) ?_
  refine dl_new (sem_box_a rfl rfl) rfl ?_
  refine dl_new (sem_box_a rfl rfl) rfl ?_
  refine dl_new (sem_box_a rfl rfl) rfl ?_
  refine dl_r (sem_assign rfl rfl) ?_
  refine dl_end ?_
  refine dw_seq ?_
  refine dw_seq ?_
  -- region 1
  refine dw_region (by kernel_rfl) ?_
  refine dl_r (sem_call rfl rfl (awake_ok) rfl) ?_
  refine dl_r (sem_not rfl rfl) ?_
  refine dl_r (sem_move rfl rfl) ?_
  refine dl_r (sem_load (us := (cR d ++ cR e)) ty42 rfl rfl rfl rfl rfl) ?_
  refine dl_r (sem_call rfl rfl (lwSmallVec_R (by assumption) (by assumption)) rfl) ?_
  refine dl_r (sem_not rfl rfl) ?_
  refine dl_r (sem_pick rfl rfl rfl rfl) ?_
  refine dl_r (sem_move rfl rfl) ?_
  refine dl_r (sem_load (us := (cN x1 ++ cN x2 ++ cN x3 ++ cN x4 ++ cN x5)) ty32 rfl rfl rfl rfl rfl) ?_
  refine dl_r (sem_slit_D (n := 1) (us := (cN x1 ++ cN x2 ++ cN x3 ++ cN x4 ++ cN x5)) el82 rfl rfl rfl (by decide) (by decide) rfl) ?_
  refine dl_r (sem_call rfl rfl (sm1_A (by assumption) (by assumption) (by assumption) (by assumption) (by assumption) hv) rfl) ?_
  refine dl_r (sem_not rfl rfl) ?_
  refine dl_r (sem_pick rfl rfl rfl rfl) ?_
  refine dl_end ?_
  refine dw_true rfl ?_
  refine dw_seq ?_
  -- region 2
  refine dw_region (by kernel_rfl) ?_
  refine dl_r (sem_call rfl rfl (awake_ok) rfl) ?_
  refine dl_r (sem_assign rfl rfl) ?_
  refine dl_end ?_
  refine dw_ret ?_
  -- path 
  exact ⟨.inr rfl, (resL_tmp rfl resL_nil)⟩
theorem lwAt_C {d e : Rat} (hd : Rz 3 d) (he : Rz 3 e) {x y : Int} (_g0 : -9223372036854775808 ≤ x) (_g1 : x ≤ 9223372036854775807) (_g2 : -9223372036854775808 ≤ y) (_g3 : y ≤ 9223372036854775807) {a1 b1 a2 b2 c : Rat} (ha1 : Rz 3 a1) (hb1 : Rz 3 b1) (ha2 : Rz 3 a2) (hb2 : Rz 3 b2) (hc : Rz 3 c) (v1 : vPt b1 b2 c = false) : Ok Tryz.prog 8 [.a (cR d ++ cR e), .a ([.i .i64 x] ++ [.i .i64 y]), .a (cR a1 ++ cR b1 ++ cR a2 ++ cR b2 ++ cR c)] [.c (.b true)] := by
  refine Ok.of (by kernel_rfl) Tryz.func8 rfl rfl ?_
  rw [show Tryz.f8.ntmps = 73 from rfl, show Tryz.f8.results.toList = [.tmp 6] from rfl]
  refine dw_seq ?_
  -- region 0
  refine dw_region (by kernel_rfl) ?_
  refine dl_new (sem_box_a rfl rfl) rfl ?_
  refine dl_new (sem_box_a rfl rfl) rfl ?_
  refine dl_new (sem_box_a rfl rfl) rfl ?_
  refine dl_r (sem_assign rfl rfl) ?_
  refine dl_end ?_
  refine dw_seq ?_
  refine dw_seq ?_
  -- region 1
  refine dw_region (by kernel_rfl) ?_
  refine dl_r (sem_call rfl rfl (awake_ok) rfl) ?_
  refine dl_r (sem_not rfl rfl) ?_
  refine dl_r (sem_move rfl rfl) ?_
  refine dl_r (sem_load (us := (cR d ++ cR e)) ty42 rfl rfl rfl rfl rfl) ?_
  refine dl_r (sem_call rfl rfl (lwSmallVec_R (by assumption) (by assumption)) rfl) ?_
  refine dl_r (sem_not rfl rfl) ?_
  refine dl_r (sem_pick rfl rfl rfl rfl) ?_
  refine dl_r (sem_move rfl rfl) ?_
  refine dl_r (sem_load (us := (cR a1 ++ cR b1 ++ cR a2 ++ cR b2 ++ cR c)) ty32 rfl rfl rfl rfl rfl) ?_
  refine dl_r (sem_slit_D (n := 1) (us := (cR a1 ++ cR b1 ++ cR a2 ++ cR b2 ++ cR c)) el82 rfl rfl rfl (by decide) (by decide) rfl) ?_
  refine dl_r (sem_call rfl rfl (sm1_false (by assumption) (by assumption) (by assumption) (by assumption) (by assumption) v1) rfl) ?_
  refine dl_r (sem_not rfl rfl) ?_
  refine dl_r (sem_pick rfl rfl rfl rfl) ?_
  refine dl_end ?_
  refine dw_true rfl ?_
  refine dw_seq ?_
  -- region 2
  refine dw_region (by kernel_rfl) ?_
  refine dl_r (sem_call rfl rfl (awake_ok) rfl) ?_
  refine dl_r (sem_assign rfl rfl) ?_
  refine dl_end ?_
  refine dw_ret ?_
  -- path 
  exact ⟨.inr rfl, (resL_tmp rfl resL_nil)⟩
theorem lwAt_D {d e : Rat} (hd : Rz 3 d) (he : Rz 3 e) {x y : Int} (g0 : -9223372036854775808 ≤ x) (g1 : x ≤ 9223372036854775807) (g2 : -9223372036854775808 ≤ y) (g3 : y ≤ 9223372036854775807) {a1 b1 a2 b2 c : Rat} (ha1 : Rz 3 a1) (hb1 : Rz 3 b1) (ha2 : Rz 3 a2) (hb2 : Rz 3 b2) (hc : Rz 3 c) (v1 : vPt b1 b2 c = true)  (h1 : b1 = 0 ∧ b2 = 0) : Ok Tryz.prog 8 [.a (cR d ++ cR e), .a ([.i .i64 x] ++ [.i .i64 y]), .a (cR a1 ++ cR b1 ++ cR a2 ++ cR b2 ++ cR c)] [.c (.b true)] := by
  have ka1 : Rz 300 a1 := ha1.mono (by decide)
  have kb1 : Rz 300 b1 := hb1.mono (by decide)
  have ka2 : Rz 300 a2 := ha2.mono (by decide)
  have kb2 : Rz 300 b2 := hb2.mono (by decide)
  have kc : Rz 300 c := hc.mono (by decide)
  have kd : Rz 300 d := hd.mono (by decide)
  have ke : Rz 300 e := he.mono (by decide)
  have k0 : Rz 300 (0 : Rat) := Rz.zero (by decide)
  have k1 : Rz 300 ((x : Int) : Rat) := Rz.int (Sz.small (by decide) (by omega) (by omega)) (by decide)
  have k2 : Rz 300 ((y : Int) : Rat) := Rz.int (Sz.small (by decide) (by omega) (by omega)) (by decide)
  refine Ok.of (by kernel_rfl) Tryz.func8 rfl rfl ?_
  rw [show Tryz.f8.ntmps = 73 from rfl, show Tryz.f8.results.toList = [.tmp 6] from rfl]
  refine dw_seq ?_
  -- region 0
  refine dw_region (by kernel_rfl) ?_
  refine dl_new (sem_box_a rfl rfl) rfl ?_
  refine dl_new (sem_box_a rfl rfl) rfl ?_
  refine dl_new (sem_box_a rfl rfl) rfl ?_
  refine dl_r (sem_assign rfl rfl) ?_
  refine dl_end ?_
  refine dw_seq ?_
  refine dw_seq ?_
  -- region 1
  refine dw_region (by kernel_rfl) ?_
  refine dl_r (sem_call rfl rfl (awake_ok) rfl) ?_
  refine dl_r (sem_not rfl rfl) ?_
  refine dl_r (sem_move rfl rfl) ?_
  refine dl_r (sem_load (us := (cR d ++ cR e)) ty42 rfl rfl rfl rfl rfl) ?_
  refine dl_r (sem_call rfl rfl (lwSmallVec_R (by assumption) (by assumption)) rfl) ?_
  refine dl_r (sem_not rfl rfl) ?_
  refine dl_r (sem_pick rfl rfl rfl rfl) ?_
  refine dl_r (sem_move rfl rfl) ?_
  refine dl_r (sem_load (us := (cR a1 ++ cR b1 ++ cR a2 ++ cR b2 ++ cR c)) ty32 rfl rfl rfl rfl rfl) ?_
  refine dl_r (sem_slit_D (n := 1) (us := (cR a1 ++ cR b1 ++ cR a2 ++ cR b2 ++ cR c)) el82 rfl rfl rfl (by decide) (by decide) rfl) ?_
  refine dl_r (sem_call rfl rfl (sm1_true (by assumption) (by assumption) (by assumption) (by assumption) (by assumption) v1) rfl) ?_
  refine dl_r (sem_not rfl rfl) ?_
  refine dl_r (sem_pick rfl rfl rfl rfl) ?_
  refine dl_end ?_
  refine dw_false rfl ?_
  refine dw_skip ?_
  refine dw_seq ?_
  refine dw_seq ?_
  -- region 3
  refine dw_draw 14 [] follows_mixed (by kernel_rfl) rfl rfl ?_
  refine dq_r (sem_load (us := (cR d ++ cR e)) ty42 rfl rfl rfl rfl rfl) ?_
  refine dq_r (sem_call rfl rfl (ptAt_ok) rfl) ?_
  refine dq_r (sem_load (us := (cR d ++ cR e)) ty42 rfl rfl rfl rfl rfl) ?_
  refine dq_r (sem_call rfl rfl (rpAt_ok) rfl) ?_
  refine dq_r (sem_call rfl rfl (rcastb (rpSame_ok (by assumption) (by assumption) (by assumption) (by assumption) (by assumption) (by assumption) (by assumption) (by assumption) (by assumption) (by assumption)) (psame_refl _ _ _ _ _)) rfl) ?_
  refine dq_r (sem_not rfl rfl) ?_
  refine dq_r (sem_move rfl rfl) ?_
  refine dq_r (sem_load (us := ([.i .i64 x] ++ [.i .i64 y])) ty60 rfl rfl rfl rfl rfl) ?_
  refine dq_r (sem_call rfl rfl (ptOfGrid_ok (by omega) (by omega) (by omega) (by omega)) rfl) ?_
  refine dq_r (sem_load (us := ([.i .i64 x] ++ [.i .i64 y])) ty60 rfl rfl rfl rfl rfl) ?_
  refine dq_r (sem_call rfl rfl (rpOfGrid_ok (by omega) (by omega) (by omega) (by omega)) rfl) ?_
  refine dq_r (sem_call rfl rfl (rcastb (rpSame_ok (by assumption) (by assumption) (by assumption) (by assumption) (by assumption) (by assumption) (by assumption) (by assumption) (by assumption) (by assumption)) (psame_refl _ _ _ _ _)) rfl) ?_
  refine dq_r (sem_not rfl rfl) ?_
  refine dq_r (sem_pick rfl rfl rfl rfl) ?_
  refine dq_end ?_
  refine dl_start0 ?_
  refine dl_end ?_
  refine dw_false rfl ?_
  refine dw_skip ?_
  refine dw_seq ?_
  -- region 5
  refine dw_region (by kernel_rfl) ?_
  refine dl_r (sem_load (us := (cR d ++ cR e)) ty42 rfl rfl rfl rfl rfl) ?_
  refine dl_r (sem_call rfl rfl (ptAt_ok) rfl) ?_
  refine dl_r (sem_call rfl rfl (ptRational_ok rfl rfl) rfl) ?_
  refine dl_r (sem_move rfl rfl) ?_
  refine dl_r (sem_extract rfl rfl rfl) ?_
  refine dl_r (sem_extract rfl rfl rfl) ?_
  refine dl_new (sem_alloc zc42 rfl) rfl ?_
  refine dl_st (sem_store_a ty42 rfl rfl rfl rfl rfl rfl) ?_
  refine dl_r (sem_assign rfl rfl) ?_
  refine dl_end ?_
  refine dw_seq ?_
  -- region 6
  refine dw_region (by kernel_rfl) ?_
  refine dl_r (sem_load (us := (cR a1 ++ cR b1 ++ cR a2 ++ cR b2 ++ cR c)) ty32 rfl rfl rfl rfl rfl) ?_
  refine dl_r (sem_call rfl rfl (ptRational_ok h1.1 h1.2) rfl) ?_
  refine dl_r (sem_move rfl rfl) ?_
  refine dl_r (sem_extract rfl rfl rfl) ?_
  refine dl_r (sem_extract rfl rfl rfl) ?_
  refine dl_new (sem_alloc zc42 rfl) rfl ?_
  refine dl_st (sem_store_a ty42 rfl rfl rfl rfl rfl rfl) ?_
  refine dl_r (sem_assign rfl rfl) ?_
  refine dl_end ?_
  refine dw_seq ?_
  -- region 7
  refine dw_region (by kernel_rfl) ?_
  refine dl_r (sem_load (us := (cR a1 ++ cR b1 ++ cR a2 ++ cR b2 ++ cR c)) ty32 rfl rfl rfl rfl rfl) ?_
  refine dl_r (sem_call rfl rfl (rpRational_ok h1.1 h1.2) rfl) ?_
  refine dl_r (sem_move rfl rfl) ?_
  refine dl_r (sem_extract rfl rfl rfl) ?_
  refine dl_r (sem_extract rfl rfl rfl) ?_
  refine dl_new (sem_alloc zc42 rfl) rfl ?_
  refine dl_st (sem_store_a ty42 rfl rfl rfl rfl rfl rfl) ?_
  refine dl_r (sem_assign rfl rfl) ?_
  refine dl_end ?_
  refine dw_seq ?_
  -- region 8
  refine dw_region (by kernel_rfl) ?_
  refine dl_r (sem_move rfl rfl) ?_
  refine dl_r (sem_move rfl rfl) ?_
  refine dl_r (sem_load (us := (cR d ++ cR e)) ty42 rfl rfl rfl rfl rfl) ?_
  refine dl_r (sem_load (us := (cR d ++ cR e)) ty42 rfl rfl rfl rfl rfl) ?_
  refine dl_r (sem_call rfl rfl (rcastb (rpSameVec_ok (by assumption) (by assumption) (by assumption) (by assumption)) (vsame_refl _ _)) rfl) ?_
  refine dl_r (sem_pick rfl rfl rfl rfl) ?_
  refine dl_r (sem_move rfl rfl) ?_
  refine dl_r (sem_move rfl rfl) ?_
  refine dl_r (sem_move rfl rfl) ?_
  refine dl_r (sem_beql rfl rfl ty_bool rfl) ?_
  refine dl_r (sem_pick rfl rfl rfl rfl) ?_
  refine dl_r (sem_move rfl rfl) ?_
  refine dl_r (sem_load (us := (cR a1 ++ cR a2)) ty42 rfl rfl rfl rfl rfl) ?_
  refine dl_r (sem_load (us := (cR a1 ++ cR a2)) ty42 rfl rfl rfl rfl rfl) ?_
  refine dl_r (sem_call rfl rfl (rcastb (rpSameVec_ok (by assumption) (by assumption) (by assumption) (by assumption)) (vsame_refl _ _)) rfl) ?_
  refine dl_r (sem_pick rfl rfl rfl rfl) ?_
  refine dl_r (sem_assign rfl rfl) ?_
  refine dl_end ?_
  refine dw_ret ?_
  -- path 
  exact ⟨.inr rfl, (resL_tmp rfl resL_nil)⟩
theorem lwAt_E {d e : Rat} (hd : Rz 3 d) (he : Rz 3 e) {x y : Int} (g0 : -9223372036854775808 ≤ x) (g1 : x ≤ 9223372036854775807) (g2 : -9223372036854775808 ≤ y) (g3 : y ≤ 9223372036854775807) {a1 b1 a2 b2 c : Rat} (ha1 : Rz 3 a1) (hb1 : Rz 3 b1) (ha2 : Rz 3 a2) (hb2 : Rz 3 b2) (hc : Rz 3 c) (v1 : vPt b1 b2 c = true)  (h1 : ¬ (b1 = 0 ∧ b2 = 0)) : Ok Tryz.prog 8 [.a (cR d ++ cR e), .a ([.i .i64 x] ++ [.i .i64 y]), .a (cR a1 ++ cR b1 ++ cR a2 ++ cR b2 ++ cR c)] [.c (.b true)] := by
  have ka1 : Rz 300 a1 := ha1.mono (by decide)
  have kb1 : Rz 300 b1 := hb1.mono (by decide)
  have ka2 : Rz 300 a2 := ha2.mono (by decide)
  have kb2 : Rz 300 b2 := hb2.mono (by decide)
  have kc : Rz 300 c := hc.mono (by decide)
  have kd : Rz 300 d := hd.mono (by decide)
  have ke : Rz 300 e := he.mono (by decide)
  have k0 : Rz 300 (0 : Rat) := Rz.zero (by decide)
  have k1 : Rz 300 ((x : Int) : Rat) := Rz.int (Sz.small (by decide) (by omega) (by omega)) (by decide)
  have k2 : Rz 300 ((y : Int) : Rat) := Rz.int (Sz.small (by decide) (by omega) (by omega)) (by decide)
  refine Ok.of (by kernel_rfl) Tryz.func8 rfl rfl ?_
  rw [show Tryz.f8.ntmps = 73 from rfl, show Tryz.f8.results.toList = [.tmp 6] from rfl]
  refine dw_seq ?_
  -- region 0
  refine dw_region (by kernel_rfl) ?_
  refine dl_new (sem_box_a rfl rfl) rfl ?_
  refine dl_new (sem_box_a rfl rfl) rfl ?_
  refine dl_new (sem_box_a rfl rfl) rfl ?_
  refine dl_r (sem_assign rfl rfl) ?_
  refine dl_end ?_
  refine dw_seq ?_
  refine dw_seq ?_
  -- region 1
  refine dw_region (by kernel_rfl) ?_
  refine dl_r (sem_call rfl rfl (awake_ok) rfl) ?_
  refine dl_r (sem_not rfl rfl) ?_
  refine dl_r (sem_move rfl rfl) ?_
  refine dl_r (sem_load (us := (cR d ++ cR e)) ty42 rfl rfl rfl rfl rfl) ?_
  refine dl_r (sem_call rfl rfl (lwSmallVec_R (by assumption) (by assumption)) rfl) ?_
  refine dl_r (sem_not rfl rfl) ?_
  refine dl_r (sem_pick rfl rfl rfl rfl) ?_
  refine dl_r (sem_move rfl rfl) ?_
  refine dl_r (sem_load (us := (cR a1 ++ cR b1 ++ cR a2 ++ cR b2 ++ cR c)) ty32 rfl rfl rfl rfl rfl) ?_
  refine dl_r (sem_slit_D (n := 1) (us := (cR a1 ++ cR b1 ++ cR a2 ++ cR b2 ++ cR c)) el82 rfl rfl rfl (by decide) (by decide) rfl) ?_
  refine dl_r (sem_call rfl rfl (sm1_true (by assumption) (by assumption) (by assumption) (by assumption) (by assumption) v1) rfl) ?_
  refine dl_r (sem_not rfl rfl) ?_
  refine dl_r (sem_pick rfl rfl rfl rfl) ?_
  refine dl_end ?_
  refine dw_false rfl ?_
  refine dw_skip ?_
  refine dw_seq ?_
  refine dw_seq ?_
  -- region 3
  refine dw_draw 14 [] follows_mixed (by kernel_rfl) rfl rfl ?_
  refine dq_r (sem_load (us := (cR d ++ cR e)) ty42 rfl rfl rfl rfl rfl) ?_
  refine dq_r (sem_call rfl rfl (ptAt_ok) rfl) ?_
  refine dq_r (sem_load (us := (cR d ++ cR e)) ty42 rfl rfl rfl rfl rfl) ?_
  refine dq_r (sem_call rfl rfl (rpAt_ok) rfl) ?_
  refine dq_r (sem_call rfl rfl (rcastb (rpSame_ok (by assumption) (by assumption) (by assumption) (by assumption) (by assumption) (by assumption) (by assumption) (by assumption) (by assumption) (by assumption)) (psame_refl _ _ _ _ _)) rfl) ?_
  refine dq_r (sem_not rfl rfl) ?_
  refine dq_r (sem_move rfl rfl) ?_
  refine dq_r (sem_load (us := ([.i .i64 x] ++ [.i .i64 y])) ty60 rfl rfl rfl rfl rfl) ?_
  refine dq_r (sem_call rfl rfl (ptOfGrid_ok (by omega) (by omega) (by omega) (by omega)) rfl) ?_
  refine dq_r (sem_load (us := ([.i .i64 x] ++ [.i .i64 y])) ty60 rfl rfl rfl rfl rfl) ?_
  refine dq_r (sem_call rfl rfl (rpOfGrid_ok (by omega) (by omega) (by omega) (by omega)) rfl) ?_
  refine dq_r (sem_call rfl rfl (rcastb (rpSame_ok (by assumption) (by assumption) (by assumption) (by assumption) (by assumption) (by assumption) (by assumption) (by assumption) (by assumption) (by assumption)) (psame_refl _ _ _ _ _)) rfl) ?_
  refine dq_r (sem_not rfl rfl) ?_
  refine dq_r (sem_pick rfl rfl rfl rfl) ?_
  refine dq_end ?_
  refine dl_start0 ?_
  refine dl_end ?_
  refine dw_false rfl ?_
  refine dw_skip ?_
  refine dw_seq ?_
  -- region 5
  refine dw_region (by kernel_rfl) ?_
  refine dl_r (sem_load (us := (cR d ++ cR e)) ty42 rfl rfl rfl rfl rfl) ?_
  refine dl_r (sem_call rfl rfl (ptAt_ok) rfl) ?_
  refine dl_r (sem_call rfl rfl (ptRational_ok rfl rfl) rfl) ?_
  refine dl_r (sem_move rfl rfl) ?_
  refine dl_r (sem_extract rfl rfl rfl) ?_
  refine dl_r (sem_extract rfl rfl rfl) ?_
  refine dl_new (sem_alloc zc42 rfl) rfl ?_
  refine dl_st (sem_store_a ty42 rfl rfl rfl rfl rfl rfl) ?_
  refine dl_r (sem_assign rfl rfl) ?_
  refine dl_end ?_
  refine dw_seq ?_
  -- region 6
  refine dw_region (by kernel_rfl) ?_
  refine dl_r (sem_load (us := (cR a1 ++ cR b1 ++ cR a2 ++ cR b2 ++ cR c)) ty32 rfl rfl rfl rfl rfl) ?_
  refine dl_r (sem_call rfl rfl (ptRational_bad h1) rfl) ?_
  refine dl_r (sem_move rfl rfl) ?_
  refine dl_r (sem_extract rfl rfl rfl) ?_
  refine dl_r (sem_extract rfl rfl rfl) ?_
  refine dl_new (sem_alloc zc42 rfl) rfl ?_
  refine dl_st (sem_store_a ty42 rfl rfl rfl rfl rfl rfl) ?_
  refine dl_r (sem_assign rfl rfl) ?_
  refine dl_end ?_
  refine dw_seq ?_
  -- region 7
  refine dw_region (by kernel_rfl) ?_
  refine dl_r (sem_load (us := (cR a1 ++ cR b1 ++ cR a2 ++ cR b2 ++ cR c)) ty32 rfl rfl rfl rfl rfl) ?_
  refine dl_r (sem_call rfl rfl (rpRational_bad h1) rfl) ?_
  refine dl_r (sem_move rfl rfl) ?_
  refine dl_r (sem_extract rfl rfl rfl) ?_
  refine dl_r (sem_extract rfl rfl rfl) ?_
  refine dl_new (sem_alloc zc42 rfl) rfl ?_
  refine dl_st (sem_store_a ty42 rfl rfl rfl rfl rfl rfl) ?_
  refine dl_r (sem_assign rfl rfl) ?_
  refine dl_end ?_
  refine dw_seq ?_
  -- region 8
  refine dw_region (by kernel_rfl) ?_
  refine dl_r (sem_move rfl rfl) ?_
  refine dl_r (sem_move rfl rfl) ?_
  refine dl_r (sem_load (us := (cR d ++ cR e)) ty42 rfl rfl rfl rfl rfl) ?_
  refine dl_r (sem_load (us := (cR d ++ cR e)) ty42 rfl rfl rfl rfl rfl) ?_
  refine dl_r (sem_call rfl rfl (rcastb (rpSameVec_ok (by assumption) (by assumption) (by assumption) (by assumption)) (vsame_refl _ _)) rfl) ?_
  refine dl_r (sem_pick rfl rfl rfl rfl) ?_
  refine dl_r (sem_move rfl rfl) ?_
  refine dl_r (sem_move rfl rfl) ?_
  refine dl_r (sem_move rfl rfl) ?_
  refine dl_r (sem_beql rfl rfl ty_bool rfl) ?_
  refine dl_r (sem_pick rfl rfl rfl rfl) ?_
  refine dl_r (sem_move rfl rfl) ?_
  refine dl_r (sem_load (us := zV) ty42 rfl rfl rfl rfl rfl) ?_
  refine dl_r (sem_load (us := zV) ty42 rfl rfl rfl rfl rfl) ?_
  refine dl_r (sem_call rfl rfl (rpSameVec0) rfl) ?_
  refine dl_r (sem_pick rfl rfl rfl rfl) ?_
  refine dl_r (sem_assign rfl rfl) ?_
  refine dl_end ?_
  refine dw_ret ?_
  -- path 
  exact ⟨.inr rfl, (resL_tmp rfl resL_nil)⟩
end Go.Proofs.YthpalcfhhicmgaaGreat
/- Plain: an array's elements; places and their points; the order of points is transitive. -/
namespace Go.Proofs.YthpalcfhhicmgaaGreat
open Go Go.RowKit
/-- an array's elements -/
def arB (P : Program) (U : TypeId) : Option (Nat × Nat) :=
  match P.underlying U with
  | some (.array n e) => (P.info? e).map fun i => (n, i.size)
  | _ => none
theorem sem_index_a {P : Program} {ops : Array Oper} {T : TF} {B : BF} {dst : Option Nat} {x i : Operand} {U : TypeId} {ty : TypeId} {pos : String} {af : Array Edge} {g : Option (Nat × Bool)} {n m k off : Nat} {kd : IntKind} {j : Int}
    (hU : arB P U = some (n, m)) (hx : opd T x = some (.p k off)) (hi : opd T i = some (.v (.c (.i kd j)))) (hj : 0 ≤ j ∧ j < n) (hg : gd ops ⟨dst, .indexAddr U x i, ty, pos, af, g⟩ T = some true) :
    Sem P ops ⟨dst, .indexAddr U x i, ty, pos, af, g⟩ T B (.r (.p k (off + j.toNat * m))) :=
  sem_pure hg (fun l e => opd_ptr (ops := ops) (o := ⟨dst, .indexAddr U x i, ty, pos, af, g⟩) (by simp [Op.operands]) hx e) (fun V β a w hs => by
    have h1 : a.eval x = .pointer (some ⟨β k, off, none⟩) := opd_reads hs (x := x) (by simp [Op.operands]) hx
    have h2 := RdC.int_eq (opd_reads hs (x := i) (by simp [Op.operands]) hi)
    unfold arB at hU
    split at hU
    case h_2 => cases hU
    rename_i n' el hul
    cases hinf : P.info? el with
    | none => rw [hinf] at hU; cases hU
    | some inf =>
      rw [hinf] at hU
      simp at hU
      obtain ⟨rfl, rfl⟩ := hU
      have hso : ∀ w, (sizeOf el).run P w = .ok inf.size w := fun w => by unfold sizeOf typeInfo; simp [program, Sem.run, hinf]
      refine ⟨.pointer (some ⟨β k, off + j.toNat * inf.size, none⟩), ?_, rfl⟩
      simp [execOp, Instr.indexAt, h1, h2, asIntOf, run_underlying hul, Instr.sureAddr, hj.1, hj.2, hso, addr_add])
theorem rt_int {C : Int} (_h0 : 0 ≤ C) (_hs : sqR (C : Rat) = true) : rt (C : Rat) = Rat.divInt (isqI C) 1 := by
  unfold rt
  rw [Rat.num_intCast, Rat.den_intCast]
  rw [show isqI ((1 : Nat) : Int) = 1 from isqI_unique (by decide) (by decide) (by decide) (by decide)]
theorem isq_small {C : Int} (h0 : 0 ≤ C) (h1 : C ≤ 65535) : 0 ≤ isqI C ∧ isqI C ≤ 255 := by
  have a := isqI_nonneg C
  have b := isqI_le h0
  refine ⟨a, ?_⟩
  apply Classical.byContradiction
  intro hn
  have : 256 * 256 ≤ isqI C * isqI C := Int.mul_le_mul (by omega) (by omega) (by decide) a
  omega
theorem sq_frac {A B n r : Int} (_hn : 0 < n) : Rat.divInt A n + Rat.divInt B n * Rat.divInt r 1 = Rat.divInt (A + B * r) n := by
  rw [Rat.divInt_mul_divInt, Int.mul_one, Rat.divInt_eq_div, Rat.divInt_eq_div, Rat.divInt_eq_div, Rat.intCast_add]
  grind
/-- transitivity -/
theorem cmpPt_trans {a1 b1 a2 b2 c p1 q1 p2 q2 r x1 y1 x2 y2 z : Rat} (hc : 0 ≤ c) (hr : 0 ≤ r) (hz : 0 ≤ z) (h1 : cmpPt a1 b1 a2 b2 c p1 q1 p2 q2 r ≤ 0) (h2 : cmpPt p1 q1 p2 q2 r x1 y1 x2 y2 z ≤ 0) :
    cmpPt a1 b1 a2 b2 c x1 y1 x2 y2 z ≤ 0 ∧ (cmpPt a1 b1 a2 b2 c p1 q1 p2 q2 r < 0 ∨ cmpPt p1 q1 p2 q2 r x1 y1 x2 y2 z < 0 → cmpPt a1 b1 a2 b2 c x1 y1 x2 y2 z < 0) := by
  unfold cmpPt at *
  rw [cmpC_v hc hr, cmpC_v hc hr] at *
  rw [cmpC_v hr hz, cmpC_v hr hz] at *
  rw [cmpC_v hc hz, cmpC_v hc hz]
  generalize vco a1 b1 c = A at *
  generalize vco a2 b2 c = A' at *
  generalize vco p1 q1 r = B at *
  generalize vco p2 q2 r = B' at *
  generalize vco x1 y1 z = C at *
  generalize vco x2 y2 z = C' at *
  have key : ∀ X Y Z : Re, sgR (X - Y) ≤ 0 → sgR (Y - Z) ≤ 0 → sgR (X - Z) ≤ 0 ∧ (sgR (X - Y) < 0 ∨ sgR (Y - Z) < 0 → sgR (X - Z) < 0) := by
    intro X Y Z g1 g2
    have e : sgR (Z - X) = sgR ((Y - X) + (Z - Y)) := congrArg sgR (Re.ext fun k => by simp only [re_sub, re_add]; grind)
    have s1 := sgR_sw Y X
    have s2 := sgR_sw Z Y
    have s3 := sgR_sw Z X
    have n1 := sgR_nn (x := Y - X) (y := Z - Y) (by omega) (by omega)
    refine ⟨by omega, ?_⟩
    rintro (h | h)
    · have := sgR_pn (x := Y - X) (y := Z - Y) (by omega) (by omega)
      omega
    · have h4 := sgR_pn (x := Z - Y) (y := Y - X) (by omega) (by omega)
      rw [re_addc (Z - Y) (Y - X)] at h4
      omega
  have k1 := key A B C
  have k2 := key A' B' C'
  have i1 : ∀ (x y z : Int), x = 0 → (if x ≠ 0 then y else z) = z := fun x y z h => if_neg (by omega)
  have i2 : ∀ (x y z : Int), x ≠ 0 → (if x ≠ 0 then y else z) = y := fun x y z h => if_pos h
  by_cases e1 : sgR (A - B) = 0
  · rw [i1 _ _ _ e1] at h1 ⊢
    by_cases e2 : sgR (B - C) = 0
    · rw [i1 _ _ _ e2] at h2 ⊢
      have k3 := key C B A
      have s1 := sgR_sw B A
      have s2 := sgR_sw C B
      have s3 := sgR_sw C A
      have e3 : sgR (A - C) = 0 := by
        have := (k1 (by omega) (by omega)).1
        have := (k3 (by omega) (by omega)).1
        omega
      rw [i1 _ _ _ e3]
      exact k2 h1 h2
    · rw [i2 _ _ _ e2] at h2 ⊢
      have := (k1 (by omega) h2).2 (.inr (by omega))
      rw [i2 (sgR (A - C)) _ _ (by omega)]
      exact ⟨by omega, fun _ => this⟩
  · rw [i2 _ _ _ e1] at h1 ⊢
    have hB : sgR (B - C) ≤ 0 := by
      by_cases e2 : sgR (B - C) = 0
      · omega
      · rw [i2 _ _ _ e2] at h2; exact h2
    have := (k1 h1 hB).2 (.inl (by omega))
    rw [i2 (sgR (A - C)) _ _ (by omega)]
    exact ⟨by omega, fun _ => this⟩
/-- moved by a vector -/
theorem cmpPt_move {a1 b1 a2 b2 c p1 q1 p2 q2 r v w : Rat} (hc : 0 ≤ c) (hr : 0 ≤ r) : cmpPt (a1 + v) b1 (a2 + w) b2 c (p1 + v) q1 (p2 + w) q2 r = cmpPt a1 b1 a2 b2 c p1 q1 p2 q2 r := by
  have e : ∀ a p v : Rat, ∀ b q : Rat, vco (a + v) b c - vco (p + v) q r = vco a b c - vco p q r := by
    intro a p v b q
    rw [vco_eq, vco_eq, vco_eq, vco_eq]
    exact Re.ext fun k => by simp only [re_sub, re_add, re_mul, re_of]; grind
  unfold cmpPt
  rw [cmpC_v hc hr, cmpC_v hc hr, cmpC_v hc hr, cmpC_v hc hr, e, e]
theorem sub_mv (a p v : Rat) : a + v - (p + v) = a - p := by grind
end Go.Proofs.YthpalcfhhicmgaaGreat
/- PointOrder: places and the law at all readings. -/
namespace Go.Proofs.YthpalcfhhicmgaaGreat
open Go Go.RowKit
theorem ar54 : arB Tryz.prog 54 = some (3, 6) := by kernel_rfl
theorem Rz.rC {k : Nat} {b c : Rat} (h : Rz k c) (hk : 1 ≤ k) : Rz k (rC b c) := by
  unfold Go.Proofs.YthpalcfhhicmgaaGreat.rC
  split
  · exact Rz.zero hk
  · exact h
theorem nbad {b c b2 : Rat} : ¬ bad (rB b c) (rC b c) (rB b2 c) (rC b2 c) := by
  rintro ⟨h1, h2, h3⟩
  unfold rB at h1 h2
  unfold rC at h3
  split at h1
  · exact h1 rfl
  · split at h2
    · exact h2 rfl
    · rename_i g1 g2; rw [if_neg g1, if_neg g2] at h3; exact h3 rfl
theorem rpOf_sq {A B A2 B2 C D : Int} (lA : -32768 ≤ A) (uA : A ≤ 32767) (lB : -32768 ≤ B) (uB : B ≤ 32767) (lA2 : -32768 ≤ A2) (uA2 : A2 ≤ 32767) (lB2 : -32768 ≤ B2) (uB2 : B2 ≤ 32767) (lC : 0 ≤ C) (uC : C ≤ 65535) (lD : 0 ≤ D) (uD : D ≤ 255) (hs : sqR ((C : Int) : Rat) = true) : Ok Tryz.prog 31 [.a ([.i .i16 A] ++ [.i .i16 B] ++ [.i .i16 A2] ++ [.i .i16 B2] ++ [.i .u16 C] ++ [.i .u8 D])] [.a (cR (Rat.divInt (A + B * isqI C) (D + 1)) ++ cR 0 ++ cR (Rat.divInt (A2 + B2 * isqI C) (D + 1)) ++ cR 0 ++ cR 0)] := by
  have kA : Rz 50 (Rat.divInt A (D + 1)) := Rz.of (Sz.small (by decide) (by omega) (by omega)) (Sz.small (by decide) (by omega) (by omega)) (by omega)
  have kB : Rz 50 (Rat.divInt B (D + 1)) := Rz.of (Sz.small (by decide) (by omega) (by omega)) (Sz.small (by decide) (by omega) (by omega)) (by omega)
  have kA2 : Rz 50 (Rat.divInt A2 (D + 1)) := Rz.of (Sz.small (by decide) (by omega) (by omega)) (Sz.small (by decide) (by omega) (by omega)) (by omega)
  have kB2 : Rz 50 (Rat.divInt B2 (D + 1)) := Rz.of (Sz.small (by decide) (by omega) (by omega)) (Sz.small (by decide) (by omega) (by omega)) (by omega)
  have kC : Rz 50 ((C : Int) : Rat) := Rz.int (Sz.small (by decide) (by omega) (by omega)) (by decide)
  have hnn : ¬ ((C : Int) : Rat) < 0 := Rat.not_lt.2 (Rat.intCast_nonneg.2 lC)
  have kC3 : Rz 300 ((C : Int) : Rat) := kC.mono (by decide)
  have k0 : Rz 300 (0 : Rat) := Rz.zero (by decide)
  refine Ok.of (by kernel_rfl) Tryz.func31 rfl rfl ?_
  rw [show Tryz.f31.ntmps = 56 from rfl, show Tryz.f31.results.toList = [.cell 2 32] from rfl]
  refine dw_seq ?_
  -- region 0
  refine dw_region (by kernel_rfl) ?_
  refine dl_new (sem_box_a rfl rfl) rfl ?_
  refine dl_new (sem_alloc zc32 rfl) rfl ?_
  refine dl_end ?_
  refine dw_seq ?_
  -- region 1
  refine dw_region (by kernel_rfl) ?_
  refine dl_r (sem_field fd53_5 rfl rfl) ?_
  refine dl_r (sem_load1 ty5 rfl rfl rfl rfl) ?_
  refine dl_r (sem_conv' (r := D) und5 und2 rfl (nw64 (by omega) (by omega)) rfl) ?_
  refine dl_r (sem_ari (r := D + 1) rfl rfl (ari_i64_add (by omega) (by omega)) rfl) ?_
  refine dl_r (sem_assign rfl rfl) ?_
  refine dl_end ?_
  refine dw_seq ?_
  -- region 2
  refine dw_region (by kernel_rfl) ?_
  refine dl_r (sem_field fd53_4 rfl rfl) ?_
  refine dl_r (sem_load1 ty51 rfl rfl rfl rfl) ?_
  refine dl_r (sem_conv' (r := C) und51 und2 rfl (nw64 (by omega) (by omega)) rfl) ?_
  refine dl_r (sem_call rfl rfl ((show Ok Tryz.prog 71 [.c (.i .i64 C)] [dR ((C : Int) : Rat)] from sFrom_ok (by omega) (by omega))) rfl) ?_
  refine dl_new (sem_alloc zc26 rfl) rfl ?_
  refine dl_st (sem_store_a ty26 rfl rfl rfl rfl rfl rfl) ?_
  refine dl_end ?_
  refine dw_seq ?_
  -- region 3
  refine dw_draw 18 [5] follows_mixed (by kernel_rfl) rfl rfl ?_
  refine dq_r (sem_field fd53_0 rfl rfl) ?_
  refine dq_r (sem_load1 ty50 rfl rfl rfl rfl) ?_
  refine dq_r (sem_conv' (r := A) und50 und2 rfl (nw64 (by omega) (by omega)) rfl) ?_
  refine dq_r (sem_move rfl rfl) ?_
  refine dq_r (sem_call rfl rfl (sFrac_ok (by omega) (by omega) (by omega) (by omega) (by omega)) rfl) ?_
  refine dq_r (sem_field fd53_1 rfl rfl) ?_
  refine dq_r (sem_load1 ty50 rfl rfl rfl rfl) ?_
  refine dq_r (sem_conv' (r := B) und50 und2 rfl (nw64 (by omega) (by omega)) rfl) ?_
  refine dq_r (sem_move rfl rfl) ?_
  refine dq_r (sem_call rfl rfl (sFrac_ok (by omega) (by omega) (by omega) (by omega) (by omega)) rfl) ?_
  refine dq_r (sem_load (us := cR (((C : Int) : Rat))) ty26 rfl rfl rfl rfl rfl) ?_
  refine dq_r (sem_call rfl rfl (rcast3l (rrMake_sq kA kB kC hnn hs) ((congrArg (fun q => Rat.divInt A (D + 1) + Rat.divInt B (D + 1) * q) (rt_int lC hs)).trans (sq_frac (by omega))) rfl rfl) rfl) ?_
  refine dq_r (sem_move rfl rfl) ?_
  refine dq_r (sem_extract rfl rfl rfl) ?_
  refine dq_r (sem_extract rfl rfl rfl) ?_
  refine dq_new (sem_alloc zc28 rfl) rfl ?_
  refine dq_sn (sem_store_a ty28 rfl rfl rfl rfl rfl rfl) rfl rfl rfl ?_
  refine dq_r (sem_assign rfl rfl) ?_
  refine dq_end ?_
  refine dl_start2 ?_
  refine dl_end ?_
  refine dw_seq ?_
  -- region 4
  refine dw_draw 18 [7] follows_mixed (by kernel_rfl) rfl rfl ?_
  refine dq_r (sem_field fd53_2 rfl rfl) ?_
  refine dq_r (sem_load1 ty50 rfl rfl rfl rfl) ?_
  refine dq_r (sem_conv' (r := A2) und50 und2 rfl (nw64 (by omega) (by omega)) rfl) ?_
  refine dq_r (sem_move rfl rfl) ?_
  refine dq_r (sem_call rfl rfl (sFrac_ok (by omega) (by omega) (by omega) (by omega) (by omega)) rfl) ?_
  refine dq_r (sem_field fd53_3 rfl rfl) ?_
  refine dq_r (sem_load1 ty50 rfl rfl rfl rfl) ?_
  refine dq_r (sem_conv' (r := B2) und50 und2 rfl (nw64 (by omega) (by omega)) rfl) ?_
  refine dq_r (sem_move rfl rfl) ?_
  refine dq_r (sem_call rfl rfl (sFrac_ok (by omega) (by omega) (by omega) (by omega) (by omega)) rfl) ?_
  refine dq_r (sem_load (us := cR (((C : Int) : Rat))) ty26 rfl rfl rfl rfl rfl) ?_
  refine dq_r (sem_call rfl rfl (rcast3l (rrMake_sq kA2 kB2 kC hnn hs) ((congrArg (fun q => Rat.divInt A2 (D + 1) + Rat.divInt B2 (D + 1) * q) (rt_int lC hs)).trans (sq_frac (by omega))) rfl rfl) rfl) ?_
  refine dq_r (sem_move rfl rfl) ?_
  refine dq_r (sem_extract rfl rfl rfl) ?_
  refine dq_r (sem_extract rfl rfl rfl) ?_
  refine dq_new (sem_alloc zc28 rfl) rfl ?_
  refine dq_sn (sem_store_a ty28 rfl rfl rfl rfl rfl rfl) rfl rfl rfl ?_
  refine dq_r (sem_assign rfl rfl) ?_
  refine dq_end ?_
  refine dl_start2 ?_
  refine dl_end ?_
  refine dw_seq ?_
  -- region 5
  refine dw_region (by kernel_rfl) ?_
  refine dl_r (sem_load (us := (cR (Rat.divInt (A + B * isqI C) (D + 1)) ++ cR 0 ++ cR 0)) ty28 rfl rfl rfl rfl rfl) ?_
  refine dl_r (sem_load (us := (cR (Rat.divInt (A2 + B2 * isqI C) (D + 1)) ++ cR 0 ++ cR 0)) ty28 rfl rfl rfl rfl rfl) ?_
  refine dl_r (sem_call rfl rfl (rcast5 (rpMake_ok k0 k0 (fun h => h.1 rfl)) rfl rfl rfl rfl (zcp_t rfl rfl)) rfl) ?_
  refine dl_r (sem_move rfl rfl) ?_
  refine dl_r (sem_extract rfl rfl rfl) ?_
  refine dl_r (sem_extract rfl rfl rfl) ?_
  refine dl_new (sem_alloc zc32 rfl) rfl ?_
  refine dl_st (sem_store_a ty32 rfl rfl rfl rfl rfl rfl) ?_
  refine dl_r (sem_assign rfl rfl) ?_
  refine dl_end ?_
  refine dw_seq ?_
  -- region 6
  refine dw_region (by kernel_rfl) ?_
  refine dl_r (sem_load (us := (cR (Rat.divInt (A + B * isqI C) (D + 1)) ++ cR 0 ++ cR (Rat.divInt (A2 + B2 * isqI C) (D + 1)) ++ cR 0 ++ cR 0)) ty32 rfl rfl rfl rfl rfl) ?_
  refine dl_st (sem_store_a ty32 rfl rfl rfl rfl rfl rfl) ?_
  refine dl_end ?_
  refine dw_ret ?_
  -- path 
  exact ⟨.inr rfl, (resL_cell (us := (cR (Rat.divInt (A + B * isqI C) (D + 1)) ++ cR 0 ++ cR (Rat.divInt (A2 + B2 * isqI C) (D + 1)) ++ cR 0 ++ cR 0)) ty32 rfl rfl rfl rfl resL_nil)⟩
theorem rpOf_ns {A B A2 B2 C D : Int} (lA : -32768 ≤ A) (uA : A ≤ 32767) (lB : -32768 ≤ B) (uB : B ≤ 32767) (lA2 : -32768 ≤ A2) (uA2 : A2 ≤ 32767) (lB2 : -32768 ≤ B2) (uB2 : B2 ≤ 32767) (lC : 0 ≤ C) (uC : C ≤ 65535) (lD : 0 ≤ D) (uD : D ≤ 255) (hs : sqR ((C : Int) : Rat) = false) : Ok Tryz.prog 31 [.a ([.i .i16 A] ++ [.i .i16 B] ++ [.i .i16 A2] ++ [.i .i16 B2] ++ [.i .u16 C] ++ [.i .u8 D])] [.a (cR (Rat.divInt A (D + 1)) ++ cR (rB (Rat.divInt B (D + 1)) ((C : Int) : Rat)) ++ cR (Rat.divInt A2 (D + 1)) ++ cR (rB (Rat.divInt B2 (D + 1)) ((C : Int) : Rat)) ++ cR (zcp (rB (Rat.divInt B (D + 1)) ((C : Int) : Rat)) (rB (Rat.divInt B2 (D + 1)) ((C : Int) : Rat)) (cc (rB (Rat.divInt B (D + 1)) ((C : Int) : Rat)) (rC (Rat.divInt B (D + 1)) ((C : Int) : Rat)) (rC (Rat.divInt B2 (D + 1)) ((C : Int) : Rat)))))] := by
  have kA : Rz 50 (Rat.divInt A (D + 1)) := Rz.of (Sz.small (by decide) (by omega) (by omega)) (Sz.small (by decide) (by omega) (by omega)) (by omega)
  have kB : Rz 50 (Rat.divInt B (D + 1)) := Rz.of (Sz.small (by decide) (by omega) (by omega)) (Sz.small (by decide) (by omega) (by omega)) (by omega)
  have kA2 : Rz 50 (Rat.divInt A2 (D + 1)) := Rz.of (Sz.small (by decide) (by omega) (by omega)) (Sz.small (by decide) (by omega) (by omega)) (by omega)
  have kB2 : Rz 50 (Rat.divInt B2 (D + 1)) := Rz.of (Sz.small (by decide) (by omega) (by omega)) (Sz.small (by decide) (by omega) (by omega)) (by omega)
  have kC : Rz 50 ((C : Int) : Rat) := Rz.int (Sz.small (by decide) (by omega) (by omega)) (by decide)
  have hnn : ¬ ((C : Int) : Rat) < 0 := Rat.not_lt.2 (Rat.intCast_nonneg.2 lC)
  have kC3 : Rz 300 ((C : Int) : Rat) := kC.mono (by decide)
  have k0 : Rz 300 (0 : Rat) := Rz.zero (by decide)
  refine Ok.of (by kernel_rfl) Tryz.func31 rfl rfl ?_
  rw [show Tryz.f31.ntmps = 56 from rfl, show Tryz.f31.results.toList = [.cell 2 32] from rfl]
  refine dw_seq ?_
  -- region 0
  refine dw_region (by kernel_rfl) ?_
  refine dl_new (sem_box_a rfl rfl) rfl ?_
  refine dl_new (sem_alloc zc32 rfl) rfl ?_
  refine dl_end ?_
  refine dw_seq ?_
  -- region 1
  refine dw_region (by kernel_rfl) ?_
  refine dl_r (sem_field fd53_5 rfl rfl) ?_
  refine dl_r (sem_load1 ty5 rfl rfl rfl rfl) ?_
  refine dl_r (sem_conv' (r := D) und5 und2 rfl (nw64 (by omega) (by omega)) rfl) ?_
  refine dl_r (sem_ari (r := D + 1) rfl rfl (ari_i64_add (by omega) (by omega)) rfl) ?_
  refine dl_r (sem_assign rfl rfl) ?_
  refine dl_end ?_
  refine dw_seq ?_
  -- region 2
  refine dw_region (by kernel_rfl) ?_
  refine dl_r (sem_field fd53_4 rfl rfl) ?_
  refine dl_r (sem_load1 ty51 rfl rfl rfl rfl) ?_
  refine dl_r (sem_conv' (r := C) und51 und2 rfl (nw64 (by omega) (by omega)) rfl) ?_
  refine dl_r (sem_call rfl rfl ((show Ok Tryz.prog 71 [.c (.i .i64 C)] [dR ((C : Int) : Rat)] from sFrom_ok (by omega) (by omega))) rfl) ?_
  refine dl_new (sem_alloc zc26 rfl) rfl ?_
  refine dl_st (sem_store_a ty26 rfl rfl rfl rfl rfl rfl) ?_
  refine dl_end ?_
  refine dw_seq ?_
  -- region 3
  refine dw_draw 18 [5] follows_mixed (by kernel_rfl) rfl rfl ?_
  refine dq_r (sem_field fd53_0 rfl rfl) ?_
  refine dq_r (sem_load1 ty50 rfl rfl rfl rfl) ?_
  refine dq_r (sem_conv' (r := A) und50 und2 rfl (nw64 (by omega) (by omega)) rfl) ?_
  refine dq_r (sem_move rfl rfl) ?_
  refine dq_r (sem_call rfl rfl (sFrac_ok (by omega) (by omega) (by omega) (by omega) (by omega)) rfl) ?_
  refine dq_r (sem_field fd53_1 rfl rfl) ?_
  refine dq_r (sem_load1 ty50 rfl rfl rfl rfl) ?_
  refine dq_r (sem_conv' (r := B) und50 und2 rfl (nw64 (by omega) (by omega)) rfl) ?_
  refine dq_r (sem_move rfl rfl) ?_
  refine dq_r (sem_call rfl rfl (sFrac_ok (by omega) (by omega) (by omega) (by omega) (by omega)) rfl) ?_
  refine dq_r (sem_load (us := cR (((C : Int) : Rat))) ty26 rfl rfl rfl rfl rfl) ?_
  refine dq_r (sem_call rfl rfl (rrMake_ns kA kB kC hnn hs) rfl) ?_
  refine dq_r (sem_move rfl rfl) ?_
  refine dq_r (sem_extract rfl rfl rfl) ?_
  refine dq_r (sem_extract rfl rfl rfl) ?_
  refine dq_new (sem_alloc zc28 rfl) rfl ?_
  refine dq_sn (sem_store_a ty28 rfl rfl rfl rfl rfl rfl) rfl rfl rfl ?_
  refine dq_r (sem_assign rfl rfl) ?_
  refine dq_end ?_
  refine dl_start2 ?_
  refine dl_end ?_
  refine dw_seq ?_
  -- region 4
  refine dw_draw 18 [7] follows_mixed (by kernel_rfl) rfl rfl ?_
  refine dq_r (sem_field fd53_2 rfl rfl) ?_
  refine dq_r (sem_load1 ty50 rfl rfl rfl rfl) ?_
  refine dq_r (sem_conv' (r := A2) und50 und2 rfl (nw64 (by omega) (by omega)) rfl) ?_
  refine dq_r (sem_move rfl rfl) ?_
  refine dq_r (sem_call rfl rfl (sFrac_ok (by omega) (by omega) (by omega) (by omega) (by omega)) rfl) ?_
  refine dq_r (sem_field fd53_3 rfl rfl) ?_
  refine dq_r (sem_load1 ty50 rfl rfl rfl rfl) ?_
  refine dq_r (sem_conv' (r := B2) und50 und2 rfl (nw64 (by omega) (by omega)) rfl) ?_
  refine dq_r (sem_move rfl rfl) ?_
  refine dq_r (sem_call rfl rfl (sFrac_ok (by omega) (by omega) (by omega) (by omega) (by omega)) rfl) ?_
  refine dq_r (sem_load (us := cR (((C : Int) : Rat))) ty26 rfl rfl rfl rfl rfl) ?_
  refine dq_r (sem_call rfl rfl (rrMake_ns kA2 kB2 kC hnn hs) rfl) ?_
  refine dq_r (sem_move rfl rfl) ?_
  refine dq_r (sem_extract rfl rfl rfl) ?_
  refine dq_r (sem_extract rfl rfl rfl) ?_
  refine dq_new (sem_alloc zc28 rfl) rfl ?_
  refine dq_sn (sem_store_a ty28 rfl rfl rfl rfl rfl rfl) rfl rfl rfl ?_
  refine dq_r (sem_assign rfl rfl) ?_
  refine dq_end ?_
  refine dl_start2 ?_
  refine dl_end ?_
  refine dw_seq ?_
  -- region 5
  refine dw_region (by kernel_rfl) ?_
  refine dl_r (sem_load (us := (cR (Rat.divInt A (D + 1)) ++ cR (rB (Rat.divInt B (D + 1)) ((C : Int) : Rat)) ++ cR (rC (Rat.divInt B (D + 1)) ((C : Int) : Rat)))) ty28 rfl rfl rfl rfl rfl) ?_
  refine dl_r (sem_load (us := (cR (Rat.divInt A2 (D + 1)) ++ cR (rB (Rat.divInt B2 (D + 1)) ((C : Int) : Rat)) ++ cR (rC (Rat.divInt B2 (D + 1)) ((C : Int) : Rat)))) ty28 rfl rfl rfl rfl rfl) ?_
  refine dl_r (sem_call rfl rfl (rpMake_ok (Rz.rC kC3 (by decide)) (Rz.rC kC3 (by decide)) nbad) rfl) ?_
  refine dl_r (sem_move rfl rfl) ?_
  refine dl_r (sem_extract rfl rfl rfl) ?_
  refine dl_r (sem_extract rfl rfl rfl) ?_
  refine dl_new (sem_alloc zc32 rfl) rfl ?_
  refine dl_st (sem_store_a ty32 rfl rfl rfl rfl rfl rfl) ?_
  refine dl_r (sem_assign rfl rfl) ?_
  refine dl_end ?_
  refine dw_seq ?_
  -- region 6
  refine dw_region (by kernel_rfl) ?_
  refine dl_r (sem_load (us := (cR (Rat.divInt A (D + 1)) ++ cR (rB (Rat.divInt B (D + 1)) ((C : Int) : Rat)) ++ cR (Rat.divInt A2 (D + 1)) ++ cR (rB (Rat.divInt B2 (D + 1)) ((C : Int) : Rat)) ++ cR (zcp (rB (Rat.divInt B (D + 1)) ((C : Int) : Rat)) (rB (Rat.divInt B2 (D + 1)) ((C : Int) : Rat)) (cc (rB (Rat.divInt B (D + 1)) ((C : Int) : Rat)) (rC (Rat.divInt B (D + 1)) ((C : Int) : Rat)) (rC (Rat.divInt B2 (D + 1)) ((C : Int) : Rat)))))) ty32 rfl rfl rfl rfl rfl) ?_
  refine dl_st (sem_store_a ty32 rfl rfl rfl rfl rfl rfl) ?_
  refine dl_end ?_
  refine dw_ret ?_
  -- path 
  exact ⟨.inr rfl, (resL_cell (us := (cR (Rat.divInt A (D + 1)) ++ cR (rB (Rat.divInt B (D + 1)) ((C : Int) : Rat)) ++ cR (Rat.divInt A2 (D + 1)) ++ cR (rB (Rat.divInt B2 (D + 1)) ((C : Int) : Rat)) ++ cR (zcp (rB (Rat.divInt B (D + 1)) ((C : Int) : Rat)) (rB (Rat.divInt B2 (D + 1)) ((C : Int) : Rat)) (cc (rB (Rat.divInt B (D + 1)) ((C : Int) : Rat)) (rC (Rat.divInt B (D + 1)) ((C : Int) : Rat)) (rC (Rat.divInt B2 (D + 1)) ((C : Int) : Rat)))))) ty32 rfl rfl rfl rfl resL_nil)⟩
theorem lwOr_A {A1 B1 C1 D1 E1 F1 A2 B2 C2 D2 E2 F2 A3 B3 C3 D3 E3 F3 : Int}  {v w : RN} (wv : v.Wf) (ww : w.Wf) (hw : (v.s 3 && w.s 3) = false) : Ok Tryz.prog 6 [.a (([.i .i16 A1] ++ [.i .i16 B1] ++ [.i .i16 C1] ++ [.i .i16 D1] ++ [.i .u16 E1] ++ [.i .u8 F1]) ++ ([.i .i16 A2] ++ [.i .i16 B2] ++ [.i .i16 C2] ++ [.i .i16 D2] ++ [.i .u16 E2] ++ [.i .u8 F2]) ++ ([.i .i16 A3] ++ [.i .i16 B3] ++ [.i .i16 C3] ++ [.i .i16 D3] ++ [.i .u16 E3] ++ [.i .u8 F3])), .a (cN v ++ cN w)] [.c (.b true)] := by
  refine Ok.of (by kernel_rfl) Tryz.func6 rfl rfl ?_
  rw [show Tryz.f6.ntmps = 68 from rfl, show Tryz.f6.results.toList = [.tmp 4] from rfl]
  refine dw_seq ?_
  -- region 0
  refine dw_region (by kernel_rfl) ?_
  refine dl_new (sem_box_a rfl rfl) rfl ?_
  refine dl_new (sem_box_a rfl rfl) rfl ?_
  refine dl_r (sem_assign rfl rfl) ?_
  refine dl_end ?_
  refine dw_seq ?_
  refine dw_seq ?_
  -- region 1
  refine dw_region (by kernel_rfl) ?_
  refine dl_r (sem_call rfl rfl (awake_ok) rfl) ?_
  refine dl_r (sem_not rfl rfl) ?_
  refine dl_r (sem_move rfl rfl) ?_
  refine dl_r (sem_load (us := (cN v ++ cN w)) ty42 rfl rfl rfl rfl rfl) ?_
  refine dl_r (sem_call rfl rfl (rcastb (lwSmallVec (by assumption) (by assumption)) hw) rfl) ?_
  refine dl_r (sem_not rfl rfl) ?_
  refine dl_r (sem_pick rfl rfl rfl rfl) ?_
  refine dl_end ?_
  refine dw_true rfl ?_
  refine dw_seq ?_
  -- region 2
  refine dw_region (by kernel_rfl) ?_
  refine dl_r (sem_call rfl rfl (awake_ok) rfl) ?_
  refine dl_r (sem_assign rfl rfl) ?_
  refine dl_end ?_
  refine dw_ret ?_
  -- path 
  exact ⟨.inr rfl, (resL_tmp rfl resL_nil)⟩
theorem lwOr_B {A1 B1 C1 D1 E1 F1 A2 B2 C2 D2 E2 F2 A3 B3 C3 D3 E3 F3 : Int}  {a1 b1 a2 b2 c p1 q1 p2 q2 r x1 y1 x2 y2 z : Rat} (ha1 : Rz 1 a1) (hb1 : Rz 1 b1) (ha2 : Rz 1 a2) (hb2 : Rz 1 b2) (hc : Rz 1 c) (hp1 : Rz 1 p1) (hq1 : Rz 1 q1) (hp2 : Rz 1 p2) (hq2 : Rz 1 q2) (hr : Rz 1 r) (hx1 : Rz 1 x1) (hy1 : Rz 1 y1) (hx2 : Rz 1 x2) (hy2 : Rz 1 y2) (hz : Rz 1 z) {d e : Rat} (hd : Rz 3 d) (he : Rz 3 e) (o1 : Ok Tryz.prog 31 [.a ([.i .i16 A1] ++ [.i .i16 B1] ++ [.i .i16 C1] ++ [.i .i16 D1] ++ [.i .u16 E1] ++ [.i .u8 F1])] [.a (cR a1 ++ cR b1 ++ cR a2 ++ cR b2 ++ cR c)]) (o2 : Ok Tryz.prog 31 [.a ([.i .i16 A2] ++ [.i .i16 B2] ++ [.i .i16 C2] ++ [.i .i16 D2] ++ [.i .u16 E2] ++ [.i .u8 F2])] [.a (cR p1 ++ cR q1 ++ cR p2 ++ cR q2 ++ cR r)]) (o3 : Ok Tryz.prog 31 [.a ([.i .i16 A3] ++ [.i .i16 B3] ++ [.i .i16 C3] ++ [.i .i16 D3] ++ [.i .u16 E3] ++ [.i .u8 F3])] [.a (cR x1 ++ cR y1 ++ cR x2 ++ cR y2 ++ cR z)]) {n1 n2 n3 : Int} (e1 : cmpPP a1 b1 a2 b2 c p1 q1 p2 q2 r = n1) (e2 : cmpPP p1 q1 p2 q2 r x1 y1 x2 y2 z = n2) (e3 : cmpPP a1 b1 a2 b2 c x1 y1 x2 y2 z = n3) (t1 : n1 ≤ 0 → n2 ≤ 0 → n3 ≤ 0) (t2 : n1 ≤ 0 → n2 ≤ 0 → n1 < 0 ∨ n2 < 0 → n3 < 0) (hc0 : 0 ≤ c) (hr0 : 0 ≤ r) : Ok Tryz.prog 6 [.a (([.i .i16 A1] ++ [.i .i16 B1] ++ [.i .i16 C1] ++ [.i .i16 D1] ++ [.i .u16 E1] ++ [.i .u8 F1]) ++ ([.i .i16 A2] ++ [.i .i16 B2] ++ [.i .i16 C2] ++ [.i .i16 D2] ++ [.i .u16 E2] ++ [.i .u8 F2]) ++ ([.i .i16 A3] ++ [.i .i16 B3] ++ [.i .i16 C3] ++ [.i .i16 D3] ++ [.i .u16 E3] ++ [.i .u8 F3])), .a (cR d ++ cR e)] [.c (.b (n1 == n1))] := by
  have ia1 : Rz 100 a1 := ha1.mono (by decide)
  have ja1 : Rz 8 a1 := ha1.mono (by decide)
  have ka1 : Rz 300 a1 := ha1.mono (by decide)
  have ib1 : Rz 100 b1 := hb1.mono (by decide)
  have jb1 : Rz 8 b1 := hb1.mono (by decide)
  have kb1 : Rz 300 b1 := hb1.mono (by decide)
  have ia2 : Rz 100 a2 := ha2.mono (by decide)
  have ja2 : Rz 8 a2 := ha2.mono (by decide)
  have ka2 : Rz 300 a2 := ha2.mono (by decide)
  have ib2 : Rz 100 b2 := hb2.mono (by decide)
  have jb2 : Rz 8 b2 := hb2.mono (by decide)
  have kb2 : Rz 300 b2 := hb2.mono (by decide)
  have ic : Rz 100 c := hc.mono (by decide)
  have jc : Rz 8 c := hc.mono (by decide)
  have kc : Rz 300 c := hc.mono (by decide)
  have ip1 : Rz 100 p1 := hp1.mono (by decide)
  have jp1 : Rz 8 p1 := hp1.mono (by decide)
  have kp1 : Rz 300 p1 := hp1.mono (by decide)
  have iq1 : Rz 100 q1 := hq1.mono (by decide)
  have jq1 : Rz 8 q1 := hq1.mono (by decide)
  have kq1 : Rz 300 q1 := hq1.mono (by decide)
  have ip2 : Rz 100 p2 := hp2.mono (by decide)
  have jp2 : Rz 8 p2 := hp2.mono (by decide)
  have kp2 : Rz 300 p2 := hp2.mono (by decide)
  have iq2 : Rz 100 q2 := hq2.mono (by decide)
  have jq2 : Rz 8 q2 := hq2.mono (by decide)
  have kq2 : Rz 300 q2 := hq2.mono (by decide)
  have ir : Rz 100 r := hr.mono (by decide)
  have jr : Rz 8 r := hr.mono (by decide)
  have kr : Rz 300 r := hr.mono (by decide)
  have ix1 : Rz 100 x1 := hx1.mono (by decide)
  have jx1 : Rz 8 x1 := hx1.mono (by decide)
  have kx1 : Rz 300 x1 := hx1.mono (by decide)
  have iy1 : Rz 100 y1 := hy1.mono (by decide)
  have jy1 : Rz 8 y1 := hy1.mono (by decide)
  have ky1 : Rz 300 y1 := hy1.mono (by decide)
  have ix2 : Rz 100 x2 := hx2.mono (by decide)
  have jx2 : Rz 8 x2 := hx2.mono (by decide)
  have kx2 : Rz 300 x2 := hx2.mono (by decide)
  have iy2 : Rz 100 y2 := hy2.mono (by decide)
  have jy2 : Rz 8 y2 := hy2.mono (by decide)
  have ky2 : Rz 300 y2 := hy2.mono (by decide)
  have iz : Rz 100 z := hz.mono (by decide)
  have jz : Rz 8 z := hz.mono (by decide)
  have kz : Rz 300 z := hz.mono (by decide)
  have s0 : Rz 8 (a1 - p1) := (ha1.sub hp1).mono (by decide)
  have s1 : Rz 8 (a2 - p2) := (ha2.sub hp2).mono (by decide)
  have s2 : Rz 8 (p1 - x1) := (hp1.sub hx1).mono (by decide)
  have s3 : Rz 8 (p2 - x2) := (hp2.sub hx2).mono (by decide)
  have s4 : Rz 8 (a1 - x1) := (ha1.sub hx1).mono (by decide)
  have s5 : Rz 8 (a2 - x2) := (ha2.sub hx2).mono (by decide)
  have kd : Rz 300 d := hd.mono (by decide)
  have ke : Rz 300 e := he.mono (by decide)
  have t0 : Rz 100 (a1 + d) := (ha1.add hd).mono (by decide)
  have t1 : Rz 100 (a2 + e) := (ha2.add he).mono (by decide)
  have t2 : Rz 100 (p1 + d) := (hp1.add hd).mono (by decide)
  have t3 : Rz 100 (p2 + e) := (hp2.add he).mono (by decide)
  have w1 : Rz 8 (a1 + d - (p1 + d)) := by rw [sub_mv]; exact s0
  have w2 : Rz 8 (a2 + e - (p2 + e)) := by rw [sub_mv]; exact s1
  refine Ok.of (by kernel_rfl) Tryz.func6 rfl rfl ?_
  rw [show Tryz.f6.ntmps = 68 from rfl, show Tryz.f6.results.toList = [.tmp 4] from rfl]
  refine dw_seq ?_
  -- region 0
  refine dw_region (by kernel_rfl) ?_
  refine dl_new (sem_box_a rfl rfl) rfl ?_
  refine dl_new (sem_box_a rfl rfl) rfl ?_
  refine dl_r (sem_assign rfl rfl) ?_
  refine dl_end ?_
  refine dw_seq ?_
  refine dw_seq ?_
  -- region 1
  refine dw_region (by kernel_rfl) ?_
  refine dl_r (sem_call rfl rfl (awake_ok) rfl) ?_
  refine dl_r (sem_not rfl rfl) ?_
  refine dl_r (sem_move rfl rfl) ?_
  refine dl_r (sem_load (us := (cR d ++ cR e)) ty42 rfl rfl rfl rfl rfl) ?_
  refine dl_r (sem_call rfl rfl (lwSmallVec_R (by assumption) (by assumption)) rfl) ?_
  refine dl_r (sem_not rfl rfl) ?_
  refine dl_r (sem_pick rfl rfl rfl rfl) ?_
  refine dl_end ?_
  refine dw_false rfl ?_
  refine dw_skip ?_
  refine dw_seq ?_
  -- region 3
  refine dw_draw 12 [] follows_mixed (by kernel_rfl) rfl rfl ?_
  refine dq_r (sem_index_a ar54 rfl rfl (by decide) rfl) ?_
  refine dq_r (sem_load (us := ([.i .i16 A1] ++ [.i .i16 B1] ++ [.i .i16 C1] ++ [.i .i16 D1] ++ [.i .u16 E1] ++ [.i .u8 F1])) ty53 rfl rfl rfl rfl rfl) ?_
  refine dq_r (sem_call rfl rfl (o1) rfl) ?_
  refine dq_r (sem_index_a ar54 rfl rfl (by decide) rfl) ?_
  refine dq_r (sem_load (us := ([.i .i16 A2] ++ [.i .i16 B2] ++ [.i .i16 C2] ++ [.i .i16 D2] ++ [.i .u16 E2] ++ [.i .u8 F2])) ty53 rfl rfl rfl rfl rfl) ?_
  refine dq_r (sem_call rfl rfl (o2) rfl) ?_
  refine dq_r (sem_index_a ar54 rfl rfl (by decide) rfl) ?_
  refine dq_r (sem_load (us := ([.i .i16 A3] ++ [.i .i16 B3] ++ [.i .i16 C3] ++ [.i .i16 D3] ++ [.i .u16 E3] ++ [.i .u8 F3])) ty53 rfl rfl rfl rfl rfl) ?_
  refine dq_r (sem_call rfl rfl (o3) rfl) ?_
  refine dq_new (sem_alloc zc32 rfl) rfl ?_
  refine dq_new (sem_alloc zc32 rfl) rfl ?_
  refine dq_new (sem_alloc zc32 rfl) rfl ?_
  refine dq_end ?_
  refine dl_start3 ?_
  refine dl_st (sem_store_a ty32 rfl rfl rfl rfl rfl rfl) ?_
  refine dl_st (sem_store_a ty32 rfl rfl rfl rfl rfl rfl) ?_
  refine dl_st (sem_store_a ty32 rfl rfl rfl rfl rfl rfl) ?_
  refine dl_end ?_
  refine dw_seq ?_
  -- region 4
  refine dw_draw 12 [] follows_mixed (by kernel_rfl) rfl rfl ?_
  refine dq_r (sem_load (us := (cR a1 ++ cR b1 ++ cR a2 ++ cR b2 ++ cR c)) ty32 rfl rfl rfl rfl rfl) ?_
  refine dq_r (sem_load (us := (cR p1 ++ cR q1 ++ cR p2 ++ cR q2 ++ cR r)) ty32 rfl rfl rfl rfl rfl) ?_
  refine dq_r (sem_call rfl rfl (rcasti (ptCompare_ok (by assumption) (by assumption) (by assumption) (by assumption) (by assumption) (by assumption) (by assumption) (by assumption) (by assumption) (by assumption) (by assumption) (by assumption)) e1) rfl) ?_
  refine dq_r (sem_load (us := (cR p1 ++ cR q1 ++ cR p2 ++ cR q2 ++ cR r)) ty32 rfl rfl rfl rfl rfl) ?_
  refine dq_r (sem_load (us := (cR x1 ++ cR y1 ++ cR x2 ++ cR y2 ++ cR z)) ty32 rfl rfl rfl rfl rfl) ?_
  refine dq_r (sem_call rfl rfl (rcasti (ptCompare_ok (by assumption) (by assumption) (by assumption) (by assumption) (by assumption) (by assumption) (by assumption) (by assumption) (by assumption) (by assumption) (by assumption) (by assumption)) e2) rfl) ?_
  refine dq_r (sem_load (us := (cR a1 ++ cR b1 ++ cR a2 ++ cR b2 ++ cR c)) ty32 rfl rfl rfl rfl rfl) ?_
  refine dq_r (sem_load (us := (cR x1 ++ cR y1 ++ cR x2 ++ cR y2 ++ cR z)) ty32 rfl rfl rfl rfl rfl) ?_
  refine dq_r (sem_call rfl rfl (rcasti (ptCompare_ok (by assumption) (by assumption) (by assumption) (by assumption) (by assumption) (by assumption) (by assumption) (by assumption) (by assumption) (by assumption) (by assumption) (by assumption)) e3) rfl) ?_
  refine dq_r (sem_assign rfl rfl) ?_
  refine dq_r (sem_assign rfl rfl) ?_
  refine dq_r (sem_assign rfl rfl) ?_
  refine dq_end ?_
  refine dl_start0 ?_
  refine dl_end ?_
  refine dw_seq ?_
  refine dw_seq ?_
  -- region 5
  refine dw_region (by kernel_rfl) ?_
  refine dl_r (sem_move rfl rfl) ?_
  refine dl_r (sem_cmp rfl rfl rfl rfl) ?_
  refine dl_rb (sem_move rfl rfl) (fun c1 hb1 => ?_)
  cases c1
  · refine dl_skip (sem_skip rfl) ?_
    refine dl_skip (sem_skip rfl) ?_
    refine dl_r (sem_pick rfl rfl rfl rfl) ?_
    refine dl_r (sem_move rfl rfl) ?_
    refine dl_skip (sem_skip rfl) ?_
    refine dl_skip (sem_skip rfl) ?_
    refine dl_skip (sem_skip rfl) ?_
    refine dl_skip (sem_skip rfl) ?_
    refine dl_skip (sem_skip rfl) ?_
    refine dl_skip (sem_skip rfl) ?_
    refine dl_skip (sem_skip rfl) ?_
    refine dl_skip (sem_skip rfl) ?_
    refine dl_skip (sem_skip rfl) ?_
    refine dl_skip (sem_skip rfl) ?_
    refine dl_skip (sem_skip rfl) ?_
    refine dl_skip (sem_skip rfl) ?_
    refine dl_skip (sem_skip rfl) ?_
    refine dl_skip (sem_skip rfl) ?_
    refine dl_r (sem_pick rfl rfl rfl rfl) ?_
    refine dl_end ?_
    refine dw_false rfl ?_
    refine dw_skip ?_
    refine dw_seq ?_
    -- region 7
    refine dw_draw 10 [] follows_mixed (by kernel_rfl) rfl rfl ?_
    refine dq_r (sem_load (us := (cR a1 ++ cR b1 ++ cR a2 ++ cR b2 ++ cR c)) ty32 rfl rfl rfl rfl rfl) ?_
    refine dq_r (sem_load (us := (cR d ++ cR e)) ty42 rfl rfl rfl rfl rfl) ?_
    refine dq_r (sem_call rfl rfl (ptTranslate_ok (by assumption) (by assumption) (by assumption) (by assumption)) rfl) ?_
    refine dq_r (sem_load (us := (cR p1 ++ cR q1 ++ cR p2 ++ cR q2 ++ cR r)) ty32 rfl rfl rfl rfl rfl) ?_
    refine dq_r (sem_load (us := (cR d ++ cR e)) ty42 rfl rfl rfl rfl rfl) ?_
    refine dq_r (sem_call rfl rfl (ptTranslate_ok (by assumption) (by assumption) (by assumption) (by assumption)) rfl) ?_
    refine dq_r (sem_call rfl rfl (rcasti (ptCompare_ok (by assumption) (by assumption) (by assumption) (by assumption) (by assumption) (by assumption) (by assumption) (by assumption) (by assumption) (by assumption) (by assumption) (by assumption)) ((cmpPP_pt hc0 hr0).trans ((cmpPt_move hc0 hr0).trans ((cmpPP_pt hc0 hr0).symm.trans e1)))) rfl) ?_
    refine dq_r (sem_move rfl rfl) ?_
    refine dq_r (sem_cmp rfl rfl rfl rfl) ?_
    refine dq_r (sem_assign rfl rfl) ?_
    refine dq_end ?_
    refine dl_start0 ?_
    refine dl_end ?_
    refine dw_ret ?_
    -- path f
    exact ⟨.inr rfl, (resL_tmp rfl resL_nil)⟩
  · refine dl_r (sem_move rfl rfl) ?_
    refine dl_r (sem_cmp rfl rfl rfl rfl) ?_
    refine dl_r (sem_pick rfl rfl rfl rfl) ?_
    refine dl_rb (sem_move rfl rfl) (fun c2 hb2 => ?_)
    cases c2
    · refine dl_skip (sem_skip rfl) ?_
      refine dl_skip (sem_skip rfl) ?_
      refine dl_skip (sem_skip rfl) ?_
      refine dl_skip (sem_skip rfl) ?_
      refine dl_skip (sem_skip rfl) ?_
      refine dl_skip (sem_skip rfl) ?_
      refine dl_skip (sem_skip rfl) ?_
      refine dl_skip (sem_skip rfl) ?_
      refine dl_skip (sem_skip rfl) ?_
      refine dl_skip (sem_skip rfl) ?_
      refine dl_skip (sem_skip rfl) ?_
      refine dl_skip (sem_skip rfl) ?_
      refine dl_skip (sem_skip rfl) ?_
      refine dl_skip (sem_skip rfl) ?_
      refine dl_r (sem_pick rfl rfl rfl rfl) ?_
      refine dl_end ?_
      refine dw_false rfl ?_
      refine dw_skip ?_
      refine dw_seq ?_
      -- region 7
      refine dw_draw 10 [] follows_mixed (by kernel_rfl) rfl rfl ?_
      refine dq_r (sem_load (us := (cR a1 ++ cR b1 ++ cR a2 ++ cR b2 ++ cR c)) ty32 rfl rfl rfl rfl rfl) ?_
      refine dq_r (sem_load (us := (cR d ++ cR e)) ty42 rfl rfl rfl rfl rfl) ?_
      refine dq_r (sem_call rfl rfl (ptTranslate_ok (by assumption) (by assumption) (by assumption) (by assumption)) rfl) ?_
      refine dq_r (sem_load (us := (cR p1 ++ cR q1 ++ cR p2 ++ cR q2 ++ cR r)) ty32 rfl rfl rfl rfl rfl) ?_
      refine dq_r (sem_load (us := (cR d ++ cR e)) ty42 rfl rfl rfl rfl rfl) ?_
      refine dq_r (sem_call rfl rfl (ptTranslate_ok (by assumption) (by assumption) (by assumption) (by assumption)) rfl) ?_
      refine dq_r (sem_call rfl rfl (rcasti (ptCompare_ok (by assumption) (by assumption) (by assumption) (by assumption) (by assumption) (by assumption) (by assumption) (by assumption) (by assumption) (by assumption) (by assumption) (by assumption)) ((cmpPP_pt hc0 hr0).trans ((cmpPt_move hc0 hr0).trans ((cmpPP_pt hc0 hr0).symm.trans e1)))) rfl) ?_
      refine dq_r (sem_move rfl rfl) ?_
      refine dq_r (sem_cmp rfl rfl rfl rfl) ?_
      refine dq_r (sem_assign rfl rfl) ?_
      refine dq_end ?_
      refine dl_start0 ?_
      refine dl_end ?_
      refine dw_ret ?_
      -- path tf
      exact ⟨.inr rfl, (resL_tmp rfl resL_nil)⟩
    · refine dl_r (sem_move rfl rfl) ?_
      refine dl_r (sem_cmp rfl rfl rfl rfl) ?_
      refine dl_rb (sem_move rfl rfl) (fun c3 hb3 => ?_)
      cases c3
      · refine dl_r (sem_move rfl rfl) ?_
        refine dl_r (sem_cmp rfl rfl rfl rfl) ?_
        refine dl_rb (sem_move rfl rfl) (fun c4 hb4 => ?_)
        cases c4
        · refine dl_r (sem_move rfl rfl) ?_
          refine dl_r (sem_cmp rfl rfl rfl rfl) ?_
          refine dl_r (sem_pick rfl rfl rfl rfl) ?_
          refine dl_rb (sem_move rfl rfl) (fun c5 hb5 => ?_)
          cases c5
          · refine dl_skip (sem_skip rfl) ?_
            refine dl_skip (sem_skip rfl) ?_
            refine dl_r (sem_pick rfl rfl rfl rfl) ?_
            refine dl_r (sem_pick rfl rfl rfl rfl) ?_
            refine dl_r (sem_pick rfl rfl rfl rfl) ?_
            refine dl_end ?_
            refine dw_false rfl ?_
            refine dw_skip ?_
            refine dw_seq ?_
            -- region 7
            refine dw_draw 10 [] follows_mixed (by kernel_rfl) rfl rfl ?_
            refine dq_r (sem_load (us := (cR a1 ++ cR b1 ++ cR a2 ++ cR b2 ++ cR c)) ty32 rfl rfl rfl rfl rfl) ?_
            refine dq_r (sem_load (us := (cR d ++ cR e)) ty42 rfl rfl rfl rfl rfl) ?_
            refine dq_r (sem_call rfl rfl (ptTranslate_ok (by assumption) (by assumption) (by assumption) (by assumption)) rfl) ?_
            refine dq_r (sem_load (us := (cR p1 ++ cR q1 ++ cR p2 ++ cR q2 ++ cR r)) ty32 rfl rfl rfl rfl rfl) ?_
            refine dq_r (sem_load (us := (cR d ++ cR e)) ty42 rfl rfl rfl rfl rfl) ?_
            refine dq_r (sem_call rfl rfl (ptTranslate_ok (by assumption) (by assumption) (by assumption) (by assumption)) rfl) ?_
            refine dq_r (sem_call rfl rfl (rcasti (ptCompare_ok (by assumption) (by assumption) (by assumption) (by assumption) (by assumption) (by assumption) (by assumption) (by assumption) (by assumption) (by assumption) (by assumption) (by assumption)) ((cmpPP_pt hc0 hr0).trans ((cmpPt_move hc0 hr0).trans ((cmpPP_pt hc0 hr0).symm.trans e1)))) rfl) ?_
            refine dq_r (sem_move rfl rfl) ?_
            refine dq_r (sem_cmp rfl rfl rfl rfl) ?_
            refine dq_r (sem_assign rfl rfl) ?_
            refine dq_end ?_
            refine dl_start0 ?_
            refine dl_end ?_
            refine dw_ret ?_
            -- path ttfff
            exact ⟨.inr rfl, (resL_tmp rfl resL_nil)⟩
          · refine dl_r (sem_move rfl rfl) ?_
            refine dl_r (sem_cmp rfl rfl rfl rfl) ?_
            refine dl_r (sem_pick rfl rfl rfl rfl) ?_
            refine dl_r (sem_pick rfl rfl rfl rfl) ?_
            refine dl_r (sem_pick rfl rfl rfl rfl) ?_
            refine dl_end ?_
            refine dw_cond rfl (fun hc6 => ?_) (fun hc6 => ?_)
            · exfalso
              have g1 := hb1
              have g2 := hb2
              have g3 := hb3
              have g4 := hb4
              have g5 := hb5
              have g6 := hc6
              simp only [decide_eq_true_eq, decide_eq_false_iff_not, beq_iff_eq] at g1 g2 g3 g4 g5 g6
              clear o1 o2 o3 e1 e2 e3
              omega
            · refine dw_skip ?_
              refine dw_seq ?_
              -- region 7
              refine dw_draw 10 [] follows_mixed (by kernel_rfl) rfl rfl ?_
              refine dq_r (sem_load (us := (cR a1 ++ cR b1 ++ cR a2 ++ cR b2 ++ cR c)) ty32 rfl rfl rfl rfl rfl) ?_
              refine dq_r (sem_load (us := (cR d ++ cR e)) ty42 rfl rfl rfl rfl rfl) ?_
              refine dq_r (sem_call rfl rfl (ptTranslate_ok (by assumption) (by assumption) (by assumption) (by assumption)) rfl) ?_
              refine dq_r (sem_load (us := (cR p1 ++ cR q1 ++ cR p2 ++ cR q2 ++ cR r)) ty32 rfl rfl rfl rfl rfl) ?_
              refine dq_r (sem_load (us := (cR d ++ cR e)) ty42 rfl rfl rfl rfl rfl) ?_
              refine dq_r (sem_call rfl rfl (ptTranslate_ok (by assumption) (by assumption) (by assumption) (by assumption)) rfl) ?_
              refine dq_r (sem_call rfl rfl (rcasti (ptCompare_ok (by assumption) (by assumption) (by assumption) (by assumption) (by assumption) (by assumption) (by assumption) (by assumption) (by assumption) (by assumption) (by assumption) (by assumption)) ((cmpPP_pt hc0 hr0).trans ((cmpPt_move hc0 hr0).trans ((cmpPP_pt hc0 hr0).symm.trans e1)))) rfl) ?_
              refine dq_r (sem_move rfl rfl) ?_
              refine dq_r (sem_cmp rfl rfl rfl rfl) ?_
              refine dq_r (sem_assign rfl rfl) ?_
              refine dq_end ?_
              refine dl_start0 ?_
              refine dl_end ?_
              refine dw_ret ?_
              -- path ttfftF
              exact ⟨.inr rfl, (resL_tmp rfl resL_nil)⟩
        · refine dl_skip (sem_skip rfl) ?_
          refine dl_skip (sem_skip rfl) ?_
          refine dl_r (sem_pick rfl rfl rfl rfl) ?_
          refine dl_r (sem_move rfl rfl) ?_
          refine dl_r (sem_move rfl rfl) ?_
          refine dl_r (sem_cmp rfl rfl rfl rfl) ?_
          refine dl_r (sem_pick rfl rfl rfl rfl) ?_
          refine dl_r (sem_pick rfl rfl rfl rfl) ?_
          refine dl_r (sem_pick rfl rfl rfl rfl) ?_
          refine dl_end ?_
          refine dw_cond rfl (fun hc7 => ?_) (fun hc7 => ?_)
          · exfalso
            have g1 := hb1
            have g2 := hb2
            have g3 := hb3
            have g4 := hb4
            have g5 := hc7
            simp only [decide_eq_true_eq, decide_eq_false_iff_not, beq_iff_eq] at g1 g2 g3 g4 g5
            clear o1 o2 o3 e1 e2 e3
            omega
          · refine dw_skip ?_
            refine dw_seq ?_
            -- region 7
            refine dw_draw 10 [] follows_mixed (by kernel_rfl) rfl rfl ?_
            refine dq_r (sem_load (us := (cR a1 ++ cR b1 ++ cR a2 ++ cR b2 ++ cR c)) ty32 rfl rfl rfl rfl rfl) ?_
            refine dq_r (sem_load (us := (cR d ++ cR e)) ty42 rfl rfl rfl rfl rfl) ?_
            refine dq_r (sem_call rfl rfl (ptTranslate_ok (by assumption) (by assumption) (by assumption) (by assumption)) rfl) ?_
            refine dq_r (sem_load (us := (cR p1 ++ cR q1 ++ cR p2 ++ cR q2 ++ cR r)) ty32 rfl rfl rfl rfl rfl) ?_
            refine dq_r (sem_load (us := (cR d ++ cR e)) ty42 rfl rfl rfl rfl rfl) ?_
            refine dq_r (sem_call rfl rfl (ptTranslate_ok (by assumption) (by assumption) (by assumption) (by assumption)) rfl) ?_
            refine dq_r (sem_call rfl rfl (rcasti (ptCompare_ok (by assumption) (by assumption) (by assumption) (by assumption) (by assumption) (by assumption) (by assumption) (by assumption) (by assumption) (by assumption) (by assumption) (by assumption)) ((cmpPP_pt hc0 hr0).trans ((cmpPt_move hc0 hr0).trans ((cmpPP_pt hc0 hr0).symm.trans e1)))) rfl) ?_
            refine dq_r (sem_move rfl rfl) ?_
            refine dq_r (sem_cmp rfl rfl rfl rfl) ?_
            refine dq_r (sem_assign rfl rfl) ?_
            refine dq_end ?_
            refine dl_start0 ?_
            refine dl_end ?_
            refine dw_ret ?_
            -- path ttftF
            exact ⟨.inr rfl, (resL_tmp rfl resL_nil)⟩
      · exfalso
        have g1 := hb1
        have g2 := hb2
        have g3 := hb3
        simp only [decide_eq_true_eq] at g1 g2 g3
        clear o1 o2 o3 e1 e2 e3
        omega
end Go.Proofs.YthpalcfhhicmgaaGreat
/- Plain: small raw points and vectors are numbers. -/
namespace Go.Proofs.YthpalcfhhicmgaaGreat
open Go Go.RowKit
theorem p3_of {x1 x2 x3 x4 x5 : RN} (w1 : x1.Wf) (w2 : x2.Wf) (w3 : x3.Wf) (w4 : x4.Wf) (w5 : x5.Wf) (h : (x1.s 3 && (x2.s 3 && (x3.s 3 && (x4.s 3 && x5.s 3)))) = true) :
    ∃ a1 b1 a2 b2 c : Rat, Rz 3 a1 ∧ Rz 3 b1 ∧ Rz 3 a2 ∧ Rz 3 b2 ∧ Rz 3 c ∧ (cN x1 ++ cN x2 ++ cN x3 ++ cN x4 ++ cN x5) = (cR a1 ++ cR b1 ++ cR a2 ++ cR b2 ++ cR c) := by
  simp only [Bool.and_eq_true] at h
  obtain ⟨a1, h1, e1⟩ := s3_of w1 h.1
  obtain ⟨b1, h2, e2⟩ := s3_of w2 h.2.1
  obtain ⟨a2, h3, e3⟩ := s3_of w3 h.2.2.1
  obtain ⟨b2, h4, e4⟩ := s3_of w4 h.2.2.2.1
  obtain ⟨c, h5, e5⟩ := s3_of w5 h.2.2.2.2
  exact ⟨a1, b1, a2, b2, c, h1, h2, h3, h4, h5, by rw [e1, e2, e3, e4, e5]⟩
theorem v3_of {v w : RN} (wv : v.Wf) (ww : w.Wf) (h : (v.s 3 && w.s 3) = true) : ∃ d e : Rat, Rz 3 d ∧ Rz 3 e ∧ (cN v ++ cN w) = (cR d ++ cR e) := by
  simp only [Bool.and_eq_true] at h
  obtain ⟨d, h1, e1⟩ := s3_of wv h.1
  obtain ⟨e, h2, e2⟩ := s3_of ww h.2
  exact ⟨d, e, h1, h2, by rw [e1, e2]⟩
end Go.Proofs.YthpalcfhhicmgaaGreat
/- Arguments opened: three places. No condition. -/
namespace Go.Proofs.YthpalcfhhicmgaaGreat
open Go.ChangeShapes Go.WideShapes Go.ChangeAt Go.RowKit Go.Deep
structure PlD where
  a : Int
  b : Int
  a2 : Int
  b2 : Int
  c : Int
  d : Int
structure PlD.Wf (p : PlD) : Prop where
  a0 : -32768 ≤ p.a
  a1 : p.a ≤ 32767
  b0 : -32768 ≤ p.b
  b1 : p.b ≤ 32767
  e0 : -32768 ≤ p.a2
  e1 : p.a2 ≤ 32767
  f0 : -32768 ≤ p.b2
  f1 : p.b2 ≤ 32767
  c0 : 0 ≤ p.c
  c1 : p.c ≤ 65535
  d0 : 0 ≤ p.d
  d1 : p.d ≤ 255
def cPl (p : PlD) : List CellD := [.i .i16 p.a] ++ [.i .i16 p.b] ++ [.i .i16 p.a2] ++ [.i .i16 p.b2] ++ [.i .u16 p.c] ++ [.i .u8 p.d]
theorem okWide_arr {P : Program} {w : World} {r : Reach} {base : Nat} {t e : TypeId} {n : Nat} {v : Value} (ht : P.underlying t = some (.array n e)) (h : Value.okWide P w r base t v) : ∃ cs, v = .agg cs := by
  simp only [Value.okWide, ht] at h
  obtain ⟨cs, h1, _⟩ := h
  exact ⟨cs, h1⟩
section
variable {H : Type} {enc : TypeId × Value → H} {w : World} {base : Nat} {spare : Nat → Bool} {held : Bool}
set_option maxRecDepth 100000 in
theorem place_of {fuel : Nat} {cs : List Value} {x : DataW H × List MemPlace} (h : DataW.trod enc Tryz.prog w base spare held fuel 53 cs = some x) : ∃ p : PlD, p.Wf ∧ RdCs NoB w cs (cPl p) := by
  obtain ⟨xs, n, _, _, hcl, hxl, hf⟩ := DataW.trod_struct (P := Tryz.prog) Tryz.underlying53 h
  have hcl : cs.length = 6 := hcl.trans (by kernel_rfl)
  have hxl : xs.length = 6 := hxl.trans (by kernel_rfl)
  match cs, hcl with
  | [c0, c1, c2, c3, c4, c5], _ =>
    have h0 : DataW.trod enc Tryz.prog w base spare held n 50 [c0] = xs[0]? := hf 0 _ rfl
    have h1 : DataW.trod enc Tryz.prog w base spare held n 50 [c1] = xs[1]? := hf 1 _ rfl
    have h2 : DataW.trod enc Tryz.prog w base spare held n 50 [c2] = xs[2]? := hf 2 _ rfl
    have h3 : DataW.trod enc Tryz.prog w base spare held n 50 [c3] = xs[3]? := hf 3 _ rfl
    have h4 : DataW.trod enc Tryz.prog w base spare held n 51 [c4] = xs[4]? := hf 4 _ rfl
    have h5 : DataW.trod enc Tryz.prog w base spare held n 5 [c5] = xs[5]? := hf 5 _ rfl
    rw [List.getElem?_eq_getElem (by omega)] at h0 h1 h2 h3 h4 h5
    obtain ⟨y0, e0, _, b0⟩ := DataW.trod_int (P := Tryz.prog) Tryz.underlying50 h0
    obtain ⟨y1, e1, _, b1⟩ := DataW.trod_int (P := Tryz.prog) Tryz.underlying50 h1
    obtain ⟨y2, e2, _, b2⟩ := DataW.trod_int (P := Tryz.prog) Tryz.underlying50 h2
    obtain ⟨y3, e3, _, b3⟩ := DataW.trod_int (P := Tryz.prog) Tryz.underlying50 h3
    obtain ⟨y4, e4, _, b4⟩ := DataW.trod_int (P := Tryz.prog) Tryz.underlying51 h4
    obtain ⟨y5, e5, _, b5⟩ := DataW.trod_int (P := Tryz.prog) Tryz.underlying5 h5
    simp at e0 e1 e2 e3 e4 e5
    subst e0 e1 e2 e3 e4 e5
    simp [Lit.wf, IntKind.min, IntKind.max, IntKind.signed, IntKind.bits] at b0 b1 b2 b3 b4 b5
    exact ⟨⟨y0, y1, y2, y3, y4, y5⟩, ⟨by (dsimp only; omega), by (dsimp only; omega), by (dsimp only; omega), by (dsimp only; omega), by (dsimp only; omega), by (dsimp only; omega), by (dsimp only; omega), by (dsimp only; omega), by (dsimp only; omega), by (dsimp only; omega), by (dsimp only; omega), by (dsimp only; omega)⟩,
      RdCs.cons (.i _ _) (RdCs.cons (.i _ _) (RdCs.cons (.i _ _) (RdCs.cons (.i _ _) (RdCs.cons (.i _ _) (RdCs.cons (.i _ _) RdCs.nil)))))⟩
set_option maxRecDepth 100000 in
theorem places_of {fuel : Nat} {cs : List Value} {x : DataW H × List MemPlace} (h : DataW.trod enc Tryz.prog w base spare held fuel 54 cs = some x) : ∃ p q s : PlD, p.Wf ∧ q.Wf ∧ s.Wf ∧ RdCs NoB w cs (cPl p ++ cPl q ++ cPl s) := by
  obtain ⟨xs, n, _, _, hcl, hxl, hf⟩ := DataW.trod_array (P := Tryz.prog) Tryz.underlying54 h
  have hcl : cs.length = 18 := hcl.trans (by kernel_rfl)
  have hce : Tryz.prog.cellsOf 53 = 6 := by kernel_rfl
  rw [hce] at hf
  have h0 := hf 0 (by omega)
  have h1 := hf 1 (by omega)
  have h2 := hf 2 (by omega)
  rw [List.getElem?_eq_getElem (by omega)] at h0 h1 h2
  obtain ⟨p, wp, rp⟩ := place_of h0
  obtain ⟨q, wq, rq⟩ := place_of h1
  obtain ⟨s, ws, rs⟩ := place_of h2
  refine ⟨p, q, s, wp, wq, ws, ?_⟩
  have e : cs = (cs.drop (0 * 6)).take 6 ++ (cs.drop (1 * 6)).take 6 ++ (cs.drop (2 * 6)).take 6 := by
    match cs, hcl with
    | [c0, c1, c2, c3, c4, c5, d0, d1, d2, d3, d4, d5, f0, f1, f2, f3, f4, f5], _ => rfl
  rw [e]
  exact RdCs.append (RdCs.append rp rq) rs
end
theorem Rz.rB {k : Nat} {b c : Rat} (h : Rz k b) (hk : 1 ≤ k) : Rz k (rB b c) := by
  unfold Go.Proofs.YthpalcfhhicmgaaGreat.rB
  split
  · exact Rz.zero hk
  · exact h
theorem Sz.one1 {x : Int} (h : -1000000000 < x) (h' : x < 1000000000) : Sz 1 x := by
  have e : pw 1 = 1000000000 := by decide +kernel
  exact ⟨by omega, by omega⟩
/-- a place's point -/
theorem pl_ex {p : PlD} (w : p.Wf) : ∃ a1 b1 a2 b2 c : Rat, Rz 1 a1 ∧ Rz 1 b1 ∧ Rz 1 a2 ∧ Rz 1 b2 ∧ Rz 1 c ∧ 0 ≤ c ∧ Ok Tryz.prog 31 [.a (cPl p)] [.a (cR a1 ++ cR b1 ++ cR a2 ++ cR b2 ++ cR c)] := by
  obtain ⟨w1, w2, w3, w4, w5, w6, w7, w8, c0, c1, w9, w10⟩ := w
  obtain ⟨s0, s1⟩ := isq_small c0 c1
  have rz : ∀ x : Int, -100000000 ≤ x → x ≤ 100000000 → Rz 1 (Rat.divInt x (p.d + 1)) := fun x h h' => Rz.of (Sz.one1 (by omega) (by omega)) (Sz.one1 (by omega) (by omega)) (by omega)
  have hm : ∀ x : Int, -32768 ≤ x → x ≤ 32767 → -10000000 ≤ x * isqI p.c ∧ x * isqI p.c ≤ 10000000 := by
    intro x h h'
    have h1 : x * isqI p.c ≤ 32767 * 255 := by
      rcases Int.lt_or_le x 0 with hx | hx
      · have := Int.mul_nonneg (show 0 ≤ -x by omega) s0
        have e : -x * isqI p.c = -(x * isqI p.c) := Int.neg_mul _ _
        omega
      · exact Int.mul_le_mul (by omega) (by omega) s0 (by omega)
    have h2 : -x * isqI p.c ≤ 32768 * 255 := by
      rcases Int.lt_or_le 0 x with hx | hx
      · have := Int.mul_nonneg (show 0 ≤ x by omega) s0
        have e : -x * isqI p.c = -(x * isqI p.c) := Int.neg_mul _ _
        omega
      · exact Int.mul_le_mul (by omega) (by omega) s0 (by omega)
    have e : -x * isqI p.c = -(x * isqI p.c) := Int.neg_mul _ _
    omega
  have ha := hm p.b w3 w4
  have hb := hm p.b2 w7 w8
  have rc : Rz 1 ((p.c : Int) : Rat) := Rz.int (Sz.one1 (by omega) (by omega)) (by decide)
  have hnn : (0 : Rat) ≤ ((p.c : Int) : Rat) := Rat.intCast_nonneg.2 c0
  cases hs : sqR ((p.c : Int) : Rat) with
  | true => exact ⟨_, _, _, _, _, rz (p.a + p.b * isqI p.c) (by omega) (by omega), Rz.zero (by decide), rz (p.a2 + p.b2 * isqI p.c) (by omega) (by omega), Rz.zero (by decide), Rz.zero (by decide), Rat.le_refl, rpOf_sq w1 w2 w3 w4 w5 w6 w7 w8 c0 c1 w9 w10 hs⟩
  | false =>
    have k1 := rz p.b (by omega) (by omega)
    have k2 := rz p.b2 (by omega) (by omega)
    refine ⟨_, _, _, _, _, rz p.a (by omega) (by omega), Rz.rB k1 (by decide), rz p.a2 (by omega) (by omega), Rz.rB k2 (by decide), Rz.zcp (Rz.cc (Rz.rC rc (by decide)) (Rz.rC rc (by decide))) (by decide), ?_, rpOf_ns w1 w2 w3 w4 w5 w6 w7 w8 c0 c1 w9 w10 hs⟩
    unfold zcp cc rC
    split
    · exact Rat.le_refl
    · split <;> split <;> first | exact Rat.le_refl | exact hnn
end Go.Proofs.YthpalcfhhicmgaaGreat
/- PointOrder: for every input the law returns true, and each argument reads behind the call as it read before. No condition. -/
namespace Go.Proofs.YthpalcfhhicmgaaGreat
open Go.ChangeShapes Go.WideShapes Go.ChangeAt Go.RowKit
theorem law_order {p q s : PlD} {v w : RN} (wp : p.Wf) (wq : q.Wf) (ws : s.Wf) (wv : v.Wf) (ww : w.Wf) :
    Ok Tryz.prog 6 [.a (cPl p ++ cPl q ++ cPl s), .a (cN v ++ cN w)] [.c (.b true)] := by
  cases h' : (v.s 3 && w.s 3) with
  | false => exact lwOr_A wv ww h'
  | true =>
    obtain ⟨d, e', k1, k2, e2⟩ := v3_of wv ww h'
    rw [e2]
    obtain ⟨a1, b1, a2, b2, c, g1, g2, g3, g4, g5, g6, o1⟩ := pl_ex wp
    obtain ⟨p1, q1, p2, q2, r, m1, m2, m3, m4, m5, m6, o2⟩ := pl_ex wq
    obtain ⟨x1, y1, x2, y2, z, l1, l2, l3, l4, l5, l6, o3⟩ := pl_ex ws
    have ht := fun h1 h2 => cmpPt_trans (a1 := a1) (b1 := b1) (a2 := a2) (b2 := b2) (p1 := p1) (q1 := q1) (p2 := p2) (q2 := q2) (x1 := x1) (y1 := y1) (x2 := x2) (y2 := y2) g6 m6 l6 h1 h2
    rw [← cmpPP_pt g6 m6, ← cmpPP_pt m6 l6, ← cmpPP_pt g6 l6] at ht
    exact rcastb (lwOr_B g1 g2 g3 g4 g5 m1 m2 m3 m4 m5 l1 l2 l3 l4 l5 k1 k2 o1 o2 o3 rfl rfl rfl (fun h1 h2 => (ht h1 h2).1) (fun h1 h2 h3 => (ht h1 h2).2 h3) g6 m6) (by simp)
set_option maxRecDepth 100000 in
theorem order_lifted (os : Os) (started : os.Started) (H : Type) (enc : TypeId × Value → H) :
    ReturnsInHanded {} Tryz.checked os 6 .any (Rows.pointOrderSpec.pre6 enc Tryz.prog Tryz.f6 Rows.pointOrderRow.domain false) (Rows.pointOrderSpec.post enc Tryz.prog Tryz.f6 false true false false) := by
  refine returnsInHanded_of_change (C := Tryz.checked) own started (by kernel_rfl) Tryz.func6
    (ChangeSpec.witness6 (enc := enc) (C := Tryz.checked) false ⟨#[], #[.agg (Array.replicate 3 #[Value.int .i16 0, .int .i16 0, .int .i16 0, .int .i16 0, .int .u16 0, .int .u8 0]).flatten, .agg (Array.replicate 4 #[Value.bool false, .slice none 0 0]).flatten], []⟩ 8 (by kernel_rfl) (by kernel_rfl) (by kernel_rfl) (by kernel_rfl)) ?_
  intro W base args ds gs before hval0 hW hcnd _
  have hval : ∀ (j : Nat) t v, Tryz.f6.params[j]? = some t → args[j]? = some v → Value.okWide Tryz.prog W .any base t v := hval0
  have hW' := hW
  obtain ⟨p, q, hA0, hV, rfl, hfz, hnd⟩ := hW
  have hA : DataW.TrodAll enc Tryz.prog W 0 (fun _ => true) true Tryz.f6.params.toList args.toList ds p := hA0
  rw [Tryz.params6] at hA hval
  obtain ⟨v0, vs0, d0, ds0, p0, q0, hargs, rfl, rfl, h0, r0⟩ := trodAll_cons hA
  obtain ⟨v1, vs1, d1, ds1, p1, q1, rfl, rfl, rfl, h1, r1⟩ := trodAll_cons r0
  obtain ⟨rfl, rfl, rfl⟩ := trodAll_nil r1
  obtain rfl : args = #[v0, v1] := by cases args; simp_all
  obtain ⟨rfl, rfl⟩ := trodVars_none hV
  obtain ⟨a0, rfl⟩ := okWide_arr Tryz.underlying54 (hval 0 54 v0 rfl rfl)
  have k0 := h0
  have lt0 : ∀ x ∈ p0, x.block < W.heap.size := by obtain ⟨m, hm⟩ := k0; exact DataW.trod_lt m _ _ _ hm
  obtain ⟨a1, rfl, _⟩ := okWide_struct Tryz.underlying42 (hval 1 42 v1 rfl rfl)
  have k1 := h1
  have lt1 : ∀ x ∈ p1, x.block < W.heap.size := by obtain ⟨m, hm⟩ := k1; exact DataW.trod_lt m _ _ _ hm
  obtain ⟨pl00, pl01, pl02, w00, w01, w02, hr0⟩ := places_of (show DataW.trod enc Tryz.prog W 0 _ _ h0.choose 54 a0.toList = some _ from h0.choose_spec)
  obtain ⟨e10, e11, w10, w11, hr1⟩ := vec_of (show DataW.trod enc Tryz.prog W 0 _ _ h1.choose 42 a1.toList = some _ from h1.choose_spec)
  clear hA0 hval0
  refine (law_of (law_order w00 w01 w02 w10 w11) (RdL.cons ⟨a0, rfl, hr0⟩ (RdL.cons ⟨a1, rfl, hr1⟩ RdL.nil))).mono fun e W' ⟨he, bel⟩ => ?_
  subst he
  exact ⟨_, rfl, _, _, _, [], _, [], hW', trodAll_mk1 (shut_bool Tryz.underlying4 _), (trodAll_cons_mk (Below.trod laidOut (by kernel_rfl) (of_decide_eq_true (by kernel_rfl)) k0 bel lt0) (trodAll_cons_mk (Below.trod laidOut (by kernel_rfl) (of_decide_eq_true (by kernel_rfl)) k1 bel lt1) trodAll_mk0)), rfl, bel.frame _, fun h => by cases h⟩
theorem order_proved : Rows.PointOrderSaid :=
  OpenClaim.holds_of_wide 6 Tryz.f6 rfl rfl rfl rfl rfl rfl rfl ⟨rfl, rfl, rfl, rfl, rfl⟩ rfl rfl rfl rfl rfl (by kernel_rfl) Tryz.func6 (by kernel_rfl)
    (of_decide_eq_true (by kernel_rfl)) (by unfold Func.isWrapper; first | (rw [if_pos (by decide +kernel)]; kernel_rfl) | (rw [if_neg (by decide +kernel)]; exact ⟨rfl, rfl⟩))
    (fun os started H enc _ => order_lifted os started H enc)
end Go.Proofs.YthpalcfhhicmgaaGreat
