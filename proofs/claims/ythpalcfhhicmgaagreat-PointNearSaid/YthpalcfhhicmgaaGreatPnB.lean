/- PointTranslate, PointAt: the laws at all readings. -/
import Derived.Test.YthpalcfhhicmgaaGreatPnA
namespace Go.Proofs.YthpalcfhhicmgaaGreat
open Go Go.RowKit
theorem r_cancel (a d : Rat) : a + d + -d = a := by grind
theorem lwSmallVec {v w : RN} (wv : v.Wf) (ww : w.Wf) : Ok Tryz.prog 23 [.a (cN v ++ cN w)] [.c (.b (v.s 3 && w.s 3))] := by
  refine Ok.of (by kernel_rfl) Tryz.func23 rfl rfl ?_
  rw [show Tryz.f23.ntmps = 11 from rfl, show Tryz.f23.results.toList = [.tmp 2] from rfl]
  refine dw_seq ?_
  -- region 0
  refine dw_region (by kernel_rfl) ?_
  refine dl_new (sem_box_a rfl rfl) rfl ?_
  refine dl_r (sem_assign rfl rfl) ?_
  refine dl_end ?_
  refine dw_seq ?_
  -- region 1
  refine dw_region (by kernel_rfl) ?_
  refine dl_r (sem_field fd42_0 rfl rfl) ?_
  refine dl_r (sem_load (us := cN v) ty26 rfl rfl rfl rfl rfl) ?_
  refine dl_r (sem_call rfl rfl (sSmall_ok (by assumption) (by omega)) rfl) ?_
  refine dl_rb (sem_move rfl rfl) (fun c1 hb1 => ?_)
  cases c1
  · refine dl_skip (sem_skip rfl) ?_
    refine dl_skip (sem_skip rfl) ?_
    refine dl_skip (sem_skip rfl) ?_
    refine dl_r (sem_pick rfl rfl rfl rfl) ?_
    refine dl_r (sem_assign rfl rfl) ?_
    refine dl_end ?_
    refine dw_ret ?_
    -- path f
    rw [show (v.s 3 && w.s 3) = false from by rw [hb1]; rfl]
    exact ⟨.inr rfl, (resL_tmp rfl resL_nil)⟩
  · refine dl_r (sem_field fd42_1 rfl rfl) ?_
    refine dl_r (sem_load (us := cN w) ty26 rfl rfl rfl rfl rfl) ?_
    refine dl_r (sem_call rfl rfl (sSmall_ok (by assumption) (by omega)) rfl) ?_
    refine dl_r (sem_pick rfl rfl rfl rfl) ?_
    refine dl_r (sem_assign rfl rfl) ?_
    refine dl_end ?_
    refine dw_ret ?_
    -- path t
    rw [show (v.s 3 && w.s 3) = w.s 3 from by rw [hb1, Bool.true_and]]
    exact ⟨.inr rfl, (resL_tmp rfl resL_nil)⟩
theorem lwSmallVec_R {d e : Rat} (hd : Rz 3 d) (he : Rz 3 e) : Ok Tryz.prog 23 [.a (cR d ++ cR e)] [.c (.b true)] := by
  refine Ok.of (by kernel_rfl) Tryz.func23 rfl rfl ?_
  rw [show Tryz.f23.ntmps = 11 from rfl, show Tryz.f23.results.toList = [.tmp 2] from rfl]
  refine dw_seq ?_
  -- region 0
  refine dw_region (by kernel_rfl) ?_
  refine dl_new (sem_box_a rfl rfl) rfl ?_
  refine dl_r (sem_assign rfl rfl) ?_
  refine dl_end ?_
  refine dw_seq ?_
  -- region 1
  refine dw_region (by kernel_rfl) ?_
  refine dl_r (sem_field fd42_0 rfl rfl) ?_
  refine dl_r (sem_load (us := cR d) ty26 rfl rfl rfl rfl rfl) ?_
  refine dl_r (sem_call rfl rfl (sSmall_R (k := 3) (by assumption) (by omega)) rfl) ?_
  refine dl_r (sem_move rfl rfl) ?_
  refine dl_r (sem_field fd42_1 rfl rfl) ?_
  refine dl_r (sem_load (us := cR e) ty26 rfl rfl rfl rfl rfl) ?_
  refine dl_r (sem_call rfl rfl (sSmall_R (k := 3) (by assumption) (by omega)) rfl) ?_
  refine dl_r (sem_pick rfl rfl rfl rfl) ?_
  refine dl_r (sem_assign rfl rfl) ?_
  refine dl_end ?_
  refine dw_ret ?_
  -- path 
  exact ⟨.inr rfl, (resL_tmp rfl resL_nil)⟩
theorem lwTr_A {x1 x2 x3 x4 x5 : RN} (wx1 : x1.Wf) (wx2 : x2.Wf) (wx3 : x3.Wf) (wx4 : x4.Wf) (wx5 : x5.Wf) (hv : (x1.s 3 && (x2.s 3 && (x3.s 3 && (x4.s 3 && x5.s 3)))) = false) {v w : RN} : Ok Tryz.prog 7 [.a (cN x1 ++ cN x2 ++ cN x3 ++ cN x4 ++ cN x5), .a (cN v ++ cN w)] [.c (.b true)] := by
  refine Ok.of (by kernel_rfl) Tryz.func7 rfl rfl ?_
  rw [show Tryz.f7.ntmps = 36 from rfl, show Tryz.f7.results.toList = [.tmp 4] from rfl]
  refine dw_seq ?_
  -- region 0
  refine dw_region (by kernel_rfl) ?_
  refine dl_new (sem_box_a rfl rfl) rfl ?_
  refine dl_new (sem_box_a rfl rfl) rfl ?_
  refine dl_r (sem_assign rfl rfl) ?_
  refine dl_end ?_
  refine dw_seq ?_
  refine dw_seq ?_
  -- region 1
  refine dw_region (by kernel_rfl) ?_
  refine dl_r (sem_call rfl rfl (awake_ok) rfl) ?_
  refine dl_r (sem_not rfl rfl) ?_
  refine dl_r (sem_move rfl rfl) ?_
  refine dl_r (sem_load (us := (cN x1 ++ cN x2 ++ cN x3 ++ cN x4 ++ cN x5)) ty32 rfl rfl rfl rfl rfl) ?_
  refine dl_r (sem_slit_D (n := 1) (us := (cN x1 ++ cN x2 ++ cN x3 ++ cN x4 ++ cN x5)) el82 rfl rfl rfl (by decide) (by decide) rfl) ?_
  refine dl_r (sem_call rfl rfl (sm1_A (by assumption) (by assumption) (by assumption) (by assumption) (by assumption) hv) rfl) ?_
  refine dl_r (sem_not rfl rfl) ?_
  refine dl_r (sem_pick rfl rfl rfl rfl) ?_
  refine dl_r (sem_move rfl rfl) ?_
  refine dl_skip (sem_skip rfl) ?_
  refine dl_skip (sem_skip rfl) ?_
  refine dl_skip (sem_skip rfl) ?_
  refine dl_r (sem_pick rfl rfl rfl rfl) ?_
  refine dl_end ?_
  refine dw_true rfl ?_
  refine dw_seq ?_
  -- region 2
  refine dw_region (by kernel_rfl) ?_
  refine dl_r (sem_call rfl rfl (awake_ok) rfl) ?_
  refine dl_r (sem_assign rfl rfl) ?_
  refine dl_end ?_
  refine dw_ret ?_
  -- path 
  exact ⟨.inr rfl, (resL_tmp rfl resL_nil)⟩
theorem lwTr_B {a1 b1 a2 b2 c : Rat} (ha1 : Rz 3 a1) (hb1 : Rz 3 b1) (ha2 : Rz 3 a2) (hb2 : Rz 3 b2) (hc : Rz 3 c) (v1 : vPt b1 b2 c = false) {v w : RN} : Ok Tryz.prog 7 [.a (cR a1 ++ cR b1 ++ cR a2 ++ cR b2 ++ cR c), .a (cN v ++ cN w)] [.c (.b true)] := by
  refine Ok.of (by kernel_rfl) Tryz.func7 rfl rfl ?_
  rw [show Tryz.f7.ntmps = 36 from rfl, show Tryz.f7.results.toList = [.tmp 4] from rfl]
  refine dw_seq ?_
  -- region 0
  refine dw_region (by kernel_rfl) ?_
  refine dl_new (sem_box_a rfl rfl) rfl ?_
  refine dl_new (sem_box_a rfl rfl) rfl ?_
  refine dl_r (sem_assign rfl rfl) ?_
  refine dl_end ?_
  refine dw_seq ?_
  refine dw_seq ?_
  -- region 1
  refine dw_region (by kernel_rfl) ?_
  refine dl_r (sem_call rfl rfl (awake_ok) rfl) ?_
  refine dl_r (sem_not rfl rfl) ?_
  refine dl_r (sem_move rfl rfl) ?_
  refine dl_r (sem_load (us := (cR a1 ++ cR b1 ++ cR a2 ++ cR b2 ++ cR c)) ty32 rfl rfl rfl rfl rfl) ?_
  refine dl_r (sem_slit_D (n := 1) (us := (cR a1 ++ cR b1 ++ cR a2 ++ cR b2 ++ cR c)) el82 rfl rfl rfl (by decide) (by decide) rfl) ?_
  refine dl_r (sem_call rfl rfl (sm1_false (by assumption) (by assumption) (by assumption) (by assumption) (by assumption) v1) rfl) ?_
  refine dl_r (sem_not rfl rfl) ?_
  refine dl_r (sem_pick rfl rfl rfl rfl) ?_
  refine dl_r (sem_move rfl rfl) ?_
  refine dl_skip (sem_skip rfl) ?_
  refine dl_skip (sem_skip rfl) ?_
  refine dl_skip (sem_skip rfl) ?_
  refine dl_r (sem_pick rfl rfl rfl rfl) ?_
  refine dl_end ?_
  refine dw_true rfl ?_
  refine dw_seq ?_
  -- region 2
  refine dw_region (by kernel_rfl) ?_
  refine dl_r (sem_call rfl rfl (awake_ok) rfl) ?_
  refine dl_r (sem_assign rfl rfl) ?_
  refine dl_end ?_
  refine dw_ret ?_
  -- path 
  exact ⟨.inr rfl, (resL_tmp rfl resL_nil)⟩
theorem lwTr_C {a1 b1 a2 b2 c : Rat} (ha1 : Rz 3 a1) (hb1 : Rz 3 b1) (ha2 : Rz 3 a2) (hb2 : Rz 3 b2) (hc : Rz 3 c) (v1 : vPt b1 b2 c = true) {v w : RN} (wv : v.Wf) (ww : w.Wf) (hw : (v.s 3 && w.s 3) = false) : Ok Tryz.prog 7 [.a (cR a1 ++ cR b1 ++ cR a2 ++ cR b2 ++ cR c), .a (cN v ++ cN w)] [.c (.b true)] := by
  refine Ok.of (by kernel_rfl) Tryz.func7 rfl rfl ?_
  rw [show Tryz.f7.ntmps = 36 from rfl, show Tryz.f7.results.toList = [.tmp 4] from rfl]
  refine dw_seq ?_
  -- region 0
  refine dw_region (by kernel_rfl) ?_
  refine dl_new (sem_box_a rfl rfl) rfl ?_
  refine dl_new (sem_box_a rfl rfl) rfl ?_
  refine dl_r (sem_assign rfl rfl) ?_
  refine dl_end ?_
  refine dw_seq ?_
  refine dw_seq ?_
  -- region 1
  refine dw_region (by kernel_rfl) ?_
  refine dl_r (sem_call rfl rfl (awake_ok) rfl) ?_
  refine dl_r (sem_not rfl rfl) ?_
  refine dl_r (sem_move rfl rfl) ?_
  refine dl_r (sem_load (us := (cR a1 ++ cR b1 ++ cR a2 ++ cR b2 ++ cR c)) ty32 rfl rfl rfl rfl rfl) ?_
  refine dl_r (sem_slit_D (n := 1) (us := (cR a1 ++ cR b1 ++ cR a2 ++ cR b2 ++ cR c)) el82 rfl rfl rfl (by decide) (by decide) rfl) ?_
  refine dl_r (sem_call rfl rfl (sm1_true (by assumption) (by assumption) (by assumption) (by assumption) (by assumption) v1) rfl) ?_
  refine dl_r (sem_not rfl rfl) ?_
  refine dl_r (sem_pick rfl rfl rfl rfl) ?_
  refine dl_r (sem_move rfl rfl) ?_
  refine dl_r (sem_load (us := (cN v ++ cN w)) ty42 rfl rfl rfl rfl rfl) ?_
  refine dl_r (sem_call rfl rfl (rcastb (lwSmallVec (by assumption) (by assumption)) hw) rfl) ?_
  refine dl_r (sem_not rfl rfl) ?_
  refine dl_r (sem_pick rfl rfl rfl rfl) ?_
  refine dl_end ?_
  refine dw_true rfl ?_
  refine dw_seq ?_
  -- region 2
  refine dw_region (by kernel_rfl) ?_
  refine dl_r (sem_call rfl rfl (awake_ok) rfl) ?_
  refine dl_r (sem_assign rfl rfl) ?_
  refine dl_end ?_
  refine dw_ret ?_
  -- path 
  exact ⟨.inr rfl, (resL_tmp rfl resL_nil)⟩
theorem lwTr_D {a1 b1 a2 b2 c : Rat} (ha1 : Rz 3 a1) (hb1 : Rz 3 b1) (ha2 : Rz 3 a2) (hb2 : Rz 3 b2) (hc : Rz 3 c) (v1 : vPt b1 b2 c = true) {d e : Rat} (hd : Rz 3 d) (he : Rz 3 e) : Ok Tryz.prog 7 [.a (cR a1 ++ cR b1 ++ cR a2 ++ cR b2 ++ cR c), .a (cR d ++ cR e)] [.c (.b true)] := by
  have ka1 : Rz 300 a1 := ha1.mono (by decide)
  have kb1 : Rz 300 b1 := hb1.mono (by decide)
  have ka2 : Rz 300 a2 := ha2.mono (by decide)
  have kb2 : Rz 300 b2 := hb2.mono (by decide)
  have kc : Rz 300 c := hc.mono (by decide)
  have kd : Rz 300 d := hd.mono (by decide)
  have ke : Rz 300 e := he.mono (by decide)
  have k1 : Rz 300 (a1 + d) := (ha1.add hd).mono (by decide)
  have k2 : Rz 300 (a2 + e) := (ha2.add he).mono (by decide)
  have k3 : Rz 300 (-d) := kd.neg
  have k4 : Rz 300 (-e) := ke.neg
  refine Ok.of (by kernel_rfl) Tryz.func7 rfl rfl ?_
  rw [show Tryz.f7.ntmps = 36 from rfl, show Tryz.f7.results.toList = [.tmp 4] from rfl]
  refine dw_seq ?_
  -- region 0
  refine dw_region (by kernel_rfl) ?_
  refine dl_new (sem_box_a rfl rfl) rfl ?_
  refine dl_new (sem_box_a rfl rfl) rfl ?_
  refine dl_r (sem_assign rfl rfl) ?_
  refine dl_end ?_
  refine dw_seq ?_
  refine dw_seq ?_
  -- region 1
  refine dw_region (by kernel_rfl) ?_
  refine dl_r (sem_call rfl rfl (awake_ok) rfl) ?_
  refine dl_r (sem_not rfl rfl) ?_
  refine dl_r (sem_move rfl rfl) ?_
  refine dl_r (sem_load (us := (cR a1 ++ cR b1 ++ cR a2 ++ cR b2 ++ cR c)) ty32 rfl rfl rfl rfl rfl) ?_
  refine dl_r (sem_slit_D (n := 1) (us := (cR a1 ++ cR b1 ++ cR a2 ++ cR b2 ++ cR c)) el82 rfl rfl rfl (by decide) (by decide) rfl) ?_
  refine dl_r (sem_call rfl rfl (sm1_true (by assumption) (by assumption) (by assumption) (by assumption) (by assumption) v1) rfl) ?_
  refine dl_r (sem_not rfl rfl) ?_
  refine dl_r (sem_pick rfl rfl rfl rfl) ?_
  refine dl_r (sem_move rfl rfl) ?_
  refine dl_r (sem_load (us := (cR d ++ cR e)) ty42 rfl rfl rfl rfl rfl) ?_
  refine dl_r (sem_call rfl rfl (lwSmallVec_R (by assumption) (by assumption)) rfl) ?_
  refine dl_r (sem_not rfl rfl) ?_
  refine dl_r (sem_pick rfl rfl rfl rfl) ?_
  refine dl_end ?_
  refine dw_false rfl ?_
  refine dw_skip ?_
  refine dw_seq ?_
  -- region 3
  refine dw_region (by kernel_rfl) ?_
  refine dl_r (sem_load (us := (cR a1 ++ cR b1 ++ cR a2 ++ cR b2 ++ cR c)) ty32 rfl rfl rfl rfl rfl) ?_
  refine dl_r (sem_load (us := (cR d ++ cR e)) ty42 rfl rfl rfl rfl rfl) ?_
  refine dl_r (sem_call rfl rfl (ptTranslate_ok (by assumption) (by assumption) (by assumption) (by assumption)) rfl) ?_
  refine dl_new (sem_alloc zc32 rfl) rfl ?_
  refine dl_st (sem_store_a ty32 rfl rfl rfl rfl rfl rfl) ?_
  refine dl_end ?_
  refine dw_seq ?_
  -- region 4
  refine dw_draw 14 [] follows_mixed (by kernel_rfl) rfl rfl ?_
  refine dq_r (sem_load (us := (cR (a1 + d) ++ cR b1 ++ cR (a2 + e) ++ cR b2 ++ cR c)) ty32 rfl rfl rfl rfl rfl) ?_
  refine dq_r (sem_load (us := (cR a1 ++ cR b1 ++ cR a2 ++ cR b2 ++ cR c)) ty32 rfl rfl rfl rfl rfl) ?_
  refine dq_r (sem_load (us := (cR d ++ cR e)) ty42 rfl rfl rfl rfl rfl) ?_
  refine dq_r (sem_call rfl rfl (rpTranslate_ok (by assumption) (by assumption) (by assumption) (by assumption)) rfl) ?_
  refine dq_r (sem_call rfl rfl (rcastb (rpSame_ok (by assumption) (by assumption) (by assumption) (by assumption) (by assumption) (by assumption) (by assumption) (by assumption) (by assumption) (by assumption)) (psame_refl _ _ _ _ _)) rfl) ?_
  refine dq_r (sem_move rfl rfl) ?_
  refine dq_r (sem_load (us := (cR (a1 + d) ++ cR b1 ++ cR (a2 + e) ++ cR b2 ++ cR c)) ty32 rfl rfl rfl rfl rfl) ?_
  refine dq_r (sem_load (us := (cR d ++ cR e)) ty42 rfl rfl rfl rfl rfl) ?_
  refine dq_r (sem_call rfl rfl (rpBack_ok (by assumption) (by assumption)) rfl) ?_
  refine dq_r (sem_call rfl rfl (rcast5a (ptTranslate_ok (by assumption) (by assumption) (by assumption) (by assumption)) (r_cancel _ _) rfl (r_cancel _ _) rfl rfl) rfl) ?_
  refine dq_r (sem_load (us := (cR a1 ++ cR b1 ++ cR a2 ++ cR b2 ++ cR c)) ty32 rfl rfl rfl rfl rfl) ?_
  refine dq_r (sem_call rfl rfl (rcastb (rpSame_ok (by assumption) (by assumption) (by assumption) (by assumption) (by assumption) (by assumption) (by assumption) (by assumption) (by assumption) (by assumption)) (psame_refl _ _ _ _ _)) rfl) ?_
  refine dq_r (sem_pick rfl rfl rfl rfl) ?_
  refine dq_r (sem_assign rfl rfl) ?_
  refine dq_end ?_
  refine dl_start0 ?_
  refine dl_end ?_
  refine dw_ret ?_
  -- path 
  exact ⟨.inr rfl, (resL_tmp rfl resL_nil)⟩
theorem lwAt_A {v w : RN} (wv : v.Wf) (ww : w.Wf) (hw : (v.s 3 && w.s 3) = false) {x y : Int} (_g0 : -9223372036854775808 ≤ x) (_g1 : x ≤ 9223372036854775807) (_g2 : -9223372036854775808 ≤ y) (_g3 : y ≤ 9223372036854775807) {x1 x2 x3 x4 x5 : RN} : Ok Tryz.prog 8 [.a (cN v ++ cN w), .a ([.i .i64 x] ++ [.i .i64 y]), .a (cN x1 ++ cN x2 ++ cN x3 ++ cN x4 ++ cN x5)] [.c (.b true)] := by
  refine Ok.of (by kernel_rfl) Tryz.func8 rfl rfl ?_
  rw [show Tryz.f8.ntmps = 73 from rfl, show Tryz.f8.results.toList = [.tmp 6] from rfl]
  refine dw_seq ?_
  -- region 0
  refine dw_region (by kernel_rfl) ?_
  refine dl_new (sem_box_a rfl rfl) rfl ?_
  refine dl_new (sem_box_a rfl rfl) rfl ?_
  refine dl_new (sem_box_a rfl rfl) rfl ?_
  refine dl_r (sem_assign rfl rfl) ?_
  refine dl_end ?_
  refine dw_seq ?_
  refine dw_seq ?_
  -- region 1
  refine dw_region (by kernel_rfl) ?_
  refine dl_r (sem_call rfl rfl (awake_ok) rfl) ?_
  refine dl_r (sem_not rfl rfl) ?_
  refine dl_r (sem_move rfl rfl) ?_
  refine dl_r (sem_load (us := (cN v ++ cN w)) ty42 rfl rfl rfl rfl rfl) ?_
  refine dl_r (sem_call rfl rfl (rcastb (lwSmallVec (by assumption) (by assumption)) hw) rfl) ?_
  refine dl_r (sem_not rfl rfl) ?_
  refine dl_r (sem_pick rfl rfl rfl rfl) ?_
  refine dl_r (sem_move rfl rfl) ?_
  refine dl_skip (sem_skip rfl) ?_
  refine dl_skip (sem_skip rfl) ?_
  refine dl_skip (sem_skip rfl) ?_
  refine dl_skip (sem_skip rfl) ?_
  refine dl_r (sem_pick rfl rfl rfl rfl) ?_
  refine dl_end ?_
  refine dw_true rfl ?_
  refine dw_seq ?_
  -- region 2
  refine dw_region (by kernel_rfl) ?_
  refine dl_r (sem_call rfl rfl (awake_ok) rfl) ?_
  refine dl_r (sem_assign rfl rfl) ?_
  refine dl_end ?_
  refine dw_ret ?_
  -- path 
  exact ⟨.inr rfl, (resL_tmp rfl resL_nil)⟩
theorem lwAt_B {d e : Rat} (hd : Rz 3 d) (he : Rz 3 e) {x y : Int} (_g0 : -9223372036854775808 ≤ x) (_g1 : x ≤ 9223372036854775807) (_g2 : -9223372036854775808 ≤ y) (_g3 : y ≤ 9223372036854775807) {x1 x2 x3 x4 x5 : RN} (wx1 : x1.Wf) (wx2 : x2.Wf) (wx3 : x3.Wf) (wx4 : x4.Wf) (wx5 : x5.Wf) (hv : (x1.s 3 && (x2.s 3 && (x3.s 3 && (x4.s 3 && x5.s 3)))) = false) : Ok Tryz.prog 8 [.a (cR d ++ cR e), .a ([.i .i64 x] ++ [.i .i64 y]), .a (cN x1 ++ cN x2 ++ cN x3 ++ cN x4 ++ cN x5)] [.c (.b true)] := by
  refine Ok.of (by kernel_rfl) Tryz.func8 rfl rfl ?_
  rw [show Tryz.f8.ntmps = 73 from rfl, show Tryz.f8.results.toList = [.tmp 6] from rfl]
  refine dw_seq ?_
  -- region 0
  refine dw_region (by kernel_rfl) ?_
  refine dl_new (sem_box_a rfl rfl) rfl ?_
  refine dl_new (sem_box_a rfl rfl) rfl ?_
  refine dl_new (sem_box_a rfl rfl) rfl ?_
  refine dl_r (sem_assign rfl rfl) ?_
  refine dl_end ?_
  refine dw_seq ?_
  refine dw_seq ?_
  -- region 1
  refine dw_region (by kernel_rfl) ?_
  refine dl_r (sem_call rfl rfl (awake_ok) rfl) ?_
  refine dl_r (sem_not rfl rfl) ?_
  refine dl_r (sem_move rfl rfl) ?_
  refine dl_r (sem_load (us := (cR d ++ cR e)) ty42 rfl rfl rfl rfl rfl) ?_
  refine dl_r (sem_call rfl rfl (lwSmallVec_R (by assumption) (by assumption)) rfl) ?_
  refine dl_r (sem_not rfl rfl) ?_
  refine dl_r (sem_pick rfl rfl rfl rfl) ?_
  refine dl_r (sem_move rfl rfl) ?_
  refine dl_r (sem_load (us := (cN x1 ++ cN x2 ++ cN x3 ++ cN x4 ++ cN x5)) ty32 rfl rfl rfl rfl rfl) ?_
  refine dl_r (sem_slit_D (n := 1) (us := (cN x1 ++ cN x2 ++ cN x3 ++ cN x4 ++ cN x5)) el82 rfl rfl rfl (by decide) (by decide) rfl) ?_
  refine dl_r (sem_call rfl rfl (sm1_A (by assumption) (by assumption) (by assumption) (by assumption) (by assumption) hv) rfl) ?_
  refine dl_r (sem_not rfl rfl) ?_
  refine dl_r (sem_pick rfl rfl rfl rfl) ?_
  refine dl_end ?_
  refine dw_true rfl ?_
  refine dw_seq ?_
  -- region 2
  refine dw_region (by kernel_rfl) ?_
  refine dl_r (sem_call rfl rfl (awake_ok) rfl) ?_
  refine dl_r (sem_assign rfl rfl) ?_
  refine dl_end ?_
  refine dw_ret ?_
  -- path 
  exact ⟨.inr rfl, (resL_tmp rfl resL_nil)⟩
theorem lwAt_C {d e : Rat} (hd : Rz 3 d) (he : Rz 3 e) {x y : Int} (_g0 : -9223372036854775808 ≤ x) (_g1 : x ≤ 9223372036854775807) (_g2 : -9223372036854775808 ≤ y) (_g3 : y ≤ 9223372036854775807) {a1 b1 a2 b2 c : Rat} (ha1 : Rz 3 a1) (hb1 : Rz 3 b1) (ha2 : Rz 3 a2) (hb2 : Rz 3 b2) (hc : Rz 3 c) (v1 : vPt b1 b2 c = false) : Ok Tryz.prog 8 [.a (cR d ++ cR e), .a ([.i .i64 x] ++ [.i .i64 y]), .a (cR a1 ++ cR b1 ++ cR a2 ++ cR b2 ++ cR c)] [.c (.b true)] := by
  refine Ok.of (by kernel_rfl) Tryz.func8 rfl rfl ?_
  rw [show Tryz.f8.ntmps = 73 from rfl, show Tryz.f8.results.toList = [.tmp 6] from rfl]
  refine dw_seq ?_
  -- region 0
  refine dw_region (by kernel_rfl) ?_
  refine dl_new (sem_box_a rfl rfl) rfl ?_
  refine dl_new (sem_box_a rfl rfl) rfl ?_
  refine dl_new (sem_box_a rfl rfl) rfl ?_
  refine dl_r (sem_assign rfl rfl) ?_
  refine dl_end ?_
  refine dw_seq ?_
  refine dw_seq ?_
  -- region 1
  refine dw_region (by kernel_rfl) ?_
  refine dl_r (sem_call rfl rfl (awake_ok) rfl) ?_
  refine dl_r (sem_not rfl rfl) ?_
  refine dl_r (sem_move rfl rfl) ?_
  refine dl_r (sem_load (us := (cR d ++ cR e)) ty42 rfl rfl rfl rfl rfl) ?_
  refine dl_r (sem_call rfl rfl (lwSmallVec_R (by assumption) (by assumption)) rfl) ?_
  refine dl_r (sem_not rfl rfl) ?_
  refine dl_r (sem_pick rfl rfl rfl rfl) ?_
  refine dl_r (sem_move rfl rfl) ?_
  refine dl_r (sem_load (us := (cR a1 ++ cR b1 ++ cR a2 ++ cR b2 ++ cR c)) ty32 rfl rfl rfl rfl rfl) ?_
  refine dl_r (sem_slit_D (n := 1) (us := (cR a1 ++ cR b1 ++ cR a2 ++ cR b2 ++ cR c)) el82 rfl rfl rfl (by decide) (by decide) rfl) ?_
  refine dl_r (sem_call rfl rfl (sm1_false (by assumption) (by assumption) (by assumption) (by assumption) (by assumption) v1) rfl) ?_
  refine dl_r (sem_not rfl rfl) ?_
  refine dl_r (sem_pick rfl rfl rfl rfl) ?_
  refine dl_end ?_
  refine dw_true rfl ?_
  refine dw_seq ?_
  -- region 2
  refine dw_region (by kernel_rfl) ?_
  refine dl_r (sem_call rfl rfl (awake_ok) rfl) ?_
  refine dl_r (sem_assign rfl rfl) ?_
  refine dl_end ?_
  refine dw_ret ?_
  -- path 
  exact ⟨.inr rfl, (resL_tmp rfl resL_nil)⟩
theorem lwAt_D {d e : Rat} (hd : Rz 3 d) (he : Rz 3 e) {x y : Int} (g0 : -9223372036854775808 ≤ x) (g1 : x ≤ 9223372036854775807) (g2 : -9223372036854775808 ≤ y) (g3 : y ≤ 9223372036854775807) {a1 b1 a2 b2 c : Rat} (ha1 : Rz 3 a1) (hb1 : Rz 3 b1) (ha2 : Rz 3 a2) (hb2 : Rz 3 b2) (hc : Rz 3 c) (v1 : vPt b1 b2 c = true)  (h1 : b1 = 0 ∧ b2 = 0) : Ok Tryz.prog 8 [.a (cR d ++ cR e), .a ([.i .i64 x] ++ [.i .i64 y]), .a (cR a1 ++ cR b1 ++ cR a2 ++ cR b2 ++ cR c)] [.c (.b true)] := by
  have ka1 : Rz 300 a1 := ha1.mono (by decide)
  have kb1 : Rz 300 b1 := hb1.mono (by decide)
  have ka2 : Rz 300 a2 := ha2.mono (by decide)
  have kb2 : Rz 300 b2 := hb2.mono (by decide)
  have kc : Rz 300 c := hc.mono (by decide)
  have kd : Rz 300 d := hd.mono (by decide)
  have ke : Rz 300 e := he.mono (by decide)
  have k0 : Rz 300 (0 : Rat) := Rz.zero (by decide)
  have k1 : Rz 300 ((x : Int) : Rat) := Rz.int (Sz.small (by decide) (by omega) (by omega)) (by decide)
  have k2 : Rz 300 ((y : Int) : Rat) := Rz.int (Sz.small (by decide) (by omega) (by omega)) (by decide)
  refine Ok.of (by kernel_rfl) Tryz.func8 rfl rfl ?_
  rw [show Tryz.f8.ntmps = 73 from rfl, show Tryz.f8.results.toList = [.tmp 6] from rfl]
  refine dw_seq ?_
  -- region 0
  refine dw_region (by kernel_rfl) ?_
  refine dl_new (sem_box_a rfl rfl) rfl ?_
  refine dl_new (sem_box_a rfl rfl) rfl ?_
  refine dl_new (sem_box_a rfl rfl) rfl ?_
  refine dl_r (sem_assign rfl rfl) ?_
  refine dl_end ?_
  refine dw_seq ?_
  refine dw_seq ?_
  -- region 1
  refine dw_region (by kernel_rfl) ?_
  refine dl_r (sem_call rfl rfl (awake_ok) rfl) ?_
  refine dl_r (sem_not rfl rfl) ?_
  refine dl_r (sem_move rfl rfl) ?_
  refine dl_r (sem_load (us := (cR d ++ cR e)) ty42 rfl rfl rfl rfl rfl) ?_
  refine dl_r (sem_call rfl rfl (lwSmallVec_R (by assumption) (by assumption)) rfl) ?_
  refine dl_r (sem_not rfl rfl) ?_
  refine dl_r (sem_pick rfl rfl rfl rfl) ?_
  refine dl_r (sem_move rfl rfl) ?_
  refine dl_r (sem_load (us := (cR a1 ++ cR b1 ++ cR a2 ++ cR b2 ++ cR c)) ty32 rfl rfl rfl rfl rfl) ?_
  refine dl_r (sem_slit_D (n := 1) (us := (cR a1 ++ cR b1 ++ cR a2 ++ cR b2 ++ cR c)) el82 rfl rfl rfl (by decide) (by decide) rfl) ?_
  refine dl_r (sem_call rfl rfl (sm1_true (by assumption) (by assumption) (by assumption) (by assumption) (by assumption) v1) rfl) ?_
  refine dl_r (sem_not rfl rfl) ?_
  refine dl_r (sem_pick rfl rfl rfl rfl) ?_
  refine dl_end ?_
  refine dw_false rfl ?_
  refine dw_skip ?_
  refine dw_seq ?_
  refine dw_seq ?_
  -- region 3
  refine dw_draw 14 [] follows_mixed (by kernel_rfl) rfl rfl ?_
  refine dq_r (sem_load (us := (cR d ++ cR e)) ty42 rfl rfl rfl rfl rfl) ?_
  refine dq_r (sem_call rfl rfl (ptAt_ok) rfl) ?_
  refine dq_r (sem_load (us := (cR d ++ cR e)) ty42 rfl rfl rfl rfl rfl) ?_
  refine dq_r (sem_call rfl rfl (rpAt_ok) rfl) ?_
  refine dq_r (sem_call rfl rfl (rcastb (rpSame_ok (by assumption) (by assumption) (by assumption) (by assumption) (by assumption) (by assumption) (by assumption) (by assumption) (by assumption) (by assumption)) (psame_refl _ _ _ _ _)) rfl) ?_
  refine dq_r (sem_not rfl rfl) ?_
  refine dq_r (sem_move rfl rfl) ?_
  refine dq_r (sem_load (us := ([.i .i64 x] ++ [.i .i64 y])) ty60 rfl rfl rfl rfl rfl) ?_
  refine dq_r (sem_call rfl rfl (ptOfGrid_ok (by omega) (by omega) (by omega) (by omega)) rfl) ?_
  refine dq_r (sem_load (us := ([.i .i64 x] ++ [.i .i64 y])) ty60 rfl rfl rfl rfl rfl) ?_
  refine dq_r (sem_call rfl rfl (rpOfGrid_ok (by omega) (by omega) (by omega) (by omega)) rfl) ?_
  refine dq_r (sem_call rfl rfl (rcastb (rpSame_ok (by assumption) (by assumption) (by assumption) (by assumption) (by assumption) (by assumption) (by assumption) (by assumption) (by assumption) (by assumption)) (psame_refl _ _ _ _ _)) rfl) ?_
  refine dq_r (sem_not rfl rfl) ?_
  refine dq_r (sem_pick rfl rfl rfl rfl) ?_
  refine dq_end ?_
  refine dl_start0 ?_
  refine dl_end ?_
  refine dw_false rfl ?_
  refine dw_skip ?_
  refine dw_seq ?_
  -- region 5
  refine dw_region (by kernel_rfl) ?_
  refine dl_r (sem_load (us := (cR d ++ cR e)) ty42 rfl rfl rfl rfl rfl) ?_
  refine dl_r (sem_call rfl rfl (ptAt_ok) rfl) ?_
  refine dl_r (sem_call rfl rfl (ptRational_ok rfl rfl) rfl) ?_
  refine dl_r (sem_move rfl rfl) ?_
  refine dl_r (sem_extract rfl rfl rfl) ?_
  refine dl_r (sem_extract rfl rfl rfl) ?_
  refine dl_new (sem_alloc zc42 rfl) rfl ?_
  refine dl_st (sem_store_a ty42 rfl rfl rfl rfl rfl rfl) ?_
  refine dl_r (sem_assign rfl rfl) ?_
  refine dl_end ?_
  refine dw_seq ?_
  -- region 6
  refine dw_region (by kernel_rfl) ?_
  refine dl_r (sem_load (us := (cR a1 ++ cR b1 ++ cR a2 ++ cR b2 ++ cR c)) ty32 rfl rfl rfl rfl rfl) ?_
  refine dl_r (sem_call rfl rfl (ptRational_ok h1.1 h1.2) rfl) ?_
  refine dl_r (sem_move rfl rfl) ?_
  refine dl_r (sem_extract rfl rfl rfl) ?_
  refine dl_r (sem_extract rfl rfl rfl) ?_
  refine dl_new (sem_alloc zc42 rfl) rfl ?_
  refine dl_st (sem_store_a ty42 rfl rfl rfl rfl rfl rfl) ?_
  refine dl_r (sem_assign rfl rfl) ?_
  refine dl_end ?_
  refine dw_seq ?_
  -- region 7
  refine dw_region (by kernel_rfl) ?_
  refine dl_r (sem_load (us := (cR a1 ++ cR b1 ++ cR a2 ++ cR b2 ++ cR c)) ty32 rfl rfl rfl rfl rfl) ?_
  refine dl_r (sem_call rfl rfl (rpRational_ok h1.1 h1.2) rfl) ?_
  refine dl_r (sem_move rfl rfl) ?_
  refine dl_r (sem_extract rfl rfl rfl) ?_
  refine dl_r (sem_extract rfl rfl rfl) ?_
  refine dl_new (sem_alloc zc42 rfl) rfl ?_
  refine dl_st (sem_store_a ty42 rfl rfl rfl rfl rfl rfl) ?_
  refine dl_r (sem_assign rfl rfl) ?_
  refine dl_end ?_
  refine dw_seq ?_
  -- region 8
  refine dw_region (by kernel_rfl) ?_
  refine dl_r (sem_move rfl rfl) ?_
  refine dl_r (sem_move rfl rfl) ?_
  refine dl_r (sem_load (us := (cR d ++ cR e)) ty42 rfl rfl rfl rfl rfl) ?_
  refine dl_r (sem_load (us := (cR d ++ cR e)) ty42 rfl rfl rfl rfl rfl) ?_
  refine dl_r (sem_call rfl rfl (rcastb (rpSameVec_ok (by assumption) (by assumption) (by assumption) (by assumption)) (vsame_refl _ _)) rfl) ?_
  refine dl_r (sem_pick rfl rfl rfl rfl) ?_
  refine dl_r (sem_move rfl rfl) ?_
  refine dl_r (sem_move rfl rfl) ?_
  refine dl_r (sem_move rfl rfl) ?_
  refine dl_r (sem_beql rfl rfl ty_bool rfl) ?_
  refine dl_r (sem_pick rfl rfl rfl rfl) ?_
  refine dl_r (sem_move rfl rfl) ?_
  refine dl_r (sem_load (us := (cR a1 ++ cR a2)) ty42 rfl rfl rfl rfl rfl) ?_
  refine dl_r (sem_load (us := (cR a1 ++ cR a2)) ty42 rfl rfl rfl rfl rfl) ?_
  refine dl_r (sem_call rfl rfl (rcastb (rpSameVec_ok (by assumption) (by assumption) (by assumption) (by assumption)) (vsame_refl _ _)) rfl) ?_
  refine dl_r (sem_pick rfl rfl rfl rfl) ?_
  refine dl_r (sem_assign rfl rfl) ?_
  refine dl_end ?_
  refine dw_ret ?_
  -- path 
  exact ⟨.inr rfl, (resL_tmp rfl resL_nil)⟩
theorem lwAt_E {d e : Rat} (hd : Rz 3 d) (he : Rz 3 e) {x y : Int} (g0 : -9223372036854775808 ≤ x) (g1 : x ≤ 9223372036854775807) (g2 : -9223372036854775808 ≤ y) (g3 : y ≤ 9223372036854775807) {a1 b1 a2 b2 c : Rat} (ha1 : Rz 3 a1) (hb1 : Rz 3 b1) (ha2 : Rz 3 a2) (hb2 : Rz 3 b2) (hc : Rz 3 c) (v1 : vPt b1 b2 c = true)  (h1 : ¬ (b1 = 0 ∧ b2 = 0)) : Ok Tryz.prog 8 [.a (cR d ++ cR e), .a ([.i .i64 x] ++ [.i .i64 y]), .a (cR a1 ++ cR b1 ++ cR a2 ++ cR b2 ++ cR c)] [.c (.b true)] := by
  have ka1 : Rz 300 a1 := ha1.mono (by decide)
  have kb1 : Rz 300 b1 := hb1.mono (by decide)
  have ka2 : Rz 300 a2 := ha2.mono (by decide)
  have kb2 : Rz 300 b2 := hb2.mono (by decide)
  have kc : Rz 300 c := hc.mono (by decide)
  have kd : Rz 300 d := hd.mono (by decide)
  have ke : Rz 300 e := he.mono (by decide)
  have k0 : Rz 300 (0 : Rat) := Rz.zero (by decide)
  have k1 : Rz 300 ((x : Int) : Rat) := Rz.int (Sz.small (by decide) (by omega) (by omega)) (by decide)
  have k2 : Rz 300 ((y : Int) : Rat) := Rz.int (Sz.small (by decide) (by omega) (by omega)) (by decide)
  refine Ok.of (by kernel_rfl) Tryz.func8 rfl rfl ?_
  rw [show Tryz.f8.ntmps = 73 from rfl, show Tryz.f8.results.toList = [.tmp 6] from rfl]
  refine dw_seq ?_
  -- region 0
  refine dw_region (by kernel_rfl) ?_
  refine dl_new (sem_box_a rfl rfl) rfl ?_
  refine dl_new (sem_box_a rfl rfl) rfl ?_
  refine dl_new (sem_box_a rfl rfl) rfl ?_
  refine dl_r (sem_assign rfl rfl) ?_
  refine dl_end ?_
  refine dw_seq ?_
  refine dw_seq ?_
  -- region 1
  refine dw_region (by kernel_rfl) ?_
  refine dl_r (sem_call rfl rfl (awake_ok) rfl) ?_
  refine dl_r (sem_not rfl rfl) ?_
  refine dl_r (sem_move rfl rfl) ?_
  refine dl_r (sem_load (us := (cR d ++ cR e)) ty42 rfl rfl rfl rfl rfl) ?_
  refine dl_r (sem_call rfl rfl (lwSmallVec_R (by assumption) (by assumption)) rfl) ?_
  refine dl_r (sem_not rfl rfl) ?_
  refine dl_r (sem_pick rfl rfl rfl rfl) ?_
  refine dl_r (sem_move rfl rfl) ?_
  refine dl_r (sem_load (us := (cR a1 ++ cR b1 ++ cR a2 ++ cR b2 ++ cR c)) ty32 rfl rfl rfl rfl rfl) ?_
  refine dl_r (sem_slit_D (n := 1) (us := (cR a1 ++ cR b1 ++ cR a2 ++ cR b2 ++ cR c)) el82 rfl rfl rfl (by decide) (by decide) rfl) ?_
  refine dl_r (sem_call rfl rfl (sm1_true (by assumption) (by assumption) (by assumption) (by assumption) (by assumption) v1) rfl) ?_
  refine dl_r (sem_not rfl rfl) ?_
  refine dl_r (sem_pick rfl rfl rfl rfl) ?_
  refine dl_end ?_
  refine dw_false rfl ?_
  refine dw_skip ?_
  refine dw_seq ?_
  refine dw_seq ?_
  -- region 3
  refine dw_draw 14 [] follows_mixed (by kernel_rfl) rfl rfl ?_
  refine dq_r (sem_load (us := (cR d ++ cR e)) ty42 rfl rfl rfl rfl rfl) ?_
  refine dq_r (sem_call rfl rfl (ptAt_ok) rfl) ?_
  refine dq_r (sem_load (us := (cR d ++ cR e)) ty42 rfl rfl rfl rfl rfl) ?_
  refine dq_r (sem_call rfl rfl (rpAt_ok) rfl) ?_
  refine dq_r (sem_call rfl rfl (rcastb (rpSame_ok (by assumption) (by assumption) (by assumption) (by assumption) (by assumption) (by assumption) (by assumption) (by assumption) (by assumption) (by assumption)) (psame_refl _ _ _ _ _)) rfl) ?_
  refine dq_r (sem_not rfl rfl) ?_
  refine dq_r (sem_move rfl rfl) ?_
  refine dq_r (sem_load (us := ([.i .i64 x] ++ [.i .i64 y])) ty60 rfl rfl rfl rfl rfl) ?_
  refine dq_r (sem_call rfl rfl (ptOfGrid_ok (by omega) (by omega) (by omega) (by omega)) rfl) ?_
  refine dq_r (sem_load (us := ([.i .i64 x] ++ [.i .i64 y])) ty60 rfl rfl rfl rfl rfl) ?_
  refine dq_r (sem_call rfl rfl (rpOfGrid_ok (by omega) (by omega) (by omega) (by omega)) rfl) ?_
  refine dq_r (sem_call rfl rfl (rcastb (rpSame_ok (by assumption) (by assumption) (by assumption) (by assumption) (by assumption) (by assumption) (by assumption) (by assumption) (by assumption) (by assumption)) (psame_refl _ _ _ _ _)) rfl) ?_
  refine dq_r (sem_not rfl rfl) ?_
  refine dq_r (sem_pick rfl rfl rfl rfl) ?_
  refine dq_end ?_
  refine dl_start0 ?_
  refine dl_end ?_
  refine dw_false rfl ?_
  refine dw_skip ?_
  refine dw_seq ?_
  -- region 5
  refine dw_region (by kernel_rfl) ?_
  refine dl_r (sem_load (us := (cR d ++ cR e)) ty42 rfl rfl rfl rfl rfl) ?_
  refine dl_r (sem_call rfl rfl (ptAt_ok) rfl) ?_
  refine dl_r (sem_call rfl rfl (ptRational_ok rfl rfl) rfl) ?_
  refine dl_r (sem_move rfl rfl) ?_
  refine dl_r (sem_extract rfl rfl rfl) ?_
  refine dl_r (sem_extract rfl rfl rfl) ?_
  refine dl_new (sem_alloc zc42 rfl) rfl ?_
  refine dl_st (sem_store_a ty42 rfl rfl rfl rfl rfl rfl) ?_
  refine dl_r (sem_assign rfl rfl) ?_
  refine dl_end ?_
  refine dw_seq ?_
  -- region 6
  refine dw_region (by kernel_rfl) ?_
  refine dl_r (sem_load (us := (cR a1 ++ cR b1 ++ cR a2 ++ cR b2 ++ cR c)) ty32 rfl rfl rfl rfl rfl) ?_
  refine dl_r (sem_call rfl rfl (ptRational_bad h1) rfl) ?_
  refine dl_r (sem_move rfl rfl) ?_
  refine dl_r (sem_extract rfl rfl rfl) ?_
  refine dl_r (sem_extract rfl rfl rfl) ?_
  refine dl_new (sem_alloc zc42 rfl) rfl ?_
  refine dl_st (sem_store_a ty42 rfl rfl rfl rfl rfl rfl) ?_
  refine dl_r (sem_assign rfl rfl) ?_
  refine dl_end ?_
  refine dw_seq ?_
  -- region 7
  refine dw_region (by kernel_rfl) ?_
  refine dl_r (sem_load (us := (cR a1 ++ cR b1 ++ cR a2 ++ cR b2 ++ cR c)) ty32 rfl rfl rfl rfl rfl) ?_
  refine dl_r (sem_call rfl rfl (rpRational_bad h1) rfl) ?_
  refine dl_r (sem_move rfl rfl) ?_
  refine dl_r (sem_extract rfl rfl rfl) ?_
  refine dl_r (sem_extract rfl rfl rfl) ?_
  refine dl_new (sem_alloc zc42 rfl) rfl ?_
  refine dl_st (sem_store_a ty42 rfl rfl rfl rfl rfl rfl) ?_
  refine dl_r (sem_assign rfl rfl) ?_
  refine dl_end ?_
  refine dw_seq ?_
  -- region 8
  refine dw_region (by kernel_rfl) ?_
  refine dl_r (sem_move rfl rfl) ?_
  refine dl_r (sem_move rfl rfl) ?_
  refine dl_r (sem_load (us := (cR d ++ cR e)) ty42 rfl rfl rfl rfl rfl) ?_
  refine dl_r (sem_load (us := (cR d ++ cR e)) ty42 rfl rfl rfl rfl rfl) ?_
  refine dl_r (sem_call rfl rfl (rcastb (rpSameVec_ok (by assumption) (by assumption) (by assumption) (by assumption)) (vsame_refl _ _)) rfl) ?_
  refine dl_r (sem_pick rfl rfl rfl rfl) ?_
  refine dl_r (sem_move rfl rfl) ?_
  refine dl_r (sem_move rfl rfl) ?_
  refine dl_r (sem_move rfl rfl) ?_
  refine dl_r (sem_beql rfl rfl ty_bool rfl) ?_
  refine dl_r (sem_pick rfl rfl rfl rfl) ?_
  refine dl_r (sem_move rfl rfl) ?_
  refine dl_r (sem_load (us := zV) ty42 rfl rfl rfl rfl rfl) ?_
  refine dl_r (sem_load (us := zV) ty42 rfl rfl rfl rfl rfl) ?_
  refine dl_r (sem_call rfl rfl (rpSameVec0) rfl) ?_
  refine dl_r (sem_pick rfl rfl rfl rfl) ?_
  refine dl_r (sem_assign rfl rfl) ?_
  refine dl_end ?_
  refine dw_ret ?_
  -- path 
  exact ⟨.inr rfl, (resL_tmp rfl resL_nil)⟩
end Go.Proofs.YthpalcfhhicmgaaGreat
/- Data: a bool known by a proof. -/
namespace Go.Proofs.YthpalcfhhicmgaaGreat
open Go Go.RowKit
theorem sem_castb {P : Program} {ops : Array Oper} {o : Oper} {T : TF} {B : BF} {b c : Bool} (h : Sem P ops o T B (.r (.v (.c (.b b))))) (e : b = c) : Sem P ops o T B (.r (.v (.c (.b c)))) := by subst e; exact h
end Go.Proofs.YthpalcfhhicmgaaGreat
/- root.Floor, point.Near, PointNear: the law at all readings. -/
namespace Go.Proofs.YthpalcfhhicmgaaGreat
open Go Go.RowKit
theorem rcast1l {P : Program} {f : FuncId} {ds rs : List D0} {x x' : Rat} (h : Ok P f ds (dR x :: rs)) (e : x = x') : Ok P f ds (dR x' :: rs) := by subst e; exact h
theorem dv1 (n : Int) : Rat.divInt n 1 = (n : Rat) := by rw [Rat.divInt_eq_div]; have : ((1 : Int) : Rat) = 1 := rfl; rw [this]; grind
theorem nrR_sz {a b c u : Rat} (ha : Rz 3 a) (hb : Rz 3 b) (hc : Rz 3 c) (hu : Rz 3 u) (u0 : 0 < u) : Rz 34 (nrR a b c u) := by
  have z0 : u ≠ 0 := by grind
  have kk : Rz 4 (1 / u) := (Rz.div (k := 1) (rz_l (by decide +kernel)) hu z0).mono (by decide)
  have fs : Sz 26 (flR (a * (1 / u)) (b * (1 / u)) (zc (b * (1 / u)) c)) := flR_sz (ha.mul kk) (hb.mul kk) (Rz.zc hc (by decide))
  unfold nrR
  exact ((Rz.int fs (by decide)).mul hu).mono (by decide)
theorem zc_val {b b1 b2 c : Rat} (h : vPt b1 b2 c = true) (hb : b ≠ 0 → ¬ (b1 = 0 ∧ b2 = 0)) : b ≠ 0 → 0 < zc b c ∧ sqR (zc b c) = false := by
  intro h0
  rw [zc_f h0]
  unfold vPt at h
  rw [if_neg (hb h0), Bool.and_eq_true] at h
  exact ⟨of_decide_eq_true h.1, by simpa using h.2⟩
theorem zc_val1 {b1 b2 c : Rat} (h : vPt b1 b2 c = true) : b1 ≠ 0 → 0 < zc b1 c ∧ sqR (zc b1 c) = false := zc_val h (fun g e => g e.1)
theorem zc_val2 {b1 b2 c : Rat} (h : vPt b1 b2 c = true) : b2 ≠ 0 → 0 < zc b2 c ∧ sqR (zc b2 c) = false := zc_val h (fun g e => g e.2)
theorem rtZero_ok  : Ok Tryz.prog 170 [] [dR 0] := by
  refine Ok.of (by kernel_rfl) Tryz.func170 rfl rfl ?_
  rw [show Tryz.f170.ntmps = 2 from rfl, show Tryz.f170.results.toList = [.cell 0 26] from rfl]
  refine dw_seq ?_
  -- region 0
  refine dw_region (by kernel_rfl) ?_
  refine dl_new (sem_alloc zc26 rfl) rfl ?_
  refine dl_end ?_
  refine dw_seq ?_
  -- region 1
  refine dw_region (by kernel_rfl) ?_
  refine dl_r (sem_call rfl rfl (pFrom_ok (by omega) (by omega)) rfl) ?_
  refine dl_st (sem_store_a ty26 rfl rfl rfl rfl rfl rfl) ?_
  refine dl_end ?_
  refine dw_ret ?_
  -- path 
  rw [z_int]
  exact ⟨.inr rfl, (resL_cell (us := cR (((0 : Int) : Rat))) ty26 rfl rfl rfl rfl resL_nil)⟩
theorem rtReduced_ok {a b c : Rat} : Ok Tryz.prog 157 [dR a, dR b, dR c] [.a (cR a ++ cR b ++ cR (zc b c))] := by
  refine Ok.of (by kernel_rfl) Tryz.func157 rfl rfl ?_
  rw [show Tryz.f157.ntmps = 15 from rfl, show Tryz.f157.results.toList = [.cell 6 28] from rfl]
  refine dw_seq ?_
  -- region 0
  refine dw_region (by kernel_rfl) ?_
  refine dl_new (sem_box_a rfl rfl) rfl ?_
  refine dl_new (sem_box_a rfl rfl) rfl ?_
  refine dl_new (sem_box_a rfl rfl) rfl ?_
  refine dl_new (sem_alloc zc28 rfl) rfl ?_
  refine dl_end ?_
  refine dw_seq ?_
  refine dw_seq ?_
  -- region 1
  refine dw_region (by kernel_rfl) ?_
  refine dl_r (sem_load (us := cR b) ty26 rfl rfl rfl rfl rfl) ?_
  refine dl_r (sem_call rfl rfl (pSign_ok) rfl) ?_
  refine dl_r (sem_cmp rfl rfl rfl rfl) ?_
  refine dl_end ?_
  refine dw_cond rfl (fun hc1 => ?_) (fun hc1 => ?_)
  · -- region 2
    refine dw_region (by kernel_rfl) ?_
    refine dl_r (sem_call rfl rfl (rtZero_ok) rfl) ?_
    refine dl_st (sem_store_a ty26 rfl rfl rfl rfl rfl rfl) ?_
    refine dl_end ?_
    refine dw_seq ?_
    -- region 3
    refine dw_region (by kernel_rfl) ?_
    refine dl_r (sem_load (us := cR a) ty26 rfl rfl rfl rfl rfl) ?_
    refine dl_r (sem_load (us := cR b) ty26 rfl rfl rfl rfl rfl) ?_
    refine dl_r (sem_load (us := cR 0) ty26 rfl rfl rfl rfl rfl) ?_
    refine dl_r (sem_build (us := (cR a ++ cR b ++ cR 0)) fs28 zc28 rfl rfl rfl) ?_
    refine dl_st (sem_store_a ty28 rfl rfl rfl rfl rfl rfl) ?_
    refine dl_end ?_
    refine dw_ret ?_
    -- path T
    rw [zc_t (r_eq hc1)]
    exact ⟨.inr rfl, (resL_cell (us := (cR a ++ cR b ++ cR 0)) ty28 rfl rfl rfl rfl resL_nil)⟩
  · refine dw_skip ?_
    refine dw_seq ?_
    -- region 3
    refine dw_region (by kernel_rfl) ?_
    refine dl_r (sem_load (us := cR a) ty26 rfl rfl rfl rfl rfl) ?_
    refine dl_r (sem_load (us := cR b) ty26 rfl rfl rfl rfl rfl) ?_
    refine dl_r (sem_load (us := cR c) ty26 rfl rfl rfl rfl rfl) ?_
    refine dl_r (sem_build (us := (cR a ++ cR b ++ cR c)) fs28 zc28 rfl rfl rfl) ?_
    refine dl_st (sem_store_a ty28 rfl rfl rfl rfl rfl rfl) ?_
    refine dl_end ?_
    refine dw_ret ?_
    -- path F
    rw [zc_f (r_ne hc1)]
    exact ⟨.inr rfl, (resL_cell (us := (cR a ++ cR b ++ cR c)) ty28 rfl rfl rfl rfl resL_nil)⟩
theorem rtScale_ok {a b c k : Rat} (ha : Rz 300 a) (hb : Rz 300 b) (hk : Rz 300 k) : Ok Tryz.prog 129 [.a (cR a ++ cR b ++ cR c), dR k] [.a (cR (a * k) ++ cR (b * k) ++ cR (zc (b * k) c))] := by
  refine Ok.of (by kernel_rfl) Tryz.func129 rfl rfl ?_
  rw [show Tryz.f129.ntmps = 16 from rfl, show Tryz.f129.results.toList = [.cell 4 28] from rfl]
  refine dw_seq ?_
  -- region 0
  refine dw_region (by kernel_rfl) ?_
  refine dl_new (sem_box_a rfl rfl) rfl ?_
  refine dl_new (sem_box_a rfl rfl) rfl ?_
  refine dl_new (sem_alloc zc28 rfl) rfl ?_
  refine dl_end ?_
  refine dw_seq ?_
  -- region 1
  refine dw_draw 11 [] follows_mixed (by kernel_rfl) rfl rfl ?_
  refine dq_r (sem_field fd28_0 rfl rfl) ?_
  refine dq_r (sem_load (us := cR a) ty26 rfl rfl rfl rfl rfl) ?_
  refine dq_r (sem_load (us := cR k) ty26 rfl rfl rfl rfl rfl) ?_
  refine dq_r (sem_call rfl rfl (pMul_ok (by first | assumption | exact Rz.mono ha (by decide)) (by first | assumption | exact Rz.mono hk (by decide))) rfl) ?_
  refine dq_r (sem_field fd28_1 rfl rfl) ?_
  refine dq_r (sem_load (us := cR b) ty26 rfl rfl rfl rfl rfl) ?_
  refine dq_r (sem_load (us := cR k) ty26 rfl rfl rfl rfl rfl) ?_
  refine dq_r (sem_call rfl rfl (pMul_ok (by first | assumption | exact Rz.mono hb (by decide)) (by first | assumption | exact Rz.mono hk (by decide))) rfl) ?_
  refine dq_r (sem_field fd28_2 rfl rfl) ?_
  refine dq_r (sem_load (us := cR c) ty26 rfl rfl rfl rfl rfl) ?_
  refine dq_r (sem_call rfl rfl (rtReduced_ok) rfl) ?_
  refine dq_end ?_
  refine dl_start0 ?_
  refine dl_st (sem_store_a ty28 rfl rfl rfl rfl rfl rfl) ?_
  refine dl_end ?_
  refine dw_ret ?_
  -- path 
  exact ⟨.inr rfl, (resL_cell (us := (cR (a * k) ++ cR (b * k) ++ cR (zc (b * k) c))) ty28 rfl rfl rfl rfl resL_nil)⟩
theorem rtFloor_ok {a b c : Rat} (ha : Rz 20 a) (hb : Rz 20 b) (hc : Rz 20 c) : Ok Tryz.prog 128 [.a (cR a ++ cR b ++ cR c)] [dI (flR a b c)] := by
  have hn : (a.den : Int) * ((b * b * c).den : Int) ≠ 0 := mul_ne (den_ne a) (den_ne (b * b * c))
  refine Ok.of (by kernel_rfl) Tryz.func128 rfl rfl ?_
  rw [show Tryz.f128.ntmps = 69 from rfl, show Tryz.f128.results.toList = [.cell 2 24] from rfl]
  refine dw_seq ?_
  -- region 0
  refine dw_region (by kernel_rfl) ?_
  refine dl_new (sem_box_a rfl rfl) rfl ?_
  refine dl_new (sem_alloc zc24 rfl) rfl ?_
  refine dl_end ?_
  refine dw_seq ?_
  refine dw_seq ?_
  -- region 1
  refine dw_region (by kernel_rfl) ?_
  refine dl_r (sem_field fd28_1 rfl rfl) ?_
  refine dl_r (sem_load (us := cR b) ty26 rfl rfl rfl rfl rfl) ?_
  refine dl_r (sem_call rfl rfl (pSign_ok) rfl) ?_
  refine dl_r (sem_cmp rfl rfl rfl rfl) ?_
  refine dl_end ?_
  refine dw_cond rfl (fun hc1 => ?_) (fun hc1 => ?_)
  · refine dw_seq ?_
    -- region 2
    refine dw_region (by kernel_rfl) ?_
    refine dl_r (sem_field fd28_0 rfl rfl) ?_
    refine dl_r (sem_load (us := cR a) ty26 rfl rfl rfl rfl rfl) ?_
    refine dl_r (sem_call rfl rfl (pFloor_ok (by first | assumption | exact Rz.mono ha (by decide))) rfl) ?_
    refine dl_st (sem_store_a ty24 rfl rfl rfl rfl rfl rfl) ?_
    refine dl_end ?_
    refine dw_ret ?_
    -- path T
    rw [flR_0 (r_eq hc1)]
    exact ⟨.inr rfl, (resL_cell (us := cI (a.num.fdiv (a.den : Int))) ty24 rfl rfl rfl rfl resL_nil)⟩
  · refine dw_skip ?_
    refine dw_seq ?_
    -- region 3
    refine dw_draw 9 [] follows_mixed (by kernel_rfl) rfl rfl ?_
    refine dq_r (sem_field fd28_1 rfl rfl) ?_
    refine dq_r (sem_load (us := cR b) ty26 rfl rfl rfl rfl rfl) ?_
    refine dq_r (sem_field fd28_1 rfl rfl) ?_
    refine dq_r (sem_load (us := cR b) ty26 rfl rfl rfl rfl rfl) ?_
    refine dq_r (sem_call rfl rfl (pMul_ok (by first | assumption | exact Rz.mono hb (by decide)) (by first | assumption | exact Rz.mono hb (by decide))) rfl) ?_
    refine dq_r (sem_field fd28_2 rfl rfl) ?_
    refine dq_r (sem_load (us := cR c) ty26 rfl rfl rfl rfl rfl) ?_
    refine dq_r (sem_call rfl rfl (pMul_ok (by first | assumption | exact Rz.mono (Rz.mul hb hb) (by decide)) (by first | assumption | exact Rz.mono hc (by decide))) rfl) ?_
    refine dq_new (sem_alloc zc26 rfl) rfl ?_
    refine dq_end ?_
    refine dl_start1 ?_
    refine dl_st (sem_store_a ty26 rfl rfl rfl rfl rfl rfl) ?_
    refine dl_end ?_
    refine dw_seq ?_
    -- region 4
    refine dw_draw 9 [4, 5] follows_mixed (by kernel_rfl) rfl rfl ?_
    refine dq_r (sem_field fd28_0 rfl rfl) ?_
    refine dq_r (sem_field fd26_1 rfl rfl) ?_
    refine dq_r (sem_load (us := cI (a.den : Int)) ty24 rfl rfl rfl rfl rfl) ?_
    refine dq_r (sem_field fd26_1 rfl rfl) ?_
    refine dq_r (sem_load (us := cI ((((b * b) * c).den : Int))) ty24 rfl rfl rfl rfl rfl) ?_
    refine dq_new (sem_alloc zc24 rfl) rfl ?_
    refine dq_new (sem_alloc zc24 rfl) rfl ?_
    refine dq_sn (sem_store_a ty24 rfl rfl rfl rfl rfl rfl) rfl rfl rfl ?_
    refine dq_sn (sem_store_a ty24 rfl rfl rfl rfl rfl rfl) rfl rfl rfl ?_
    refine dq_end ?_
    refine dl_start4 ?_
    refine dl_end ?_
    refine dw_seq ?_
    -- region 5
    refine dw_draw 9 [] follows_mixed (by kernel_rfl) rfl rfl ?_
    refine dq_r (sem_load (us := cI (a.den : Int)) ty24 rfl rfl rfl rfl rfl) ?_
    refine dq_r (sem_load (us := cI (a.den : Int)) ty24 rfl rfl rfl rfl rfl) ?_
    refine dq_r (sem_call rfl rfl (iMul_ok (by first | assumption | exact Sz.mono (Rz.d ha) (by decide)) (by first | assumption | exact Sz.mono (Rz.d ha) (by decide))) rfl) ?_
    refine dq_r (sem_field fd26_0 rfl rfl) ?_
    refine dq_r (sem_load (us := cI (((b * b) * c).num)) ty24 rfl rfl rfl rfl rfl) ?_
    refine dq_r (sem_load (us := cI ((((b * b) * c).den : Int))) ty24 rfl rfl rfl rfl rfl) ?_
    refine dq_r (sem_call rfl rfl (iMul_ok (by first | assumption | exact Sz.mono (Rz.n (Rz.mul (Rz.mul hb hb) hc)) (by decide)) (by first | assumption | exact Sz.mono (Rz.d (Rz.mul (Rz.mul hb hb) hc)) (by decide))) rfl) ?_
    refine dq_r (sem_call rfl rfl (iMul_ok (by first | assumption | exact Sz.mono (Sz.mul (Rz.d ha) (Rz.d ha)) (by decide)) (by first | assumption | exact Sz.mono (Sz.mul (Rz.n (Rz.mul (Rz.mul hb hb) hc)) (Rz.d (Rz.mul (Rz.mul hb hb) hc))) (by decide))) rfl) ?_
    refine dq_new (sem_alloc zc24 rfl) rfl ?_
    refine dq_end ?_
    refine dl_start1 ?_
    refine dl_st (sem_store_a ty24 rfl rfl rfl rfl rfl rfl) ?_
    refine dl_end ?_
    refine dw_seq ?_
    -- region 6
    refine dw_region (by kernel_rfl) ?_
    refine dl_r (sem_load (us := cI (((a.den : Int) * (a.den : Int)) * ((((b * b) * c).num) * ((((b * b) * c).den : Int))))) ty24 rfl rfl rfl rfl rfl) ?_
    refine dl_r (sem_call rfl rfl (iSqrt_ok (by first | assumption | exact Sz.mono (Sz.mul (Sz.mul (Rz.d ha) (Rz.d ha)) (Sz.mul (Rz.n (Rz.mul (Rz.mul hb hb) hc)) (Rz.d (Rz.mul (Rz.mul hb hb) hc)))) (by decide))) rfl) ?_
    refine dl_r (sem_move rfl rfl) ?_
    refine dl_r (sem_extract rfl rfl rfl) ?_
    refine dl_r (sem_extract rfl rfl rfl) ?_
    refine dl_new (sem_alloc zc24 rfl) rfl ?_
    refine dl_st (sem_store_a ty24 rfl rfl rfl rfl rfl rfl) ?_
    refine dl_r (sem_assign rfl rfl) ?_
    refine dl_end ?_
    refine dw_seq ?_
    refine dw_seq ?_
    -- region 7
    refine dw_region (by kernel_rfl) ?_
    refine dl_r (sem_field fd28_1 rfl rfl) ?_
    refine dl_r (sem_load (us := cR b) ty26 rfl rfl rfl rfl rfl) ?_
    refine dl_r (sem_call rfl rfl (pSign_ok) rfl) ?_
    refine dl_r (sem_cmp rfl rfl rfl rfl) ?_
    refine dl_end ?_
    refine dw_cond rfl (fun hc2 => ?_) (fun hc2 => ?_)
    · -- region 8
      refine dw_draw 4 [] follows_mixed (by kernel_rfl) rfl rfl ?_
      refine dq_r (sem_load (us := cI (isqI (((a.den : Int) * (a.den : Int)) * ((((b * b) * c).num) * ((((b * b) * c).den : Int)))))) ty24 rfl rfl rfl rfl rfl) ?_
      refine dq_r (sem_call rfl rfl (iFrom_ok (by omega) (by omega)) rfl) ?_
      refine dq_r (sem_call rfl rfl (iAdd_ok (by first | assumption | exact Sz.mono (Sz.isq (Sz.mul (Sz.mul (Rz.d ha) (Rz.d ha)) (Sz.mul (Rz.n (Rz.mul (Rz.mul hb hb) hc)) (Rz.d (Rz.mul (Rz.mul hb hb) hc))))) (by decide)) (by first | assumption | exact Sz.mono (Sz.small (k := 3) (by decide) (by decide) (by decide)) (by decide))) rfl) ?_
      refine dq_r (sem_call rfl rfl (iNeg_ok (by first | assumption | exact Sz.mono (Sz.addm (Sz.isq (Sz.mul (Sz.mul (Rz.d ha) (Rz.d ha)) (Sz.mul (Rz.n (Rz.mul (Rz.mul hb hb) hc)) (Rz.d (Rz.mul (Rz.mul hb hb) hc))))) (Sz.small (k := 3) (by decide) (by decide) (by decide))) (by decide))) rfl) ?_
      refine dq_end ?_
      refine dl_start0 ?_
      refine dl_st (sem_store_a ty24 rfl rfl rfl rfl rfl rfl) ?_
      refine dl_end ?_
      refine dw_seq ?_
      -- region 9
      refine dw_draw 20 [9, 10] follows_mixed (by kernel_rfl) rfl rfl ?_
      refine dq_r (sem_field fd28_0 rfl rfl) ?_
      refine dq_r (sem_field fd26_0 rfl rfl) ?_
      refine dq_r (sem_load (us := cI a.num) ty24 rfl rfl rfl rfl rfl) ?_
      refine dq_r (sem_load (us := cI ((((b * b) * c).den : Int))) ty24 rfl rfl rfl rfl rfl) ?_
      refine dq_r (sem_call rfl rfl (iMul_ok (by first | assumption | exact Sz.mono (Rz.n ha) (by decide)) (by first | assumption | exact Sz.mono (Rz.d (Rz.mul (Rz.mul hb hb) hc)) (by decide))) rfl) ?_
      refine dq_r (sem_load (us := cI (-((isqI (((a.den : Int) * (a.den : Int)) * ((((b * b) * c).num) * ((((b * b) * c).den : Int))))) + 1))) ty24 rfl rfl rfl rfl rfl) ?_
      refine dq_r (sem_call rfl rfl (iAdd_ok (by first | assumption | exact Sz.mono (Sz.mul (Rz.n ha) (Rz.d (Rz.mul (Rz.mul hb hb) hc))) (by decide)) (by first | assumption | exact Sz.mono (Sz.neg (Sz.addm (Sz.isq (Sz.mul (Sz.mul (Rz.d ha) (Rz.d ha)) (Sz.mul (Rz.n (Rz.mul (Rz.mul hb hb) hc)) (Rz.d (Rz.mul (Rz.mul hb hb) hc))))) (Sz.small (k := 3) (by decide) (by decide) (by decide)))) (by decide))) rfl) ?_
      refine dq_r (sem_load (us := cI (a.den : Int)) ty24 rfl rfl rfl rfl rfl) ?_
      refine dq_r (sem_load (us := cI ((((b * b) * c).den : Int))) ty24 rfl rfl rfl rfl rfl) ?_
      refine dq_r (sem_call rfl rfl (iMul_ok (by first | assumption | exact Sz.mono (Rz.d ha) (by decide)) (by first | assumption | exact Sz.mono (Rz.d (Rz.mul (Rz.mul hb hb) hc)) (by decide))) rfl) ?_
      refine dq_r (sem_call rfl rfl (iDivMod_ok (by first | assumption | exact Sz.mono (Sz.addm (Sz.mul (Rz.n ha) (Rz.d (Rz.mul (Rz.mul hb hb) hc))) (Sz.neg (Sz.addm (Sz.isq (Sz.mul (Sz.mul (Rz.d ha) (Rz.d ha)) (Sz.mul (Rz.n (Rz.mul (Rz.mul hb hb) hc)) (Rz.d (Rz.mul (Rz.mul hb hb) hc))))) (Sz.small (k := 3) (by decide) (by decide) (by decide))))) (by decide)) (by first | assumption | exact Sz.mono (Sz.mul (Rz.d ha) (Rz.d (Rz.mul (Rz.mul hb hb) hc))) (by decide)) (by assumption)) rfl) ?_
      refine dq_r (sem_move rfl rfl) ?_
      refine dq_r (sem_extract rfl rfl rfl) ?_
      refine dq_r (sem_extract rfl rfl rfl) ?_
      refine dq_r (sem_extract rfl rfl rfl) ?_
      refine dq_new (sem_alloc zc24 rfl) rfl ?_
      refine dq_new (sem_alloc zc24 rfl) rfl ?_
      refine dq_sn (sem_store_a ty24 rfl rfl rfl rfl rfl rfl) rfl rfl rfl ?_
      refine dq_sn (sem_store_a ty24 rfl rfl rfl rfl rfl rfl) rfl rfl rfl ?_
      refine dq_r (sem_assign rfl rfl) ?_
      refine dq_end ?_
      refine dl_start4 ?_
      refine dl_end ?_
      refine dw_seq ?_
      -- region 10
      refine dw_region (by kernel_rfl) ?_
      refine dl_r (sem_load (us := cI (((a.num * ((((b * b) * c).den : Int))) + (-((isqI (((a.den : Int) * (a.den : Int)) * ((((b * b) * c).num) * ((((b * b) * c).den : Int))))) + 1))).fdiv ((a.den : Int) * ((((b * b) * c).den : Int))))) ty24 rfl rfl rfl rfl rfl) ?_
      refine dl_st (sem_store_a ty24 rfl rfl rfl rfl rfl rfl) ?_
      refine dl_end ?_
      refine dw_ret ?_
      -- path FT
      rw [flR_n (r_ne hc1) (r_lt hc2)]
      exact ⟨.inr rfl, (resL_cell (us := cI (((a.num * ((((b * b) * c).den : Int))) + (-((isqI (((a.den : Int) * (a.den : Int)) * ((((b * b) * c).num) * ((((b * b) * c).den : Int))))) + 1))).fdiv ((a.den : Int) * ((((b * b) * c).den : Int))))) ty24 rfl rfl rfl rfl resL_nil)⟩
    · refine dw_skip ?_
      refine dw_seq ?_
      -- region 9
      refine dw_draw 20 [9, 10] follows_mixed (by kernel_rfl) rfl rfl ?_
      refine dq_r (sem_field fd28_0 rfl rfl) ?_
      refine dq_r (sem_field fd26_0 rfl rfl) ?_
      refine dq_r (sem_load (us := cI a.num) ty24 rfl rfl rfl rfl rfl) ?_
      refine dq_r (sem_load (us := cI ((((b * b) * c).den : Int))) ty24 rfl rfl rfl rfl rfl) ?_
      refine dq_r (sem_call rfl rfl (iMul_ok (by first | assumption | exact Sz.mono (Rz.n ha) (by decide)) (by first | assumption | exact Sz.mono (Rz.d (Rz.mul (Rz.mul hb hb) hc)) (by decide))) rfl) ?_
      refine dq_r (sem_load (us := cI (isqI (((a.den : Int) * (a.den : Int)) * ((((b * b) * c).num) * ((((b * b) * c).den : Int)))))) ty24 rfl rfl rfl rfl rfl) ?_
      refine dq_r (sem_call rfl rfl (iAdd_ok (by first | assumption | exact Sz.mono (Sz.mul (Rz.n ha) (Rz.d (Rz.mul (Rz.mul hb hb) hc))) (by decide)) (by first | assumption | exact Sz.mono (Sz.isq (Sz.mul (Sz.mul (Rz.d ha) (Rz.d ha)) (Sz.mul (Rz.n (Rz.mul (Rz.mul hb hb) hc)) (Rz.d (Rz.mul (Rz.mul hb hb) hc))))) (by decide))) rfl) ?_
      refine dq_r (sem_load (us := cI (a.den : Int)) ty24 rfl rfl rfl rfl rfl) ?_
      refine dq_r (sem_load (us := cI ((((b * b) * c).den : Int))) ty24 rfl rfl rfl rfl rfl) ?_
      refine dq_r (sem_call rfl rfl (iMul_ok (by first | assumption | exact Sz.mono (Rz.d ha) (by decide)) (by first | assumption | exact Sz.mono (Rz.d (Rz.mul (Rz.mul hb hb) hc)) (by decide))) rfl) ?_
      refine dq_r (sem_call rfl rfl (iDivMod_ok (by first | assumption | exact Sz.mono (Sz.addm (Sz.mul (Rz.n ha) (Rz.d (Rz.mul (Rz.mul hb hb) hc))) (Sz.isq (Sz.mul (Sz.mul (Rz.d ha) (Rz.d ha)) (Sz.mul (Rz.n (Rz.mul (Rz.mul hb hb) hc)) (Rz.d (Rz.mul (Rz.mul hb hb) hc)))))) (by decide)) (by first | assumption | exact Sz.mono (Sz.mul (Rz.d ha) (Rz.d (Rz.mul (Rz.mul hb hb) hc))) (by decide)) (by assumption)) rfl) ?_
      refine dq_r (sem_move rfl rfl) ?_
      refine dq_r (sem_extract rfl rfl rfl) ?_
      refine dq_r (sem_extract rfl rfl rfl) ?_
      refine dq_r (sem_extract rfl rfl rfl) ?_
      refine dq_new (sem_alloc zc24 rfl) rfl ?_
      refine dq_new (sem_alloc zc24 rfl) rfl ?_
      refine dq_sn (sem_store_a ty24 rfl rfl rfl rfl rfl rfl) rfl rfl rfl ?_
      refine dq_sn (sem_store_a ty24 rfl rfl rfl rfl rfl rfl) rfl rfl rfl ?_
      refine dq_r (sem_assign rfl rfl) ?_
      refine dq_end ?_
      refine dl_start4 ?_
      refine dl_end ?_
      refine dw_seq ?_
      -- region 10
      refine dw_region (by kernel_rfl) ?_
      refine dl_r (sem_load (us := cI (((a.num * ((((b * b) * c).den : Int))) + (isqI (((a.den : Int) * (a.den : Int)) * ((((b * b) * c).num) * ((((b * b) * c).den : Int)))))).fdiv ((a.den : Int) * ((((b * b) * c).den : Int))))) ty24 rfl rfl rfl rfl rfl) ?_
      refine dl_st (sem_store_a ty24 rfl rfl rfl rfl rfl rfl) ?_
      refine dl_end ?_
      refine dw_ret ?_
      -- path FF
      rw [flR_p (r_ne hc1) (r_nlt hc2)]
      exact ⟨.inr rfl, (resL_cell (us := cI (((a.num * ((((b * b) * c).den : Int))) + (isqI (((a.den : Int) * (a.den : Int)) * ((((b * b) * c).num) * ((((b * b) * c).den : Int)))))).fdiv ((a.den : Int) * ((((b * b) * c).den : Int))))) ty24 rfl rfl rfl rfl resL_nil)⟩
theorem ptnear_ok {a b c u : Rat} (ha : Rz 3 a) (hb : Rz 3 b) (hc : Rz 3 c) (hu : Rz 3 u) (u0 : 0 < u) : Ok Tryz.prog 81 [.a (cR a ++ cR b ++ cR c), dR u] [dR (nrR a b c u), .c (.i .i64 0)] := by
  have z0 : u ≠ 0 := by grind
  have o1 : Rz 300 (1 : Rat) := rz_l (by decide +kernel)
  have ku : Rz 300 u := hu.mono (by decide)
  have kk : Rz 4 (1 / u) := (Rz.div (k := 1) (rz_l (by decide +kernel)) hu z0).mono (by decide)
  have k1 : Rz 300 (1 / u) := kk.mono (by decide)
  have ka : Rz 300 a := ha.mono (by decide)
  have kb : Rz 300 b := hb.mono (by decide)
  have f1 : Rz 20 (a * (1 / u)) := (ha.mul kk).mono (by decide)
  have f2 : Rz 20 (b * (1 / u)) := (hb.mul kk).mono (by decide)
  have f3 : Rz 20 (zc (b * (1 / u)) c) := (Rz.zc hc (by decide)).mono (by decide)
  have fs : Sz 26 (flR (a * (1 / u)) (b * (1 / u)) (zc (b * (1 / u)) c)) := flR_sz (ha.mul kk) (hb.mul kk) (Rz.zc hc (by decide))
  have fz : Sz 999 (flR (a * (1 / u)) (b * (1 / u)) (zc (b * (1 / u)) c)) := fs.mono (by decide)
  have s1 : Sz 999 (1 : Int) := Sz.small (by decide) (by decide) (by decide)
  have fr : Rz 300 ((flR (a * (1 / u)) (b * (1 / u)) (zc (b * (1 / u)) c) : Int) : Rat) := (Rz.int fs (by decide)).mono (by decide)
  refine Ok.of (by kernel_rfl) Tryz.func81 rfl rfl ?_
  rw [show Tryz.f81.ntmps = 32 from rfl, show Tryz.f81.results.toList = [.cell 4 26, .tmp 5] from rfl]
  refine dw_seq ?_
  -- region 0
  refine dw_region (by kernel_rfl) ?_
  refine dl_new (sem_box_a rfl rfl) rfl ?_
  refine dl_new (sem_box_a rfl rfl) rfl ?_
  refine dl_new (sem_alloc zc26 rfl) rfl ?_
  refine dl_r (sem_assign rfl rfl) ?_
  refine dl_end ?_
  refine dw_seq ?_
  -- region 1
  refine dw_draw 9 [6] follows_mixed (by kernel_rfl) rfl rfl ?_
  refine dq_r (sem_call rfl rfl ((show Ok Tryz.prog 76 [.c (.i .i64 1)] [dR 1] from pFrom_ok (by omega) (by omega))) rfl) ?_
  refine dq_r (sem_load (us := cR u) ty26 rfl rfl rfl rfl rfl) ?_
  refine dq_r (sem_call rfl rfl (pDiv_ok o1 ku z0) rfl) ?_
  refine dq_r (sem_move rfl rfl) ?_
  refine dq_r (sem_extract rfl rfl rfl) ?_
  refine dq_r (sem_extract rfl rfl rfl) ?_
  refine dq_new (sem_alloc zc26 rfl) rfl ?_
  refine dq_sn (sem_store_a ty26 rfl rfl rfl rfl rfl rfl) rfl rfl rfl ?_
  refine dq_r (sem_assign rfl rfl) ?_
  refine dq_end ?_
  refine dl_start2 ?_
  refine dl_end ?_
  refine dw_seq ?_
  refine dw_seq ?_
  -- region 2
  refine dw_region (by kernel_rfl) ?_
  refine dl_r (sem_move rfl rfl) ?_
  refine dl_r (sem_cmp rfl rfl rfl rfl) ?_
  refine dl_end ?_
  refine dw_false rfl ?_
  refine dw_skip ?_
  refine dw_seq ?_
  -- region 4
  refine dw_region (by kernel_rfl) ?_
  refine dl_r (sem_load (us := (cR a ++ cR b ++ cR c)) ty28 rfl rfl rfl rfl rfl) ?_
  refine dl_r (sem_load (us := cR (1 / u)) ty26 rfl rfl rfl rfl rfl) ?_
  refine dl_r (sem_call rfl rfl (rtScale_ok (by assumption) (by assumption) (by assumption)) rfl) ?_
  refine dl_r (sem_call rfl rfl (rtFloor_ok f1 f2 f3) rfl) ?_
  refine dl_r (sem_call rfl rfl ((show Ok Tryz.prog 119 [.c (.i .i64 1)] [dI 1] from iFrom_ok (by decide) (by decide))) rfl) ?_
  refine dl_r (sem_call rfl rfl (rcast1l (pMake_ok fz s1 (by decide)) (dv1 _)) rfl) ?_
  refine dl_r (sem_move rfl rfl) ?_
  refine dl_r (sem_extract rfl rfl rfl) ?_
  refine dl_r (sem_extract rfl rfl rfl) ?_
  refine dl_new (sem_alloc zc26 rfl) rfl ?_
  refine dl_st (sem_store_a ty26 rfl rfl rfl rfl rfl rfl) ?_
  refine dl_r (sem_assign rfl rfl) ?_
  refine dl_end ?_
  refine dw_seq ?_
  -- region 5
  refine dw_region (by kernel_rfl) ?_
  refine dl_r (sem_load (us := cR (((flR (a * (1 / u)) (b * (1 / u)) (zc (b * (1 / u)) c) : Int) : Rat))) ty26 rfl rfl rfl rfl rfl) ?_
  refine dl_r (sem_load (us := cR u) ty26 rfl rfl rfl rfl rfl) ?_
  refine dl_r (sem_call rfl rfl (pMul_ok fr ku) rfl) ?_
  refine dl_r (sem_move rfl rfl) ?_
  refine dl_st (sem_store_a ty26 rfl rfl rfl rfl rfl rfl) ?_
  refine dl_r (sem_assign rfl rfl) ?_
  refine dl_end ?_
  refine dw_ret ?_
  -- path 
  exact ⟨.inr rfl, (resL_cell (us := cR (nrR a b c u)) ty26 rfl rfl rfl rfl (resL_tmp rfl resL_nil))⟩
theorem ptNear_ok {a1 b1 a2 b2 c : Rat} (ha1 : Rz 3 a1) (hb1 : Rz 3 b1) (ha2 : Rz 3 a2) (hb2 : Rz 3 b2) (hc : Rz 3 c) {u : Rat} (hu : Rz 3 u) (u0 : 0 < u) : Ok Tryz.prog 43 [.a (cR a1 ++ cR b1 ++ cR a2 ++ cR b2 ++ cR c), dR u] [.a (cR (nrR a1 b1 (zc b1 c) u) ++ cR (nrR a2 b2 (zc b2 c) u)), .c (.i .i64 0)] := by
  have zz1 : Rz 3 (zc b1 c) := Rz.zc hc (by decide)
  have zz2 : Rz 3 (zc b2 c) := Rz.zc hc (by decide)
  have hs : cmpR u 0 = 1 := by unfold cmpR; rw [if_neg (by grind), if_pos u0]
  refine Ok.of (by kernel_rfl) Tryz.func43 rfl rfl ?_
  rw [show Tryz.f43.ntmps = 35 from rfl, show Tryz.f43.results.toList = [.cell 4 42, .tmp 5] from rfl]
  refine dw_seq ?_
  -- region 0
  refine dw_region (by kernel_rfl) ?_
  refine dl_new (sem_box_a rfl rfl) rfl ?_
  refine dl_new (sem_box_a rfl rfl) rfl ?_
  refine dl_new (sem_alloc zc42 rfl) rfl ?_
  refine dl_r (sem_assign rfl rfl) ?_
  refine dl_end ?_
  refine dw_seq ?_
  refine dw_seq ?_
  -- region 1
  refine dw_region (by kernel_rfl) ?_
  refine dl_r (sem_load (us := cR u) ty26 rfl rfl rfl rfl rfl) ?_
  refine dl_r (sem_call rfl rfl (rcasti pSign_ok hs) rfl) ?_
  refine dl_r (sem_cmp rfl rfl rfl rfl) ?_
  refine dl_end ?_
  refine dw_false rfl ?_
  refine dw_skip ?_
  refine dw_seq ?_
  -- region 3
  refine dw_draw 10 [6] follows_mixed (by kernel_rfl) rfl rfl ?_
  refine dq_r (sem_load (us := (cR a1 ++ cR b1 ++ cR a2 ++ cR b2 ++ cR c)) ty32 rfl rfl rfl rfl rfl) ?_
  refine dq_r (sem_call rfl rfl (ptX_ok) rfl) ?_
  refine dq_r (sem_load (us := cR u) ty26 rfl rfl rfl rfl rfl) ?_
  refine dq_r (sem_call rfl rfl (ptnear_ok ha1 hb1 zz1 hu u0) rfl) ?_
  refine dq_r (sem_move rfl rfl) ?_
  refine dq_r (sem_extract rfl rfl rfl) ?_
  refine dq_r (sem_extract rfl rfl rfl) ?_
  refine dq_new (sem_alloc zc26 rfl) rfl ?_
  refine dq_sn (sem_store_a ty26 rfl rfl rfl rfl rfl rfl) rfl rfl rfl ?_
  refine dq_r (sem_assign rfl rfl) ?_
  refine dq_end ?_
  refine dl_start2 ?_
  refine dl_end ?_
  refine dw_seq ?_
  refine dw_seq ?_
  -- region 4
  refine dw_region (by kernel_rfl) ?_
  refine dl_r (sem_move rfl rfl) ?_
  refine dl_r (sem_cmp rfl rfl rfl rfl) ?_
  refine dl_end ?_
  refine dw_false rfl ?_
  refine dw_skip ?_
  refine dw_seq ?_
  -- region 6
  refine dw_draw 10 [8] follows_mixed (by kernel_rfl) rfl rfl ?_
  refine dq_r (sem_load (us := (cR a1 ++ cR b1 ++ cR a2 ++ cR b2 ++ cR c)) ty32 rfl rfl rfl rfl rfl) ?_
  refine dq_r (sem_call rfl rfl (ptY_ok) rfl) ?_
  refine dq_r (sem_load (us := cR u) ty26 rfl rfl rfl rfl rfl) ?_
  refine dq_r (sem_call rfl rfl (ptnear_ok ha2 hb2 zz2 hu u0) rfl) ?_
  refine dq_r (sem_move rfl rfl) ?_
  refine dq_r (sem_extract rfl rfl rfl) ?_
  refine dq_r (sem_extract rfl rfl rfl) ?_
  refine dq_new (sem_alloc zc26 rfl) rfl ?_
  refine dq_sn (sem_store_a ty26 rfl rfl rfl rfl rfl rfl) rfl rfl rfl ?_
  refine dq_r (sem_assign rfl rfl) ?_
  refine dq_end ?_
  refine dl_start2 ?_
  refine dl_end ?_
  refine dw_seq ?_
  -- region 7
  refine dw_region (by kernel_rfl) ?_
  refine dl_r (sem_load (us := cR (nrR a1 b1 (zc b1 c) u)) ty26 rfl rfl rfl rfl rfl) ?_
  refine dl_r (sem_load (us := cR (nrR a2 b2 (zc b2 c) u)) ty26 rfl rfl rfl rfl rfl) ?_
  refine dl_r (sem_build (us := (cR (nrR a1 b1 (zc b1 c) u) ++ cR (nrR a2 b2 (zc b2 c) u))) fs42 zc42 rfl rfl rfl) ?_
  refine dl_r (sem_move rfl rfl) ?_
  refine dl_st (sem_store_a ty42 rfl rfl rfl rfl rfl rfl) ?_
  refine dl_r (sem_assign rfl rfl) ?_
  refine dl_end ?_
  refine dw_ret ?_
  -- path 
  exact ⟨.inr rfl, (resL_cell (us := (cR (nrR a1 b1 (zc b1 c) u) ++ cR (nrR a2 b2 (zc b2 c) u))) ty42 rfl rfl rfl rfl (resL_tmp rfl resL_nil))⟩
theorem ptNear_Z {a1 b1 a2 b2 c : Rat} {u : Rat} (hs : cmpR u 0 = 0) : Ok Tryz.prog 43 [.a (cR a1 ++ cR b1 ++ cR a2 ++ cR b2 ++ cR c), dR u] [.a (zV), .c (.i .i64 1)] := by
  refine Ok.of (by kernel_rfl) Tryz.func43 rfl rfl ?_
  rw [show Tryz.f43.ntmps = 35 from rfl, show Tryz.f43.results.toList = [.cell 4 42, .tmp 5] from rfl]
  refine dw_seq ?_
  -- region 0
  refine dw_region (by kernel_rfl) ?_
  refine dl_new (sem_box_a rfl rfl) rfl ?_
  refine dl_new (sem_box_a rfl rfl) rfl ?_
  refine dl_new (sem_alloc zc42 rfl) rfl ?_
  refine dl_r (sem_assign rfl rfl) ?_
  refine dl_end ?_
  refine dw_seq ?_
  refine dw_seq ?_
  -- region 1
  refine dw_region (by kernel_rfl) ?_
  refine dl_r (sem_load (us := cR u) ty26 rfl rfl rfl rfl rfl) ?_
  refine dl_r (sem_call rfl rfl (rcasti pSign_ok hs) rfl) ?_
  refine dl_r (sem_cmp rfl rfl rfl rfl) ?_
  refine dl_end ?_
  refine dw_true rfl ?_
  refine dw_seq ?_
  -- region 2
  refine dw_region (by kernel_rfl) ?_
  refine dl_r (sem_build (us := ((([.b false] ++ [.s 0 []]) ++ ([.b false] ++ [.s 0 []])) ++ (([.b false] ++ [.s 0 []]) ++ ([.b false] ++ [.s 0 []])))) fs42 zc42 rfl rfl rfl) ?_
  refine dl_st (sem_store_a ty42 rfl rfl rfl rfl rfl rfl) ?_
  refine dl_r (sem_assign rfl rfl) ?_
  refine dl_end ?_
  refine dw_ret ?_
  -- path 
  exact ⟨.inr rfl, resL_cell (us := zV) ty42 rfl rfl rfl rfl (resL_tmp rfl resL_nil)⟩
theorem ptNear_N {a1 b1 a2 b2 c : Rat} {u : Rat} (hs : cmpR u 0 = (-1)) : Ok Tryz.prog 43 [.a (cR a1 ++ cR b1 ++ cR a2 ++ cR b2 ++ cR c), dR u] [.a (zV), .c (.i .i64 1)] := by
  refine Ok.of (by kernel_rfl) Tryz.func43 rfl rfl ?_
  rw [show Tryz.f43.ntmps = 35 from rfl, show Tryz.f43.results.toList = [.cell 4 42, .tmp 5] from rfl]
  refine dw_seq ?_
  -- region 0
  refine dw_region (by kernel_rfl) ?_
  refine dl_new (sem_box_a rfl rfl) rfl ?_
  refine dl_new (sem_box_a rfl rfl) rfl ?_
  refine dl_new (sem_alloc zc42 rfl) rfl ?_
  refine dl_r (sem_assign rfl rfl) ?_
  refine dl_end ?_
  refine dw_seq ?_
  refine dw_seq ?_
  -- region 1
  refine dw_region (by kernel_rfl) ?_
  refine dl_r (sem_load (us := cR u) ty26 rfl rfl rfl rfl rfl) ?_
  refine dl_r (sem_call rfl rfl (rcasti pSign_ok hs) rfl) ?_
  refine dl_r (sem_cmp rfl rfl rfl rfl) ?_
  refine dl_end ?_
  refine dw_true rfl ?_
  refine dw_seq ?_
  -- region 2
  refine dw_region (by kernel_rfl) ?_
  refine dl_r (sem_build (us := ((([.b false] ++ [.s 0 []]) ++ ([.b false] ++ [.s 0 []])) ++ (([.b false] ++ [.s 0 []]) ++ ([.b false] ++ [.s 0 []])))) fs42 zc42 rfl rfl rfl) ?_
  refine dl_st (sem_store_a ty42 rfl rfl rfl rfl rfl rfl) ?_
  refine dl_r (sem_assign rfl rfl) ?_
  refine dl_end ?_
  refine dw_ret ?_
  -- path 
  exact ⟨.inr rfl, resL_cell (us := zV) ty42 rfl rfl rfl rfl (resL_tmp rfl resL_nil)⟩
theorem rrCmpRat2_ok {a b c d : Rat} (ha : Rz 3 a) (hb : Rz 3 b) (hc : Rz 3 c) (hd : Rz 40 d) : Ok Tryz.prog 83 [.a (cR a ++ cR b ++ cR c), dR d] [.c (.i .i64 (s3 (a + -d) b c))] := by
  have ka : Rz 300 a := ha.mono (by decide)
  have kd : Rz 300 (-d) := hd.neg.mono (by decide)
  have m1 : Rz 50 (a + -d) := (ha.add hd.neg).mono (by decide)
  have m2 : Rz 50 b := hb.mono (by decide)
  have m3 : Rz 50 c := hc.mono (by decide)
  refine Ok.of (by kernel_rfl) Tryz.func83 rfl rfl ?_
  rw [show Tryz.f83.ntmps = 10 from rfl, show Tryz.f83.results.toList = [.tmp 4] from rfl]
  refine dw_seq ?_
  -- region 0
  refine dw_region (by kernel_rfl) ?_
  refine dl_new (sem_box_a rfl rfl) rfl ?_
  refine dl_new (sem_box_a rfl rfl) rfl ?_
  refine dl_r (sem_assign rfl rfl) ?_
  refine dl_end ?_
  refine dw_seq ?_
  -- region 1
  refine dw_draw 6 [] follows_mixed (by kernel_rfl) rfl rfl ?_
  refine dq_r (sem_load (us := (cR a ++ cR b ++ cR c)) ty28 rfl rfl rfl rfl rfl) ?_
  refine dq_r (sem_load (us := cR d) ty26 rfl rfl rfl rfl rfl) ?_
  refine dq_r (sem_call rfl rfl (sNeg_ok (by first | assumption | exact Rz.mono hd (by decide))) rfl) ?_
  refine dq_r (sem_call rfl rfl (rrAddRat_ok (by assumption) (by assumption)) rfl) ?_
  refine dq_r (sem_call rfl rfl (rrSign_ok (by assumption) (by assumption) (by assumption)) rfl) ?_
  refine dq_r (sem_assign rfl rfl) ?_
  refine dq_end ?_
  refine dl_start0 ?_
  refine dl_end ?_
  refine dw_ret ?_
  -- path 
  exact ⟨.inr rfl, (resL_tmp rfl resL_nil)⟩
theorem lwnear_ok {a b c d u : Rat} (ha : Rz 3 a) (hb : Rz 3 b) (hc : Rz 3 c) (hd : Rz 34 d) (hu : Rz 3 u) (g1 : 0 ≤ s3 (a + -(d - u)) b c) (g2 : s3 (a + -(d + u)) b c ≤ 0) : Ok Tryz.prog 45 [.a (cR a ++ cR b ++ cR c), dR d, dR u] [.c (.b true)] := by
  have kd : Rz 300 d := hd.mono (by decide)
  have ku : Rz 300 u := hu.mono (by decide)
  have w1 : Rz 40 (d - u) := (hd.sub hu).mono (by decide)
  have w2 : Rz 40 (d + u) := (hd.add hu).mono (by decide)
  refine Ok.of (by kernel_rfl) Tryz.func45 rfl rfl ?_
  rw [show Tryz.f45.ntmps = 25 from rfl, show Tryz.f45.results.toList = [.tmp 6] from rfl]
  refine dw_seq ?_
  -- region 0
  refine dw_region (by kernel_rfl) ?_
  refine dl_new (sem_box_a rfl rfl) rfl ?_
  refine dl_new (sem_box_a rfl rfl) rfl ?_
  refine dl_new (sem_box_a rfl rfl) rfl ?_
  refine dl_r (sem_assign rfl rfl) ?_
  refine dl_end ?_
  refine dw_seq ?_
  -- region 1
  refine dw_draw 19 [] follows_mixed (by kernel_rfl) rfl rfl ?_
  refine dq_r (sem_load (us := cR d) ty26 rfl rfl rfl rfl rfl) ?_
  refine dq_r (sem_call rfl rfl (sValid_R (hd.mono (by decide))) rfl) ?_
  refine dq_r (sem_move rfl rfl) ?_
  refine dq_r (sem_load (us := (cR a ++ cR b ++ cR c)) ty28 rfl rfl rfl rfl rfl) ?_
  refine dq_r (sem_load (us := cR d) ty26 rfl rfl rfl rfl rfl) ?_
  refine dq_r (sem_load (us := cR u) ty26 rfl rfl rfl rfl rfl) ?_
  refine dq_r (sem_call rfl rfl (sSub_ok (by first | assumption | exact Rz.mono hd (by decide)) (by first | assumption | exact Rz.mono hu (by decide))) rfl) ?_
  refine dq_r (sem_call rfl rfl (rrCmpRat2_ok (by assumption) (by assumption) (by assumption) (by assumption)) rfl) ?_
  refine dq_r (sem_castb (sem_cmp rfl rfl rfl rfl) (decide_eq_true g1)) ?_
  refine dq_r (sem_pick rfl rfl rfl rfl) ?_
  refine dq_r (sem_move rfl rfl) ?_
  refine dq_r (sem_load (us := (cR a ++ cR b ++ cR c)) ty28 rfl rfl rfl rfl rfl) ?_
  refine dq_r (sem_load (us := cR d) ty26 rfl rfl rfl rfl rfl) ?_
  refine dq_r (sem_load (us := cR u) ty26 rfl rfl rfl rfl rfl) ?_
  refine dq_r (sem_call rfl rfl (sAdd_ok (by first | assumption | exact Rz.mono hd (by decide)) (by first | assumption | exact Rz.mono hu (by decide))) rfl) ?_
  refine dq_r (sem_call rfl rfl (rrCmpRat2_ok (by assumption) (by assumption) (by assumption) (by assumption)) rfl) ?_
  refine dq_r (sem_castb (sem_cmp rfl rfl rfl rfl) (decide_eq_true g2)) ?_
  refine dq_r (sem_pick rfl rfl rfl rfl) ?_
  refine dq_r (sem_assign rfl rfl) ?_
  refine dq_end ?_
  refine dl_start0 ?_
  refine dl_end ?_
  refine dw_ret ?_
  -- path 
  exact ⟨.inr rfl, (resL_tmp rfl resL_nil)⟩
theorem lwNe_A {x1 x2 x3 x4 x5 : RN} (wx1 : x1.Wf) (wx2 : x2.Wf) (wx3 : x3.Wf) (wx4 : x4.Wf) (wx5 : x5.Wf) (hv : (x1.s 3 && (x2.s 3 && (x3.s 3 && (x4.s 3 && x5.s 3)))) = false) {v : RN} : Ok Tryz.prog 10 [.a (cN x1 ++ cN x2 ++ cN x3 ++ cN x4 ++ cN x5), .a (cN v)] [.c (.b true)] := by
  refine Ok.of (by kernel_rfl) Tryz.func10 rfl rfl ?_
  rw [show Tryz.f10.ntmps = 64 from rfl, show Tryz.f10.results.toList = [.tmp 4] from rfl]
  refine dw_seq ?_
  -- region 0
  refine dw_region (by kernel_rfl) ?_
  refine dl_new (sem_box_a rfl rfl) rfl ?_
  refine dl_new (sem_box_a rfl rfl) rfl ?_
  refine dl_r (sem_assign rfl rfl) ?_
  refine dl_end ?_
  refine dw_seq ?_
  refine dw_seq ?_
  -- region 1
  refine dw_region (by kernel_rfl) ?_
  refine dl_r (sem_call rfl rfl (awake_ok) rfl) ?_
  refine dl_r (sem_not rfl rfl) ?_
  refine dl_r (sem_move rfl rfl) ?_
  refine dl_r (sem_load (us := (cN x1 ++ cN x2 ++ cN x3 ++ cN x4 ++ cN x5)) ty32 rfl rfl rfl rfl rfl) ?_
  refine dl_r (sem_slit_D (n := 1) (us := (cN x1 ++ cN x2 ++ cN x3 ++ cN x4 ++ cN x5)) el82 rfl rfl rfl (by decide) (by decide) rfl) ?_
  refine dl_r (sem_call rfl rfl (sm1_A (by assumption) (by assumption) (by assumption) (by assumption) (by assumption) hv) rfl) ?_
  refine dl_r (sem_not rfl rfl) ?_
  refine dl_r (sem_pick rfl rfl rfl rfl) ?_
  refine dl_r (sem_move rfl rfl) ?_
  refine dl_skip (sem_skip rfl) ?_
  refine dl_skip (sem_skip rfl) ?_
  refine dl_skip (sem_skip rfl) ?_
  refine dl_r (sem_pick rfl rfl rfl rfl) ?_
  refine dl_end ?_
  refine dw_true rfl ?_
  refine dw_seq ?_
  -- region 2
  refine dw_region (by kernel_rfl) ?_
  refine dl_r (sem_call rfl rfl (awake_ok) rfl) ?_
  refine dl_r (sem_assign rfl rfl) ?_
  refine dl_end ?_
  refine dw_ret ?_
  -- path 
  exact ⟨.inr rfl, (resL_tmp rfl resL_nil)⟩
theorem lwNe_B {a1 b1 a2 b2 c : Rat} (ha1 : Rz 3 a1) (hb1 : Rz 3 b1) (ha2 : Rz 3 a2) (hb2 : Rz 3 b2) (hc : Rz 3 c) (v1 : vPt b1 b2 c = false) {v : RN} : Ok Tryz.prog 10 [.a (cR a1 ++ cR b1 ++ cR a2 ++ cR b2 ++ cR c), .a (cN v)] [.c (.b true)] := by
  refine Ok.of (by kernel_rfl) Tryz.func10 rfl rfl ?_
  rw [show Tryz.f10.ntmps = 64 from rfl, show Tryz.f10.results.toList = [.tmp 4] from rfl]
  refine dw_seq ?_
  -- region 0
  refine dw_region (by kernel_rfl) ?_
  refine dl_new (sem_box_a rfl rfl) rfl ?_
  refine dl_new (sem_box_a rfl rfl) rfl ?_
  refine dl_r (sem_assign rfl rfl) ?_
  refine dl_end ?_
  refine dw_seq ?_
  refine dw_seq ?_
  -- region 1
  refine dw_region (by kernel_rfl) ?_
  refine dl_r (sem_call rfl rfl (awake_ok) rfl) ?_
  refine dl_r (sem_not rfl rfl) ?_
  refine dl_r (sem_move rfl rfl) ?_
  refine dl_r (sem_load (us := (cR a1 ++ cR b1 ++ cR a2 ++ cR b2 ++ cR c)) ty32 rfl rfl rfl rfl rfl) ?_
  refine dl_r (sem_slit_D (n := 1) (us := (cR a1 ++ cR b1 ++ cR a2 ++ cR b2 ++ cR c)) el82 rfl rfl rfl (by decide) (by decide) rfl) ?_
  refine dl_r (sem_call rfl rfl (sm1_false (by assumption) (by assumption) (by assumption) (by assumption) (by assumption) v1) rfl) ?_
  refine dl_r (sem_not rfl rfl) ?_
  refine dl_r (sem_pick rfl rfl rfl rfl) ?_
  refine dl_r (sem_move rfl rfl) ?_
  refine dl_skip (sem_skip rfl) ?_
  refine dl_skip (sem_skip rfl) ?_
  refine dl_skip (sem_skip rfl) ?_
  refine dl_r (sem_pick rfl rfl rfl rfl) ?_
  refine dl_end ?_
  refine dw_true rfl ?_
  refine dw_seq ?_
  -- region 2
  refine dw_region (by kernel_rfl) ?_
  refine dl_r (sem_call rfl rfl (awake_ok) rfl) ?_
  refine dl_r (sem_assign rfl rfl) ?_
  refine dl_end ?_
  refine dw_ret ?_
  -- path 
  exact ⟨.inr rfl, (resL_tmp rfl resL_nil)⟩
theorem lwNe_C {a1 b1 a2 b2 c : Rat} (ha1 : Rz 3 a1) (hb1 : Rz 3 b1) (ha2 : Rz 3 a2) (hb2 : Rz 3 b2) (hc : Rz 3 c) (v1 : vPt b1 b2 c = true) {v : RN} (wv : v.Wf) (hw : v.s 3 = false) : Ok Tryz.prog 10 [.a (cR a1 ++ cR b1 ++ cR a2 ++ cR b2 ++ cR c), .a (cN v)] [.c (.b true)] := by
  refine Ok.of (by kernel_rfl) Tryz.func10 rfl rfl ?_
  rw [show Tryz.f10.ntmps = 64 from rfl, show Tryz.f10.results.toList = [.tmp 4] from rfl]
  refine dw_seq ?_
  -- region 0
  refine dw_region (by kernel_rfl) ?_
  refine dl_new (sem_box_a rfl rfl) rfl ?_
  refine dl_new (sem_box_a rfl rfl) rfl ?_
  refine dl_r (sem_assign rfl rfl) ?_
  refine dl_end ?_
  refine dw_seq ?_
  refine dw_seq ?_
  -- region 1
  refine dw_region (by kernel_rfl) ?_
  refine dl_r (sem_call rfl rfl (awake_ok) rfl) ?_
  refine dl_r (sem_not rfl rfl) ?_
  refine dl_r (sem_move rfl rfl) ?_
  refine dl_r (sem_load (us := (cR a1 ++ cR b1 ++ cR a2 ++ cR b2 ++ cR c)) ty32 rfl rfl rfl rfl rfl) ?_
  refine dl_r (sem_slit_D (n := 1) (us := (cR a1 ++ cR b1 ++ cR a2 ++ cR b2 ++ cR c)) el82 rfl rfl rfl (by decide) (by decide) rfl) ?_
  refine dl_r (sem_call rfl rfl (sm1_true (by assumption) (by assumption) (by assumption) (by assumption) (by assumption) v1) rfl) ?_
  refine dl_r (sem_not rfl rfl) ?_
  refine dl_r (sem_pick rfl rfl rfl rfl) ?_
  refine dl_r (sem_move rfl rfl) ?_
  refine dl_r (sem_load (us := cN v) ty26 rfl rfl rfl rfl rfl) ?_
  refine dl_r (sem_call rfl rfl (rcastb (sSmall_ok (by assumption) (by omega)) hw) rfl) ?_
  refine dl_r (sem_not rfl rfl) ?_
  refine dl_r (sem_pick rfl rfl rfl rfl) ?_
  refine dl_end ?_
  refine dw_true rfl ?_
  refine dw_seq ?_
  -- region 2
  refine dw_region (by kernel_rfl) ?_
  refine dl_r (sem_call rfl rfl (awake_ok) rfl) ?_
  refine dl_r (sem_assign rfl rfl) ?_
  refine dl_end ?_
  refine dw_ret ?_
  -- path 
  exact ⟨.inr rfl, (resL_tmp rfl resL_nil)⟩
theorem lwNe_P {a1 b1 a2 b2 c : Rat} (ha1 : Rz 3 a1) (hb1 : Rz 3 b1) (ha2 : Rz 3 a2) (hb2 : Rz 3 b2) (hc : Rz 3 c) (v1 : vPt b1 b2 c = true) {u : Rat} (hu : Rz 3 u) (u0 : 0 < u) : Ok Tryz.prog 10 [.a (cR a1 ++ cR b1 ++ cR a2 ++ cR b2 ++ cR c), dR u] [.c (.b true)] := by
  have zz1 : Rz 3 (zc b1 c) := Rz.zc hc (by decide)
  have zz2 : Rz 3 (zc b2 c) := Rz.zc hc (by decide)
  have cA := vPt_c v1
  have cz1 := zc_nn (b := b1) cA
  have cz2 := zc_nn (b := b2) cA
  have hs : cmpR u 0 = 1 := by unfold cmpR; rw [if_neg (by grind), if_pos u0]
  have hv1 := zc_val1 v1
  have hv2 := zc_val2 v1
  have dd1 := nrR_sz ha1 hb1 zz1 hu u0
  have dd2 := nrR_sz ha2 hb2 zz2 hu u0
  refine Ok.of (by kernel_rfl) Tryz.func10 rfl rfl ?_
  rw [show Tryz.f10.ntmps = 64 from rfl, show Tryz.f10.results.toList = [.tmp 4] from rfl]
  refine dw_seq ?_
  -- region 0
  refine dw_region (by kernel_rfl) ?_
  refine dl_new (sem_box_a rfl rfl) rfl ?_
  refine dl_new (sem_box_a rfl rfl) rfl ?_
  refine dl_r (sem_assign rfl rfl) ?_
  refine dl_end ?_
  refine dw_seq ?_
  refine dw_seq ?_
  -- region 1
  refine dw_region (by kernel_rfl) ?_
  refine dl_r (sem_call rfl rfl (awake_ok) rfl) ?_
  refine dl_r (sem_not rfl rfl) ?_
  refine dl_r (sem_move rfl rfl) ?_
  refine dl_r (sem_load (us := (cR a1 ++ cR b1 ++ cR a2 ++ cR b2 ++ cR c)) ty32 rfl rfl rfl rfl rfl) ?_
  refine dl_r (sem_slit_D (n := 1) (us := (cR a1 ++ cR b1 ++ cR a2 ++ cR b2 ++ cR c)) el82 rfl rfl rfl (by decide) (by decide) rfl) ?_
  refine dl_r (sem_call rfl rfl (sm1_true (by assumption) (by assumption) (by assumption) (by assumption) (by assumption) v1) rfl) ?_
  refine dl_r (sem_not rfl rfl) ?_
  refine dl_r (sem_pick rfl rfl rfl rfl) ?_
  refine dl_r (sem_move rfl rfl) ?_
  refine dl_r (sem_load (us := cR u) ty26 rfl rfl rfl rfl rfl) ?_
  refine dl_r (sem_call rfl rfl (sSmall_R (k := 3) (by assumption) (by omega)) rfl) ?_
  refine dl_r (sem_not rfl rfl) ?_
  refine dl_r (sem_pick rfl rfl rfl rfl) ?_
  refine dl_end ?_
  refine dw_false rfl ?_
  refine dw_skip ?_
  refine dw_seq ?_
  -- region 3
  refine dw_region (by kernel_rfl) ?_
  refine dl_r (sem_load (us := (cR a1 ++ cR b1 ++ cR a2 ++ cR b2 ++ cR c)) ty32 rfl rfl rfl rfl rfl) ?_
  refine dl_r (sem_load (us := cR u) ty26 rfl rfl rfl rfl rfl) ?_
  refine dl_r (sem_call rfl rfl (ptNear_ok ha1 hb1 ha2 hb2 hc hu u0) rfl) ?_
  refine dl_r (sem_move rfl rfl) ?_
  refine dl_r (sem_extract rfl rfl rfl) ?_
  refine dl_r (sem_extract rfl rfl rfl) ?_
  refine dl_new (sem_alloc zc42 rfl) rfl ?_
  refine dl_st (sem_store_a ty42 rfl rfl rfl rfl rfl rfl) ?_
  refine dl_r (sem_assign rfl rfl) ?_
  refine dl_end ?_
  refine dw_seq ?_
  refine dw_seq ?_
  -- region 4
  refine dw_region (by kernel_rfl) ?_
  refine dl_r (sem_load (us := cR u) ty26 rfl rfl rfl rfl rfl) ?_
  refine dl_r (sem_call rfl rfl (rcasti sSign_ok hs) rfl) ?_
  refine dl_r (sem_cmp rfl rfl rfl rfl) ?_
  refine dl_end ?_
  refine dw_false rfl ?_
  refine dw_skip ?_
  refine dw_seq ?_
  -- region 6
  refine dw_draw 19 [] follows_mixed (by kernel_rfl) rfl rfl ?_
  refine dq_r (sem_move rfl rfl) ?_
  refine dq_r (sem_cmp rfl rfl rfl rfl) ?_
  refine dq_r (sem_move rfl rfl) ?_
  refine dq_r (sem_load (us := (cR a1 ++ cR b1 ++ cR a2 ++ cR b2 ++ cR c)) ty32 rfl rfl rfl rfl rfl) ?_
  refine dq_r (sem_call rfl rfl (rpX_ok) rfl) ?_
  refine dq_r (sem_field fd42_0 rfl rfl) ?_
  refine dq_r (sem_load (us := cR (nrR a1 b1 (zc b1 c) u)) ty26 rfl rfl rfl rfl rfl) ?_
  refine dq_r (sem_load (us := cR u) ty26 rfl rfl rfl rfl rfl) ?_
  refine dq_r (sem_call rfl rfl (lwnear_ok ha1 hb1 zz1 dd1 hu (nr_lo cz1 hv1 u0) (nr_hi cz1 hv1 u0)) rfl) ?_
  refine dq_r (sem_pick rfl rfl rfl rfl) ?_
  refine dq_r (sem_move rfl rfl) ?_
  refine dq_r (sem_load (us := (cR a1 ++ cR b1 ++ cR a2 ++ cR b2 ++ cR c)) ty32 rfl rfl rfl rfl rfl) ?_
  refine dq_r (sem_call rfl rfl (rpY_ok) rfl) ?_
  refine dq_r (sem_field fd42_1 rfl rfl) ?_
  refine dq_r (sem_load (us := cR (nrR a2 b2 (zc b2 c) u)) ty26 rfl rfl rfl rfl rfl) ?_
  refine dq_r (sem_load (us := cR u) ty26 rfl rfl rfl rfl rfl) ?_
  refine dq_r (sem_call rfl rfl (lwnear_ok ha2 hb2 zz2 dd2 hu (nr_lo cz2 hv2 u0) (nr_hi cz2 hv2 u0)) rfl) ?_
  refine dq_r (sem_pick rfl rfl rfl rfl) ?_
  refine dq_r (sem_assign rfl rfl) ?_
  refine dq_end ?_
  refine dl_start0 ?_
  refine dl_end ?_
  refine dw_ret ?_
  -- path 
  exact ⟨.inr rfl, (resL_tmp rfl resL_nil)⟩
theorem lwNe_Z {a1 b1 a2 b2 c : Rat} (ha1 : Rz 3 a1) (hb1 : Rz 3 b1) (ha2 : Rz 3 a2) (hb2 : Rz 3 b2) (hc : Rz 3 c) (v1 : vPt b1 b2 c = true) {u : Rat} (hu : Rz 3 u) (hs : cmpR u 0 = 0) : Ok Tryz.prog 10 [.a (cR a1 ++ cR b1 ++ cR a2 ++ cR b2 ++ cR c), dR u] [.c (.b true)] := by
  refine Ok.of (by kernel_rfl) Tryz.func10 rfl rfl ?_
  rw [show Tryz.f10.ntmps = 64 from rfl, show Tryz.f10.results.toList = [.tmp 4] from rfl]
  refine dw_seq ?_
  -- region 0
  refine dw_region (by kernel_rfl) ?_
  refine dl_new (sem_box_a rfl rfl) rfl ?_
  refine dl_new (sem_box_a rfl rfl) rfl ?_
  refine dl_r (sem_assign rfl rfl) ?_
  refine dl_end ?_
  refine dw_seq ?_
  refine dw_seq ?_
  -- region 1
  refine dw_region (by kernel_rfl) ?_
  refine dl_r (sem_call rfl rfl (awake_ok) rfl) ?_
  refine dl_r (sem_not rfl rfl) ?_
  refine dl_r (sem_move rfl rfl) ?_
  refine dl_r (sem_load (us := (cR a1 ++ cR b1 ++ cR a2 ++ cR b2 ++ cR c)) ty32 rfl rfl rfl rfl rfl) ?_
  refine dl_r (sem_slit_D (n := 1) (us := (cR a1 ++ cR b1 ++ cR a2 ++ cR b2 ++ cR c)) el82 rfl rfl rfl (by decide) (by decide) rfl) ?_
  refine dl_r (sem_call rfl rfl (sm1_true (by assumption) (by assumption) (by assumption) (by assumption) (by assumption) v1) rfl) ?_
  refine dl_r (sem_not rfl rfl) ?_
  refine dl_r (sem_pick rfl rfl rfl rfl) ?_
  refine dl_r (sem_move rfl rfl) ?_
  refine dl_r (sem_load (us := cR u) ty26 rfl rfl rfl rfl rfl) ?_
  refine dl_r (sem_call rfl rfl (sSmall_R (k := 3) (by assumption) (by omega)) rfl) ?_
  refine dl_r (sem_not rfl rfl) ?_
  refine dl_r (sem_pick rfl rfl rfl rfl) ?_
  refine dl_end ?_
  refine dw_false rfl ?_
  refine dw_skip ?_
  refine dw_seq ?_
  -- region 3
  refine dw_region (by kernel_rfl) ?_
  refine dl_r (sem_load (us := (cR a1 ++ cR b1 ++ cR a2 ++ cR b2 ++ cR c)) ty32 rfl rfl rfl rfl rfl) ?_
  refine dl_r (sem_load (us := cR u) ty26 rfl rfl rfl rfl rfl) ?_
  refine dl_r (sem_call rfl rfl (ptNear_Z hs) rfl) ?_
  refine dl_r (sem_move rfl rfl) ?_
  refine dl_r (sem_extract rfl rfl rfl) ?_
  refine dl_r (sem_extract rfl rfl rfl) ?_
  refine dl_new (sem_alloc zc42 rfl) rfl ?_
  refine dl_st (sem_store_a ty42 rfl rfl rfl rfl rfl rfl) ?_
  refine dl_r (sem_assign rfl rfl) ?_
  refine dl_end ?_
  refine dw_seq ?_
  refine dw_seq ?_
  -- region 4
  refine dw_region (by kernel_rfl) ?_
  refine dl_r (sem_load (us := cR u) ty26 rfl rfl rfl rfl rfl) ?_
  refine dl_r (sem_call rfl rfl (rcasti sSign_ok hs) rfl) ?_
  refine dl_r (sem_cmp rfl rfl rfl rfl) ?_
  refine dl_end ?_
  refine dw_true rfl ?_
  refine dw_seq ?_
  -- region 5
  refine dw_region (by kernel_rfl) ?_
  refine dl_r (sem_move rfl rfl) ?_
  refine dl_r (sem_cmp rfl rfl rfl rfl) ?_
  refine dl_r (sem_move rfl rfl) ?_
  refine dl_r (sem_field fd42_0 rfl rfl) ?_
  refine dl_r (sem_field fd26_1 rfl rfl) ?_
  refine dl_r (sem_field fd24_1 rfl rfl) ?_
  refine dl_r (sem_load1 ty22 rfl rfl rfl rfl) ?_
  refine dl_r (sem_len sl22 rfl rfl) ?_
  refine dl_r (sem_field fd42_1 rfl rfl) ?_
  refine dl_r (sem_field fd26_1 rfl rfl) ?_
  refine dl_r (sem_field fd24_1 rfl rfl) ?_
  refine dl_r (sem_load1 ty22 rfl rfl rfl rfl) ?_
  refine dl_r (sem_len sl22 rfl rfl) ?_
  refine dl_r (sem_ari (r := 0) rfl rfl rfl rfl) ?_
  refine dl_r (sem_cmp rfl rfl rfl rfl) ?_
  refine dl_r (sem_pick rfl rfl rfl rfl) ?_
  refine dl_r (sem_assign rfl rfl) ?_
  refine dl_end ?_
  refine dw_ret ?_
  -- path 
  exact ⟨.inr rfl, (resL_tmp rfl resL_nil)⟩
theorem lwNe_N {a1 b1 a2 b2 c : Rat} (ha1 : Rz 3 a1) (hb1 : Rz 3 b1) (ha2 : Rz 3 a2) (hb2 : Rz 3 b2) (hc : Rz 3 c) (v1 : vPt b1 b2 c = true) {u : Rat} (hu : Rz 3 u) (hs : cmpR u 0 = (-1)) : Ok Tryz.prog 10 [.a (cR a1 ++ cR b1 ++ cR a2 ++ cR b2 ++ cR c), dR u] [.c (.b true)] := by
  refine Ok.of (by kernel_rfl) Tryz.func10 rfl rfl ?_
  rw [show Tryz.f10.ntmps = 64 from rfl, show Tryz.f10.results.toList = [.tmp 4] from rfl]
  refine dw_seq ?_
  -- region 0
  refine dw_region (by kernel_rfl) ?_
  refine dl_new (sem_box_a rfl rfl) rfl ?_
  refine dl_new (sem_box_a rfl rfl) rfl ?_
  refine dl_r (sem_assign rfl rfl) ?_
  refine dl_end ?_
  refine dw_seq ?_
  refine dw_seq ?_
  -- region 1
  refine dw_region (by kernel_rfl) ?_
  refine dl_r (sem_call rfl rfl (awake_ok) rfl) ?_
  refine dl_r (sem_not rfl rfl) ?_
  refine dl_r (sem_move rfl rfl) ?_
  refine dl_r (sem_load (us := (cR a1 ++ cR b1 ++ cR a2 ++ cR b2 ++ cR c)) ty32 rfl rfl rfl rfl rfl) ?_
  refine dl_r (sem_slit_D (n := 1) (us := (cR a1 ++ cR b1 ++ cR a2 ++ cR b2 ++ cR c)) el82 rfl rfl rfl (by decide) (by decide) rfl) ?_
  refine dl_r (sem_call rfl rfl (sm1_true (by assumption) (by assumption) (by assumption) (by assumption) (by assumption) v1) rfl) ?_
  refine dl_r (sem_not rfl rfl) ?_
  refine dl_r (sem_pick rfl rfl rfl rfl) ?_
  refine dl_r (sem_move rfl rfl) ?_
  refine dl_r (sem_load (us := cR u) ty26 rfl rfl rfl rfl rfl) ?_
  refine dl_r (sem_call rfl rfl (sSmall_R (k := 3) (by assumption) (by omega)) rfl) ?_
  refine dl_r (sem_not rfl rfl) ?_
  refine dl_r (sem_pick rfl rfl rfl rfl) ?_
  refine dl_end ?_
  refine dw_false rfl ?_
  refine dw_skip ?_
  refine dw_seq ?_
  -- region 3
  refine dw_region (by kernel_rfl) ?_
  refine dl_r (sem_load (us := (cR a1 ++ cR b1 ++ cR a2 ++ cR b2 ++ cR c)) ty32 rfl rfl rfl rfl rfl) ?_
  refine dl_r (sem_load (us := cR u) ty26 rfl rfl rfl rfl rfl) ?_
  refine dl_r (sem_call rfl rfl (ptNear_N hs) rfl) ?_
  refine dl_r (sem_move rfl rfl) ?_
  refine dl_r (sem_extract rfl rfl rfl) ?_
  refine dl_r (sem_extract rfl rfl rfl) ?_
  refine dl_new (sem_alloc zc42 rfl) rfl ?_
  refine dl_st (sem_store_a ty42 rfl rfl rfl rfl rfl rfl) ?_
  refine dl_r (sem_assign rfl rfl) ?_
  refine dl_end ?_
  refine dw_seq ?_
  refine dw_seq ?_
  -- region 4
  refine dw_region (by kernel_rfl) ?_
  refine dl_r (sem_load (us := cR u) ty26 rfl rfl rfl rfl rfl) ?_
  refine dl_r (sem_call rfl rfl (rcasti sSign_ok hs) rfl) ?_
  refine dl_r (sem_cmp rfl rfl rfl rfl) ?_
  refine dl_end ?_
  refine dw_true rfl ?_
  refine dw_seq ?_
  -- region 5
  refine dw_region (by kernel_rfl) ?_
  refine dl_r (sem_move rfl rfl) ?_
  refine dl_r (sem_cmp rfl rfl rfl rfl) ?_
  refine dl_r (sem_move rfl rfl) ?_
  refine dl_r (sem_field fd42_0 rfl rfl) ?_
  refine dl_r (sem_field fd26_1 rfl rfl) ?_
  refine dl_r (sem_field fd24_1 rfl rfl) ?_
  refine dl_r (sem_load1 ty22 rfl rfl rfl rfl) ?_
  refine dl_r (sem_len sl22 rfl rfl) ?_
  refine dl_r (sem_field fd42_1 rfl rfl) ?_
  refine dl_r (sem_field fd26_1 rfl rfl) ?_
  refine dl_r (sem_field fd24_1 rfl rfl) ?_
  refine dl_r (sem_load1 ty22 rfl rfl rfl rfl) ?_
  refine dl_r (sem_len sl22 rfl rfl) ?_
  refine dl_r (sem_ari (r := 0) rfl rfl rfl rfl) ?_
  refine dl_r (sem_cmp rfl rfl rfl rfl) ?_
  refine dl_r (sem_pick rfl rfl rfl rfl) ?_
  refine dl_r (sem_assign rfl rfl) ?_
  refine dl_end ?_
  refine dw_ret ?_
  -- path 
  exact ⟨.inr rfl, (resL_tmp rfl resL_nil)⟩
end Go.Proofs.YthpalcfhhicmgaaGreat
/- Plain: small raw points and vectors are numbers. -/
namespace Go.Proofs.YthpalcfhhicmgaaGreat
open Go Go.RowKit
theorem p3_of {x1 x2 x3 x4 x5 : RN} (w1 : x1.Wf) (w2 : x2.Wf) (w3 : x3.Wf) (w4 : x4.Wf) (w5 : x5.Wf) (h : (x1.s 3 && (x2.s 3 && (x3.s 3 && (x4.s 3 && x5.s 3)))) = true) :
    ∃ a1 b1 a2 b2 c : Rat, Rz 3 a1 ∧ Rz 3 b1 ∧ Rz 3 a2 ∧ Rz 3 b2 ∧ Rz 3 c ∧ (cN x1 ++ cN x2 ++ cN x3 ++ cN x4 ++ cN x5) = (cR a1 ++ cR b1 ++ cR a2 ++ cR b2 ++ cR c) := by
  simp only [Bool.and_eq_true] at h
  obtain ⟨a1, h1, e1⟩ := s3_of w1 h.1
  obtain ⟨b1, h2, e2⟩ := s3_of w2 h.2.1
  obtain ⟨a2, h3, e3⟩ := s3_of w3 h.2.2.1
  obtain ⟨b2, h4, e4⟩ := s3_of w4 h.2.2.2.1
  obtain ⟨c, h5, e5⟩ := s3_of w5 h.2.2.2.2
  exact ⟨a1, b1, a2, b2, c, h1, h2, h3, h4, h5, by rw [e1, e2, e3, e4, e5]⟩
theorem v3_of {v w : RN} (wv : v.Wf) (ww : w.Wf) (h : (v.s 3 && w.s 3) = true) : ∃ d e : Rat, Rz 3 d ∧ Rz 3 e ∧ (cN v ++ cN w) = (cR d ++ cR e) := by
  simp only [Bool.and_eq_true] at h
  obtain ⟨d, h1, e1⟩ := s3_of wv h.1
  obtain ⟨e, h2, e2⟩ := s3_of ww h.2
  exact ⟨d, e, h1, h2, by rw [e1, e2]⟩
end Go.Proofs.YthpalcfhhicmgaaGreat
/- PointNear: for every input the law returns true, and each argument reads behind the call as it read before. No condition. -/
namespace Go.Proofs.YthpalcfhhicmgaaGreat
open Go.ChangeShapes Go.WideShapes Go.ChangeAt Go.RowKit
theorem law_near {x1 x2 x3 x4 x5 v : RN} (w1 : x1.Wf) (w2 : x2.Wf) (w3 : x3.Wf) (w4 : x4.Wf) (w5 : x5.Wf) (wv : v.Wf) :
    Ok Tryz.prog 10 [.a (cN x1 ++ cN x2 ++ cN x3 ++ cN x4 ++ cN x5), .a (cN v)] [.c (.b true)] := by
  cases h : (x1.s 3 && (x2.s 3 && (x3.s 3 && (x4.s 3 && x5.s 3)))) with
  | false => exact lwNe_A w1 w2 w3 w4 w5 h
  | true =>
    obtain ⟨a1, b1, a2, b2, c, g1, g2, g3, g4, g5, e⟩ := p3_of w1 w2 w3 w4 w5 h
    rw [e]
    cases v1 : vPt b1 b2 c with
    | false => exact lwNe_B g1 g2 g3 g4 g5 v1
    | true =>
      cases h' : v.s 3 with
      | false => exact lwNe_C g1 g2 g3 g4 g5 v1 wv h'
      | true =>
        obtain ⟨u, hu, e2⟩ := s3_of wv h'
        rw [e2]
        have h1 := cmpR_bd u 0
        have hp : 0 < cmpR u 0 → 0 < u := by
          intro h3
          unfold cmpR at h3
          split at h3
          · omega
          · split at h3
            · assumption
            · omega
        have hc : cmpR u 0 = 1 ∨ cmpR u 0 = 0 ∨ cmpR u 0 = -1 := by omega
        rcases hc with hs | hs | hs
        · exact lwNe_P g1 g2 g3 g4 g5 v1 hu (hp (by omega))
        · exact lwNe_Z g1 g2 g3 g4 g5 v1 hu hs
        · exact lwNe_N g1 g2 g3 g4 g5 v1 hu hs
set_option maxRecDepth 100000 in
theorem near_lifted (os : Os) (started : os.Started) (H : Type) (enc : TypeId × Value → H) :
    ReturnsInHanded {} Tryz.checked os 10 .any (Rows.pointNearSpec.pre6 enc Tryz.prog Tryz.f10 Rows.pointNearRow.domain false) (Rows.pointNearSpec.post enc Tryz.prog Tryz.f10 false true false false) := by
  refine returnsInHanded_of_change (C := Tryz.checked) own started (by kernel_rfl) Tryz.func10
    (ChangeSpec.witness6 (enc := enc) (C := Tryz.checked) false ⟨#[], #[.agg (Array.replicate 10 #[Value.bool false, .slice none 0 0]).flatten, .agg (Array.replicate 2 #[Value.bool false, .slice none 0 0]).flatten], []⟩ 8 (by kernel_rfl) (by kernel_rfl) (by kernel_rfl) (by kernel_rfl)) ?_
  intro W base args ds gs before hval0 hW hcnd _
  have hval : ∀ (j : Nat) t v, Tryz.f10.params[j]? = some t → args[j]? = some v → Value.okWide Tryz.prog W .any base t v := hval0
  have hW' := hW
  obtain ⟨p, q, hA0, hV, rfl, hfz, hnd⟩ := hW
  have hA : DataW.TrodAll enc Tryz.prog W 0 (fun _ => true) true Tryz.f10.params.toList args.toList ds p := hA0
  rw [Tryz.params10] at hA hval
  obtain ⟨v0, vs0, d0, ds0, p0, q0, hargs, rfl, rfl, h0, r0⟩ := trodAll_cons hA
  obtain ⟨v1, vs1, d1, ds1, p1, q1, rfl, rfl, rfl, h1, r1⟩ := trodAll_cons r0
  obtain ⟨rfl, rfl, rfl⟩ := trodAll_nil r1
  obtain rfl : args = #[v0, v1] := by cases args; simp_all
  obtain ⟨rfl, rfl⟩ := trodVars_none hV
  obtain ⟨a0, rfl, _⟩ := okWide_struct Tryz.underlying32 (hval 0 32 v0 rfl rfl)
  have k0 := h0
  have lt0 : ∀ x ∈ p0, x.block < W.heap.size := by obtain ⟨m, hm⟩ := k0; exact DataW.trod_lt m _ _ _ hm
  obtain ⟨a1, rfl, _⟩ := okWide_struct Tryz.underlying26 (hval 1 26 v1 rfl rfl)
  have k1 := h1
  have lt1 : ∀ x ∈ p1, x.block < W.heap.size := by obtain ⟨m, hm⟩ := k1; exact DataW.trod_lt m _ _ _ hm
  obtain ⟨e00, e01, e02, e03, e04, w00, w01, w02, w03, w04, hr0⟩ := point_of (show DataW.trod enc Tryz.prog W 0 _ _ h0.choose 32 a0.toList = some _ from h0.choose_spec)
  obtain ⟨e10, w10, hr1⟩ := rat_of (show DataW.trod enc Tryz.prog W 0 _ _ h1.choose 26 a1.toList = some _ from h1.choose_spec)
  clear hA0 hval0
  refine (law_of (law_near w00 w01 w02 w03 w04 w10) (RdL.cons ⟨a0, rfl, hr0⟩ (RdL.cons ⟨a1, rfl, hr1⟩ RdL.nil))).mono fun e W' ⟨he, bel⟩ => ?_
  subst he
  exact ⟨_, rfl, _, _, _, [], _, [], hW', trodAll_mk1 (shut_bool Tryz.underlying4 _), (trodAll_cons_mk (Below.trod laidOut (by kernel_rfl) (of_decide_eq_true (by kernel_rfl)) k0 bel lt0) (trodAll_cons_mk (Below.trod laidOut (by kernel_rfl) (of_decide_eq_true (by kernel_rfl)) k1 bel lt1) trodAll_mk0)), rfl, bel.frame _, fun h => by cases h⟩
theorem near_proved : Rows.PointNearSaid :=
  OpenClaim.holds_of_wide 10 Tryz.f10 rfl rfl rfl rfl rfl rfl rfl ⟨rfl, rfl, rfl, rfl, rfl⟩ rfl rfl rfl rfl rfl (by kernel_rfl) Tryz.func10 (by kernel_rfl)
    (of_decide_eq_true (by kernel_rfl)) (by unfold Func.isWrapper; first | (rw [if_pos (by decide +kernel)]; kernel_rfl) | (rw [if_neg (by decide +kernel)]; exact ⟨rfl, rfl⟩))
    (fun os started H enc _ => near_lifted os started H enc)
end Go.Proofs.YthpalcfhhicmgaaGreat
