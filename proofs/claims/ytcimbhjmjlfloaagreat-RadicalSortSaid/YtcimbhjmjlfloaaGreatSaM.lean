/- radical.quick. -/
import Derived.Test.YtcimbhjmjlfloaaGreatSaL
namespace Go.Proofs.YtcimbhjmjlfloaaGreat
open Go Go.RowKit
theorem xQuick_ok {A B C D M N : Rat} (hA : Rz 200 A) (hB : Rz 200 B) (hC : Rz 200 C) (hD : Rz 200 D) (hM : Rz 200 M) (hN : Rz 200 N) (hm : ¬ M < 0) (hn : ¬ N < 0) : Ok Tryz.prog 34 [.a (cR A ++ cR B ++ cR C ++ cR D ++ cR M ++ cR N)] [.c (.i .i64 (qkS A B C D M N)), .c (.b (qkK A B C D M N))] := by
  refine Ok.of (by kernel_rfl) Tryz.func34 rfl rfl ?_
  rw [show Tryz.f34.ntmps = 126 from rfl, show Tryz.f34.results.toList = [.tmp 2, .tmp 3] from rfl]
  refine dw_seq ?_
  -- region 0
  refine dw_region (by kernel_rfl) ?_
  refine dl_new (sem_box_a rfl rfl) rfl ?_
  refine dl_r (sem_assign rfl rfl) ?_
  refine dl_r (sem_assign rfl rfl) ?_
  refine dl_end ?_
  refine dw_seq ?_
  -- region 1
  refine dw_region (by kernel_rfl) ?_
  refine dl_r (sem_build (us := ([.b true])) fs93 zc93 rfl rfl rfl) ?_
  refine dl_new (sem_box_a rfl rfl) rfl ?_
  refine dl_r (sem_assign rfl rfl) ?_
  refine dl_end ?_
  refine dw_seq ?_
  -- region 2
  refine dw_region (by kernel_rfl) ?_
  refine dl_r (sem_move rfl rfl) ?_
  refine dl_r (sem_move rfl rfl) ?_
  refine dl_r (sem_field fd45_4 rfl rfl) ?_
  refine dl_r (sem_load (us := cR M) ty28 rfl rfl rfl rfl rfl) ?_
  refine dl_r (sem_call rfl rfl (gFromRat_ok (by first | assumption | exact Rz.mono hM (by decide))) rfl) ?_
  refine dl_r (sem_extract rfl rfl rfl) ?_
  refine dl_r (sem_extract rfl rfl rfl) ?_
  refine dl_rs (sem_callp rfl rfl rfl rfl rfl (gWith_ok) rfl) ?_
  refine dl_r (sem_call rfl rfl (gSqrt_ok (by assumption)) rfl) ?_
  refine dl_r (sem_extract rfl rfl rfl) ?_
  refine dl_r (sem_extract rfl rfl rfl) ?_
  refine dl_rs (sem_callp rfl rfl rfl rfl rfl (gWith_ok) rfl) ?_
  refine dl_new (sem_alloc zc95 rfl) rfl ?_
  refine dl_st (sem_store_a ty95 rfl rfl rfl rfl rfl rfl) ?_
  refine dl_end ?_
  refine dw_seq ?_
  -- region 3
  refine dw_region (by kernel_rfl) ?_
  refine dl_r (sem_move rfl rfl) ?_
  refine dl_r (sem_move rfl rfl) ?_
  refine dl_r (sem_field fd45_5 rfl rfl) ?_
  refine dl_r (sem_load (us := cR N) ty28 rfl rfl rfl rfl rfl) ?_
  refine dl_r (sem_call rfl rfl (gFromRat_ok (by first | assumption | exact Rz.mono hN (by decide))) rfl) ?_
  refine dl_r (sem_extract rfl rfl rfl) ?_
  refine dl_r (sem_extract rfl rfl rfl) ?_
  refine dl_rs (sem_callp rfl rfl rfl rfl rfl (gWith_ok) rfl) ?_
  refine dl_r (sem_call rfl rfl (gSqrt_ok (by assumption)) rfl) ?_
  refine dl_r (sem_extract rfl rfl rfl) ?_
  refine dl_r (sem_extract rfl rfl rfl) ?_
  refine dl_rs (sem_callp rfl rfl rfl rfl rfl (gWith_ok) rfl) ?_
  refine dl_new (sem_alloc zc95 rfl) rfl ?_
  refine dl_st (sem_store_a ty95 rfl rfl rfl rfl rfl rfl) ?_
  refine dl_end ?_
  refine dw_seq ?_
  refine dw_seq ?_
  -- region 4
  refine dw_region (by kernel_rfl) ?_
  refine dl_r (sem_move rfl rfl) ?_
  refine dl_r (sem_nilCheck rfl rfl) ?_
  refine dl_r (sem_field fd93_0 rfl rfl) ?_
  refine dl_r (sem_load1 ty4 rfl rfl rfl rfl) ?_
  refine dl_r (sem_not rfl rfl) ?_
  refine dl_end ?_
  refine dw_cond rfl (fun hc1 => ?_) (fun hc1 => ?_)
  · refine dw_seq ?_
    -- region 5
    refine dw_region (by kernel_rfl) ?_
    refine dl_r (sem_assign rfl rfl) ?_
    refine dl_r (sem_assign rfl rfl) ?_
    refine dl_end ?_
    refine dw_ret ?_
    -- path T
    have hk : qK3 A B C D M N = false := qk_no1 (not_tf hc1 (by unfold qK1; simp only [Bool.true_and, Bool.and_true]; try rfl))
    rw [(qk_no hk).1, (qk_no hk).2]
    exact ⟨.inr rfl, (resL_tmp rfl (resL_tmp rfl resL_nil))⟩
  · refine dw_skip ?_
    refine dw_seq ?_
    -- region 6
    refine dw_draw 14 [12] follows_mixed (by kernel_rfl) rfl rfl ?_
    refine dq_r (sem_move rfl rfl) ?_
    refine dq_r (sem_move rfl rfl) ?_
    refine dq_r (sem_field fd45_1 rfl rfl) ?_
    refine dq_r (sem_load (us := cR B) ty28 rfl rfl rfl rfl rfl) ?_
    refine dq_r (sem_call rfl rfl (gFromRat_ok (by first | assumption | exact Rz.mono hB (by decide))) rfl) ?_
    refine dq_r (sem_extract rfl rfl rfl) ?_
    refine dq_r (sem_extract rfl rfl rfl) ?_
    refine dq_rs (sem_callp rfl rfl rfl rfl rfl (gWith_ok) rfl) rfl rfl rfl rfl rfl (by kernel_rfl) ?_
    refine dq_r (sem_load (us := ([.i .i64 (sqLo (gL M))] ++ [.i .i64 (sqHi (gH M))])) ty95 rfl rfl rfl rfl rfl) ?_
    refine dq_r (sem_call rfl rfl (gMul_ok (gl_bd _) (gh_bd _) (ml_bd _) (mh_bd (by assumption))) rfl) ?_
    refine dq_r (sem_extract rfl rfl rfl) ?_
    refine dq_r (sem_extract rfl rfl rfl) ?_
    refine dq_rs (sem_callp rfl rfl rfl rfl rfl (gWith_ok) rfl) rfl rfl rfl rfl rfl (by kernel_rfl) ?_
    refine dq_new (sem_alloc zc95 rfl) rfl ?_
    refine dq_end ?_
    refine dl_start3 ?_
    refine dl_st (sem_store_a ty95 rfl rfl rfl rfl rfl rfl) ?_
    refine dl_end ?_
    refine dw_seq ?_
    -- region 7
    refine dw_draw 14 [12] follows_mixed (by kernel_rfl) rfl rfl ?_
    refine dq_r (sem_move rfl rfl) ?_
    refine dq_r (sem_move rfl rfl) ?_
    refine dq_r (sem_field fd45_2 rfl rfl) ?_
    refine dq_r (sem_load (us := cR C) ty28 rfl rfl rfl rfl rfl) ?_
    refine dq_r (sem_call rfl rfl (gFromRat_ok (by first | assumption | exact Rz.mono hC (by decide))) rfl) ?_
    refine dq_r (sem_extract rfl rfl rfl) ?_
    refine dq_r (sem_extract rfl rfl rfl) ?_
    refine dq_rs (sem_callp rfl rfl rfl rfl rfl (gWith_ok) rfl) rfl rfl rfl rfl rfl (by kernel_rfl) ?_
    refine dq_r (sem_load (us := ([.i .i64 (sqLo (gL N))] ++ [.i .i64 (sqHi (gH N))])) ty95 rfl rfl rfl rfl rfl) ?_
    refine dq_r (sem_call rfl rfl (gMul_ok (gl_bd _) (gh_bd _) (ml_bd _) (mh_bd (by assumption))) rfl) ?_
    refine dq_r (sem_extract rfl rfl rfl) ?_
    refine dq_r (sem_extract rfl rfl rfl) ?_
    refine dq_rs (sem_callp rfl rfl rfl rfl rfl (gWith_ok) rfl) rfl rfl rfl rfl rfl (by kernel_rfl) ?_
    refine dq_new (sem_alloc zc95 rfl) rfl ?_
    refine dq_end ?_
    refine dl_start3 ?_
    refine dl_st (sem_store_a ty95 rfl rfl rfl rfl rfl rfl) ?_
    refine dl_end ?_
    refine dw_seq ?_
    -- region 8
    refine dw_draw 20 [12] follows_mixed (by kernel_rfl) rfl rfl ?_
    refine dq_r (sem_move rfl rfl) ?_
    refine dq_r (sem_move rfl rfl) ?_
    refine dq_r (sem_field fd45_3 rfl rfl) ?_
    refine dq_r (sem_load (us := cR D) ty28 rfl rfl rfl rfl rfl) ?_
    refine dq_r (sem_call rfl rfl (gFromRat_ok (by first | assumption | exact Rz.mono hD (by decide))) rfl) ?_
    refine dq_r (sem_extract rfl rfl rfl) ?_
    refine dq_r (sem_extract rfl rfl rfl) ?_
    refine dq_rs (sem_callp rfl rfl rfl rfl rfl (gWith_ok) rfl) rfl rfl rfl rfl rfl (by kernel_rfl) ?_
    refine dq_r (sem_move rfl rfl) ?_
    refine dq_r (sem_load (us := ([.i .i64 (sqLo (gL M))] ++ [.i .i64 (sqHi (gH M))])) ty95 rfl rfl rfl rfl rfl) ?_
    refine dq_r (sem_load (us := ([.i .i64 (sqLo (gL N))] ++ [.i .i64 (sqHi (gH N))])) ty95 rfl rfl rfl rfl rfl) ?_
    refine dq_r (sem_call rfl rfl (gMul_ok (ml_bd _) (mh_bd (by assumption)) (ml_bd _) (mh_bd (by assumption))) rfl) ?_
    refine dq_r (sem_extract rfl rfl rfl) ?_
    refine dq_r (sem_extract rfl rfl rfl) ?_
    refine dq_rs (sem_callp rfl rfl rfl rfl rfl (gWith_ok) rfl) rfl rfl rfl rfl rfl (by kernel_rfl) ?_
    refine dq_r (sem_call rfl rfl (gMul_ok (gl_bd _) (gh_bd _) (pl_bd _ _ _ _) (ph_bd _ _ _ _)) rfl) ?_
    refine dq_r (sem_extract rfl rfl rfl) ?_
    refine dq_r (sem_extract rfl rfl rfl) ?_
    refine dq_rs (sem_callp rfl rfl rfl rfl rfl (gWith_ok) rfl) rfl rfl rfl rfl rfl (by kernel_rfl) ?_
    refine dq_new (sem_alloc zc95 rfl) rfl ?_
    refine dq_end ?_
    refine dl_start4 ?_
    refine dl_st (sem_store_a ty95 rfl rfl rfl rfl rfl rfl) ?_
    refine dl_end ?_
    refine dw_seq ?_
    refine dw_seq ?_
    -- region 9
    refine dw_region (by kernel_rfl) ?_
    refine dl_r (sem_move rfl rfl) ?_
    refine dl_r (sem_nilCheck rfl rfl) ?_
    refine dl_r (sem_field fd93_0 rfl rfl) ?_
    refine dl_r (sem_load1 ty4 rfl rfl rfl rfl) ?_
    refine dl_r (sem_not rfl rfl) ?_
    refine dl_end ?_
    refine dw_cond rfl (fun hc2 => ?_) (fun hc2 => ?_)
    · refine dw_seq ?_
      -- region 10
      refine dw_region (by kernel_rfl) ?_
      refine dl_r (sem_assign rfl rfl) ?_
      refine dl_r (sem_assign rfl rfl) ?_
      refine dl_end ?_
      refine dw_ret ?_
      -- path FT
      have hk : qK3 A B C D M N = false := qk_no2 (not_tf hc2 (by unfold qK2 qK1; simp only [Bool.true_and, Bool.and_true, Bool.and_assoc]; try rfl))
      rw [(qk_no hk).1, (qk_no hk).2]
      exact ⟨.inr rfl, (resL_tmp rfl (resL_tmp rfl resL_nil))⟩
    · refine dw_skip ?_
      refine dw_seq ?_
      -- region 11
      refine dw_draw 26 [12] follows_mixed (by kernel_rfl) rfl rfl ?_
      refine dq_r (sem_move rfl rfl) ?_
      refine dq_r (sem_move rfl rfl) ?_
      refine dq_r (sem_move rfl rfl) ?_
      refine dq_r (sem_field fd45_0 rfl rfl) ?_
      refine dq_r (sem_load (us := cR A) ty28 rfl rfl rfl rfl rfl) ?_
      refine dq_r (sem_call rfl rfl (gFromRat_ok (by first | assumption | exact Rz.mono hA (by decide))) rfl) ?_
      refine dq_r (sem_extract rfl rfl rfl) ?_
      refine dq_r (sem_extract rfl rfl rfl) ?_
      refine dq_rs (sem_callp rfl rfl rfl rfl rfl (gWith_ok) rfl) rfl rfl rfl rfl rfl (by kernel_rfl) ?_
      refine dq_r (sem_load (us := ([.i .i64 (pL (gL B) (gH B) (sqLo (gL M)) (sqHi (gH M)))] ++ [.i .i64 (pH (gL B) (gH B) (sqLo (gL M)) (sqHi (gH M)))])) ty95 rfl rfl rfl rfl rfl) ?_
      refine dq_r (sem_call rfl rfl (gAdd_ok (gl_bd _) (gh_bd _) (pl_bd _ _ _ _) (ph_bd _ _ _ _)) rfl) ?_
      refine dq_r (sem_extract rfl rfl rfl) ?_
      refine dq_r (sem_extract rfl rfl rfl) ?_
      refine dq_rs (sem_callp rfl rfl rfl rfl rfl (gWith_ok) rfl) rfl rfl rfl rfl rfl (by kernel_rfl) ?_
      refine dq_r (sem_move rfl rfl) ?_
      refine dq_r (sem_load (us := ([.i .i64 (pL (gL C) (gH C) (sqLo (gL N)) (sqHi (gH N)))] ++ [.i .i64 (pH (gL C) (gH C) (sqLo (gL N)) (sqHi (gH N)))])) ty95 rfl rfl rfl rfl rfl) ?_
      refine dq_r (sem_load (us := ([.i .i64 (pL (gL D) (gH D) (pL (sqLo (gL M)) (sqHi (gH M)) (sqLo (gL N)) (sqHi (gH N))) (pH (sqLo (gL M)) (sqHi (gH M)) (sqLo (gL N)) (sqHi (gH N))))] ++ [.i .i64 (pH (gL D) (gH D) (pL (sqLo (gL M)) (sqHi (gH M)) (sqLo (gL N)) (sqHi (gH N))) (pH (sqLo (gL M)) (sqHi (gH M)) (sqLo (gL N)) (sqHi (gH N))))])) ty95 rfl rfl rfl rfl rfl) ?_
      refine dq_r (sem_call rfl rfl (gAdd_ok (pl_bd _ _ _ _) (ph_bd _ _ _ _) (pl_bd _ _ _ _) (ph_bd _ _ _ _)) rfl) ?_
      refine dq_r (sem_extract rfl rfl rfl) ?_
      refine dq_r (sem_extract rfl rfl rfl) ?_
      refine dq_rs (sem_callp rfl rfl rfl rfl rfl (gWith_ok) rfl) rfl rfl rfl rfl rfl (by kernel_rfl) ?_
      refine dq_r (sem_call rfl rfl (gAdd_ok (al_bd (by first | exact g_le _ | exact p_le _ _ _ _) (by first | exact g_le _ | exact p_le _ _ _ _)) (ah_bd (by first | exact g_le _ | exact p_le _ _ _ _) (by first | exact g_le _ | exact p_le _ _ _ _)) (al_bd (by first | exact g_le _ | exact p_le _ _ _ _) (by first | exact g_le _ | exact p_le _ _ _ _)) (ah_bd (by first | exact g_le _ | exact p_le _ _ _ _) (by first | exact g_le _ | exact p_le _ _ _ _))) rfl) ?_
      refine dq_r (sem_extract rfl rfl rfl) ?_
      refine dq_r (sem_extract rfl rfl rfl) ?_
      refine dq_rs (sem_callp rfl rfl rfl rfl rfl (gWith_ok) rfl) rfl rfl rfl rfl rfl (by kernel_rfl) ?_
      refine dq_new (sem_alloc zc95 rfl) rfl ?_
      refine dq_end ?_
      refine dl_start5 ?_
      refine dl_st (sem_store_a ty95 rfl rfl rfl rfl rfl rfl) ?_
      refine dl_end ?_
      refine dw_seq ?_
      refine dw_seq ?_
      -- region 12
      refine dw_region (by kernel_rfl) ?_
      refine dl_r (sem_move rfl rfl) ?_
      refine dl_r (sem_nilCheck rfl rfl) ?_
      refine dl_r (sem_field fd93_0 rfl rfl) ?_
      refine dl_r (sem_load1 ty4 rfl rfl rfl rfl) ?_
      refine dl_r (sem_not rfl rfl) ?_
      refine dl_end ?_
      refine dw_cond rfl (fun hc3 => ?_) (fun hc3 => ?_)
      · refine dw_seq ?_
        -- region 13
        refine dw_region (by kernel_rfl) ?_
        refine dl_r (sem_assign rfl rfl) ?_
        refine dl_r (sem_assign rfl rfl) ?_
        refine dl_end ?_
        refine dw_ret ?_
        -- path FFT
        have hk : qK3 A B C D M N = false := not_tf hc3 (by unfold qK3 qK2 qK1; simp only [Bool.true_and, Bool.and_true, Bool.and_assoc]; try rfl)
        rw [(qk_no hk).1, (qk_no hk).2]
        exact ⟨.inr rfl, (resL_tmp rfl (resL_tmp rfl resL_nil))⟩
      · refine dw_skip ?_
        refine dw_seq ?_
        -- region 14
        refine dw_region (by kernel_rfl) ?_
        refine dl_r (sem_load (us := ([.i .i64 (aL (aL (gL A) (gH A) (pL (gL B) (gH B) (sqLo (gL M)) (sqHi (gH M))) (pH (gL B) (gH B) (sqLo (gL M)) (sqHi (gH M)))) (aH (gL A) (gH A) (pL (gL B) (gH B) (sqLo (gL M)) (sqHi (gH M))) (pH (gL B) (gH B) (sqLo (gL M)) (sqHi (gH M)))) (aL (pL (gL C) (gH C) (sqLo (gL N)) (sqHi (gH N))) (pH (gL C) (gH C) (sqLo (gL N)) (sqHi (gH N))) (pL (gL D) (gH D) (pL (sqLo (gL M)) (sqHi (gH M)) (sqLo (gL N)) (sqHi (gH N))) (pH (sqLo (gL M)) (sqHi (gH M)) (sqLo (gL N)) (sqHi (gH N)))) (pH (gL D) (gH D) (pL (sqLo (gL M)) (sqHi (gH M)) (sqLo (gL N)) (sqHi (gH N))) (pH (sqLo (gL M)) (sqHi (gH M)) (sqLo (gL N)) (sqHi (gH N))))) (aH (pL (gL C) (gH C) (sqLo (gL N)) (sqHi (gH N))) (pH (gL C) (gH C) (sqLo (gL N)) (sqHi (gH N))) (pL (gL D) (gH D) (pL (sqLo (gL M)) (sqHi (gH M)) (sqLo (gL N)) (sqHi (gH N))) (pH (sqLo (gL M)) (sqHi (gH M)) (sqLo (gL N)) (sqHi (gH N)))) (pH (gL D) (gH D) (pL (sqLo (gL M)) (sqHi (gH M)) (sqLo (gL N)) (sqHi (gH N))) (pH (sqLo (gL M)) (sqHi (gH M)) (sqLo (gL N)) (sqHi (gH N))))))] ++ [.i .i64 (aH (aL (gL A) (gH A) (pL (gL B) (gH B) (sqLo (gL M)) (sqHi (gH M))) (pH (gL B) (gH B) (sqLo (gL M)) (sqHi (gH M)))) (aH (gL A) (gH A) (pL (gL B) (gH B) (sqLo (gL M)) (sqHi (gH M))) (pH (gL B) (gH B) (sqLo (gL M)) (sqHi (gH M)))) (aL (pL (gL C) (gH C) (sqLo (gL N)) (sqHi (gH N))) (pH (gL C) (gH C) (sqLo (gL N)) (sqHi (gH N))) (pL (gL D) (gH D) (pL (sqLo (gL M)) (sqHi (gH M)) (sqLo (gL N)) (sqHi (gH N))) (pH (sqLo (gL M)) (sqHi (gH M)) (sqLo (gL N)) (sqHi (gH N)))) (pH (gL D) (gH D) (pL (sqLo (gL M)) (sqHi (gH M)) (sqLo (gL N)) (sqHi (gH N))) (pH (sqLo (gL M)) (sqHi (gH M)) (sqLo (gL N)) (sqHi (gH N))))) (aH (pL (gL C) (gH C) (sqLo (gL N)) (sqHi (gH N))) (pH (gL C) (gH C) (sqLo (gL N)) (sqHi (gH N))) (pL (gL D) (gH D) (pL (sqLo (gL M)) (sqHi (gH M)) (sqLo (gL N)) (sqHi (gH N))) (pH (sqLo (gL M)) (sqHi (gH M)) (sqLo (gL N)) (sqHi (gH N)))) (pH (gL D) (gH D) (pL (sqLo (gL M)) (sqHi (gH M)) (sqLo (gL N)) (sqHi (gH N))) (pH (sqLo (gL M)) (sqHi (gH M)) (sqLo (gL N)) (sqHi (gH N))))))])) ty95 rfl rfl rfl rfl rfl) ?_
        refine dl_r (sem_call rfl rfl (fSign_ok) rfl) ?_
        refine dl_r (sem_extract rfl rfl rfl) ?_
        refine dl_r (sem_extract rfl rfl rfl) ?_
        refine dl_r (sem_assign rfl rfl) ?_
        refine dl_r (sem_assign rfl rfl) ?_
        refine dl_end ?_
        refine dw_ret ?_
        -- path FFF
        have hk : qK3 A B C D M N = true := not_ff hc3 (by unfold qK3 qK2 qK1; simp only [Bool.true_and, Bool.and_true, Bool.and_assoc]; try rfl)
        rw [(qk_yes hk).1, (qk_yes hk).2]
        exact ⟨.inr rfl, (resL_tmp rfl (resL_tmp rfl resL_nil))⟩
end Go.Proofs.YtcimbhjmjlfloaaGreat
/- Plain: the program's sign of a sum with two square roots, its order of two values. -/
namespace Go.Proofs.YtcimbhjmjlfloaaGreat
open Go Go.RowKit
def sgnP (A B C D M N : Rat) : Int := if M < 0 ∨ N < 0 then 0 else if qkK A B C D M N = true then qkS A B C D M N else signQ A B C D M N
theorem sgnP_n {A B C D M N : Rat} (h : M < 0 ∨ N < 0) : sgnP A B C D M N = 0 := by unfold sgnP; rw [if_pos h]
theorem sgnP_q {A B C D M N : Rat} (h : ¬ M < 0) (h' : ¬ N < 0) (hq : qkK A B C D M N = true) : sgnP A B C D M N = qkS A B C D M N := by unfold sgnP; rw [if_neg (fun e => e.elim h h'), if_pos hq]
theorem sgnP_p {A B C D M N : Rat} (h : ¬ M < 0) (h' : ¬ N < 0) (hq : qkK A B C D M N = false) : sgnP A B C D M N = comb (plainS A B M) (plainS C D M * cmpR N 0) (plainS (A * A + M * (B * B) - N * (C * C + M * (D * D))) (A * B - N * (C * D) + (A * B - N * (C * D))) M) := by
  unfold sgnP; rw [if_neg (fun e => e.elim h h'), hq, if_neg (by decide), signQ_p h h']
  unfold quadA quadB
  rw [Rat.mul_comm M (B * B), Rat.mul_comm M (D * D)]
def cmpP (a b c d e f : Rat) : Int :=
  if (cmpR b 0 == 0) = true ∧ (cmpR e 0 == 0) = true then cmpR a d else
  if apK (rtOk a b c) (rtOk d e f) (rtLo a b c) (rtHi a b c) (rtLo d e f) (rtHi d e f) = true then apS (rtOk a b c) (rtOk d e f) (rtLo a b c) (rtHi a b c) (rtLo d e f) (rtHi d e f) else
  if (cmpR c f == 0) = true then plainS (a - d) (b - e) c else sgnP (a - d) b (-e) 0 c f
section
variable {a b c d e f : Rat}
theorem cmpP_r (h : (cmpR b 0 == 0) = true) (h2 : (cmpR e 0 == 0) = true) : cmpP a b c d e f = cmpR a d := by unfold cmpP; rw [if_pos ⟨h, h2⟩]
theorem cmpP_a (h : ¬ ((cmpR b 0 == 0) = true ∧ (cmpR e 0 == 0) = true)) (h2 : apK (rtOk a b c) (rtOk d e f) (rtLo a b c) (rtHi a b c) (rtLo d e f) (rtHi d e f) = true) :
    cmpP a b c d e f = apS (rtOk a b c) (rtOk d e f) (rtLo a b c) (rtHi a b c) (rtLo d e f) (rtHi d e f) := by unfold cmpP; rw [if_neg h, if_pos h2]
theorem cmpP_c (h : ¬ ((cmpR b 0 == 0) = true ∧ (cmpR e 0 == 0) = true)) (h2 : apK (rtOk a b c) (rtOk d e f) (rtLo a b c) (rtHi a b c) (rtLo d e f) (rtHi d e f) = false) (h3 : (cmpR c f == 0) = true) :
    cmpP a b c d e f = plainS (a - d) (b - e) c := by unfold cmpP; rw [if_neg h, h2, if_neg (by decide), if_pos h3]
theorem cmpP_s (h : ¬ ((cmpR b 0 == 0) = true ∧ (cmpR e 0 == 0) = true)) (h2 : apK (rtOk a b c) (rtOk d e f) (rtLo a b c) (rtHi a b c) (rtLo d e f) (rtHi d e f) = false) (h3 : (cmpR c f == 0) = false) :
    cmpP a b c d e f = sgnP (a - d) b (-e) 0 c f := by unfold cmpP; rw [if_neg h, h2, if_neg (by decide), h3, if_neg (by decide)]
theorem nb_l {b c : Bool} (h : b = false) : ¬ (b = true ∧ c = true) := fun e => by rw [h] at e; exact absurd e.1 (by decide)
theorem nb_r {b c : Bool} (h : c = false) : ¬ (b = true ∧ c = true) := fun e => by rw [h] at e; exact absurd e.2 (by decide)
end
end Go.Proofs.YtcimbhjmjlfloaaGreat
/- radical.Sign. -/
namespace Go.Proofs.YtcimbhjmjlfloaaGreat
open Go Go.RowKit
theorem xSignAdd_ok {a b : Rat} (ha : Rz 300 a) (hb : Rz 300 b) : Ok Tryz.prog 36 [dR a, dR b] [dR (a + b)] := by
  refine Ok.of (by kernel_rfl) Tryz.func36 rfl rfl ?_
  rw [show Tryz.f36.ntmps = 8 from rfl, show Tryz.f36.results.toList = [.cell 4 28] from rfl]
  refine dw_seq ?_
  -- region 0
  refine dw_region (by kernel_rfl) ?_
  refine dl_new (sem_box_a rfl rfl) rfl ?_
  refine dl_new (sem_box_a rfl rfl) rfl ?_
  refine dl_new (sem_alloc zc28 rfl) rfl ?_
  refine dl_end ?_
  refine dw_seq ?_
  -- region 1
  refine dw_region (by kernel_rfl) ?_
  refine dl_r (sem_load (us := cR a) ty28 rfl rfl rfl rfl rfl) ?_
  refine dl_r (sem_load (us := cR b) ty28 rfl rfl rfl rfl rfl) ?_
  refine dl_r (sem_call rfl rfl (pAdd_ok (by first | assumption | exact Rz.mono ha (by decide)) (by first | assumption | exact Rz.mono hb (by decide))) rfl) ?_
  refine dl_st (sem_store_a ty28 rfl rfl rfl rfl rfl rfl) ?_
  refine dl_end ?_
  refine dw_ret ?_
  -- path 
  exact ⟨.inr rfl, (resL_cell (us := cR (a + b)) ty28 rfl rfl rfl rfl resL_nil)⟩
theorem xSign_ok {A B C D M N : Rat} (hA : Rz 8 A) (hB : Rz 8 B) (hC : Rz 8 C) (hD : Rz 8 D) (hM : Rz 8 M) (hN : Rz 8 N) : Ok Tryz.prog 13 [.a (cR A ++ cR B ++ cR C ++ cR D ++ cR M ++ cR N)] [.c (.i .i64 (sgnP A B C D M N))] := by
  have z1 := prod_bd (plainS_bd C D M) (cmpR_bd N 0)
  have z2 := prod_bd (plainS_bd A B M) (plainS_bd (A * A + M * (B * B) - N * (C * C + M * (D * D))) ((A * B - N * (C * D)) + (A * B - N * (C * D))) M)
  have kA : Rz 200 A := hA.mono (by decide)
  have kB : Rz 200 B := hB.mono (by decide)
  have kC : Rz 200 C := hC.mono (by decide)
  have kD : Rz 200 D := hD.mono (by decide)
  have kM : Rz 200 M := hM.mono (by decide)
  have kN : Rz 200 N := hN.mono (by decide)
  refine Ok.of (by kernel_rfl) Tryz.func13 rfl rfl ?_
  rw [show Tryz.f13.ntmps = 127 from rfl, show Tryz.f13.results.toList = [.tmp 2] from rfl]
  refine dw_seq ?_
  -- region 0
  refine dw_region (by kernel_rfl) ?_
  refine dl_new (sem_box_a rfl rfl) rfl ?_
  refine dl_r (sem_assign rfl rfl) ?_
  refine dl_end ?_
  refine dw_seq ?_
  refine dw_seq ?_
  -- region 1
  refine dw_region (by kernel_rfl) ?_
  refine dl_r (sem_field fd45_4 rfl rfl) ?_
  refine dl_r (sem_load (us := cR M) ty28 rfl rfl rfl rfl rfl) ?_
  refine dl_r (sem_call rfl rfl (pSign_ok) rfl) ?_
  refine dl_r (sem_cmp rfl rfl rfl rfl) ?_
  refine dl_rb (sem_move rfl rfl) (fun c1 hb1 => ?_)
  cases c1
  · have n1 := r_nlt hb1
    refine dl_r (sem_field fd45_5 rfl rfl) ?_
    refine dl_r (sem_load (us := cR N) ty28 rfl rfl rfl rfl rfl) ?_
    refine dl_r (sem_call rfl rfl (pSign_ok) rfl) ?_
    refine dl_r (sem_cmp rfl rfl rfl rfl) ?_
    refine dl_r (sem_pick rfl rfl rfl rfl) ?_
    refine dl_end ?_
    refine dw_cond rfl (fun hc2 => ?_) (fun hc2 => ?_)
    · refine dw_seq ?_
      -- region 2
      refine dw_region (by kernel_rfl) ?_
      refine dl_r (sem_assign rfl rfl) ?_
      refine dl_end ?_
      refine dw_ret ?_
      -- path fT
      rw [sgnP_n (.inr (r_lt hc2))]
      exact ⟨.inr rfl, (resL_tmp rfl resL_nil)⟩
    · have n2 := r_nlt hc2
      refine dw_skip ?_
      refine dw_seq ?_
      refine dw_seq ?_
      -- region 3
      refine dw_region (by kernel_rfl) ?_
      refine dl_r (sem_load (us := (cR A ++ cR B ++ cR C ++ cR D ++ cR M ++ cR N)) ty45 rfl rfl rfl rfl rfl) ?_
      refine dl_r (sem_call rfl rfl (xQuick_ok (by assumption) (by assumption) (by assumption) (by assumption) (by assumption) (by assumption) (by assumption) (by assumption)) rfl) ?_
      refine dl_r (sem_move rfl rfl) ?_
      refine dl_r (sem_extract rfl rfl rfl) ?_
      refine dl_r (sem_extract rfl rfl rfl) ?_
      refine dl_r (sem_assign rfl rfl) ?_
      refine dl_r (sem_assign rfl rfl) ?_
      refine dl_end ?_
      refine dw_seq ?_
      -- region 4
      refine dw_region (by kernel_rfl) ?_
      refine dl_r (sem_move rfl rfl) ?_
      refine dl_end ?_
      refine dw_cond rfl (fun hc3 => ?_) (fun hc3 => ?_)
      · refine dw_seq ?_
        -- region 5
        refine dw_region (by kernel_rfl) ?_
        refine dl_r (sem_move rfl rfl) ?_
        refine dl_r (sem_assign rfl rfl) ?_
        refine dl_end ?_
        refine dw_ret ?_
        -- path fFT
        rw [sgnP_q n1 n2 hc3]
        exact ⟨.inr rfl, (resL_tmp rfl resL_nil)⟩
      · refine dw_skip ?_
        refine dw_seq ?_
        -- region 6
        refine dw_draw 20 [] follows_mixed (by kernel_rfl) rfl rfl ?_
        refine dq_r (sem_field fd45_0 rfl rfl) ?_
        refine dq_r (sem_load (us := cR A) ty28 rfl rfl rfl rfl rfl) ?_
        refine dq_r (sem_field fd45_1 rfl rfl) ?_
        refine dq_r (sem_load (us := cR B) ty28 rfl rfl rfl rfl rfl) ?_
        refine dq_r (sem_field fd45_4 rfl rfl) ?_
        refine dq_r (sem_load (us := cR M) ty28 rfl rfl rfl rfl rfl) ?_
        refine dq_r (sem_call rfl rfl (xPlain_ok (by first | assumption | exact Rz.mono hA (by decide)) (by first | assumption | exact Rz.mono hB (by decide)) (by first | assumption | exact Rz.mono hM (by decide))) rfl) ?_
        refine dq_r (sem_field fd45_2 rfl rfl) ?_
        refine dq_r (sem_load (us := cR C) ty28 rfl rfl rfl rfl rfl) ?_
        refine dq_r (sem_field fd45_3 rfl rfl) ?_
        refine dq_r (sem_load (us := cR D) ty28 rfl rfl rfl rfl rfl) ?_
        refine dq_r (sem_field fd45_4 rfl rfl) ?_
        refine dq_r (sem_load (us := cR M) ty28 rfl rfl rfl rfl rfl) ?_
        refine dq_r (sem_call rfl rfl (xPlain_ok (by first | assumption | exact Rz.mono hC (by decide)) (by first | assumption | exact Rz.mono hD (by decide)) (by first | assumption | exact Rz.mono hM (by decide))) rfl) ?_
        refine dq_r (sem_field fd45_5 rfl rfl) ?_
        refine dq_r (sem_load (us := cR N) ty28 rfl rfl rfl rfl rfl) ?_
        refine dq_r (sem_call rfl rfl (pSign_ok) rfl) ?_
        refine dq_r (sem_ari (r := (plainS C D M) * (cmpR N 0)) rfl rfl (ari_i64_mul (by omega) (by omega)) rfl) ?_
        refine dq_r (sem_assign rfl rfl) ?_
        refine dq_r (sem_assign rfl rfl) ?_
        refine dq_end ?_
        refine dl_start0 ?_
        refine dl_end ?_
        refine dw_seq ?_
        refine dw_block ?_
        refine dw_seq ?_
        -- region 7
        refine dw_region (by kernel_rfl) ?_
        refine dl_r (sem_move rfl rfl) ?_
        refine dl_r (sem_cmp rfl rfl rfl rfl) ?_
        refine dl_rb (sem_move rfl rfl) (fun c4 hb4 => ?_)
        cases c4
        · refine dl_r (sem_move rfl rfl) ?_
          refine dl_r (sem_move rfl rfl) ?_
          refine dl_r (sem_cmp rfl rfl rfl rfl) ?_
          refine dl_r (sem_pick rfl rfl rfl rfl) ?_
          refine dl_r (sem_assign rfl rfl) ?_
          refine dl_end ?_
          refine dw_cond rfl (fun hc5 => ?_) (fun hc5 => ?_)
          · refine dw_seq ?_
            -- region 8
            refine dw_region (by kernel_rfl) ?_
            refine dl_r (sem_move rfl rfl) ?_
            refine dl_r (sem_assign rfl rfl) ?_
            refine dl_end ?_
            refine dw_ret ?_
            -- path fFFfT
            rw [sgnP_p n1 n2 hc3, comb_eq hc5]
            exact ⟨.inr rfl, (resL_tmp rfl resL_nil)⟩
          · refine dw_seq ?_
            -- region 9
            refine dw_region (by kernel_rfl) ?_
            refine dl_r (sem_move rfl rfl) ?_
            refine dl_r (sem_cmp rfl rfl rfl rfl) ?_
            refine dl_r (sem_assign rfl rfl) ?_
            refine dl_end ?_
            refine dw_cond rfl (fun hc6 => ?_) (fun hc6 => ?_)
            · refine dw_seq ?_
              -- region 10
              refine dw_region (by kernel_rfl) ?_
              refine dl_r (sem_move rfl rfl) ?_
              refine dl_r (sem_assign rfl rfl) ?_
              refine dl_end ?_
              refine dw_ret ?_
              -- path fFFfFT
              rw [sgnP_p n1 n2 hc3, comb_s0 hc6]
              exact ⟨.inr rfl, (resL_tmp rfl resL_nil)⟩
            · refine dw_skip ?_
              refine dw_seq ?_
              -- region 11
              refine dw_region (by kernel_rfl) ?_
              refine dl_r (sem_assign rfl rfl) ?_
              refine dl_end ?_
              refine dw_seq ?_
              -- region 12
              refine dw_region (by kernel_rfl) ?_
              refine dl_r (sem_assign rfl rfl) ?_
              refine dl_end ?_
              refine dw_seq ?_
              -- region 13
              refine dw_draw 42 [] follows_mixed (by kernel_rfl) rfl rfl ?_
              refine dq_r (sem_move rfl rfl) ?_
              refine dq_r (sem_move rfl rfl) ?_
              refine dq_r (sem_field fd45_0 rfl rfl) ?_
              refine dq_r (sem_load (us := cR A) ty28 rfl rfl rfl rfl rfl) ?_
              refine dq_r (sem_field fd45_0 rfl rfl) ?_
              refine dq_r (sem_load (us := cR A) ty28 rfl rfl rfl rfl rfl) ?_
              refine dq_r (sem_call rfl rfl (pMul_ok (by first | assumption | exact Rz.mono hA (by decide)) (by first | assumption | exact Rz.mono hA (by decide))) rfl) ?_
              refine dq_r (sem_move rfl rfl) ?_
              refine dq_r (sem_field fd45_4 rfl rfl) ?_
              refine dq_r (sem_load (us := cR M) ty28 rfl rfl rfl rfl rfl) ?_
              refine dq_r (sem_move rfl rfl) ?_
              refine dq_r (sem_field fd45_1 rfl rfl) ?_
              refine dq_r (sem_load (us := cR B) ty28 rfl rfl rfl rfl rfl) ?_
              refine dq_r (sem_field fd45_1 rfl rfl) ?_
              refine dq_r (sem_load (us := cR B) ty28 rfl rfl rfl rfl rfl) ?_
              refine dq_r (sem_call rfl rfl (pMul_ok (by first | assumption | exact Rz.mono hB (by decide)) (by first | assumption | exact Rz.mono hB (by decide))) rfl) ?_
              refine dq_r (sem_call rfl rfl (pMul_ok (by first | assumption | exact Rz.mono hM (by decide)) (by first | assumption | exact Rz.mono (Rz.mul hB hB) (by decide))) rfl) ?_
              refine dq_r (sem_call rfl rfl (xSignAdd_ok (by first | assumption | exact Rz.mono (Rz.mul hA hA) (by decide)) (by first | assumption | exact Rz.mono (Rz.mul hM (Rz.mul hB hB)) (by decide))) rfl) ?_
              refine dq_r (sem_move rfl rfl) ?_
              refine dq_r (sem_field fd45_5 rfl rfl) ?_
              refine dq_r (sem_load (us := cR N) ty28 rfl rfl rfl rfl rfl) ?_
              refine dq_r (sem_move rfl rfl) ?_
              refine dq_r (sem_move rfl rfl) ?_
              refine dq_r (sem_field fd45_2 rfl rfl) ?_
              refine dq_r (sem_load (us := cR C) ty28 rfl rfl rfl rfl rfl) ?_
              refine dq_r (sem_field fd45_2 rfl rfl) ?_
              refine dq_r (sem_load (us := cR C) ty28 rfl rfl rfl rfl rfl) ?_
              refine dq_r (sem_call rfl rfl (pMul_ok (by first | assumption | exact Rz.mono hC (by decide)) (by first | assumption | exact Rz.mono hC (by decide))) rfl) ?_
              refine dq_r (sem_move rfl rfl) ?_
              refine dq_r (sem_field fd45_4 rfl rfl) ?_
              refine dq_r (sem_load (us := cR M) ty28 rfl rfl rfl rfl rfl) ?_
              refine dq_r (sem_move rfl rfl) ?_
              refine dq_r (sem_field fd45_3 rfl rfl) ?_
              refine dq_r (sem_load (us := cR D) ty28 rfl rfl rfl rfl rfl) ?_
              refine dq_r (sem_field fd45_3 rfl rfl) ?_
              refine dq_r (sem_load (us := cR D) ty28 rfl rfl rfl rfl rfl) ?_
              refine dq_r (sem_call rfl rfl (pMul_ok (by first | assumption | exact Rz.mono hD (by decide)) (by first | assumption | exact Rz.mono hD (by decide))) rfl) ?_
              refine dq_r (sem_call rfl rfl (pMul_ok (by first | assumption | exact Rz.mono hM (by decide)) (by first | assumption | exact Rz.mono (Rz.mul hD hD) (by decide))) rfl) ?_
              refine dq_r (sem_call rfl rfl (xSignAdd_ok (by first | assumption | exact Rz.mono (Rz.mul hC hC) (by decide)) (by first | assumption | exact Rz.mono (Rz.mul hM (Rz.mul hD hD)) (by decide))) rfl) ?_
              refine dq_r (sem_call rfl rfl (pMul_ok (by first | assumption | exact Rz.mono hN (by decide)) (by first | assumption | exact Rz.mono (Rz.add (Rz.mul hC hC) (Rz.mul hM (Rz.mul hD hD))) (by decide))) rfl) ?_
              refine dq_r (sem_call rfl rfl (pSub_ok (by first | assumption | exact Rz.mono (Rz.add (Rz.mul hA hA) (Rz.mul hM (Rz.mul hB hB))) (by decide)) (by first | assumption | exact Rz.mono (Rz.mul hN (Rz.add (Rz.mul hC hC) (Rz.mul hM (Rz.mul hD hD)))) (by decide))) rfl) ?_
              refine dq_new (sem_alloc zc28 rfl) rfl ?_
              refine dq_end ?_
              refine dl_start1 ?_
              refine dl_st (sem_store_a ty28 rfl rfl rfl rfl rfl rfl) ?_
              refine dl_end ?_
              refine dw_seq ?_
              -- region 14
              refine dw_draw 18 [] follows_mixed (by kernel_rfl) rfl rfl ?_
              refine dq_r (sem_move rfl rfl) ?_
              refine dq_r (sem_field fd45_0 rfl rfl) ?_
              refine dq_r (sem_load (us := cR A) ty28 rfl rfl rfl rfl rfl) ?_
              refine dq_r (sem_field fd45_1 rfl rfl) ?_
              refine dq_r (sem_load (us := cR B) ty28 rfl rfl rfl rfl rfl) ?_
              refine dq_r (sem_call rfl rfl (pMul_ok (by first | assumption | exact Rz.mono hA (by decide)) (by first | assumption | exact Rz.mono hB (by decide))) rfl) ?_
              refine dq_r (sem_move rfl rfl) ?_
              refine dq_r (sem_field fd45_5 rfl rfl) ?_
              refine dq_r (sem_load (us := cR N) ty28 rfl rfl rfl rfl rfl) ?_
              refine dq_r (sem_move rfl rfl) ?_
              refine dq_r (sem_field fd45_2 rfl rfl) ?_
              refine dq_r (sem_load (us := cR C) ty28 rfl rfl rfl rfl rfl) ?_
              refine dq_r (sem_field fd45_3 rfl rfl) ?_
              refine dq_r (sem_load (us := cR D) ty28 rfl rfl rfl rfl rfl) ?_
              refine dq_r (sem_call rfl rfl (pMul_ok (by first | assumption | exact Rz.mono hC (by decide)) (by first | assumption | exact Rz.mono hD (by decide))) rfl) ?_
              refine dq_r (sem_call rfl rfl (pMul_ok (by first | assumption | exact Rz.mono hN (by decide)) (by first | assumption | exact Rz.mono (Rz.mul hC hD) (by decide))) rfl) ?_
              refine dq_r (sem_call rfl rfl (pSub_ok (by first | assumption | exact Rz.mono (Rz.mul hA hB) (by decide)) (by first | assumption | exact Rz.mono (Rz.mul hN (Rz.mul hC hD)) (by decide))) rfl) ?_
              refine dq_new (sem_alloc zc28 rfl) rfl ?_
              refine dq_end ?_
              refine dl_start1 ?_
              refine dl_st (sem_store_a ty28 rfl rfl rfl rfl rfl rfl) ?_
              refine dl_end ?_
              refine dw_seq ?_
              -- region 15
              refine dw_draw 11 [] follows_mixed (by kernel_rfl) rfl rfl ?_
              refine dq_r (sem_move rfl rfl) ?_
              refine dq_r (sem_load (us := cR (((A * A) + (M * (B * B))) - (N * ((C * C) + (M * (D * D)))))) ty28 rfl rfl rfl rfl rfl) ?_
              refine dq_r (sem_move rfl rfl) ?_
              refine dq_r (sem_load (us := cR ((A * B) - (N * (C * D)))) ty28 rfl rfl rfl rfl rfl) ?_
              refine dq_r (sem_load (us := cR ((A * B) - (N * (C * D)))) ty28 rfl rfl rfl rfl rfl) ?_
              refine dq_r (sem_call rfl rfl (xSignAdd_ok (by first | assumption | exact Rz.mono (Rz.sub (Rz.mul hA hB) (Rz.mul hN (Rz.mul hC hD))) (by decide)) (by first | assumption | exact Rz.mono (Rz.sub (Rz.mul hA hB) (Rz.mul hN (Rz.mul hC hD))) (by decide))) rfl) ?_
              refine dq_r (sem_field fd45_4 rfl rfl) ?_
              refine dq_r (sem_load (us := cR M) ty28 rfl rfl rfl rfl rfl) ?_
              refine dq_r (sem_call rfl rfl (xPlain_ok (by first | assumption | exact Rz.mono (Rz.sub (Rz.add (Rz.mul hA hA) (Rz.mul hM (Rz.mul hB hB))) (Rz.mul hN (Rz.add (Rz.mul hC hC) (Rz.mul hM (Rz.mul hD hD))))) (by decide)) (by first | assumption | exact Rz.mono (Rz.add (Rz.sub (Rz.mul hA hB) (Rz.mul hN (Rz.mul hC hD))) (Rz.sub (Rz.mul hA hB) (Rz.mul hN (Rz.mul hC hD)))) (by decide)) (by first | assumption | exact Rz.mono hM (by decide))) rfl) ?_
              refine dq_r (sem_ari (r := (plainS A B M) * (plainS (((A * A) + (M * (B * B))) - (N * ((C * C) + (M * (D * D))))) (((A * B) - (N * (C * D))) + ((A * B) - (N * (C * D)))) M)) rfl rfl (ari_i64_mul (by omega) (by omega)) rfl) ?_
              refine dq_r (sem_assign rfl rfl) ?_
              refine dq_end ?_
              refine dl_start0 ?_
              refine dl_end ?_
              refine dw_ret ?_
              -- path fFFfFF
              rw [sgnP_p n1 n2 hc3, comb_ne hc6 hb4 hc5]
              exact ⟨.inr rfl, (resL_tmp rfl resL_nil)⟩
        · refine dl_skip (sem_skip rfl) ?_
          refine dl_skip (sem_skip rfl) ?_
          refine dl_skip (sem_skip rfl) ?_
          refine dl_r (sem_pick rfl rfl rfl rfl) ?_
          refine dl_r (sem_assign rfl rfl) ?_
          refine dl_end ?_
          refine dw_true rfl ?_
          refine dw_seq ?_
          -- region 8
          refine dw_region (by kernel_rfl) ?_
          refine dl_r (sem_move rfl rfl) ?_
          refine dl_r (sem_assign rfl rfl) ?_
          refine dl_end ?_
          refine dw_ret ?_
          -- path fFFt
          rw [sgnP_p n1 n2 hc3, comb_t0 hb4]
          exact ⟨.inr rfl, (resL_tmp rfl resL_nil)⟩
  · refine dl_skip (sem_skip rfl) ?_
    refine dl_skip (sem_skip rfl) ?_
    refine dl_skip (sem_skip rfl) ?_
    refine dl_skip (sem_skip rfl) ?_
    refine dl_r (sem_pick rfl rfl rfl rfl) ?_
    refine dl_end ?_
    refine dw_true rfl ?_
    refine dw_seq ?_
    -- region 2
    refine dw_region (by kernel_rfl) ?_
    refine dl_r (sem_assign rfl rfl) ?_
    refine dl_end ?_
    refine dw_ret ?_
    -- path t
    rw [sgnP_n (.inl (r_lt hb1))]
    exact ⟨.inr rfl, (resL_tmp rfl resL_nil)⟩
end Go.Proofs.YtcimbhjmjlfloaaGreat
/- radical.Cmp. -/
namespace Go.Proofs.YtcimbhjmjlfloaaGreat
open Go Go.RowKit
theorem xCmp_ok {a b c d e f : Rat} (ha : Rz 100 a) (hb : Rz 8 b) (hc : Rz 8 c) (hd : Rz 100 d) (he : Rz 8 e) (hf : Rz 8 f) (h1 : Rz 8 (a - d)) : Ok Tryz.prog 21 [.a (cR a ++ cR b ++ cR c), .a (cR d ++ cR e ++ cR f)] [.c (.i .i64 (cmpP a b c d e f))] := by
  have ka : Rz 300 a := ha.mono (by decide)
  have la : Rz 200 a := ha.mono (by decide)
  have kb : Rz 300 b := hb.mono (by decide)
  have lb : Rz 200 b := hb.mono (by decide)
  have kc : Rz 300 c := hc.mono (by decide)
  have lc : Rz 200 c := hc.mono (by decide)
  have kd : Rz 300 d := hd.mono (by decide)
  have ld : Rz 200 d := hd.mono (by decide)
  have ke : Rz 300 e := he.mono (by decide)
  have le : Rz 200 e := he.mono (by decide)
  have kf : Rz 300 f := hf.mono (by decide)
  have lf : Rz 200 f := hf.mono (by decide)
  have m2 : Rz 8 (-e) := he.neg
  have m0 : Rz 8 (0 : Rat) := Rz.int (n := 0) (Sz.small (by decide) (by decide) (by decide)) (by decide)
  have w1 : Rz 100 (a - d) := h1.mono (by decide)
  have w2 : Rz 100 (b - e) := (hb.sub he).mono (by decide)
  have w3 : Rz 100 c := hc.mono (by decide)
  refine Ok.of (by kernel_rfl) Tryz.func21 rfl rfl ?_
  rw [show Tryz.f21.ntmps = 53 from rfl, show Tryz.f21.results.toList = [.tmp 4] from rfl]
  refine dw_seq ?_
  -- region 0
  refine dw_region (by kernel_rfl) ?_
  refine dl_new (sem_box_a rfl rfl) rfl ?_
  refine dl_new (sem_box_a rfl rfl) rfl ?_
  refine dl_r (sem_assign rfl rfl) ?_
  refine dl_end ?_
  refine dw_seq ?_
  refine dw_seq ?_
  -- region 1
  refine dw_region (by kernel_rfl) ?_
  refine dl_r (sem_field fd30_1 rfl rfl) ?_
  refine dl_r (sem_load (us := cR b) ty28 rfl rfl rfl rfl rfl) ?_
  refine dl_r (sem_call rfl rfl (pSign_ok) rfl) ?_
  refine dl_r (sem_cmp rfl rfl rfl rfl) ?_
  refine dl_rb (sem_move rfl rfl) (fun c1 hb1 => ?_)
  cases c1
  · refine dl_skip (sem_skip rfl) ?_
    refine dl_skip (sem_skip rfl) ?_
    refine dl_skip (sem_skip rfl) ?_
    refine dl_skip (sem_skip rfl) ?_
    refine dl_r (sem_pick rfl rfl rfl rfl) ?_
    refine dl_end ?_
    refine dw_false rfl ?_
    refine dw_skip ?_
    refine dw_seq ?_
    refine dw_seq ?_
    -- region 3
    refine dw_region (by kernel_rfl) ?_
    refine dl_r (sem_load (us := (cR a ++ cR b ++ cR c)) ty30 rfl rfl rfl rfl rfl) ?_
    refine dl_r (sem_load (us := (cR d ++ cR e ++ cR f)) ty30 rfl rfl rfl rfl rfl) ?_
    refine dl_r (sem_call rfl rfl (xApart_ok (by assumption) (by assumption) (by assumption) (by assumption) (by assumption) (by assumption)) rfl) ?_
    refine dl_r (sem_move rfl rfl) ?_
    refine dl_r (sem_extract rfl rfl rfl) ?_
    refine dl_r (sem_extract rfl rfl rfl) ?_
    refine dl_r (sem_assign rfl rfl) ?_
    refine dl_r (sem_assign rfl rfl) ?_
    refine dl_end ?_
    refine dw_seq ?_
    -- region 4
    refine dw_region (by kernel_rfl) ?_
    refine dl_r (sem_move rfl rfl) ?_
    refine dl_end ?_
    refine dw_cond rfl (fun hc2 => ?_) (fun hc2 => ?_)
    · refine dw_seq ?_
      -- region 5
      refine dw_region (by kernel_rfl) ?_
      refine dl_r (sem_move rfl rfl) ?_
      refine dl_r (sem_assign rfl rfl) ?_
      refine dl_end ?_
      refine dw_ret ?_
      -- path fT
      rw [cmpP_a (nb_l hb1) hc2]
      exact ⟨.inr rfl, (resL_tmp rfl resL_nil)⟩
    · refine dw_skip ?_
      refine dw_seq ?_
      refine dw_seq ?_
      -- region 6
      refine dw_region (by kernel_rfl) ?_
      refine dl_r (sem_field fd30_2 rfl rfl) ?_
      refine dl_r (sem_load (us := cR c) ty28 rfl rfl rfl rfl rfl) ?_
      refine dl_r (sem_field fd30_2 rfl rfl) ?_
      refine dl_r (sem_load (us := cR f) ty28 rfl rfl rfl rfl rfl) ?_
      refine dl_r (sem_call rfl rfl (pCmp_ok (by first | assumption | exact Rz.mono hc (by decide)) (by first | assumption | exact Rz.mono hf (by decide))) rfl) ?_
      refine dl_r (sem_cmp rfl rfl rfl rfl) ?_
      refine dl_end ?_
      refine dw_cond rfl (fun hc3 => ?_) (fun hc3 => ?_)
      · refine dw_seq ?_
        -- region 7
        refine dw_draw 14 [] follows_mixed (by kernel_rfl) rfl rfl ?_
        refine dq_r (sem_field fd30_0 rfl rfl) ?_
        refine dq_r (sem_load (us := cR a) ty28 rfl rfl rfl rfl rfl) ?_
        refine dq_r (sem_field fd30_0 rfl rfl) ?_
        refine dq_r (sem_load (us := cR d) ty28 rfl rfl rfl rfl rfl) ?_
        refine dq_r (sem_call rfl rfl (pSub_ok (by first | assumption | exact Rz.mono ha (by decide)) (by first | assumption | exact Rz.mono hd (by decide))) rfl) ?_
        refine dq_r (sem_field fd30_1 rfl rfl) ?_
        refine dq_r (sem_load (us := cR b) ty28 rfl rfl rfl rfl rfl) ?_
        refine dq_r (sem_field fd30_1 rfl rfl) ?_
        refine dq_r (sem_load (us := cR e) ty28 rfl rfl rfl rfl rfl) ?_
        refine dq_r (sem_call rfl rfl (pSub_ok (by first | assumption | exact Rz.mono hb (by decide)) (by first | assumption | exact Rz.mono he (by decide))) rfl) ?_
        refine dq_r (sem_field fd30_2 rfl rfl) ?_
        refine dq_r (sem_load (us := cR c) ty28 rfl rfl rfl rfl rfl) ?_
        refine dq_r (sem_call rfl rfl (xPlain_ok w1 w2 w3) rfl) ?_
        refine dq_r (sem_assign rfl rfl) ?_
        refine dq_end ?_
        refine dl_start0 ?_
        refine dl_end ?_
        refine dw_ret ?_
        -- path fFT
        rw [cmpP_c (nb_l hb1) hc2 hc3]
        exact ⟨.inr rfl, (resL_tmp rfl resL_nil)⟩
      · refine dw_skip ?_
        refine dw_seq ?_
        -- region 8
        refine dw_region (by kernel_rfl) ?_
        refine dl_r (sem_load (us := (cR a ++ cR b ++ cR c)) ty30 rfl rfl rfl rfl rfl) ?_
        refine dl_r (sem_load (us := (cR d ++ cR e ++ cR f)) ty30 rfl rfl rfl rfl rfl) ?_
        refine dl_r (sem_call rfl rfl (xSub_ok (by assumption) (by assumption) (by assumption) (by assumption) (by assumption) (by assumption)) rfl) ?_
        refine dl_r (sem_call rfl rfl (xSign_ok (by assumption) (by assumption) (by assumption) (by assumption) (by assumption) (by assumption)) rfl) ?_
        refine dl_r (sem_assign rfl rfl) ?_
        refine dl_end ?_
        refine dw_ret ?_
        -- path fFF
        rw [cmpP_s (nb_l hb1) hc2 hc3]
        exact ⟨.inr rfl, (resL_tmp rfl resL_nil)⟩
  · refine dl_r (sem_field fd30_1 rfl rfl) ?_
    refine dl_r (sem_load (us := cR e) ty28 rfl rfl rfl rfl rfl) ?_
    refine dl_r (sem_call rfl rfl (pSign_ok) rfl) ?_
    refine dl_r (sem_cmp rfl rfl rfl rfl) ?_
    refine dl_r (sem_pick rfl rfl rfl rfl) ?_
    refine dl_end ?_
    refine dw_cond rfl (fun hc4 => ?_) (fun hc4 => ?_)
    · refine dw_seq ?_
      -- region 2
      refine dw_region (by kernel_rfl) ?_
      refine dl_r (sem_field fd30_0 rfl rfl) ?_
      refine dl_r (sem_load (us := cR a) ty28 rfl rfl rfl rfl rfl) ?_
      refine dl_r (sem_field fd30_0 rfl rfl) ?_
      refine dl_r (sem_load (us := cR d) ty28 rfl rfl rfl rfl rfl) ?_
      refine dl_r (sem_call rfl rfl (pCmp_ok (by first | assumption | exact Rz.mono ha (by decide)) (by first | assumption | exact Rz.mono hd (by decide))) rfl) ?_
      refine dl_r (sem_assign rfl rfl) ?_
      refine dl_end ?_
      refine dw_ret ?_
      -- path tT
      rw [cmpP_r hb1 hc4]
      exact ⟨.inr rfl, (resL_tmp rfl resL_nil)⟩
    · refine dw_skip ?_
      refine dw_seq ?_
      refine dw_seq ?_
      -- region 3
      refine dw_region (by kernel_rfl) ?_
      refine dl_r (sem_load (us := (cR a ++ cR b ++ cR c)) ty30 rfl rfl rfl rfl rfl) ?_
      refine dl_r (sem_load (us := (cR d ++ cR e ++ cR f)) ty30 rfl rfl rfl rfl rfl) ?_
      refine dl_r (sem_call rfl rfl (xApart_ok (by assumption) (by assumption) (by assumption) (by assumption) (by assumption) (by assumption)) rfl) ?_
      refine dl_r (sem_move rfl rfl) ?_
      refine dl_r (sem_extract rfl rfl rfl) ?_
      refine dl_r (sem_extract rfl rfl rfl) ?_
      refine dl_r (sem_assign rfl rfl) ?_
      refine dl_r (sem_assign rfl rfl) ?_
      refine dl_end ?_
      refine dw_seq ?_
      -- region 4
      refine dw_region (by kernel_rfl) ?_
      refine dl_r (sem_move rfl rfl) ?_
      refine dl_end ?_
      refine dw_cond rfl (fun hc5 => ?_) (fun hc5 => ?_)
      · refine dw_seq ?_
        -- region 5
        refine dw_region (by kernel_rfl) ?_
        refine dl_r (sem_move rfl rfl) ?_
        refine dl_r (sem_assign rfl rfl) ?_
        refine dl_end ?_
        refine dw_ret ?_
        -- path tFT
        rw [cmpP_a (nb_r hc4) hc5]
        exact ⟨.inr rfl, (resL_tmp rfl resL_nil)⟩
      · refine dw_skip ?_
        refine dw_seq ?_
        refine dw_seq ?_
        -- region 6
        refine dw_region (by kernel_rfl) ?_
        refine dl_r (sem_field fd30_2 rfl rfl) ?_
        refine dl_r (sem_load (us := cR c) ty28 rfl rfl rfl rfl rfl) ?_
        refine dl_r (sem_field fd30_2 rfl rfl) ?_
        refine dl_r (sem_load (us := cR f) ty28 rfl rfl rfl rfl rfl) ?_
        refine dl_r (sem_call rfl rfl (pCmp_ok (by first | assumption | exact Rz.mono hc (by decide)) (by first | assumption | exact Rz.mono hf (by decide))) rfl) ?_
        refine dl_r (sem_cmp rfl rfl rfl rfl) ?_
        refine dl_end ?_
        refine dw_cond rfl (fun hc6 => ?_) (fun hc6 => ?_)
        · refine dw_seq ?_
          -- region 7
          refine dw_draw 14 [] follows_mixed (by kernel_rfl) rfl rfl ?_
          refine dq_r (sem_field fd30_0 rfl rfl) ?_
          refine dq_r (sem_load (us := cR a) ty28 rfl rfl rfl rfl rfl) ?_
          refine dq_r (sem_field fd30_0 rfl rfl) ?_
          refine dq_r (sem_load (us := cR d) ty28 rfl rfl rfl rfl rfl) ?_
          refine dq_r (sem_call rfl rfl (pSub_ok (by first | assumption | exact Rz.mono ha (by decide)) (by first | assumption | exact Rz.mono hd (by decide))) rfl) ?_
          refine dq_r (sem_field fd30_1 rfl rfl) ?_
          refine dq_r (sem_load (us := cR b) ty28 rfl rfl rfl rfl rfl) ?_
          refine dq_r (sem_field fd30_1 rfl rfl) ?_
          refine dq_r (sem_load (us := cR e) ty28 rfl rfl rfl rfl rfl) ?_
          refine dq_r (sem_call rfl rfl (pSub_ok (by first | assumption | exact Rz.mono hb (by decide)) (by first | assumption | exact Rz.mono he (by decide))) rfl) ?_
          refine dq_r (sem_field fd30_2 rfl rfl) ?_
          refine dq_r (sem_load (us := cR c) ty28 rfl rfl rfl rfl rfl) ?_
          refine dq_r (sem_call rfl rfl (xPlain_ok w1 w2 w3) rfl) ?_
          refine dq_r (sem_assign rfl rfl) ?_
          refine dq_end ?_
          refine dl_start0 ?_
          refine dl_end ?_
          refine dw_ret ?_
          -- path tFFT
          rw [cmpP_c (nb_r hc4) hc5 hc6]
          exact ⟨.inr rfl, (resL_tmp rfl resL_nil)⟩
        · refine dw_skip ?_
          refine dw_seq ?_
          -- region 8
          refine dw_region (by kernel_rfl) ?_
          refine dl_r (sem_load (us := (cR a ++ cR b ++ cR c)) ty30 rfl rfl rfl rfl rfl) ?_
          refine dl_r (sem_load (us := (cR d ++ cR e ++ cR f)) ty30 rfl rfl rfl rfl rfl) ?_
          refine dl_r (sem_call rfl rfl (xSub_ok (by assumption) (by assumption) (by assumption) (by assumption) (by assumption) (by assumption)) rfl) ?_
          refine dl_r (sem_call rfl rfl (xSign_ok (by assumption) (by assumption) (by assumption) (by assumption) (by assumption) (by assumption)) rfl) ?_
          refine dl_r (sem_assign rfl rfl) ?_
          refine dl_end ?_
          refine dw_ret ?_
          -- path tFFF
          rw [cmpP_s (nb_r hc4) hc5 hc6]
          exact ⟨.inr rfl, (resL_tmp rfl resL_nil)⟩
end Go.Proofs.YtcimbhjmjlfloaaGreat
/- The order of points and the square of a root: the reference. -/
namespace Go.Proofs.YtcimbhjmjlfloaaGreat
open Go Go.RowKit
-- no function swarf/swarfref07.Compare in this seat
-- no function swarf/swarfref07.Equal in this seat
-- no function swarf/swarfref03.Square in this seat
end Go.Proofs.YtcimbhjmjlfloaaGreat
/- Plain: the program's order of points. -/
namespace Go.Proofs.YtcimbhjmjlfloaaGreat
open Go Go.RowKit
def cmpCP (a b c p q r : Rat) : Int := cmpP a b (zc b c) p q (zc q r)
def cmpPP (a1 b1 a2 b2 c p1 q1 p2 q2 r : Rat) : Int := if cmpP a1 b1 (zc b1 c) p1 q1 (zc q1 r) ≠ 0 then cmpP a1 b1 (zc b1 c) p1 q1 (zc q1 r) else cmpP a2 b2 (zc b2 c) p2 q2 (zc q2 r)
theorem cmpPP_t {a1 b1 a2 b2 c p1 q1 p2 q2 r : Rat} (h : (cmpP a1 b1 (zc b1 c) p1 q1 (zc q1 r) != 0) = true) : cmpPP a1 b1 a2 b2 c p1 q1 p2 q2 r = cmpP a1 b1 (zc b1 c) p1 q1 (zc q1 r) := by unfold cmpPP; rw [if_pos (by simpa using h)]
theorem cmpPP_f {a1 b1 a2 b2 c p1 q1 p2 q2 r : Rat} (h : (cmpP a1 b1 (zc b1 c) p1 q1 (zc q1 r) != 0) = false) : cmpPP a1 b1 a2 b2 c p1 q1 p2 q2 r = cmpP a2 b2 (zc b2 c) p2 q2 (zc q2 r) := by unfold cmpPP; rw [if_neg (by simpa using h)]
end Go.Proofs.YtcimbhjmjlfloaaGreat
/- Plain: intervals hold what they were made for; the program's signs and orders are those of the sums. -/
namespace Go.Proofs.YtcimbhjmjlfloaaGreat
open Go Go.RowKit
def leR (x y : Re) : Prop := 0 ≤ sgR (y - x)
theorem le_tr {x y z : Re} (h : leR x y) (g : leR y z) : leR x z := by
  unfold leR at *
  have e : z - x = (z - y) + (y - x) := Re.ext fun k => by simp only [re_sub, re_add]; grind
  rw [e]; exact sgR_nn g h
theorem of_le {p q : Rat} (h : p ≤ q) : leR (Re.of p) (Re.of q) := by
  unfold leR
  rw [of_sub, sgR_of]
  unfold cmpR
  rw [if_neg (by grind)]
  split <;> omega
theorem nn_of {x y : Re} (h : ∀ k, x.s k = y.s k) (g : 0 ≤ sgR x) : 0 ≤ sgR y := by rw [← Re.ext h]; exact g
def InI (lo hi : Int) (x : Re) : Prop := leR (Re.of (lo : Rat)) (Re.of 65536 * x) ∧ leR (Re.of 65536 * x) (Re.of (hi : Rat))
theorem sgR_add_le {x y u v : Re} (h : leR x y) (g : leR u v) : leR (x + u) (y + v) := by
  unfold leR at *
  exact nn_of (fun k => by simp only [re_sub, re_add]; grind) (sgR_nn h g)
theorem fl_le (y : Rat) : ((y.num.fdiv (y.den : Int) : Int) : Rat) ≤ y := by
  have hd := den_pos y
  have h1 := r_num y
  have hp : (0 : Rat) < ((y.den : Int) : Rat) := Rat.intCast_pos.2 hd
  refine q_cancel hp ?_
  rw [h1, ← Rat.intCast_mul]
  refine Rat.intCast_le_intCast.2 ?_
  rw [Int.fdiv_eq_ediv_of_nonneg _ (by omega), Int.mul_comm]
  have := Int.mul_ediv_add_emod y.num (y.den : Int)
  have := Int.emod_nonneg y.num (show (y.den : Int) ≠ 0 by omega)
  omega
theorem in_fr (a : Rat) : InI (frLo a) (frHi a) (Re.of a) := by
  have h1 := fl_le (a * ((65536 : Int) : Rat))
  have h2 := fl_le (-(a * ((65536 : Int) : Rat)))
  have e : ((65536 : Int) : Rat) = 65536 := rfl
  rw [e] at h1 h2
  refine ⟨?_, ?_⟩
  · rw [of_mul]
    refine of_le ?_
    unfold frLo
    rw [e]
    grind
  · rw [of_mul]
    refine of_le ?_
    unfold frHi
    rw [e, Rat.intCast_neg]
    grind
theorem in_g {a : Rat} (h : frOk a = true) : InI (gL a) (gH a) (Re.of a) := by
  unfold gL gH; rw [h, if_pos rfl, if_pos rfl]; exact in_fr a
theorem sq_le_re {p q : Re} (_hp : 0 ≤ sgR p) (hq : 0 ≤ sgR q) (h : 0 ≤ sgR (q * q - p * p)) : leR p q := by
  unfold leR
  rcases sgR_cases (q - p) with a | a | a
  · omega
  · omega
  · exfalso
    have h1 : 0 < sgR (p - q) := by
      have e : p - q = -(q - p) := Re.ext fun k => by simp only [re_sub, re_neg]; grind
      rw [e, sgR_neg, a]; decide
    have h2 : 0 < sgR (p + q) := by
      have e : p + q = (p - q) + (q + q) := Re.ext fun k => by simp only [re_sub, re_add]; grind
      rw [e]; exact sgR_pn h1 (sgR_nn hq hq)
    have h3 : sgR ((q - p) * (p + q)) = sgR (q * q - p * p) := congrArg sgR (Re.ext fun k => by simp only [re_sub, re_add, re_mul]; grind)
    rw [sgR_mul, a] at h3
    omega
theorem nn_cast {n : Int} (h : 0 ≤ n) : 0 ≤ sgR (Re.of (n : Rat)) := by
  have := of_le (Rat.intCast_nonneg.2 h)
  unfold leR at this
  refine nn_of (fun k => ?_) this
  simp only [re_sub, re_of]; grind
theorem of_le_iff {p q : Rat} (h : leR (Re.of p) (Re.of q)) : p ≤ q := by
  unfold leR at h
  rw [of_sub, sgR_of] at h
  unfold cmpR at h
  apply Classical.byContradiction
  intro hn
  rw [if_pos (by grind)] at h
  omega
theorem rt65_nn (m : Rat) : 0 ≤ sgR (Re.of 65536 * Re.rt m) := by
  have h1 := rt_nn m
  have h2 : sgR (Re.of 65536) = 1 := by rw [sgR_of]; decide +kernel
  rw [sgR_mul, h2]; omega
theorem rt65_sq {m : Rat} (h : 0 ≤ m) (q : Rat) : sgR (Re.of 65536 * Re.rt m * (Re.of 65536 * Re.rt m) - Re.of q) = cmpR (65536 * 65536 * m) q := by
  rw [← cmpR_sub, ← sgR_of]
  refine sgR_same ?_
  have e : Re.of 65536 * Re.rt m * (Re.of 65536 * Re.rt m) - Re.of q - Re.of (65536 * 65536 * m - q) = Re.of (65536 * 65536) * (Re.rt m * Re.rt m - Re.of m) := Re.ext fun k => by
    simp only [re_sub, re_mul, re_of]; grind
  rw [e, sgR_mul, rt_sq h, Int.mul_zero]
theorem cmpR_ge {x y : Rat} (h : y ≤ x) : 0 ≤ cmpR x y := by unfold cmpR; rw [if_neg (by grind)]; split <;> omega
theorem cmpR_le {x y : Rat} (h : x ≤ y) : cmpR x y ≤ 0 := by
  unfold cmpR
  split
  · omega
  · rw [if_neg (by grind)]; omega
theorem in_sq {m : Rat} (hm : 0 ≤ m) {lo hi : Int} (h : InI lo hi (Re.of m)) : InI (sqLo lo) (sqHi hi) (Re.rt m) := by
  obtain ⟨h1, h2⟩ := h
  rw [of_mul] at h1 h2
  have g1 := of_le_iff h1
  have g2 := of_le_iff h2
  have hq : (0 : Rat) ≤ 65536 * m := Rat.mul_nonneg (by decide) hm
  refine ⟨?_, ?_⟩
  · refine sq_le_re (nn_cast (isqI_nonneg _)) (rt65_nn m) ?_
    rw [of_mul, rt65_sq hm]
    refine cmpR_ge ?_
    have h3 := isqI_le (x := max lo 0 * 65536) (by omega)
    have h4 : ((isqI (max lo 0 * 65536) * isqI (max lo 0 * 65536) : Int) : Rat) ≤ ((max lo 0 * 65536 : Int) : Rat) := Rat.intCast_le_intCast.2 h3
    rw [Rat.intCast_mul, Rat.intCast_mul] at h4
    have e65 : ((65536 : Int) : Rat) = 65536 := rfl
    have h5 : ((max lo 0 : Int) : Rat) ≤ 65536 * m := by
      by_cases hl : 0 ≤ lo
      · rw [show max lo 0 = lo from by omega]; exact g1
      · rw [show max lo 0 = 0 from by omega]; simpa using hq
    rw [e65] at h4
    unfold sqLo
    grind
  · refine sq_le_re (rt65_nn m) (nn_cast ?_) ?_
    · unfold sqHi; have := isqI_nonneg (hi * 65536); split <;> omega
    have h3 : 0 ≤ -sgR (Re.of 65536 * Re.rt m * (Re.of 65536 * Re.rt m) - Re.of (((sqHi hi : Int) : Rat) * ((sqHi hi : Int) : Rat))) := by
      rw [rt65_sq hm]
      have hh : (0 : Int) ≤ hi := by
        have : (0 : Rat) ≤ (hi : Rat) := by grind
        exact Rat.intCast_nonneg.1 this
      have h4 : hi * 65536 ≤ sqHi hi * sqHi hi := by
        unfold sqHi
        split
        · rename_i hs
          unfold sqI at hs
          have := beq_iff_eq.1 hs
          omega
        · have := isqI_lt (x := hi * 65536) (by omega)
          omega
      have h5 : ((hi * 65536 : Int) : Rat) ≤ ((sqHi hi * sqHi hi : Int) : Rat) := Rat.intCast_le_intCast.2 h4
      rw [Rat.intCast_mul, Rat.intCast_mul] at h5
      have e65 : ((65536 : Int) : Rat) = 65536 := rfl
      rw [e65] at h5
      have := cmpR_le (x := 65536 * 65536 * m) (y := ((sqHi hi : Int) : Rat) * ((sqHi hi : Int) : Rat)) (by grind)
      omega
    rw [← sgR_neg] at h3
    refine nn_of (fun k => ?_) h3
    simp only [re_neg, re_sub, re_mul, re_of]; grind
/-- a line at its ends -/
theorem lin_nn {k u v U L : Re} (h1 : 0 ≤ sgR (k * u - L)) (h2 : 0 ≤ sgR (k * v - L)) (g1 : leR u U) (g2 : leR U v) : 0 ≤ sgR (k * U - L) := by
  unfold leR at *
  have e : (v - u) * (k * U - L) = (v - U) * (k * u - L) + (U - u) * (k * v - L) := Re.ext fun j => by simp only [re_sub, re_mul, re_add]; grind
  have hr : 0 ≤ sgR ((v - U) * (k * u - L) + (U - u) * (k * v - L)) := by
    refine sgR_nn ?_ ?_
    · rw [sgR_mul]; exact Int.mul_nonneg g2 h1
    · rw [sgR_mul]; exact Int.mul_nonneg g1 h2
  rw [← e, sgR_mul] at hr
  have e2 : sgR (v - u) = sgR ((v - U) + (U - u)) := congrArg sgR (Re.ext fun j => by simp only [re_sub, re_add]; grind)
  rcases sgR_cases (v - u) with a | a | a
  · rw [a] at hr; omega
  · rcases sgR_cases (U - u) with b | b | b
    · have := sgR_pn (x := U - u) (y := v - U) (by omega) g2
      rw [re_addc] at this
      omega
    · have e3 : k * U - L = (k * u - L) + k * (U - u) := Re.ext fun j => by simp only [re_sub, re_add, re_mul]; grind
      rw [e3, sgR_addz _ (by rw [sgR_mul, b, Int.mul_zero])]
      exact h1
    · omega
  · have := sgR_nn g2 g1
    omega
theorem bil_nn {x y u v X U L : Re} (h1 : 0 ≤ sgR (x * u - L)) (h2 : 0 ≤ sgR (x * v - L)) (h3 : 0 ≤ sgR (y * u - L)) (h4 : 0 ≤ sgR (y * v - L)) (g1 : leR x X) (g2 : leR X y) (g3 : leR u U) (g4 : leR U v) : 0 ≤ sgR (X * U - L) := by
  have a := lin_nn h1 h2 g3 g4
  have b := lin_nn h3 h4 g3 g4
  rw [re_mulc x U] at a
  rw [re_mulc y U] at b
  have := lin_nn a b g1 g2
  rw [re_mulc U X] at this
  exact this
theorem sc_lo (a b : Int) : scLo a b * 65536 ≤ a * b ∧ a * b ≤ scHi a b * 65536 := by
  have e : a * b = if (!(decide (a < 0) == decide (b < 0))) = true then -scP a b else scP a b := by
    unfold scP
    by_cases ha : a < 0 <;> by_cases hb : b < 0
    · have h1 : (a.natAbs : Int) = -a := by omega
      have h2 : (b.natAbs : Int) = -b := by omega
      simp [ha, hb, h1, h2]; try grind
    · have h1 : (a.natAbs : Int) = -a := by omega
      have h2 : (b.natAbs : Int) = b := by omega
      simp [ha, hb, h1, h2]; try grind
    · have h1 : (a.natAbs : Int) = a := by omega
      have h2 : (b.natAbs : Int) = -b := by omega
      simp [ha, hb, h1, h2]; try grind
    · have h1 : (a.natAbs : Int) = a := by omega
      have h2 : (b.natAbs : Int) = b := by omega
      simp [ha, hb, h1, h2]
  rw [e]
  unfold scLo scHi
  generalize scP a b = p
  have hu : p ≤ scUp p * 65536 := by unfold scUp; split <;> omega
  generalize scUp p = u at *
  by_cases hc : (!(decide (a < 0) == decide (b < 0))) = true
  · rw [if_pos hc, if_pos hc, if_pos hc]; omega
  · rw [if_neg hc, if_neg hc, if_neg hc]; omega
theorem in_mul {x y u v : Int} {X U : Re} (h : InI x y X) (g : InI u v U) : InI (loN x y u v 4) (hiN x y u v 4) (X * U) := by
  have lo : ∀ a b : Int, loN x y u v 4 ≤ scLo a b → 0 ≤ sgR (Re.of (a : Rat) * Re.of (b : Rat) - Re.of ((loN x y u v 4 * 65536 : Int) : Rat)) := by
    intro a b hl
    rw [of_mul]
    refine of_le ?_
    rw [← Rat.intCast_mul]
    exact Rat.intCast_le_intCast.2 (by have := (sc_lo a b).1; omega)
  have hi : ∀ a b : Int, scHi a b ≤ hiN x y u v 4 → 0 ≤ sgR (-Re.of (a : Rat) * Re.of (b : Rat) - Re.of (-((hiN x y u v 4 * 65536 : Int) : Rat))) := by
    intro a b hl
    rw [of_neg, of_mul]
    refine of_le ?_
    have h1 : ((a * b : Int) : Rat) ≤ ((hiN x y u v 4 * 65536 : Int) : Rat) := Rat.intCast_le_intCast.2 (by have := (sc_lo a b).2; omega)
    rw [Rat.intCast_mul] at h1
    grind
  have hlo : loN x y u v 4 = min (min (min (min 2305843009213693952 (scLo x u)) (scLo x v)) (scLo y u)) (scLo y v) := rfl
  have hhi : hiN x y u v 4 = max (max (max (max (-2305843009213693952) (scHi x u)) (scHi x v)) (scHi y u)) (scHi y v) := rfl
  have e65 : ((65536 : Int) : Rat) = 65536 := rfl
  have p65 : sgR (Re.of 65536) = 1 := by rw [sgR_of]; decide +kernel
  refine ⟨?_, ?_⟩
  · have hb := bil_nn (lo x u (by omega)) (lo x v (by omega)) (lo y u (by omega)) (lo y v (by omega)) h.1 h.2 g.1 g.2
    have e : sgR (Re.of 65536 * (Re.of 65536 * (X * U) - Re.of ((loN x y u v 4 : Int) : Rat))) = sgR (Re.of 65536 * X * (Re.of 65536 * U) - Re.of ((loN x y u v 4 * 65536 : Int) : Rat)) := congrArg sgR (Re.ext fun k => by
      simp only [re_sub, re_mul, re_of, Rat.intCast_mul, e65]; grind)
    rw [← e, sgR_mul, p65, Int.one_mul] at hb
    exact hb
  · have n1 : leR (-Re.of (y : Rat)) (-(Re.of 65536 * X)) := nn_of (fun k => by simp only [re_sub, re_neg]; grind) h.2
    have n2 : leR (-(Re.of 65536 * X)) (-Re.of (x : Rat)) := nn_of (fun k => by simp only [re_sub, re_neg]; grind) h.1
    have hb := bil_nn (hi y u (by omega)) (hi y v (by omega)) (hi x u (by omega)) (hi x v (by omega)) n1 n2 g.1 g.2
    have e : sgR (Re.of 65536 * (Re.of ((hiN x y u v 4 : Int) : Rat) - Re.of 65536 * (X * U))) = sgR (-(Re.of 65536 * X) * (Re.of 65536 * U) - Re.of (-((hiN x y u v 4 * 65536 : Int) : Rat))) := congrArg sgR (Re.ext fun k => by
      simp only [re_sub, re_mul, re_of, re_neg, Rat.intCast_mul, e65]; grind)
    rw [← e, sgR_mul, p65, Int.one_mul] at hb
    exact hb
theorem in_p {x y u v : Int} {X U : Re} (h : InI x y X) (g : InI u v U) (hk : okN x y u v 4 = true) : InI (pL x y u v) (pH x y u v) (X * U) := by
  unfold pL pH; rw [hk, if_pos rfl, if_pos rfl]; exact in_mul h g
theorem in_add {x y u v : Int} {X U : Re} (h : InI x y X) (g : InI u v U) : InI (x + u) (y + v) (X + U) := by
  have a := sgR_add_le h.1 g.1
  have b := sgR_add_le h.2 g.2
  refine ⟨nn_of (fun k => ?_) a, nn_of (fun k => ?_) b⟩
  · simp only [re_sub, re_add, re_mul, re_of, Rat.intCast_add]; grind
  · simp only [re_sub, re_add, re_mul, re_of, Rat.intCast_add]; grind
theorem in_a {x y u v : Int} {X U : Re} (h : InI x y X) (g : InI u v U) (hk : okI (x + u) (y + v) = true) : InI (aL x y u v) (aH x y u v) (X + U) := by
  unfold aL aH; rw [hk, if_pos rfl, if_pos rfl]; exact in_add h g
theorem sg65 (X : Re) : sgR (Re.of 65536 * X) = sgR X := by
  have p65 : sgR (Re.of 65536) = 1 := by rw [sgR_of]; decide +kernel
  rw [sgR_mul, p65, Int.one_mul]
theorem pos_cast {n : Int} (h : 0 < n) : 0 < sgR (Re.of (n : Rat)) := by
  rw [sgR_of]
  have h1 : (0 : Rat) < (n : Rat) := Rat.intCast_pos.2 h
  unfold cmpR
  rw [if_neg (by grind), if_pos h1]; decide
theorem in_lo {lo hi : Int} {X : Re} (h : InI lo hi X) (hl : 0 < lo) : sgR X = 1 := by
  have h1 := sgR_pn (pos_cast hl) h.1
  have e : sgR (Re.of (lo : Rat) + (Re.of 65536 * X - Re.of (lo : Rat))) = sgR (Re.of 65536 * X) := congrArg sgR (Re.ext fun k => by simp only [re_sub, re_add]; grind)
  rw [e, sg65] at h1
  have := sgR_cases X
  omega
theorem in_hi {lo hi : Int} {X : Re} (h : InI lo hi X) (hl : hi < 0) : sgR X = -1 := by
  have h0 : 0 < sgR (-Re.of (hi : Rat)) := by
    rw [of_neg, ← Rat.intCast_neg]; exact pos_cast (by omega)
  have h1 := sgR_pn h0 h.2
  have e : sgR (-Re.of (hi : Rat) + (Re.of (hi : Rat) - Re.of 65536 * X)) = sgR (-(Re.of 65536 * X)) := congrArg sgR (Re.ext fun k => by simp only [re_sub, re_add, re_neg]; grind)
  rw [e, sgR_neg, sg65] at h1
  have := sgR_cases X
  omega
theorem in_zero {X : Re} (h : InI 0 0 X) : sgR X = 0 := by
  have h1 := h.1
  have h2 := h.2
  unfold leR at h1 h2
  have e1 : sgR (Re.of 65536 * X - Re.of ((0 : Int) : Rat)) = sgR (Re.of 65536 * X) := congrArg sgR (Re.ext fun k => by simp only [re_sub, re_of]; grind)
  have e2 : sgR (Re.of ((0 : Int) : Rat) - Re.of 65536 * X) = sgR (-(Re.of 65536 * X)) := congrArg sgR (Re.ext fun k => by simp only [re_sub, re_of, re_neg]; grind)
  rw [e1, sg65] at h1
  rw [e2, sgR_neg, sg65] at h2
  omega
theorem in_sign {lo hi : Int} {X : Re} (h : InI lo hi X) (hs : skI lo hi = true) : sgI lo hi = sgR X := by
  unfold skI at hs
  simp only [Bool.or_eq_true, decide_eq_true_eq, Bool.and_eq_true, beq_iff_eq] at hs
  unfold sgI
  by_cases h1 : lo > 0
  · rw [if_pos h1, in_lo h h1]
  · rw [if_neg h1]
    by_cases h2 : hi < 0
    · rw [if_pos h2, in_hi h h2]
    · rw [if_neg h2]
      rcases hs with hs | hs | ⟨hs, hs'⟩
      · omega
      · omega
      · subst hs hs'
        exact (in_zero h).symm
/-- quick tells the sign -/
theorem qk_sign {A B C D M N : Rat} (hM : 0 ≤ M) (hN : 0 ≤ N) (h : qkK A B C D M N = true) : qkS A B C D M N = sgR (val6 A B C D M N) := by
  unfold qkK at h
  rw [Bool.and_eq_true] at h
  obtain ⟨h3, hs⟩ := h
  rw [(qk_yes h3).1]
  unfold qK3 qK2 qK1 at h3
  simp only [Bool.and_eq_true] at h3
  obtain ⟨⟨⟨k1, k2⟩, k3, k4, k5, k6, k7, k8, k9⟩, k10, k11, k12, k13⟩ := h3
  have im := in_sq hM (in_g k1)
  have in_ := in_sq hN (in_g k2)
  have ib : InI (qbL B M) (qbH B M) _ := in_p (in_g k3) im k4
  have ic : InI (qbL C N) (qbH C N) _ := in_p (in_g k5) in_ k6
  have imn : InI (qmnL M N) (qmnH M N) _ := in_p im in_ k8
  have id' : InI (qdL D M N) (qdH D M N) _ := in_p (in_g k7) imn k9
  have iab : InI (qabL A B M) (qabH A B M) _ := in_a (in_g k10) ib k11
  have icd : InI (qcdL C D M N) (qcdH C D M N) _ := in_a ic id' k12
  have is' : InI (qsL A B C D M N) (qsH A B C D M N) _ := in_a iab icd k13
  rw [in_sign is' hs]
  refine congrArg sgR (Re.ext fun k => ?_)
  unfold val6 val3
  simp only [re_add, re_mul, re_of]; grind
theorem sgnP_eq {A B C D M N : Rat} (hM : 0 ≤ M) (hN : 0 ≤ N) : sgnP A B C D M N = sgR (val6 A B C D M N) := by
  unfold sgnP
  rw [if_neg (by rintro (h | h) <;> grind)]
  split
  · rename_i h; exact qk_sign hM hN h
  · exact signQ_sg hM hN
/-- the interval of a root -/
theorem in_rt {a b c : Rat} (h : rtOk a b c = true) : InI (rtLo a b c) (rtHi a b c) (val3 a b c) := by
  have h0 := h
  unfold rtOk at h
  rw [Bool.and_eq_true] at h
  obtain ⟨h1, h2⟩ := h
  cases hb : (cmpR b 0 == 0) with
  | true =>
    obtain ⟨e1, e2, _⟩ := rt_b (c := c) h1 hb
    rw [e1, e2]
    have hb0 : b = 0 := r_eq hb
    subst hb0
    have := in_fr a
    have e : val3 a 0 c = Re.of a := Re.ext fun k => by unfold val3; simp only [re_add, re_mul, re_of]; grind
    rw [e]; exact this
  | false =>
    rw [hb, Bool.false_or] at h2
    unfold rtX at h2
    simp only [Bool.and_eq_true, Bool.not_eq_true'] at h2
    obtain ⟨g1, g2, g3, g4, g5⟩ := h2
    have hc : 0 ≤ c := Rat.not_lt.1 (r_nlt g3)
    obtain ⟨e1, e2, _⟩ := rt_f h1 hb g1 g2 g3 g4
    have ir := in_sq hc (in_fr c)
    have im := in_mul (in_fr b) ir
    have := in_add (in_fr a) im
    unfold rtLo rtHi
    rw [h0, if_pos rfl, if_pos rfl, hb, if_neg (by decide), if_neg (by decide)]
    exact this
theorem ap_sign {a b c d e f : Rat} (h : apK (rtOk a b c) (rtOk d e f) (rtLo a b c) (rtHi a b c) (rtLo d e f) (rtHi d e f) = true) :
    apS (rtOk a b c) (rtOk d e f) (rtLo a b c) (rtHi a b c) (rtLo d e f) (rtHi d e f) = sgR (val3 a b c - val3 d e f) := by
  unfold apK at h
  simp only [Bool.and_eq_true, Bool.or_eq_true, decide_eq_true_eq] at h
  obtain ⟨⟨k1, k2⟩, hs⟩ := h
  have i1 := in_rt k1
  have i2 := in_rt k2
  have i3 : InI (rtLo a b c - rtHi d e f) (rtHi a b c - rtLo d e f) (val3 a b c - val3 d e f) := by
    have n := sgR_add_le i1.1 (nn_of (y := -(Re.of 65536 * val3 d e f) - -Re.of ((rtHi d e f : Int) : Rat)) (fun k => by simp only [re_sub, re_neg]; grind) i2.2)
    have m := sgR_add_le i1.2 (nn_of (y := -Re.of ((rtLo d e f : Int) : Rat) - -(Re.of 65536 * val3 d e f)) (fun k => by simp only [re_sub, re_neg]; grind) i2.1)
    refine ⟨nn_of (fun k => ?_) n, nn_of (fun k => ?_) m⟩
    · simp only [re_sub, re_add, re_mul, re_of, re_neg, Rat.intCast_sub]; grind
    · simp only [re_sub, re_add, re_mul, re_of, re_neg, Rat.intCast_sub]; grind
  unfold apS
  rw [k1, k2, Bool.and_self, if_pos rfl]
  by_cases h1 : rtHi a b c < rtLo d e f
  · rw [if_pos (decide_eq_true h1), in_hi i3 (by omega)]
  · rw [if_neg (by simpa using h1)]
    rcases hs with hs | hs
    · omega
    · rw [if_pos (decide_eq_true hs), in_lo i3 (by omega)]
/-- THE PROGRAM'S ORDER OF ROOTS is that of their values -/
theorem cmpP_eq {a b c d e f : Rat} (hc : 0 ≤ c) (hf : 0 ≤ f) : cmpP a b c d e f = sgR (val3 a b c - val3 d e f) := by
  unfold cmpP
  split
  · rename_i h
    have hb : b = 0 := r_eq h.1
    have he : e = 0 := r_eq h.2
    subst hb he
    rw [← cmpR_sub, ← sgR_of]
    refine congrArg sgR (Re.ext fun k => ?_)
    unfold val3; simp only [re_sub, re_add, re_mul, re_of]; grind
  · split
    · rename_i h; exact ap_sign h
    · split
      · rename_i h
        have e1 : c = f := cmpR_eq0.1 (by simpa using h)
        subst e1
        rw [plainS_sg hc]
        refine congrArg sgR (Re.ext fun k => ?_)
        unfold val3; simp only [re_sub, re_add, re_mul, re_of]; grind
      · rw [sgnP_eq hc hf]
        refine congrArg sgR (Re.ext fun k => ?_)
        unfold val6 val3; simp only [re_sub, re_add, re_mul, re_of]; grind
end Go.Proofs.YtcimbhjmjlfloaaGreat
/- point.Compare, Equal, Square. -/
namespace Go.Proofs.YtcimbhjmjlfloaaGreat
open Go Go.RowKit
-- no function swarf/point.Compare in this seat
-- no function swarf/point.Equal in this seat
-- no function swarf/point.Square in this seat
end Go.Proofs.YtcimbhjmjlfloaaGreat
/- Plain: the root of a square as a number; the zero root. -/
namespace Go.Proofs.YtcimbhjmjlfloaaGreat
open Go Go.RowKit
theorem isqI_pos {x : Int} (h : 0 < x) : 0 < isqI x := by
  have h1 := isqI_lt (x := x) (by omega)
  have h2 := isqI_nonneg x
  by_cases e : isqI x = 0
  · rw [e] at h1; omega
  · omega
theorem Rz.rt {k : Nat} {c : Rat} (h : Rz k c) : Rz k (rt c) := Rz.of h.n.isq h.d.isq (by have := isqI_pos (den_pos c); omega)
theorem rt_cells {c : Rat} (h : sqR c = true) : cQ (if sqR c then isqI c.num else 0) (if sqR c then isqI (c.den : Int) else 0) = cR (rt c) := by
  have := rt_data h
  unfold dQ dR at this
  injection this
def zR : List CellD := [.b false, .s 0 [], .b false, .s 0 [], .b false, .s 0 [], .b false, .s 0 [], .b false, .s 0 [], .b false, .s 0 []]
end Go.Proofs.YtcimbhjmjlfloaaGreat
/- swarfref03.Make, CmpRat. -/
namespace Go.Proofs.YtcimbhjmjlfloaaGreat
open Go Go.RowKit
-- no function swarf/swarfref03.Make in this seat
-- no function swarf/swarfref03.Make in this seat
-- no function swarf/swarfref03.CmpRat in this seat
end Go.Proofs.YtcimbhjmjlfloaaGreat
/- swarfref03.Of. -/
namespace Go.Proofs.YtcimbhjmjlfloaaGreat
open Go Go.RowKit
-- no function swarf/swarfref03.Of in this seat
-- no function swarf/swarfref03.Of in this seat
end Go.Proofs.YtcimbhjmjlfloaaGreat
/- Points: Make. -/
namespace Go.Proofs.YtcimbhjmjlfloaaGreat
open Go Go.RowKit
-- no function swarf/point.Make in this seat
-- no function swarf/point.Make in this seat
-- no function swarf/swarfref07.Make in this seat
-- no function swarf/swarfref07.Make in this seat
end Go.Proofs.YtcimbhjmjlfloaaGreat
/- Plain: the chapter's examples of points at their numbers. -/
namespace Go.Proofs.YtcimbhjmjlfloaaGreat
open Go Go.RowKit
theorem rz_l {k : Nat} {x : Rat} (h : (decide (-1000000000 < x.num) && (decide (x.num < 1000000000) && (decide ((x.den : Int) < 1000000000) && decide (1 ≤ k)))) = true) : Rz k x := by
  simp only [Bool.and_eq_true, decide_eq_true_eq] at h
  have h1 := pw_le h.2.2.2
  have e : pw 1 = 1000000000 := by decide +kernel
  have hp := den_pos x
  exact ⟨⟨by omega, by omega⟩, ⟨by omega, by omega⟩⟩
section
variable {P : Program} {f : FuncId} {ds rs : List D0} {x y z u v x' y' z' u' v' : Rat}
theorem rcast2 (h : Ok P f ds [.a (cR x ++ cR y)]) (e1 : x = x') (e2 : y = y') : Ok P f ds [.a (cR x' ++ cR y')] := by subst e1 e2; exact h
theorem rcast3 (h : Ok P f ds [.a (cR x ++ cR y ++ cR z)]) (e1 : x = x') (e2 : y = y') (e3 : z = z') : Ok P f ds [.a (cR x' ++ cR y' ++ cR z')] := by subst e1 e2 e3; exact h
theorem rcast5 {rs : List D0} (h : Ok P f ds (.a (cR x ++ cR y ++ cR z ++ cR u ++ cR v) :: rs)) (e1 : x = x') (e2 : y = y') (e3 : z = z') (e4 : u = u') (e5 : v = v') : Ok P f ds (.a (cR x' ++ cR y' ++ cR z' ++ cR u' ++ cR v') :: rs) := by subst e1 e2 e3 e4 e5; exact h
theorem rcast5a (h : Ok P f ds [.a (cR x ++ cR y ++ cR z ++ cR u ++ cR v)]) (e1 : x = x') (e2 : y = y') (e3 : z = z') (e4 : u = u') (e5 : v = v') : Ok P f ds [.a (cR x' ++ cR y' ++ cR z' ++ cR u' ++ cR v')] := rcast5 h e1 e2 e3 e4 e5
theorem rcastb {b c : Bool} (h : Ok P f ds [.c (.b b)]) (e : b = c) : Ok P f ds [.c (.b c)] := by subst e; exact h
theorem rcasti {b c : Int} (h : Ok P f ds [.c (.i .i64 b)]) (e : b = c) : Ok P f ds [.c (.i .i64 c)] := by subst e; exact h
end
theorem aw_q8 : sqLo (frLo 8) = 185363 := isqI_unique (x := max (frLo 8) 0 * 65536) (by decide +kernel) (by decide) (by decide +kernel) (by decide +kernel)
theorem aw_h8 : isqI (frHi 8 * 65536) = 185363 := isqI_unique (by decide +kernel) (by decide) (by decide +kernel) (by decide +kernel)
theorem aw_q8h : sqHi (frHi 8) = 185364 := by unfold sqHi sqI; rw [aw_h8]; decide +kernel
theorem aw_q2 : sqLo (frLo 2) = 92681 := isqI_unique (x := max (frLo 2) 0 * 65536) (by decide +kernel) (by decide) (by decide +kernel) (by decide +kernel)
theorem aw_h2 : isqI (frHi 2 * 65536) = 92681 := isqI_unique (by decide +kernel) (by decide) (by decide +kernel) (by decide +kernel)
theorem aw_q2h : sqHi (frHi 2) = 92682 := by unfold sqHi sqI; rw [aw_h2]; decide +kernel
theorem aw_rt8 : rtOk 0 1 8 = true ∧ rtLo 0 1 8 = 185363 ∧ rtHi 0 1 8 = 185364 := by
  unfold rtLo rtHi rtOk rtX rtMo rtMl rtMh
  rw [aw_q8, aw_q8h]
  decide +kernel
theorem aw_rt2 : rtOk 0 2 2 = true ∧ rtLo 0 2 2 = 185362 ∧ rtHi 0 2 2 = 185364 := by
  unfold rtLo rtHi rtOk rtX rtMo rtMl rtMh
  rw [aw_q2, aw_q2h]
  decide +kernel
theorem aw_rt3 : rtOk 3 0 0 = true ∧ rtLo 3 0 0 = 196608 ∧ rtHi 3 0 0 = 196608 := by
  have e : rtOk 3 0 0 = true := by unfold rtOk; rw [show (cmpR 0 0 == 0) = true from by decide +kernel]; decide +kernel
  unfold rtLo rtHi
  rw [e]
  decide +kernel
theorem aw_k : qkK 0 1 (-2) 0 8 2 = false := by
  have g8 : gL 8 = frLo 8 ∧ gH 8 = frHi 8 := by decide +kernel
  have g2 : gL 2 = frLo 2 ∧ gH 2 = frHi 2 := by decide +kernel
  unfold qkK qsL qsH qabL qabH qcdL qcdH qbL qbH qdL qdH qmnL qmnH
  rw [g8.1, g8.2, g2.1, g2.2, aw_q8, aw_q8h, aw_q2, aw_q2h]
  rw [show skI (aL (aL (gL 0) (gH 0) (pL (gL 1) (gH 1) 185363 185364) (pH (gL 1) (gH 1) 185363 185364)) (aH (gL 0) (gH 0) (pL (gL 1) (gH 1) 185363 185364) (pH (gL 1) (gH 1) 185363 185364))
    (aL (pL (gL (-2)) (gH (-2)) 92681 92682) (pH (gL (-2)) (gH (-2)) 92681 92682) (pL (gL 0) (gH 0) (pL 185363 185364 92681 92682) (pH 185363 185364 92681 92682)) (pH (gL 0) (gH 0) (pL 185363 185364 92681 92682) (pH 185363 185364 92681 92682)))
    (aH (pL (gL (-2)) (gH (-2)) 92681 92682) (pH (gL (-2)) (gH (-2)) 92681 92682) (pL (gL 0) (gH 0) (pL 185363 185364 92681 92682) (pH 185363 185364 92681 92682)) (pH (gL 0) (gH 0) (pL 185363 185364 92681 92682) (pH 185363 185364 92681 92682))))
    (aH (aL (gL 0) (gH 0) (pL (gL 1) (gH 1) 185363 185364) (pH (gL 1) (gH 1) 185363 185364)) (aH (gL 0) (gH 0) (pL (gL 1) (gH 1) 185363 185364) (pH (gL 1) (gH 1) 185363 185364))
    (aL (pL (gL (-2)) (gH (-2)) 92681 92682) (pH (gL (-2)) (gH (-2)) 92681 92682) (pL (gL 0) (gH 0) (pL 185363 185364 92681 92682) (pH 185363 185364 92681 92682)) (pH (gL 0) (gH 0) (pL 185363 185364 92681 92682) (pH 185363 185364 92681 92682)))
    (aH (pL (gL (-2)) (gH (-2)) 92681 92682) (pH (gL (-2)) (gH (-2)) 92681 92682) (pL (gL 0) (gH 0) (pL 185363 185364 92681 92682) (pH 185363 185364 92681 92682)) (pH (gL 0) (gH 0) (pL 185363 185364 92681 92682) (pH 185363 185364 92681 92682)))) = false from by decide +kernel, Bool.and_false]
theorem aw_c1 : cmpPP 0 1 0 0 8 0 2 0 0 2 = 0 := by
  unfold cmpPP
  rw [show zc 1 8 = 8 from by decide +kernel, show zc 2 2 = 2 from by decide +kernel, show zc 0 8 = 0 from by decide +kernel, show zc 0 2 = 0 from by decide +kernel]
  have e1 : cmpP 0 1 8 0 2 2 = 0 := by
    rw [cmpP_s (nb_l (by decide +kernel)) (by rw [aw_rt8.1, aw_rt8.2.1, aw_rt8.2.2, aw_rt2.1, aw_rt2.2.1, aw_rt2.2.2]; decide +kernel) (by decide +kernel)]
    rw [show (0 : Rat) - 0 = 0 from by decide +kernel]
    unfold sgnP
    rw [aw_k]
    decide +kernel
  rw [e1, if_neg (by decide), cmpP_r (by decide +kernel) (by decide +kernel)]
  decide +kernel
theorem aw_c2 : cmpPP 0 1 0 0 8 3 0 (-1) 0 0 = -1 := by
  have e1 : cmpP 0 1 (zc 1 8) 3 0 (zc 0 0) = -1 := by
    rw [show zc 1 8 = 8 from by decide +kernel, show zc 0 0 = 0 from by decide +kernel]
    have hk : apK (rtOk 0 1 8) (rtOk 3 0 0) (rtLo 0 1 8) (rtHi 0 1 8) (rtLo 3 0 0) (rtHi 3 0 0) = true := by rw [aw_rt8.1, aw_rt8.2.1, aw_rt8.2.2, aw_rt3.1, aw_rt3.2.1, aw_rt3.2.2]; decide +kernel
    rw [cmpP_a (nb_l (by decide +kernel)) hk, aw_rt8.1, aw_rt8.2.1, aw_rt8.2.2, aw_rt3.1, aw_rt3.2.1, aw_rt3.2.2]
    decide +kernel
  unfold cmpPP
  rw [e1, if_pos (by decide)]
end Go.Proofs.YtcimbhjmjlfloaaGreat
/- The examples of the chapter on points. -/
namespace Go.Proofs.YtcimbhjmjlfloaaGreat
open Go Go.RowKit
-- no function swarf/swarflaw07.root in this seat
-- no function swarf/swarflaw07.root in this seat
-- no function swarf/swarflaw07.awake in this seat
end Go.Proofs.YtcimbhjmjlfloaaGreat
/- Plain: what the laws of points lean on. -/
namespace Go.Proofs.YtcimbhjmjlfloaaGreat
open Go Go.RowKit
/-- A slice made of values, given out at once. -/
theorem sem_slit_D {P : Program} {ops : Array Oper} {T : TF} {B : BF} {dst : Option Nat} {U e : TypeId} {ps : Array (Nat × Operand)} {ty : TypeId} {pos : String} {af : Array Edge} {g : Option (Nat × Bool)} {n m by_ : Nat} {zs us : List CellD} {dps : List (Nat × D0)}
    (hU : elB P U = some (e, m, by_, zs)) (hp : partsD T ps.toList = some dps) (hf : fillD (fun i => some (i * m, m)) (List.replicate n zs).flatten dps = some us) (hl : us.length = n * m) (hn : n * m ≤ 16777216) (hm : 0 < n * m)
    (hg : gd ops ⟨dst, .buildSlice U n ps, ty, pos, af, g⟩ T = some true) : Sem P ops ⟨dst, .buildSlice U n ps, ty, pos, af, g⟩ T B (.r (.v (.c (.s n us)))) := by
  have h := sem_slit (B := B) hU hp hf hn hm hg
  refine ⟨nop rfl, fun V β a w hs => ?_⟩
  obtain ⟨hw, hg⟩ := h V β a w hs
  refine ⟨hw, hg.mono ?_⟩
  rintro v w' ⟨vs, rfl, rfl, hr⟩
  refine ⟨?_, (Below.refl _ w).alloc (Nat.le_refl _) _⟩
  have hkeep := Keep.below (av := V) ((Below.refl w.heap.size w).alloc (Nat.le_refl _) (.cells vs e))
  have hr2 := hr.keep hkeep
  have hvl : vs.size = n * m := by have := hr.1; rw [hl] at this; simpa using this
  have hn0 : 0 < n := by
    rcases Nat.eq_zero_or_pos n with h0 | h0
    · rw [h0, Nat.zero_mul] at hm; omega
    · exact h0
  have hm0 : 0 < m := by
    rcases Nat.eq_zero_or_pos m with h0 | h0
    · rw [h0, Nat.mul_zero] at hm; omega
    · exact h0
  have hnm : n ≤ n * m := Nat.le_mul_of_pos_right n hm0
  refine .s w.heap.size 0 n m n _ (fun j => vs.getD j undef) hn0 (Nat.le_refl _) (by omega) hl (by simp) (fun h => by have := hs.av _ h; omega) (fun j hj => ?_) (fun j u hj => ?_)
  · rw [Nat.zero_add, cells_of_box (heap_alloc_new w (.cells vs e))]
    have : j < vs.size := by omega
    simp [Array.getD, this]
  · have hlt : j < n * m := by have := (List.getElem?_eq_some_iff.1 hj).1; omega
    refine hr2.2 j _ u ?_ hj
    rw [Array.getElem?_toList]
    have : j < vs.size := by omega
    simp [Array.getD, this]
theorem cI_zero : cI 0 = [.b false, .s 0 []] := by
  unfold cI cL
  rw [show (0 : Int).natAbs = 0 from rfl, lim_zero]
  rfl
theorem vRoot_bc {b c : Rat} (h : vRoot b c = true) : (b = 0 ↔ c = 0) := by
  unfold vRoot at h
  split at h
  · have h2 := of_decide_eq_true h
    exact ⟨fun _ => h2.2, fun _ => h2.1⟩
  · rename_i hn
    exact ⟨fun e => absurd (.inl e) hn, fun e => absurd (.inr e) hn⟩
theorem lm_x {b1 c1 b2 c2 : Rat} (h : vRoot b1 c1 = true) : zc b1 (zcp b1 b2 (cc b1 c1 c2)) = c1 := by
  by_cases hb : b1 = 0
  · rw [zc_t hb, (vRoot_bc h).1 hb]
  · rw [zc_f hb, zcp_f1 hb, cc_f hb]
theorem lm_y {b1 c1 b2 c2 : Rat} (h : vRoot b2 c2 = true) (hb0 : ¬ bad b1 c1 b2 c2) : zc b2 (zcp b1 b2 (cc b1 c1 c2)) = c2 := by
  by_cases hb : b2 = 0
  · rw [zc_t hb, (vRoot_bc h).1 hb]
  · rw [zc_f hb, zcp_f2 hb]
    by_cases h1 : b1 = 0
    · rw [cc_t h1]
    · rw [cc_f h1]
      apply Classical.byContradiction
      intro hc
      exact hb0 ⟨h1, hb, hc⟩
theorem Rz.zcp {k : Nat} {b1 b2 c : Rat} (h : Rz k c) (hk : 1 ≤ k) : Rz k (zcp b1 b2 c) := by
  unfold Go.Proofs.YtcimbhjmjlfloaaGreat.zcp
  split
  · exact Rz.zero hk
  · exact h
theorem Rz.cc {k : Nat} {b1 c1 c2 : Rat} (h : Rz k c1) (h2 : Rz k c2) : Rz k (cc b1 c1 c2) := by
  unfold Go.Proofs.YtcimbhjmjlfloaaGreat.cc
  split
  · exact h2
  · exact h
theorem rsame_refl (a b c : Rat) : rsame a b c a b c = true := rsame_iff.2 ⟨rfl, rfl, rfl⟩
theorem psame_refl (a b c d e : Rat) : psame a b c d e a b c d e = true := psame_iff.2 ⟨rfl, rfl, rfl, rfl, rfl⟩
theorem vsame_refl (a b : Rat) : vsame a b a b = true := by unfold vsame; simp
theorem and3_s {a b c : Bool} (h : ¬ ((a && (b && c)) = true)) : (a && (b && c)) = false := by simpa using h
end Go.Proofs.YtcimbhjmjlfloaaGreat
/- Zero points are the same. -/
namespace Go.Proofs.YtcimbhjmjlfloaaGreat
open Go Go.RowKit
def zF4 : List CellD := [.b false, .s 0 [], .b false, .s 0 []]
theorem nSame0 : Ok Tryz.prog 38 [.a [.b false, .s 0 []], .a [.b false, .s 0 []]] [.c (.b true)] := by
  have h := nSame_ok (x := 0) (y := 0) (Sz.small (by decide) (by decide) (by decide)) (Sz.small (by decide) (by decide) (by decide))
  unfold dI at h
  rw [cI_zero] at h
  exact h
theorem sSame0  : Ok Tryz.prog 15 [.a (zF4), .a (zF4)] [.c (.b true)] := by
  refine Ok.of (by kernel_rfl) Tryz.func15 rfl rfl ?_
  rw [show Tryz.f15.ntmps = 17 from rfl, show Tryz.f15.results.toList = [.tmp 4] from rfl]
  refine dw_seq ?_
  -- region 0
  refine dw_region (by kernel_rfl) ?_
  refine dl_new (sem_box_a rfl rfl) rfl ?_
  refine dl_new (sem_box_a rfl rfl) rfl ?_
  refine dl_r (sem_assign rfl rfl) ?_
  refine dl_end ?_
  refine dw_seq ?_
  -- region 1
  refine dw_region (by kernel_rfl) ?_
  refine dl_r (sem_field fd28_0 rfl rfl) ?_
  refine dl_r (sem_load ty26 rfl rfl rfl rfl rfl) ?_
  refine dl_r (sem_field fd28_0 rfl rfl) ?_
  refine dl_r (sem_load ty26 rfl rfl rfl rfl rfl) ?_
  refine dl_r (sem_call rfl rfl (nSame0) rfl) ?_
  refine dl_r (sem_move rfl rfl) ?_
  refine dl_r (sem_field fd28_1 rfl rfl) ?_
  refine dl_r (sem_load ty26 rfl rfl rfl rfl rfl) ?_
  refine dl_r (sem_field fd28_1 rfl rfl) ?_
  refine dl_r (sem_load ty26 rfl rfl rfl rfl rfl) ?_
  refine dl_r (sem_call rfl rfl (nSame0) rfl) ?_
  refine dl_r (sem_pick rfl rfl rfl rfl) ?_
  refine dl_r (sem_assign rfl rfl) ?_
  refine dl_end ?_
  refine dw_ret ?_
  -- path 
  exact ⟨.inr rfl, (resL_tmp rfl resL_nil)⟩
-- no function swarf/swarfref07.Same in this seat
-- no function swarf/swarfref07.SameVec in this seat
end Go.Proofs.YtcimbhjmjlfloaaGreat
/- small: points in reduced form of few limbs. -/
namespace Go.Proofs.YtcimbhjmjlfloaaGreat
open Go Go.RowKit
-- no function swarf/swarflaw07.small in this seat
-- no function swarf/swarflaw07.small in this seat
-- no function swarf/swarflaw07.small in this seat
-- no function swarf/swarflaw07.small in this seat
-- no function swarf/swarflaw07.small in this seat
-- no function swarf/swarflaw07.small in this seat
-- no function swarf/swarflaw07.small in this seat
-- no function swarf/swarflaw07.small in this seat
end Go.Proofs.YtcimbhjmjlfloaaGreat
/- Plain: the order of points, program and reference; opposite orders. -/
namespace Go.Proofs.YtcimbhjmjlfloaaGreat
open Go Go.RowKit
theorem vPt_c {b1 b2 c : Rat} (h : vPt b1 b2 c = true) : 0 ≤ c := by
  unfold vPt at h
  split at h
  · have := of_decide_eq_true h; subst this; exact Rat.le_refl
  · rw [Bool.and_eq_true] at h
    have := of_decide_eq_true h.1
    grind
theorem zc_nn {b c : Rat} (h : 0 ≤ c) : 0 ≤ zc b c := by unfold zc; split <;> grind
/-- a coordinate's value -/
def vco (a b c : Rat) : Re := val3 a b (zc b c)
theorem cmpC_v {a b c p q r : Rat} (hc : 0 ≤ c) (hr : 0 ≤ r) : cmpC a b c p q r = sgR (vco a b c - vco p q r) := signQ_val (zc_nn hc) (zc_nn hr)
theorem cmpP_v {a b c p q r : Rat} (hc : 0 ≤ c) (hr : 0 ≤ r) : cmpP a b (zc b c) p q (zc q r) = sgR (vco a b c - vco p q r) := cmpP_eq (zc_nn hc) (zc_nn hr)
section
variable {a1 b1 a2 b2 c p1 q1 p2 q2 r : Rat}
theorem cmpPP_pt (hc : 0 ≤ c) (hr : 0 ≤ r) : cmpPP a1 b1 a2 b2 c p1 q1 p2 q2 r = cmpPt a1 b1 a2 b2 c p1 q1 p2 q2 r := by
  unfold cmpPP cmpPt
  rw [cmpP_v hc hr, cmpP_v hc hr, cmpC_v hc hr, cmpC_v hc hr]
theorem sgR_sw (x y : Re) : sgR (y - x) = -sgR (x - y) := by
  rw [← sgR_neg]
  exact congrArg sgR (Re.ext fun k => by simp only [re_sub, re_neg]; grind)
theorem sgR_sub0 (x : Re) : sgR (x - x) = 0 := by
  have h := sgR_sw x x
  omega
theorem cmpPt_anti (hc : 0 ≤ c) (hr : 0 ≤ r) : cmpPt p1 q1 p2 q2 r a1 b1 a2 b2 c = -cmpPt a1 b1 a2 b2 c p1 q1 p2 q2 r := by
  unfold cmpPt
  rw [cmpC_v hc hr, cmpC_v hc hr, cmpC_v hr hc, cmpC_v hr hc, sgR_sw (vco a1 b1 c), sgR_sw (vco a2 b2 c)]
  by_cases h : sgR (vco a1 b1 c - vco p1 q1 r) = 0
  · rw [h]; simp
  · rw [if_pos (by omega), if_pos h]
theorem cmpPt_refl (hc : 0 ≤ c) : cmpPt a1 b1 a2 b2 c a1 b1 a2 b2 c = 0 := by
  unfold cmpPt
  rw [cmpC_v hc hc, cmpC_v hc hc, sgR_sub0, sgR_sub0]; simp
theorem cmpPt_cases (hc : 0 ≤ c) (hr : 0 ≤ r) : cmpPt a1 b1 a2 b2 c p1 q1 p2 q2 r = 1 ∨ cmpPt a1 b1 a2 b2 c p1 q1 p2 q2 r = 0 ∨ cmpPt a1 b1 a2 b2 c p1 q1 p2 q2 r = -1 := by
  unfold cmpPt
  rw [cmpC_v hc hr, cmpC_v hc hr]
  split
  · exact sgR_cases _
  · exact sgR_cases _
end
end Go.Proofs.YtcimbhjmjlfloaaGreat
/- Plain: the square of a distance: its parts, its sign, when it is nothing. -/
namespace Go.Proofs.YtcimbhjmjlfloaaGreat
open Go Go.RowKit
theorem sqI_sq (n : Int) : sqI (n * n) = true := by
  have h : isqI (n * n) = (n.natAbs : Int) := by
    have e : (n.natAbs : Int) * (n.natAbs : Int) = n * n := by
      rw [← Int.natCast_mul, Int.natAbs_mul_self]
    refine isqI_unique ?_ (by omega) (by omega) ?_
    · rw [← e]; exact Int.mul_nonneg (by omega) (by omega)
    · have : ((n.natAbs : Int) + 1) * ((n.natAbs : Int) + 1) = (n.natAbs : Int) * (n.natAbs : Int) + 2 * (n.natAbs : Int) + 1 := by grind
      omega
  unfold sqI
  rw [h, ← Int.natCast_mul, Int.natAbs_mul_self]
  simp
theorem sqR_sq (x : Rat) : sqR (x * x) = true := by
  have e : x * x = Rat.divInt (x.num * x.num) ((x.den : Int) * (x.den : Int)) := by
    conv => lhs; rw [← Rat.num_divInt_den x]
    exact Rat.divInt_mul_divInt _ _
  have hd := den_pos x
  have hg : Int.gcd (x.num * x.num) ((x.den : Int) * (x.den : Int)) = 1 := by
    have hr : Nat.Coprime x.num.natAbs x.den := x.reduced
    show Nat.gcd (x.num * x.num).natAbs ((x.den : Int) * (x.den : Int)).natAbs = 1
    rw [Int.natAbs_mul, Int.natAbs_mul, Int.natAbs_natCast]
    exact (hr.mul_left hr).mul_right (hr.mul_left hr)
  have hv : vQ (x.num * x.num) ((x.den : Int) * (x.den : Int)) = true := by
    unfold vQ
    rw [hg, decide_eq_true (Int.mul_pos hd hd)]; rfl
  obtain ⟨h1, h2⟩ := vQ_parts hv
  rw [← e] at h1 h2
  unfold sqR
  rw [h1, h2, sqI_sq, sqI_sq]; rfl
/-- the reference's sign of a root in reduced form -/
theorem s3_sg {a b c : Rat} (hc : 0 ≤ c) (hv : b ≠ 0 → 0 < c ∧ sqR c = false) : s3 a b c = sgR (val3 a b c) := by
  rw [← plainS_sg hc]
  unfold s3 plainS comb
  by_cases hb : b = 0
  · have h0 : cmpR b 0 = 0 := cmpR_eq0.2 hb
    rw [if_pos (.inr h0), h0, Int.zero_mul, if_pos (.inl rfl)]
  · obtain ⟨hp, hs⟩ := hv hb
    have h1 : cmpR c 0 = 1 := by unfold cmpR; rw [if_neg (by grind), if_pos hp]
    have h2 : cmpR b 0 ≠ 0 := fun e => hb (cmpR_eq0.1 e)
    rw [h1, Int.mul_one]
    by_cases h3 : cmpR a 0 = cmpR b 0
    · rw [if_pos (.inl h3), if_pos (.inr h3)]
    · have n1 : ¬ (cmpR a 0 = cmpR b 0 ∨ cmpR b 0 = 0) := by omega
      have n2 : ¬ (cmpR b 0 = 0 ∨ cmpR a 0 = cmpR b 0) := by omega
      rw [if_neg n1, if_neg n2]
      by_cases h4 : cmpR a 0 = 0
      · rw [if_pos h4, if_pos h4]
      · rw [if_neg h4, if_neg h4]
        have hn : a * a ≠ b * b * c := by
          intro e
          have e2 : c = (a / b) * (a / b) := by
            have : a / b * b = a := by grind
            grind
          rw [e2, sqR_sq] at hs
          cases hs
        have a1 := cmpR_bd a 0
        have b1 := cmpR_bd b 0
        by_cases h5 : 0 < a * a - b * b * c
        · have : cmpR (a * a) (b * b * c) = 1 := by unfold cmpR; rw [if_neg (by grind), if_pos (by grind)]
          rw [if_pos h5, this, Int.mul_one]
        · have : cmpR (a * a) (b * b * c) = -1 := by unfold cmpR; rw [if_pos (by grind)]
          rw [if_neg h5, this]; omega
theorem vco_eq (a b c : Rat) : vco a b c = Re.of a + Re.of b * Re.rt c := by
  unfold vco val3
  by_cases h : b = 0
  · subst h
    exact Re.ext fun k => by simp only [re_add, re_mul, re_of]; grind
  · rw [zc_f h]
theorem sgR_sqs (X Y : Re) : 0 ≤ sgR (X * X + Y * Y) ∧ (sgR (X * X + Y * Y) = 0 ↔ sgR X = 0 ∧ sgR Y = 0) := by
  have hx : 0 ≤ sgR (X * X) := by rw [sgR_mul]; rcases sgR_cases X with h | h | h <;> rw [h] <;> decide
  have hy : 0 ≤ sgR (Y * Y) := by rw [sgR_mul]; rcases sgR_cases Y with h | h | h <;> rw [h] <;> decide
  refine ⟨sgR_nn hx hy, fun h => ?_, fun ⟨h1, h2⟩ => ?_⟩
  · constructor
    · apply Classical.byContradiction
      intro hn
      have : 0 < sgR (X * X) := by rw [sgR_mul]; rcases sgR_cases X with g | g | g <;> rw [g] <;> first | decide | omega
      have := sgR_pn this hy
      omega
    · apply Classical.byContradiction
      intro hn
      have : 0 < sgR (Y * Y) := by rw [sgR_mul]; rcases sgR_cases Y with g | g | g <;> rw [g] <;> first | decide | omega
      have := sgR_pn this hx
      rw [re_addc] at this
      omega
  · rw [sgR_addz _ (by rw [sgR_mul, h2]; rfl), sgR_mul, h1]; rfl
def sqA (x y b1 b2 c : Rat) : Rat := x * x + y * y + (b1 * b1 + b2 * b2) * c
def sqB (x y b1 b2 : Rat) : Rat := (x * b1 + y * b2) + (x * b1 + y * b2)
theorem sq_val {x y b1 b2 c : Rat} (hc : 0 ≤ c) : sgR (val3 (sqA x y b1 b2 c) (sqB x y b1 b2) (zc (sqB x y b1 b2) c)) = sgR (vco x b1 c * vco x b1 c + vco y b2 c * vco y b2 c) := by
  symm
  refine sgR_same ?_
  have h1 : val3 (sqA x y b1 b2 c) (sqB x y b1 b2) (zc (sqB x y b1 b2) c) = Re.of (sqA x y b1 b2 c) + Re.of (sqB x y b1 b2) * Re.rt c := vco_eq _ _ _
  rw [h1, vco_eq, vco_eq]
  have e : (Re.of x + Re.of b1 * Re.rt c) * (Re.of x + Re.of b1 * Re.rt c) + (Re.of y + Re.of b2 * Re.rt c) * (Re.of y + Re.of b2 * Re.rt c) - (Re.of (sqA x y b1 b2 c) + Re.of (sqB x y b1 b2) * Re.rt c) = Re.of (b1 * b1 + b2 * b2) * (Re.rt c * Re.rt c - Re.of c) := Re.ext fun k => by
    unfold sqA sqB
    simp only [re_sub, re_add, re_mul, re_of]; grind
  rw [e, sgR_mul, rt_sq hc, Int.mul_zero]
theorem sqB_nz {x y b1 b2 c : Rat} (hv : vPt b1 b2 c = true) (h : sqB x y b1 b2 ≠ 0) : 0 < c ∧ sqR c = false := by
  have hb : ¬ (b1 = 0 ∧ b2 = 0) := by
    rintro ⟨rfl, rfl⟩
    apply h; unfold sqB; grind
  unfold vPt at hv
  rw [if_neg hb, Bool.and_eq_true] at hv
  exact ⟨of_decide_eq_true hv.1, by simpa using hv.2⟩
/-- the sign of the square, and when it is 0 -/
theorem sq_sign {a1 b1 a2 b2 c v w : Rat} (hv : vPt b1 b2 c = true) :
    s3 (sqA (a1 - v) (a2 - w) b1 b2 c) (sqB (a1 - v) (a2 - w) b1 b2) (zc (sqB (a1 - v) (a2 - w) b1 b2) c) = sgR (vco (a1 - v) b1 c * vco (a1 - v) b1 c + vco (a2 - w) b2 c * vco (a2 - w) b2 c) := by
  have hc := vPt_c hv
  rw [s3_sg (zc_nn hc) (fun h => by rw [zc_f h]; exact sqB_nz hv h), sq_val hc]
theorem sq_eq0 {a1 b1 a2 b2 c v w : Rat} (hc : 0 ≤ c) : (cmpPt a1 b1 a2 b2 c v 0 w 0 0 == 0) = (sgR (vco (a1 - v) b1 c * vco (a1 - v) b1 c + vco (a2 - w) b2 c * vco (a2 - w) b2 c) == 0) := by
  have e : ∀ a b v : Rat, vco a b c - vco v 0 0 = vco (a - v) b c := by
    intro a b v
    rw [vco_eq, vco_eq, vco_eq]
    exact Re.ext fun k => by simp only [re_sub, re_add, re_mul, re_of]; grind
  unfold cmpPt
  rw [cmpC_v hc Rat.le_refl, cmpC_v hc Rat.le_refl, e, e, Bool.eq_iff_iff, beq_iff_eq, beq_iff_eq, (sgR_sqs _ _).2]
  by_cases h : sgR (vco (a1 - v) b1 c) = 0
  · rw [h]; simp
  · rw [if_pos h]
    exact ⟨fun g => absurd g h, fun g => absurd g.1 h⟩
/-- the reference's parts of one square -/
theorem q1_A {a b c : Rat} : a * a + b * b * cc b (zc b c) (zc b c) = a * a + b * b * c := by
  by_cases h : b = 0
  · subst h; grind
  · rw [cc_f h, zc_f h]
theorem q1_B {a b c : Rat} (hc : b ≠ 0 → c ≠ 0) : rB (a * b + b * a) (cc b (zc b c) (zc b c)) = a * b + a * b := by
  unfold rB
  split
  · rename_i h
    by_cases hb : b = 0
    · subst hb; grind
    · rw [cc_f hb, zc_f hb] at h
      rcases h with h | h
      · grind
      · exact absurd h (hc hb)
  · grind
theorem q1_C {a b c : Rat} (hc : b ≠ 0 → c ≠ 0) : rC (a * b + b * a) (cc b (zc b c) (zc b c)) = zc (a * b + a * b) c := by
  have e : a * b + b * a = a * b + a * b := by grind
  rw [e]
  unfold rC
  by_cases hb : b = 0
  · subst hb
    rw [if_pos (.inl (by grind)), zc_t (by grind)]
  · rw [cc_f hb, zc_f hb]
    by_cases h : a * b + a * b = 0
    · rw [if_pos (.inl h), zc_t h]
    · rw [if_neg (fun e => e.elim h (hc hb)), zc_f h]
theorem q2_bad {B1 B2 c : Rat} : ¬ bad B1 (zc B1 c) B2 (zc B2 c) := by
  rintro ⟨h1, h2, h3⟩
  rw [zc_f h1, zc_f h2] at h3
  exact h3 rfl
theorem q2_B {B1 B2 c : Rat} (hc : B1 + B2 ≠ 0 → c ≠ 0) : rB (B1 + B2) (cc B1 (zc B1 c) (zc B2 c)) = B1 + B2 := by
  unfold rB
  split
  · rename_i h
    by_cases hs : B1 + B2 = 0
    · exact hs.symm
    · exfalso
      rcases h with h | h
      · exact hs h
      · by_cases h1 : B1 = 0
        · rw [cc_t h1] at h
          have h2 : B2 ≠ 0 := fun e => hs (by grind)
          rw [zc_f h2] at h
          exact hc hs h
        · rw [cc_f h1, zc_f h1] at h
          exact hc hs h
  · rfl
theorem q2_C {B1 B2 c : Rat} (hc : B1 + B2 ≠ 0 → c ≠ 0) : rC (B1 + B2) (cc B1 (zc B1 c) (zc B2 c)) = zc (B1 + B2) c := by
  unfold rC
  by_cases hs : B1 + B2 = 0
  · rw [if_pos (.inl hs), zc_t hs]
  · have e : cc B1 (zc B1 c) (zc B2 c) = c := by
      by_cases h1 : B1 = 0
      · rw [cc_t h1, zc_f (fun e => hs (by grind))]
      · rw [cc_f h1, zc_f h1]
    rw [e, if_neg (fun e => e.elim hs (hc hs)), zc_f hs]
theorem sub_e (a v : Rat) : a + -v = a - v := by grind
theorem mv_e (a d f : Rat) : a + f - (d + f) = a - d := by grind
section
variable {P : Program} {f : FuncId} {ds rs : List D0} {x y z x' y' z' : Rat}
theorem rcast3l (h : Ok P f ds (.a (cR x ++ cR y ++ cR z) :: rs)) (e1 : x = x') (e2 : y = y') (e3 : z = z') : Ok P f ds (.a (cR x' ++ cR y' ++ cR z') :: rs) := by subst e1 e2 e3; exact h
end
theorem mvA (a1 a2 b1 b2 c d e f g : Rat) : (a1 + f - (d + f)) * (a1 + f - (d + f)) + (a2 + g - (e + g)) * (a2 + g - (e + g)) + (b1 * b1 + b2 * b2) * c = sqA (a1 - d) (a2 - e) b1 b2 c := by rw [mv_e, mv_e]; rfl
theorem mvB (a1 a2 b1 b2 d e f g : Rat) : (a1 + f - (d + f)) * b1 + (a2 + g - (e + g)) * b2 + ((a1 + f - (d + f)) * b1 + (a2 + g - (e + g)) * b2) = sqB (a1 - d) (a2 - e) b1 b2 := by rw [mv_e, mv_e]; rfl
theorem sum_A (x y b1 b2 c : Rat) : (x * x + b1 * b1 * c) + (y * y + b2 * b2 * c) = sqA x y b1 b2 c := by unfold sqA; grind
theorem sum_B (x y b1 b2 : Rat) : (x * b1 + x * b1) + (y * b2 + y * b2) = sqB x y b1 b2 := by unfold sqB; grind
theorem vPt_b {b1 b2 c : Rat} (h : vPt b1 b2 c = true) : (b1 ≠ 0 → c ≠ 0) ∧ (b2 ≠ 0 → c ≠ 0) := by
  have key : ¬ (b1 = 0 ∧ b2 = 0) → c ≠ 0 := by
    intro hn e
    unfold vPt at h
    rw [if_neg hn, Bool.and_eq_true] at h
    have := of_decide_eq_true h.1
    rw [e] at this
    exact absurd this (by decide)
  exact ⟨fun hb => key (fun e => hb e.1), fun hb => key (fun e => hb e.2)⟩
end Go.Proofs.YtcimbhjmjlfloaaGreat
/- Plain: the program's integer below a root; a multiple of a unit near a root. -/
namespace Go.Proofs.YtcimbhjmjlfloaaGreat
open Go Go.RowKit
def flI (a b c : Rat) : Int := isqI ((a.den : Int) * (a.den : Int) * ((b * b * c).num * ((b * b * c).den : Int)))
def flN (a b c : Rat) (r : Int) : Int := (a.num * ((b * b * c).den : Int) + r).fdiv ((a.den : Int) * ((b * b * c).den : Int))
def flR (a b c : Rat) : Int := if b = 0 then a.num.fdiv (a.den : Int) else if b < 0 then flN a b c (-(flI a b c + 1)) else flN a b c (flI a b c)
section
variable {a b c : Rat}
theorem flR_0 (h : b = 0) : flR a b c = a.num.fdiv (a.den : Int) := by unfold flR; rw [if_pos h]
theorem flR_n (h : b ≠ 0) (h2 : b < 0) : flR a b c = flN a b c (-(flI a b c + 1)) := by unfold flR; rw [if_neg h, if_pos h2]
theorem flR_p (h : b ≠ 0) (h2 : ¬ b < 0) : flR a b c = flN a b c (flI a b c) := by unfold flR; rw [if_neg h, if_neg h2]
theorem fd_le {Z D : Int} (hD : 0 < D) : Z.fdiv D * D ≤ Z ∧ Z + 1 ≤ (Z.fdiv D + 1) * D := by
  rw [Int.fdiv_eq_ediv_of_nonneg _ (by omega), Int.add_mul, Int.mul_comm (Z / D) D]
  have h1 := Int.mul_ediv_add_emod Z D
  have h2 := Int.emod_nonneg Z (show D ≠ 0 by omega)
  have h3 := Int.emod_lt_of_pos Z hD
  omega
theorem leR_scale {x y : Re} {d : Rat} (hd : 0 < d) (h : leR (Re.of d * x) (Re.of d * y)) : leR x y := by
  unfold leR at *
  have e : sgR (Re.of d * y - Re.of d * x) = sgR (Re.of d * (y - x)) := congrArg sgR (Re.ext fun k => by simp only [re_sub, re_mul, re_of]; grind)
  have hp : sgR (Re.of d) = 1 := by rw [sgR_of]; unfold cmpR; rw [if_neg (by grind), if_pos hd]
  rw [e, sgR_mul, hp, Int.one_mul] at h
  exact h
theorem leR_scale2 {x y : Re} {d : Rat} (hd : 0 < d) (h : leR x y) : leR (Re.of d * x) (Re.of d * y) := by
  unfold leR at *
  have e : sgR (Re.of d * y - Re.of d * x) = sgR (Re.of d * (y - x)) := congrArg sgR (Re.ext fun k => by simp only [re_sub, re_mul, re_of]; grind)
  have hp : sgR (Re.of d) = 1 := by rw [sgR_of]; unfold cmpR; rw [if_neg (by grind), if_pos hd]
  rw [e, sgR_mul, hp, Int.one_mul]
  exact h
theorem leR_cast {m n : Int} (h : m ≤ n) : leR (Re.of (m : Rat)) (Re.of (n : Rat)) := of_le (Rat.intCast_le_intCast.2 h)
/-- the root part at the common denominator -/
theorem fl_root (hc : 0 ≤ c) : leR (Re.of ((flI a b c : Int) : Rat)) (Re.of (((a.den : Int) * ((b * b * c).den : Int) : Int) : Rat) * (Re.of (if b < 0 then -b else b) * Re.rt c)) ∧
    leR (Re.of (((a.den : Int) * ((b * b * c).den : Int) : Int) : Rat) * (Re.of (if b < 0 then -b else b) * Re.rt c)) (Re.of (((flI a b c + 1 : Int)) : Rat)) := by
  have hbc : 0 ≤ b * b * c := by
    have : 0 ≤ b * b := by
      by_cases h : 0 ≤ b
      · exact Rat.mul_nonneg h h
      · have := Rat.mul_nonneg (show 0 ≤ -b by grind) (show 0 ≤ -b by grind); grind
    exact Rat.mul_nonneg this hc
  have hin : 0 ≤ (a.den : Int) * (a.den : Int) * ((b * b * c).num * ((b * b * c).den : Int)) :=
    Int.mul_nonneg (Int.mul_nonneg (by omega) (by omega)) (Int.mul_nonneg (Rat.num_nonneg.2 hbc) (by omega))
  have h1 := isqI_le hin
  have h2 := isqI_lt hin
  have h0 := isqI_nonneg ((a.den : Int) * (a.den : Int) * ((b * b * c).num * ((b * b * c).den : Int)))
  have hn := r_num (b * b * c)
  have dn := den_pos a
  have dq := den_pos (b * b * c)
  generalize hN : (a.den : Int) * (a.den : Int) * ((b * b * c).num * ((b * b * c).den : Int)) = N at *
  have eI : flI a b c = isqI N := by unfold flI; rw [hN]
  rw [eI]
  generalize hb' : (if b < 0 then -b else b) = b'
  have hb2 : b' * b' = b * b ∧ 0 ≤ b' := by subst hb'; split <;> (constructor <;> grind)
  generalize hD : (a.den : Int) * ((b * b * c).den : Int) = D
  have hD0 : 0 < D := by subst hD; exact Int.mul_pos dn dq
  have eN : ((N : Int) : Rat) = ((D : Int) : Rat) * ((D : Int) : Rat) * (b * b * c) := by
    subst hN hD
    simp only [Rat.intCast_mul] at *
    grind
  have nnR : 0 ≤ sgR (Re.of ((D : Int) : Rat) * (Re.of b' * Re.rt c)) := by
    have p1 : sgR (Re.of ((D : Int) : Rat)) = 1 := by have := pos_cast hD0; have := sgR_cases (Re.of ((D : Int) : Rat)); omega
    have p2 : 0 ≤ sgR (Re.of b') := by rw [sgR_of]; exact cmpR_ge hb2.2
    have p3 := rt_nn c
    rw [sgR_mul, p1, Int.one_mul, sgR_mul]
    exact Int.mul_nonneg p2 p3
  have eS : ∀ q : Rat, sgR (Re.of ((D : Int) : Rat) * (Re.of b' * Re.rt c) * (Re.of ((D : Int) : Rat) * (Re.of b' * Re.rt c)) - Re.of q) = cmpR ((N : Int) : Rat) q := by
    intro q
    rw [← cmpR_sub, ← sgR_of]
    refine sgR_same ?_
    have e : Re.of ((D : Int) : Rat) * (Re.of b' * Re.rt c) * (Re.of ((D : Int) : Rat) * (Re.of b' * Re.rt c)) - Re.of q - Re.of (((N : Int) : Rat) - q) = Re.of (((D : Int) : Rat) * ((D : Int) : Rat) * (b' * b')) * (Re.rt c * Re.rt c - Re.of c) := Re.ext fun k => by
      rw [eN]
      simp only [re_sub, re_mul, re_of]; grind
    rw [e, sgR_mul, rt_sq hc, Int.mul_zero]
  refine ⟨?_, ?_⟩
  · refine sq_le_re (nn_cast h0) nnR ?_
    rw [of_mul, eS, ← Rat.intCast_mul]
    exact cmpR_ge (Rat.intCast_le_intCast.2 h1)
  · refine sq_le_re nnR (nn_cast (by omega)) ?_
    have h3 : 0 ≤ -sgR (Re.of ((D : Int) : Rat) * (Re.of b' * Re.rt c) * (Re.of ((D : Int) : Rat) * (Re.of b' * Re.rt c)) - Re.of (((isqI N + 1 : Int) : Rat) * ((isqI N + 1 : Int) : Rat))) := by
      rw [eS, ← Rat.intCast_mul]
      have := cmpR_le (x := ((N : Int) : Rat)) (y := (((isqI N + 1) * (isqI N + 1) : Int) : Rat)) (Rat.intCast_le_intCast.2 (by omega))
      omega
    rw [← sgR_neg] at h3
    refine nn_of (fun k => ?_) h3
    simp only [re_neg, re_sub, re_mul, re_of]; grind
theorem sub_nn {x y : Re} (h : leR x y) : 0 ≤ sgR (y - x) := h
/-- the integer is below the root, the next one is not -/
theorem flR_in (hc : 0 ≤ c) : leR (Re.of ((flR a b c : Int) : Rat)) (Re.of a + Re.of b * Re.rt c) ∧ leR (Re.of a + Re.of b * Re.rt c) (Re.of (((flR a b c + 1 : Int)) : Rat)) := by
  by_cases hb : b = 0
  · subst hb
    have e : Re.of a + Re.of 0 * Re.rt c = Re.of a := Re.ext fun k => by simp only [re_add, re_mul, re_of]; grind
    rw [e, flR_0 rfl]
    have dn := den_pos a
    obtain ⟨h1, h2⟩ := fd_le (Z := a.num) dn
    have hn := r_num a
    have hp : (0 : Rat) < ((a.den : Int) : Rat) := Rat.intCast_pos.2 dn
    refine ⟨of_le (q_cancel hp ?_), of_le (q_cancel hp ?_)⟩
    · rw [hn, ← Rat.intCast_mul]; exact Rat.intCast_le_intCast.2 h1
    · rw [hn, ← Rat.intCast_mul]; exact Rat.intCast_le_intCast.2 (by omega)
  · obtain ⟨r1, r2⟩ := fl_root (a := a) (b := b) hc
    have dn := den_pos a
    have dq := den_pos (b * b * c)
    have hD0 : 0 < (a.den : Int) * ((b * b * c).den : Int) := Int.mul_pos dn dq
    have hDr : (0 : Rat) < (((a.den : Int) * ((b * b * c).den : Int) : Int) : Rat) := Rat.intCast_pos.2 hD0
    have eX : (((a.den : Int) * ((b * b * c).den : Int) : Int) : Rat) * a = ((a.num * ((b * b * c).den : Int) : Int) : Rat) := by
      have := r_num a
      simp only [Rat.intCast_mul]; grind
    have en := fun h2 => flR_n (a := a) (c := c) hb h2
    have ep := fun h2 => flR_p (a := a) (c := c) hb h2
    generalize hD : (a.den : Int) * ((b * b * c).den : Int) = D at *
    generalize flI a b c = I at *
    have key : ∀ r : Int, ∀ Y : Re, flR a b c = flN a b c r → Re.of a + Re.of b * Re.rt c = Re.of a + Y → leR (Re.of ((r : Int) : Rat)) (Re.of ((D : Int) : Rat) * Y) → leR (Re.of ((D : Int) : Rat) * Y) (Re.of (((r + 1 : Int)) : Rat)) →
        leR (Re.of ((flR a b c : Int) : Rat)) (Re.of a + Re.of b * Re.rt c) ∧ leR (Re.of a + Re.of b * Re.rt c) (Re.of (((flR a b c + 1 : Int)) : Rat)) := by
      intro r Y e1 e2 g1 g2
      rw [e2, e1]
      have e3 : flN a b c r = (a.num * ((b * b * c).den : Int) + r).fdiv D := by unfold flN; rw [hD]
      rw [e3]
      obtain ⟨f1, f2⟩ := fd_le (Z := a.num * ((b * b * c).den : Int) + r) hD0
      generalize (a.num * ((b * b * c).den : Int) + r).fdiv D = n at *
      generalize a.num * ((b * b * c).den : Int) = X at *
      refine ⟨leR_scale hDr ?_, leR_scale hDr ?_⟩
      · have a1 := leR_cast f1
        have a2 := sgR_nn (sub_nn a1) (sub_nn g1)
        refine nn_of (fun k => ?_) a2
        simp only [re_sub, re_add, re_mul, re_of, Rat.intCast_mul, Rat.intCast_add] at *
        grind
      · have a1 := leR_cast f2
        have a2 := sgR_nn (sub_nn a1) (sub_nn g2)
        refine nn_of (fun k => ?_) a2
        simp only [re_sub, re_add, re_mul, re_of, Rat.intCast_mul, Rat.intCast_add, Rat.intCast_one] at *
        grind
    by_cases hn : b < 0
    · rw [if_pos hn] at r1 r2
      refine key (-(I + 1)) (Re.of b * Re.rt c) (en hn) rfl ?_ ?_
      · refine nn_of (fun k => ?_) r2
        simp only [re_sub, re_mul, re_of, Rat.intCast_neg, Rat.intCast_add, Rat.intCast_one]; grind
      · refine nn_of (fun k => ?_) r1
        simp only [re_sub, re_mul, re_of, Rat.intCast_neg, Rat.intCast_add, Rat.intCast_one]; grind
    · rw [if_neg hn] at r1 r2
      exact key I (Re.of b * Re.rt c) (ep hn) rfl r1 r2
/-- its size -/
theorem flI_sz {k l m : Nat} (ha : Rz k a) (hb : Rz l b) (hc : Rz m c) : Sz (k + (l + l + m)) (flI a b c) := by
  have hs : Sz (k + k + ((l + l + m) + (l + l + m))) ((a.den : Int) * (a.den : Int) * ((b * b * c).num * ((b * b * c).den : Int))) := (ha.d.mul ha.d).mul ((((hb.mul hb).mul hc).n).mul (((hb.mul hb).mul hc).d))
  unfold flI
  generalize (a.den : Int) * (a.den : Int) * ((b * b * c).num * ((b * b * c).den : Int)) = N at *
  have h0 := isqI_nonneg N
  have e : pw (k + k + ((l + l + m) + (l + l + m))) = pw (k + (l + l + m)) * pw (k + (l + l + m)) := by
    unfold pw
    rw [← Int.pow_add]
    congr 1
    omega
  have hp := pw_pos (k + (l + l + m))
  refine ⟨?_, by omega⟩
  by_cases hN : 0 ≤ N
  · have h1 := isqI_le hN
    have h2 := hs.1
    rw [e] at h2
    exact sq_lt_imp (by omega) (Int.lt_of_le_of_lt h1 h2)
  · unfold isqI
    rw [if_pos (by omega)]; omega
theorem flR_sz {k l m : Nat} (ha : Rz k a) (hb : Rz l b) (hc : Rz m c) : Sz (k + (l + l + m) + 2) (flR a b c) := by
  have hi := flI_sz ha hb hc
  have hx : Sz (k + (l + l + m)) (a.num * ((b * b * c).den : Int)) := ha.n.mul ((hb.mul hb).mul hc).d
  have h1 : Sz (k + (l + l + m) + 1) (flI a b c + 1) := hi.add (by
    by_cases h : 1 ≤ k + (l + l + m)
    · exact Sz.one h
    · exfalso
      have : k + (l + l + m) = 0 := by omega
      have hk : k = 0 := by omega
      subst hk
      have h5 := ha.d.1
      have h6 := den_pos a
      rw [pw_zero] at h5
      omega)
  unfold flR
  split
  · exact (ha.n.fdiv).mono (by omega)
  · split
    · unfold flN
      exact (((hx.mono (by omega)).add h1.neg).fdiv).mono (by omega)
    · unfold flN
      exact ((hx.add hi).fdiv).mono (by omega)
def nrR (a b c u : Rat) : Rat := ((flR (a * (1 / u)) (b * (1 / u)) (zc (b * (1 / u)) c) : Int) : Rat) * u
theorem nr_in {u : Rat} (hc : 0 ≤ c) (hu : 0 < u) : leR (Re.of (nrR a b c u)) (val3 a b c) ∧ leR (val3 a b c) (Re.of (nrR a b c u + u)) := by
  obtain ⟨h1, h2⟩ := flR_in (a := a * (1 / u)) (b := b * (1 / u)) (c := zc (b * (1 / u)) c) (zc_nn hc)
  have e0 : Re.of (a * (1 / u)) + Re.of (b * (1 / u)) * Re.rt (zc (b * (1 / u)) c) = Re.of (a * (1 / u)) + Re.of (b * (1 / u)) * Re.rt c := vco_eq _ _ _
  rw [e0] at h1 h2
  have hk : u * (1 / u) = 1 := by grind
  have g1 := leR_scale2 hu h1
  have g2 := leR_scale2 hu h2
  unfold nrR
  generalize flR (a * (1 / u)) (b * (1 / u)) (zc (b * (1 / u)) c) = n at *
  generalize 1 / u = k at *
  refine ⟨nn_of (fun j => ?_) g1, nn_of (fun j => ?_) g2⟩
  · unfold val3; simp only [re_sub, re_add, re_mul, re_of]; grind
  · unfold val3; simp only [re_sub, re_add, re_mul, re_of, Rat.intCast_add, Rat.intCast_one]; grind
theorem s3_val {d : Rat} (hc : 0 ≤ c) (hv : b ≠ 0 → 0 < c ∧ sqR c = false) : s3 (a + -d) b c = sgR (val3 a b c - Re.of d) := by
  rw [s3_sg hc hv]
  refine congrArg sgR (Re.ext fun k => ?_)
  unfold val3; simp only [re_sub, re_add, re_mul, re_of]; grind
theorem nr_lo {u : Rat} (hc : 0 ≤ c) (hv : b ≠ 0 → 0 < c ∧ sqR c = false) (hu : 0 < u) : 0 ≤ s3 (a + -(nrR a b c u - u)) b c := by
  rw [s3_val hc hv]
  have h := (nr_in (a := a) (b := b) hc hu).1
  have h2 : 0 ≤ sgR (Re.of u) := by rw [sgR_of]; exact cmpR_ge (by grind)
  refine nn_of (fun k => ?_) (sgR_nn h h2)
  simp only [re_sub, re_add, re_of]; grind
theorem nr_hi {u : Rat} (hc : 0 ≤ c) (hv : b ≠ 0 → 0 < c ∧ sqR c = false) (hu : 0 < u) : s3 (a + -(nrR a b c u + u)) b c ≤ 0 := by
  rw [s3_val hc hv, sgR_sw (Re.of (nrR a b c u + u))]
  have h := sub_nn (nr_in (a := a) (b := b) hc hu).2
  omega
end
end Go.Proofs.YtcimbhjmjlfloaaGreat
