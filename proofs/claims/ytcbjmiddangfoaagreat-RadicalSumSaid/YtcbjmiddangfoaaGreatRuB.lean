/- RadicalSum: the law at all readings. -/
import Derived.Test.YtcbjmiddangfoaaGreatRuA
namespace Go.Proofs.YtcbjmiddangfoaaGreat
open Go Go.RowKit
theorem ar44 : arB Tryz.prog 44 = some (4, 4) := by kernel_rfl
theorem xSignB_ok {A B C D M N : Rat} (hA : Rz 16 A) (hB : Rz 6 B) (hC : Rz 6 C) (hD : Rz 6 D) (hM : Rz 6 M) (hN : Rz 6 N) : Ok Tryz.prog 9 [.a (cR A ++ cR B ++ cR C ++ cR D ++ cR M ++ cR N)] [.c (.i .i64 (sgnP A B C D M N))] := by
  have z1 := prod_bd (plainS_bd C D M) (cmpR_bd N 0)
  have z2 := prod_bd (plainS_bd A B M) (plainS_bd (A * A + M * (B * B) - N * (C * C + M * (D * D))) ((A * B - N * (C * D)) + (A * B - N * (C * D))) M)
  have kA : Rz 200 A := hA.mono (by decide)
  have kB : Rz 200 B := hB.mono (by decide)
  have kC : Rz 200 C := hC.mono (by decide)
  have kD : Rz 200 D := hD.mono (by decide)
  have kM : Rz 200 M := hM.mono (by decide)
  have kN : Rz 200 N := hN.mono (by decide)
  refine Ok.of (by kernel_rfl) Tryz.func9 rfl rfl ?_
  rw [show Tryz.f9.ntmps = 127 from rfl, show Tryz.f9.results.toList = [.tmp 2] from rfl]
  refine dw_seq ?_
  -- region 0
  refine dw_region (by kernel_rfl) ?_
  refine dl_new (sem_box_a rfl rfl) rfl ?_
  refine dl_r (sem_assign rfl rfl) ?_
  refine dl_end ?_
  refine dw_seq ?_
  refine dw_seq ?_
  -- region 1
  refine dw_region (by kernel_rfl) ?_
  refine dl_r (sem_field fd28_4 rfl rfl) ?_
  refine dl_r (sem_load (us := cR M) ty26 rfl rfl rfl rfl rfl) ?_
  refine dl_r (sem_call rfl rfl (pSign_ok) rfl) ?_
  refine dl_r (sem_cmp rfl rfl rfl rfl) ?_
  refine dl_rb (sem_move rfl rfl) (fun c1 hb1 => ?_)
  cases c1
  · have n1 := r_nlt hb1
    refine dl_r (sem_field fd28_5 rfl rfl) ?_
    refine dl_r (sem_load (us := cR N) ty26 rfl rfl rfl rfl rfl) ?_
    refine dl_r (sem_call rfl rfl (pSign_ok) rfl) ?_
    refine dl_r (sem_cmp rfl rfl rfl rfl) ?_
    refine dl_r (sem_pick rfl rfl rfl rfl) ?_
    refine dl_end ?_
    refine dw_cond rfl (fun hc2 => ?_) (fun hc2 => ?_)
    · refine dw_seq ?_
      -- region 2
      refine dw_region (by kernel_rfl) ?_
      refine dl_r (sem_assign rfl rfl) ?_
      refine dl_end ?_
      refine dw_ret ?_
      -- path fT
      rw [sgnP_n (.inr (r_lt hc2))]
      exact ⟨.inr rfl, (resL_tmp rfl resL_nil)⟩
    · have n2 := r_nlt hc2
      refine dw_skip ?_
      refine dw_seq ?_
      refine dw_seq ?_
      -- region 3
      refine dw_region (by kernel_rfl) ?_
      refine dl_r (sem_load (us := (cR A ++ cR B ++ cR C ++ cR D ++ cR M ++ cR N)) ty28 rfl rfl rfl rfl rfl) ?_
      refine dl_r (sem_call rfl rfl (xQuick_ok (by assumption) (by assumption) (by assumption) (by assumption) (by assumption) (by assumption) (by assumption) (by assumption)) rfl) ?_
      refine dl_r (sem_move rfl rfl) ?_
      refine dl_r (sem_extract rfl rfl rfl) ?_
      refine dl_r (sem_extract rfl rfl rfl) ?_
      refine dl_r (sem_assign rfl rfl) ?_
      refine dl_r (sem_assign rfl rfl) ?_
      refine dl_end ?_
      refine dw_seq ?_
      -- region 4
      refine dw_region (by kernel_rfl) ?_
      refine dl_r (sem_move rfl rfl) ?_
      refine dl_end ?_
      refine dw_cond rfl (fun hc3 => ?_) (fun hc3 => ?_)
      · refine dw_seq ?_
        -- region 5
        refine dw_region (by kernel_rfl) ?_
        refine dl_r (sem_move rfl rfl) ?_
        refine dl_r (sem_assign rfl rfl) ?_
        refine dl_end ?_
        refine dw_ret ?_
        -- path fFT
        rw [sgnP_q n1 n2 hc3]
        exact ⟨.inr rfl, (resL_tmp rfl resL_nil)⟩
      · refine dw_skip ?_
        refine dw_seq ?_
        -- region 6
        refine dw_draw 20 [] follows_mixed (by kernel_rfl) rfl rfl ?_
        refine dq_r (sem_field fd28_0 rfl rfl) ?_
        refine dq_r (sem_load (us := cR A) ty26 rfl rfl rfl rfl rfl) ?_
        refine dq_r (sem_field fd28_1 rfl rfl) ?_
        refine dq_r (sem_load (us := cR B) ty26 rfl rfl rfl rfl rfl) ?_
        refine dq_r (sem_field fd28_4 rfl rfl) ?_
        refine dq_r (sem_load (us := cR M) ty26 rfl rfl rfl rfl rfl) ?_
        refine dq_r (sem_call rfl rfl (xPlain_ok (by first | assumption | exact Rz.mono hA (by decide)) (by first | assumption | exact Rz.mono hB (by decide)) (by first | assumption | exact Rz.mono hM (by decide))) rfl) ?_
        refine dq_r (sem_field fd28_2 rfl rfl) ?_
        refine dq_r (sem_load (us := cR C) ty26 rfl rfl rfl rfl rfl) ?_
        refine dq_r (sem_field fd28_3 rfl rfl) ?_
        refine dq_r (sem_load (us := cR D) ty26 rfl rfl rfl rfl rfl) ?_
        refine dq_r (sem_field fd28_4 rfl rfl) ?_
        refine dq_r (sem_load (us := cR M) ty26 rfl rfl rfl rfl rfl) ?_
        refine dq_r (sem_call rfl rfl (xPlain_ok (by first | assumption | exact Rz.mono hC (by decide)) (by first | assumption | exact Rz.mono hD (by decide)) (by first | assumption | exact Rz.mono hM (by decide))) rfl) ?_
        refine dq_r (sem_field fd28_5 rfl rfl) ?_
        refine dq_r (sem_load (us := cR N) ty26 rfl rfl rfl rfl rfl) ?_
        refine dq_r (sem_call rfl rfl (pSign_ok) rfl) ?_
        refine dq_r (sem_ari (r := (plainS C D M) * (cmpR N 0)) rfl rfl (ari_i64_mul (by omega) (by omega)) rfl) ?_
        refine dq_r (sem_assign rfl rfl) ?_
        refine dq_r (sem_assign rfl rfl) ?_
        refine dq_end ?_
        refine dl_start0 ?_
        refine dl_end ?_
        refine dw_seq ?_
        refine dw_block ?_
        refine dw_seq ?_
        -- region 7
        refine dw_region (by kernel_rfl) ?_
        refine dl_r (sem_move rfl rfl) ?_
        refine dl_r (sem_cmp rfl rfl rfl rfl) ?_
        refine dl_rb (sem_move rfl rfl) (fun c4 hb4 => ?_)
        cases c4
        · refine dl_r (sem_move rfl rfl) ?_
          refine dl_r (sem_move rfl rfl) ?_
          refine dl_r (sem_cmp rfl rfl rfl rfl) ?_
          refine dl_r (sem_pick rfl rfl rfl rfl) ?_
          refine dl_r (sem_assign rfl rfl) ?_
          refine dl_end ?_
          refine dw_cond rfl (fun hc5 => ?_) (fun hc5 => ?_)
          · refine dw_seq ?_
            -- region 8
            refine dw_region (by kernel_rfl) ?_
            refine dl_r (sem_move rfl rfl) ?_
            refine dl_r (sem_assign rfl rfl) ?_
            refine dl_end ?_
            refine dw_ret ?_
            -- path fFFfT
            rw [sgnP_p n1 n2 hc3, comb_eq hc5]
            exact ⟨.inr rfl, (resL_tmp rfl resL_nil)⟩
          · refine dw_seq ?_
            -- region 9
            refine dw_region (by kernel_rfl) ?_
            refine dl_r (sem_move rfl rfl) ?_
            refine dl_r (sem_cmp rfl rfl rfl rfl) ?_
            refine dl_r (sem_assign rfl rfl) ?_
            refine dl_end ?_
            refine dw_cond rfl (fun hc6 => ?_) (fun hc6 => ?_)
            · refine dw_seq ?_
              -- region 10
              refine dw_region (by kernel_rfl) ?_
              refine dl_r (sem_move rfl rfl) ?_
              refine dl_r (sem_assign rfl rfl) ?_
              refine dl_end ?_
              refine dw_ret ?_
              -- path fFFfFT
              rw [sgnP_p n1 n2 hc3, comb_s0 hc6]
              exact ⟨.inr rfl, (resL_tmp rfl resL_nil)⟩
            · refine dw_skip ?_
              refine dw_seq ?_
              -- region 11
              refine dw_region (by kernel_rfl) ?_
              refine dl_r (sem_assign rfl rfl) ?_
              refine dl_end ?_
              refine dw_seq ?_
              -- region 12
              refine dw_region (by kernel_rfl) ?_
              refine dl_r (sem_assign rfl rfl) ?_
              refine dl_end ?_
              refine dw_seq ?_
              -- region 13
              refine dw_draw 42 [] follows_mixed (by kernel_rfl) rfl rfl ?_
              refine dq_r (sem_move rfl rfl) ?_
              refine dq_r (sem_move rfl rfl) ?_
              refine dq_r (sem_field fd28_0 rfl rfl) ?_
              refine dq_r (sem_load (us := cR A) ty26 rfl rfl rfl rfl rfl) ?_
              refine dq_r (sem_field fd28_0 rfl rfl) ?_
              refine dq_r (sem_load (us := cR A) ty26 rfl rfl rfl rfl rfl) ?_
              refine dq_r (sem_call rfl rfl (pMul_ok (by first | assumption | exact Rz.mono hA (by decide)) (by first | assumption | exact Rz.mono hA (by decide))) rfl) ?_
              refine dq_r (sem_move rfl rfl) ?_
              refine dq_r (sem_field fd28_4 rfl rfl) ?_
              refine dq_r (sem_load (us := cR M) ty26 rfl rfl rfl rfl rfl) ?_
              refine dq_r (sem_move rfl rfl) ?_
              refine dq_r (sem_field fd28_1 rfl rfl) ?_
              refine dq_r (sem_load (us := cR B) ty26 rfl rfl rfl rfl rfl) ?_
              refine dq_r (sem_field fd28_1 rfl rfl) ?_
              refine dq_r (sem_load (us := cR B) ty26 rfl rfl rfl rfl rfl) ?_
              refine dq_r (sem_call rfl rfl (pMul_ok (by first | assumption | exact Rz.mono hB (by decide)) (by first | assumption | exact Rz.mono hB (by decide))) rfl) ?_
              refine dq_r (sem_call rfl rfl (pMul_ok (by first | assumption | exact Rz.mono hM (by decide)) (by first | assumption | exact Rz.mono (Rz.mul hB hB) (by decide))) rfl) ?_
              refine dq_r (sem_call rfl rfl (xSignAdd_ok (by first | assumption | exact Rz.mono (Rz.mul hA hA) (by decide)) (by first | assumption | exact Rz.mono (Rz.mul hM (Rz.mul hB hB)) (by decide))) rfl) ?_
              refine dq_r (sem_move rfl rfl) ?_
              refine dq_r (sem_field fd28_5 rfl rfl) ?_
              refine dq_r (sem_load (us := cR N) ty26 rfl rfl rfl rfl rfl) ?_
              refine dq_r (sem_move rfl rfl) ?_
              refine dq_r (sem_move rfl rfl) ?_
              refine dq_r (sem_field fd28_2 rfl rfl) ?_
              refine dq_r (sem_load (us := cR C) ty26 rfl rfl rfl rfl rfl) ?_
              refine dq_r (sem_field fd28_2 rfl rfl) ?_
              refine dq_r (sem_load (us := cR C) ty26 rfl rfl rfl rfl rfl) ?_
              refine dq_r (sem_call rfl rfl (pMul_ok (by first | assumption | exact Rz.mono hC (by decide)) (by first | assumption | exact Rz.mono hC (by decide))) rfl) ?_
              refine dq_r (sem_move rfl rfl) ?_
              refine dq_r (sem_field fd28_4 rfl rfl) ?_
              refine dq_r (sem_load (us := cR M) ty26 rfl rfl rfl rfl rfl) ?_
              refine dq_r (sem_move rfl rfl) ?_
              refine dq_r (sem_field fd28_3 rfl rfl) ?_
              refine dq_r (sem_load (us := cR D) ty26 rfl rfl rfl rfl rfl) ?_
              refine dq_r (sem_field fd28_3 rfl rfl) ?_
              refine dq_r (sem_load (us := cR D) ty26 rfl rfl rfl rfl rfl) ?_
              refine dq_r (sem_call rfl rfl (pMul_ok (by first | assumption | exact Rz.mono hD (by decide)) (by first | assumption | exact Rz.mono hD (by decide))) rfl) ?_
              refine dq_r (sem_call rfl rfl (pMul_ok (by first | assumption | exact Rz.mono hM (by decide)) (by first | assumption | exact Rz.mono (Rz.mul hD hD) (by decide))) rfl) ?_
              refine dq_r (sem_call rfl rfl (xSignAdd_ok (by first | assumption | exact Rz.mono (Rz.mul hC hC) (by decide)) (by first | assumption | exact Rz.mono (Rz.mul hM (Rz.mul hD hD)) (by decide))) rfl) ?_
              refine dq_r (sem_call rfl rfl (pMul_ok (by first | assumption | exact Rz.mono hN (by decide)) (by first | assumption | exact Rz.mono (Rz.add (Rz.mul hC hC) (Rz.mul hM (Rz.mul hD hD))) (by decide))) rfl) ?_
              refine dq_r (sem_call rfl rfl (pSub_ok (by first | assumption | exact Rz.mono (Rz.add (Rz.mul hA hA) (Rz.mul hM (Rz.mul hB hB))) (by decide)) (by first | assumption | exact Rz.mono (Rz.mul hN (Rz.add (Rz.mul hC hC) (Rz.mul hM (Rz.mul hD hD)))) (by decide))) rfl) ?_
              refine dq_new (sem_alloc zc26 rfl) rfl ?_
              refine dq_end ?_
              refine dl_start1 ?_
              refine dl_st (sem_store_a ty26 rfl rfl rfl rfl rfl rfl) ?_
              refine dl_end ?_
              refine dw_seq ?_
              -- region 14
              refine dw_draw 18 [] follows_mixed (by kernel_rfl) rfl rfl ?_
              refine dq_r (sem_move rfl rfl) ?_
              refine dq_r (sem_field fd28_0 rfl rfl) ?_
              refine dq_r (sem_load (us := cR A) ty26 rfl rfl rfl rfl rfl) ?_
              refine dq_r (sem_field fd28_1 rfl rfl) ?_
              refine dq_r (sem_load (us := cR B) ty26 rfl rfl rfl rfl rfl) ?_
              refine dq_r (sem_call rfl rfl (pMul_ok (by first | assumption | exact Rz.mono hA (by decide)) (by first | assumption | exact Rz.mono hB (by decide))) rfl) ?_
              refine dq_r (sem_move rfl rfl) ?_
              refine dq_r (sem_field fd28_5 rfl rfl) ?_
              refine dq_r (sem_load (us := cR N) ty26 rfl rfl rfl rfl rfl) ?_
              refine dq_r (sem_move rfl rfl) ?_
              refine dq_r (sem_field fd28_2 rfl rfl) ?_
              refine dq_r (sem_load (us := cR C) ty26 rfl rfl rfl rfl rfl) ?_
              refine dq_r (sem_field fd28_3 rfl rfl) ?_
              refine dq_r (sem_load (us := cR D) ty26 rfl rfl rfl rfl rfl) ?_
              refine dq_r (sem_call rfl rfl (pMul_ok (by first | assumption | exact Rz.mono hC (by decide)) (by first | assumption | exact Rz.mono hD (by decide))) rfl) ?_
              refine dq_r (sem_call rfl rfl (pMul_ok (by first | assumption | exact Rz.mono hN (by decide)) (by first | assumption | exact Rz.mono (Rz.mul hC hD) (by decide))) rfl) ?_
              refine dq_r (sem_call rfl rfl (pSub_ok (by first | assumption | exact Rz.mono (Rz.mul hA hB) (by decide)) (by first | assumption | exact Rz.mono (Rz.mul hN (Rz.mul hC hD)) (by decide))) rfl) ?_
              refine dq_new (sem_alloc zc26 rfl) rfl ?_
              refine dq_end ?_
              refine dl_start1 ?_
              refine dl_st (sem_store_a ty26 rfl rfl rfl rfl rfl rfl) ?_
              refine dl_end ?_
              refine dw_seq ?_
              -- region 15
              refine dw_draw 11 [] follows_mixed (by kernel_rfl) rfl rfl ?_
              refine dq_r (sem_move rfl rfl) ?_
              refine dq_r (sem_load (us := cR (((A * A) + (M * (B * B))) - (N * ((C * C) + (M * (D * D)))))) ty26 rfl rfl rfl rfl rfl) ?_
              refine dq_r (sem_move rfl rfl) ?_
              refine dq_r (sem_load (us := cR ((A * B) - (N * (C * D)))) ty26 rfl rfl rfl rfl rfl) ?_
              refine dq_r (sem_load (us := cR ((A * B) - (N * (C * D)))) ty26 rfl rfl rfl rfl rfl) ?_
              refine dq_r (sem_call rfl rfl (xSignAdd_ok (by first | assumption | exact Rz.mono (Rz.sub (Rz.mul hA hB) (Rz.mul hN (Rz.mul hC hD))) (by decide)) (by first | assumption | exact Rz.mono (Rz.sub (Rz.mul hA hB) (Rz.mul hN (Rz.mul hC hD))) (by decide))) rfl) ?_
              refine dq_r (sem_field fd28_4 rfl rfl) ?_
              refine dq_r (sem_load (us := cR M) ty26 rfl rfl rfl rfl rfl) ?_
              refine dq_r (sem_call rfl rfl (xPlain_ok (by first | assumption | exact Rz.mono (Rz.sub (Rz.add (Rz.mul hA hA) (Rz.mul hM (Rz.mul hB hB))) (Rz.mul hN (Rz.add (Rz.mul hC hC) (Rz.mul hM (Rz.mul hD hD))))) (by decide)) (by first | assumption | exact Rz.mono (Rz.add (Rz.sub (Rz.mul hA hB) (Rz.mul hN (Rz.mul hC hD))) (Rz.sub (Rz.mul hA hB) (Rz.mul hN (Rz.mul hC hD)))) (by decide)) (by first | assumption | exact Rz.mono hM (by decide))) rfl) ?_
              refine dq_r (sem_ari (r := (plainS A B M) * (plainS (((A * A) + (M * (B * B))) - (N * ((C * C) + (M * (D * D))))) (((A * B) - (N * (C * D))) + ((A * B) - (N * (C * D)))) M)) rfl rfl (ari_i64_mul (by omega) (by omega)) rfl) ?_
              refine dq_r (sem_assign rfl rfl) ?_
              refine dq_end ?_
              refine dl_start0 ?_
              refine dl_end ?_
              refine dw_ret ?_
              -- path fFFfFF
              rw [sgnP_p n1 n2 hc3, comb_ne hc6 hb4 hc5]
              exact ⟨.inr rfl, (resL_tmp rfl resL_nil)⟩
        · refine dl_skip (sem_skip rfl) ?_
          refine dl_skip (sem_skip rfl) ?_
          refine dl_skip (sem_skip rfl) ?_
          refine dl_r (sem_pick rfl rfl rfl rfl) ?_
          refine dl_r (sem_assign rfl rfl) ?_
          refine dl_end ?_
          refine dw_true rfl ?_
          refine dw_seq ?_
          -- region 8
          refine dw_region (by kernel_rfl) ?_
          refine dl_r (sem_move rfl rfl) ?_
          refine dl_r (sem_assign rfl rfl) ?_
          refine dl_end ?_
          refine dw_ret ?_
          -- path fFFt
          rw [sgnP_p n1 n2 hc3, comb_t0 hb4]
          exact ⟨.inr rfl, (resL_tmp rfl resL_nil)⟩
  · refine dl_skip (sem_skip rfl) ?_
    refine dl_skip (sem_skip rfl) ?_
    refine dl_skip (sem_skip rfl) ?_
    refine dl_skip (sem_skip rfl) ?_
    refine dl_r (sem_pick rfl rfl rfl rfl) ?_
    refine dl_end ?_
    refine dw_true rfl ?_
    refine dw_seq ?_
    -- region 2
    refine dw_region (by kernel_rfl) ?_
    refine dl_r (sem_assign rfl rfl) ?_
    refine dl_end ?_
    refine dw_ret ?_
    -- path t
    rw [sgnP_n (.inl (r_lt hb1))]
    exact ⟨.inr rfl, (resL_tmp rfl resL_nil)⟩
theorem ySignB_ok {A B C D M N : Rat} (hA : Rz 16 A) (hB : Rz 6 B) (hC : Rz 6 C) (hD : Rz 6 D) (hM : Rz 6 M) (hN : Rz 6 N) : Ok Tryz.prog 10 [.a (cR A ++ cR B ++ cR C ++ cR D ++ cR M ++ cR N)] [.c (.i .i64 (signQ A B C D M N))] := by
  have z1 := prod_bd (plainS_bd C D M) (cmpR_bd N 0)
  have z2 := prod_bd (plainS_bd A B M) (plainS_bd (A * A + B * B * M - N * (C * C + D * D * M)) ((A * B - N * (C * D)) + (A * B - N * (C * D))) M)
  refine Ok.of (by kernel_rfl) Tryz.func10 rfl rfl ?_
  rw [show Tryz.f10.ntmps = 107 from rfl, show Tryz.f10.results.toList = [.tmp 2] from rfl]
  refine dw_seq ?_
  -- region 0
  refine dw_region (by kernel_rfl) ?_
  refine dl_new (sem_box_a rfl rfl) rfl ?_
  refine dl_r (sem_assign rfl rfl) ?_
  refine dl_end ?_
  refine dw_seq ?_
  refine dw_seq ?_
  -- region 1
  refine dw_region (by kernel_rfl) ?_
  refine dl_r (sem_field fd28_4 rfl rfl) ?_
  refine dl_r (sem_load (us := cR M) ty26 rfl rfl rfl rfl rfl) ?_
  refine dl_r (sem_call rfl rfl (sSign_ok) rfl) ?_
  refine dl_r (sem_cmp rfl rfl rfl rfl) ?_
  refine dl_rb (sem_move rfl rfl) (fun c1 hb1 => ?_)
  cases c1
  · have n1 := r_nlt hb1
    refine dl_r (sem_field fd28_5 rfl rfl) ?_
    refine dl_r (sem_load (us := cR N) ty26 rfl rfl rfl rfl rfl) ?_
    refine dl_r (sem_call rfl rfl (sSign_ok) rfl) ?_
    refine dl_r (sem_cmp rfl rfl rfl rfl) ?_
    refine dl_r (sem_pick rfl rfl rfl rfl) ?_
    refine dl_end ?_
    refine dw_cond rfl (fun hc2 => ?_) (fun hc2 => ?_)
    · refine dw_seq ?_
      -- region 2
      refine dw_region (by kernel_rfl) ?_
      refine dl_r (sem_assign rfl rfl) ?_
      refine dl_end ?_
      refine dw_ret ?_
      -- path fT
      rw [signQ_n (.inr (r_lt hc2))]
      exact ⟨.inr rfl, (resL_tmp rfl resL_nil)⟩
    · have n2 := r_nlt hc2
      refine dw_skip ?_
      refine dw_seq ?_
      -- region 3
      refine dw_draw 20 [] follows_mixed (by kernel_rfl) rfl rfl ?_
      refine dq_r (sem_field fd28_0 rfl rfl) ?_
      refine dq_r (sem_load (us := cR A) ty26 rfl rfl rfl rfl rfl) ?_
      refine dq_r (sem_field fd28_1 rfl rfl) ?_
      refine dq_r (sem_load (us := cR B) ty26 rfl rfl rfl rfl rfl) ?_
      refine dq_r (sem_field fd28_4 rfl rfl) ?_
      refine dq_r (sem_load (us := cR M) ty26 rfl rfl rfl rfl rfl) ?_
      refine dq_r (sem_call rfl rfl (yTwo_ok (by first | assumption | exact Rz.mono hA (by decide)) (by first | assumption | exact Rz.mono hB (by decide)) (by first | assumption | exact Rz.mono hM (by decide))) rfl) ?_
      refine dq_r (sem_field fd28_2 rfl rfl) ?_
      refine dq_r (sem_load (us := cR C) ty26 rfl rfl rfl rfl rfl) ?_
      refine dq_r (sem_field fd28_3 rfl rfl) ?_
      refine dq_r (sem_load (us := cR D) ty26 rfl rfl rfl rfl rfl) ?_
      refine dq_r (sem_field fd28_4 rfl rfl) ?_
      refine dq_r (sem_load (us := cR M) ty26 rfl rfl rfl rfl rfl) ?_
      refine dq_r (sem_call rfl rfl (yTwo_ok (by first | assumption | exact Rz.mono hC (by decide)) (by first | assumption | exact Rz.mono hD (by decide)) (by first | assumption | exact Rz.mono hM (by decide))) rfl) ?_
      refine dq_r (sem_field fd28_5 rfl rfl) ?_
      refine dq_r (sem_load (us := cR N) ty26 rfl rfl rfl rfl rfl) ?_
      refine dq_r (sem_call rfl rfl (sSign_ok) rfl) ?_
      refine dq_r (sem_ari (r := (plainS C D M) * (cmpR N 0)) rfl rfl (ari_i64_mul (by omega) (by omega)) rfl) ?_
      refine dq_r (sem_assign rfl rfl) ?_
      refine dq_r (sem_assign rfl rfl) ?_
      refine dq_end ?_
      refine dl_start0 ?_
      refine dl_end ?_
      refine dw_seq ?_
      refine dw_seq ?_
      -- region 4
      refine dw_region (by kernel_rfl) ?_
      refine dl_r (sem_move rfl rfl) ?_
      refine dl_r (sem_cmp rfl rfl rfl rfl) ?_
      refine dl_rb (sem_move rfl rfl) (fun c3 hb3 => ?_)
      cases c3
      · refine dl_r (sem_move rfl rfl) ?_
        refine dl_r (sem_cmp rfl rfl rfl rfl) ?_
        refine dl_r (sem_pick rfl rfl rfl rfl) ?_
        refine dl_rb (sem_move rfl rfl) (fun c4 hb4 => ?_)
        cases c4
        · refine dl_r (sem_move rfl rfl) ?_
          refine dl_r (sem_move rfl rfl) ?_
          refine dl_r (sem_cmp rfl rfl rfl rfl) ?_
          refine dl_r (sem_pick rfl rfl rfl rfl) ?_
          refine dl_end ?_
          refine dw_cond rfl (fun hc5 => ?_) (fun hc5 => ?_)
          · refine dw_seq ?_
            refine dw_seq ?_
            -- region 5
            refine dw_region (by kernel_rfl) ?_
            refine dl_r (sem_move rfl rfl) ?_
            refine dl_r (sem_cmp rfl rfl rfl rfl) ?_
            refine dl_end ?_
            refine dw_cond rfl (fun hc6 => ?_) (fun hc6 => ?_)
            · exact absurd hc6 (by rw [hb3]; decide)
            · refine dw_skip ?_
              refine dw_seq ?_
              -- region 7
              refine dw_region (by kernel_rfl) ?_
              refine dl_r (sem_move rfl rfl) ?_
              refine dl_r (sem_assign rfl rfl) ?_
              refine dl_end ?_
              refine dw_ret ?_
              -- path fFffTF
              rw [signQ_p n1 n2, comb_eq hc5]
              exact ⟨.inr rfl, (resL_tmp rfl resL_nil)⟩
          · refine dw_skip ?_
            refine dw_seq ?_
            -- region 8
            refine dw_draw 18 [] follows_mixed (by kernel_rfl) rfl rfl ?_
            refine dq_r (sem_field fd28_5 rfl rfl) ?_
            refine dq_r (sem_load (us := cR N) ty26 rfl rfl rfl rfl rfl) ?_
            refine dq_r (sem_field fd28_2 rfl rfl) ?_
            refine dq_r (sem_load (us := cR C) ty26 rfl rfl rfl rfl rfl) ?_
            refine dq_r (sem_field fd28_2 rfl rfl) ?_
            refine dq_r (sem_load (us := cR C) ty26 rfl rfl rfl rfl rfl) ?_
            refine dq_r (sem_call rfl rfl (sMul_ok (by first | assumption | exact Rz.mono hC (by decide)) (by first | assumption | exact Rz.mono hC (by decide))) rfl) ?_
            refine dq_r (sem_field fd28_3 rfl rfl) ?_
            refine dq_r (sem_load (us := cR D) ty26 rfl rfl rfl rfl rfl) ?_
            refine dq_r (sem_field fd28_3 rfl rfl) ?_
            refine dq_r (sem_load (us := cR D) ty26 rfl rfl rfl rfl rfl) ?_
            refine dq_r (sem_call rfl rfl (sMul_ok (by first | assumption | exact Rz.mono hD (by decide)) (by first | assumption | exact Rz.mono hD (by decide))) rfl) ?_
            refine dq_r (sem_field fd28_4 rfl rfl) ?_
            refine dq_r (sem_load (us := cR M) ty26 rfl rfl rfl rfl rfl) ?_
            refine dq_r (sem_call rfl rfl (sMul_ok (by first | assumption | exact Rz.mono (Rz.mul hD hD) (by decide)) (by first | assumption | exact Rz.mono hM (by decide))) rfl) ?_
            refine dq_r (sem_call rfl rfl (sAdd_ok (by first | assumption | exact Rz.mono (Rz.mul hC hC) (by decide)) (by first | assumption | exact Rz.mono (Rz.mul (Rz.mul hD hD) hM) (by decide))) rfl) ?_
            refine dq_r (sem_call rfl rfl (sMul_ok (by first | assumption | exact Rz.mono hN (by decide)) (by first | assumption | exact Rz.mono (Rz.add (Rz.mul hC hC) (Rz.mul (Rz.mul hD hD) hM)) (by decide))) rfl) ?_
            refine dq_new (sem_alloc zc26 rfl) rfl ?_
            refine dq_end ?_
            refine dl_start1 ?_
            refine dl_st (sem_store_a ty26 rfl rfl rfl rfl rfl rfl) ?_
            refine dl_end ?_
            refine dw_seq ?_
            -- region 9
            refine dw_draw 17 [] follows_mixed (by kernel_rfl) rfl rfl ?_
            refine dq_r (sem_field fd28_0 rfl rfl) ?_
            refine dq_r (sem_load (us := cR A) ty26 rfl rfl rfl rfl rfl) ?_
            refine dq_r (sem_field fd28_0 rfl rfl) ?_
            refine dq_r (sem_load (us := cR A) ty26 rfl rfl rfl rfl rfl) ?_
            refine dq_r (sem_call rfl rfl (sMul_ok (by first | assumption | exact Rz.mono hA (by decide)) (by first | assumption | exact Rz.mono hA (by decide))) rfl) ?_
            refine dq_r (sem_field fd28_1 rfl rfl) ?_
            refine dq_r (sem_load (us := cR B) ty26 rfl rfl rfl rfl rfl) ?_
            refine dq_r (sem_field fd28_1 rfl rfl) ?_
            refine dq_r (sem_load (us := cR B) ty26 rfl rfl rfl rfl rfl) ?_
            refine dq_r (sem_call rfl rfl (sMul_ok (by first | assumption | exact Rz.mono hB (by decide)) (by first | assumption | exact Rz.mono hB (by decide))) rfl) ?_
            refine dq_r (sem_field fd28_4 rfl rfl) ?_
            refine dq_r (sem_load (us := cR M) ty26 rfl rfl rfl rfl rfl) ?_
            refine dq_r (sem_call rfl rfl (sMul_ok (by first | assumption | exact Rz.mono (Rz.mul hB hB) (by decide)) (by first | assumption | exact Rz.mono hM (by decide))) rfl) ?_
            refine dq_r (sem_call rfl rfl (sAdd_ok (by first | assumption | exact Rz.mono (Rz.mul hA hA) (by decide)) (by first | assumption | exact Rz.mono (Rz.mul (Rz.mul hB hB) hM) (by decide))) rfl) ?_
            refine dq_r (sem_load (us := cR (N * ((C * C) + ((D * D) * M)))) ty26 rfl rfl rfl rfl rfl) ?_
            refine dq_r (sem_call rfl rfl (sSub_ok (by first | assumption | exact Rz.mono (Rz.add (Rz.mul hA hA) (Rz.mul (Rz.mul hB hB) hM)) (by decide)) (by first | assumption | exact Rz.mono (Rz.mul hN (Rz.add (Rz.mul hC hC) (Rz.mul (Rz.mul hD hD) hM))) (by decide))) rfl) ?_
            refine dq_new (sem_alloc zc26 rfl) rfl ?_
            refine dq_end ?_
            refine dl_start1 ?_
            refine dl_st (sem_store_a ty26 rfl rfl rfl rfl rfl rfl) ?_
            refine dl_end ?_
            refine dw_seq ?_
            -- region 10
            refine dw_draw 15 [] follows_mixed (by kernel_rfl) rfl rfl ?_
            refine dq_r (sem_field fd28_0 rfl rfl) ?_
            refine dq_r (sem_load (us := cR A) ty26 rfl rfl rfl rfl rfl) ?_
            refine dq_r (sem_field fd28_1 rfl rfl) ?_
            refine dq_r (sem_load (us := cR B) ty26 rfl rfl rfl rfl rfl) ?_
            refine dq_r (sem_call rfl rfl (sMul_ok (by first | assumption | exact Rz.mono hA (by decide)) (by first | assumption | exact Rz.mono hB (by decide))) rfl) ?_
            refine dq_r (sem_field fd28_5 rfl rfl) ?_
            refine dq_r (sem_load (us := cR N) ty26 rfl rfl rfl rfl rfl) ?_
            refine dq_r (sem_field fd28_2 rfl rfl) ?_
            refine dq_r (sem_load (us := cR C) ty26 rfl rfl rfl rfl rfl) ?_
            refine dq_r (sem_field fd28_3 rfl rfl) ?_
            refine dq_r (sem_load (us := cR D) ty26 rfl rfl rfl rfl rfl) ?_
            refine dq_r (sem_call rfl rfl (sMul_ok (by first | assumption | exact Rz.mono hC (by decide)) (by first | assumption | exact Rz.mono hD (by decide))) rfl) ?_
            refine dq_r (sem_call rfl rfl (sMul_ok (by first | assumption | exact Rz.mono hN (by decide)) (by first | assumption | exact Rz.mono (Rz.mul hC hD) (by decide))) rfl) ?_
            refine dq_r (sem_call rfl rfl (sSub_ok (by first | assumption | exact Rz.mono (Rz.mul hA hB) (by decide)) (by first | assumption | exact Rz.mono (Rz.mul hN (Rz.mul hC hD)) (by decide))) rfl) ?_
            refine dq_new (sem_alloc zc26 rfl) rfl ?_
            refine dq_end ?_
            refine dl_start1 ?_
            refine dl_st (sem_store_a ty26 rfl rfl rfl rfl rfl rfl) ?_
            refine dl_end ?_
            refine dw_seq ?_
            -- region 11
            refine dw_draw 10 [] follows_mixed (by kernel_rfl) rfl rfl ?_
            refine dq_r (sem_move rfl rfl) ?_
            refine dq_r (sem_load (us := cR (((A * A) + ((B * B) * M)) - (N * ((C * C) + ((D * D) * M))))) ty26 rfl rfl rfl rfl rfl) ?_
            refine dq_r (sem_load (us := cR ((A * B) - (N * (C * D)))) ty26 rfl rfl rfl rfl rfl) ?_
            refine dq_r (sem_load (us := cR ((A * B) - (N * (C * D)))) ty26 rfl rfl rfl rfl rfl) ?_
            refine dq_r (sem_call rfl rfl (sAdd_ok (by first | assumption | exact Rz.mono (Rz.sub (Rz.mul hA hB) (Rz.mul hN (Rz.mul hC hD))) (by decide)) (by first | assumption | exact Rz.mono (Rz.sub (Rz.mul hA hB) (Rz.mul hN (Rz.mul hC hD))) (by decide))) rfl) ?_
            refine dq_r (sem_field fd28_4 rfl rfl) ?_
            refine dq_r (sem_load (us := cR M) ty26 rfl rfl rfl rfl rfl) ?_
            refine dq_r (sem_call rfl rfl (yTwo_ok (by first | assumption | exact Rz.mono (Rz.sub (Rz.add (Rz.mul hA hA) (Rz.mul (Rz.mul hB hB) hM)) (Rz.mul hN (Rz.add (Rz.mul hC hC) (Rz.mul (Rz.mul hD hD) hM)))) (by decide)) (by first | assumption | exact Rz.mono (Rz.add (Rz.sub (Rz.mul hA hB) (Rz.mul hN (Rz.mul hC hD))) (Rz.sub (Rz.mul hA hB) (Rz.mul hN (Rz.mul hC hD)))) (by decide)) (by first | assumption | exact Rz.mono hM (by decide))) rfl) ?_
            refine dq_r (sem_ari (r := (plainS A B M) * (plainS (((A * A) + ((B * B) * M)) - (N * ((C * C) + ((D * D) * M)))) (((A * B) - (N * (C * D))) + ((A * B) - (N * (C * D)))) M)) rfl rfl (ari_i64_mul (by omega) (by omega)) rfl) ?_
            refine dq_r (sem_assign rfl rfl) ?_
            refine dq_end ?_
            refine dl_start0 ?_
            refine dl_end ?_
            refine dw_ret ?_
            -- path fFffF
            rw [signQ_p n1 n2, comb_ne hb3 hb4 hc5]
            exact ⟨.inr rfl, (resL_tmp rfl resL_nil)⟩
        · refine dl_skip (sem_skip rfl) ?_
          refine dl_skip (sem_skip rfl) ?_
          refine dl_skip (sem_skip rfl) ?_
          refine dl_r (sem_pick rfl rfl rfl rfl) ?_
          refine dl_end ?_
          refine dw_true rfl ?_
          refine dw_seq ?_
          refine dw_seq ?_
          -- region 5
          refine dw_region (by kernel_rfl) ?_
          refine dl_r (sem_move rfl rfl) ?_
          refine dl_r (sem_cmp rfl rfl rfl rfl) ?_
          refine dl_end ?_
          refine dw_cond rfl (fun hc7 => ?_) (fun hc7 => ?_)
          · exact absurd hc7 (by rw [hb3]; decide)
          · refine dw_skip ?_
            refine dw_seq ?_
            -- region 7
            refine dw_region (by kernel_rfl) ?_
            refine dl_r (sem_move rfl rfl) ?_
            refine dl_r (sem_assign rfl rfl) ?_
            refine dl_end ?_
            refine dw_ret ?_
            -- path fFftF
            rw [signQ_p n1 n2, comb_t0 hb4]
            exact ⟨.inr rfl, (resL_tmp rfl resL_nil)⟩
      · refine dl_skip (sem_skip rfl) ?_
        refine dl_skip (sem_skip rfl) ?_
        refine dl_r (sem_pick rfl rfl rfl rfl) ?_
        refine dl_r (sem_move rfl rfl) ?_
        refine dl_skip (sem_skip rfl) ?_
        refine dl_skip (sem_skip rfl) ?_
        refine dl_skip (sem_skip rfl) ?_
        refine dl_r (sem_pick rfl rfl rfl rfl) ?_
        refine dl_end ?_
        refine dw_true rfl ?_
        refine dw_seq ?_
        refine dw_seq ?_
        -- region 5
        refine dw_region (by kernel_rfl) ?_
        refine dl_r (sem_move rfl rfl) ?_
        refine dl_r (sem_cmp rfl rfl rfl rfl) ?_
        refine dl_end ?_
        refine dw_cond rfl (fun hc8 => ?_) (fun hc8 => ?_)
        · refine dw_seq ?_
          -- region 6
          refine dw_region (by kernel_rfl) ?_
          refine dl_r (sem_move rfl rfl) ?_
          refine dl_r (sem_assign rfl rfl) ?_
          refine dl_end ?_
          refine dw_ret ?_
          -- path fFtT
          rw [signQ_p n1 n2, comb_s0 hb3]
          exact ⟨.inr rfl, (resL_tmp rfl resL_nil)⟩
        · exact absurd hb3 (by rw [hc8]; decide)
  · refine dl_skip (sem_skip rfl) ?_
    refine dl_skip (sem_skip rfl) ?_
    refine dl_skip (sem_skip rfl) ?_
    refine dl_skip (sem_skip rfl) ?_
    refine dl_r (sem_pick rfl rfl rfl rfl) ?_
    refine dl_end ?_
    refine dw_true rfl ?_
    refine dw_seq ?_
    -- region 2
    refine dw_region (by kernel_rfl) ?_
    refine dl_r (sem_assign rfl rfl) ?_
    refine dl_end ?_
    refine dw_ret ?_
    -- path t
    rw [signQ_n (.inl (r_lt hb1))]
    exact ⟨.inr rfl, (resL_tmp rfl resL_nil)⟩
theorem xSignBQ_ok {A B C D M N : Rat} (hA : Rz 16 A) (hB : Rz 6 B) (hC : Rz 6 C) (hD : Rz 6 D) (hM : Rz 6 M) (hN : Rz 6 N) : Ok Tryz.prog 9 [.a (cR A ++ cR B ++ cR C ++ cR D ++ cR M ++ cR N)] [.c (.i .i64 (signQ A B C D M N))] := rcasti (xSignB_ok hA hB hC hD hM hN) (sgnP_signQ _ _ _ _ _ _)
theorem xSum_0 {d p q s : Rat} (hd : Rz 2 d) (hp : Rz 2 p) (hq : Rz 2 q) (hs : Rz 2 s) (zd : decide (cmpR d 0 < 0) = true) : Ok Tryz.prog 18 [dR d, dR p, dR q, dR s] [.c (.i .i64 0), .c (.i .i64 7)] := by
  have kd : Rz 300 d := hd.mono (by decide)
  have kp : Rz 300 p := hp.mono (by decide)
  have kq : Rz 300 q := hq.mono (by decide)
  have ks : Rz 300 s := hs.mono (by decide)
  have hm : Rz 3 ((-2 : Int) : Rat) := Rz.int (Sz.small (by decide) (by decide) (by decide)) (by decide)
  have km : Rz 300 ((-2 : Int) : Rat) := hm.mono (by decide)
  have A1 : Rz 16 (d - p - q - s * s) := (((hd.sub hp).sub hq).sub (hs.mul hs)).mono (by decide)
  have B1 : Rz 6 (((-2 : Int) : Rat) * s) := (hm.mul hs).mono (by decide)
  have D1 : Rz 6 ((-2 : Int) : Rat) := hm.mono (by decide)
  have M1 : Rz 6 p := hp.mono (by decide)
  have N1 : Rz 6 q := hq.mono (by decide)
  refine Ok.of (by kernel_rfl) Tryz.func18 rfl rfl ?_
  rw [show Tryz.f18.ntmps = 48 from rfl, show Tryz.f18.results.toList = [.tmp 8, .tmp 9] from rfl]
  refine dw_seq ?_
  -- region 0
  refine dw_region (by kernel_rfl) ?_
  refine dl_new (sem_box_a rfl rfl) rfl ?_
  refine dl_new (sem_box_a rfl rfl) rfl ?_
  refine dl_new (sem_box_a rfl rfl) rfl ?_
  refine dl_new (sem_box_a rfl rfl) rfl ?_
  refine dl_r (sem_assign rfl rfl) ?_
  refine dl_r (sem_assign rfl rfl) ?_
  refine dl_end ?_
  refine dw_seq ?_
  refine dw_seq ?_
  -- region 1
  refine dw_region (by kernel_rfl) ?_
  refine dl_r (sem_load (us := cR d) ty26 rfl rfl rfl rfl rfl) ?_
  refine dl_r (sem_load (us := cR p) ty26 rfl rfl rfl rfl rfl) ?_
  refine dl_r (sem_load (us := cR q) ty26 rfl rfl rfl rfl rfl) ?_
  refine dl_r (sem_load (us := cR s) ty26 rfl rfl rfl rfl rfl) ?_
  refine dl_r (sem_slit_D (n := 4) (us := cR d ++ cR p ++ cR q ++ cR s) el55 rfl rfl rfl (by decide) (by decide) rfl) ?_
  refine dl_r (sem_len sl55 rfl rfl) ?_
  refine dl_r (sem_move rfl rfl) ?_
  refine dl_end ?_
  refine dw_block ?_
  refine dw_loop (ι := Nat) (fun i => match i with | _ => ⟨48, [(4, .p 4 0), (5, .p 5 0), (6, .p 6 0), (7, .p 7 0), (8, .v (.c (.i .i64 0))), (9, .v (.c (.i .i64 0))), (18, .v (.c (.s 4 (cR d ++ cR p ++ cR q ++ cR s)))), (19, .v (.c (.i .i64 4))), (20, .v (.c (.i .i64 0)))], [(4, 26, cR d), (5, 26, cR p), (6, 26, cR q), (7, 26, cR s)]⟩) (fun i => 0 - i) 0 (sub_of ⟨rfl, rfl, rfl, rfl, rfl, rfl, rfl, rfl, rfl, trivial⟩ ⟨rfl, rfl, rfl, rfl, trivial⟩ rfl) ?_
  intro i
  match i with
  | _ =>
    show Dw _ _ ⟨48, [(4, .p 4 0), (5, .p 5 0), (6, .p 6 0), (7, .p 7 0), (8, .v (.c (.i .i64 0))), (9, .v (.c (.i .i64 0))), (18, .v (.c (.s 4 (cR d ++ cR p ++ cR q ++ cR s)))), (19, .v (.c (.i .i64 4))), (20, .v (.c (.i .i64 0)))], [(4, 26, cR d), (5, 26, cR p), (6, 26, cR q), (7, 26, cR s)]⟩ _
    refine dw_seq ?_
    -- region 2
    refine dw_region (by kernel_rfl) ?_
    refine dl_r (sem_cmp rfl rfl rfl rfl) ?_
    refine dl_end ?_
    refine dw_seq ?_
    refine dw_true rfl ?_
    refine dw_skip ?_
    refine dw_seq ?_
    refine dw_block ?_
    refine dw_seq ?_
    -- region 3
    refine dw_region (by kernel_rfl) ?_
    refine dl_r (sem_index sl55 rfl rfl (by decide) rfl rfl rfl) ?_
    refine dl_r (sem_loadq (us := cR d) ty26 rfl rfl rfl rfl) ?_
    refine dl_new (sem_alloc zc26 rfl) rfl ?_
    refine dl_st (sem_store_a ty26 rfl rfl rfl rfl rfl rfl) ?_
    refine dl_end ?_
    refine dw_seq ?_
    -- region 4
    refine dw_region (by kernel_rfl) ?_
    refine dl_r (sem_load (us := cR d) ty26 rfl rfl rfl rfl rfl) ?_
    refine dl_r (sem_call rfl rfl (pSign_ok) rfl) ?_
    refine dl_r (sem_castb (sem_cmp rfl rfl rfl rfl) zd) ?_
    refine dl_end ?_
    refine dw_true rfl ?_
    refine dw_seq ?_
    -- region 5
    refine dw_region (by kernel_rfl) ?_
    refine dl_r (sem_assign rfl rfl) ?_
    refine dl_r (sem_assign rfl rfl) ?_
    refine dl_end ?_
    refine dw_ret ?_
    -- path L0
    exact ⟨.inr rfl, (resL_tmp rfl (resL_tmp rfl resL_nil))⟩
theorem ySum_0 {d p q s : Rat} (hd : Rz 2 d) (hp : Rz 2 p) (hq : Rz 2 q) (hs : Rz 2 s) (zd : decide (cmpR d 0 < 0) = true) : Ok Tryz.prog 19 [dR d, dR p, dR q, dR s] [.c (.i .i64 0), .c (.i .i64 7)] := by
  have kd : Rz 300 d := hd.mono (by decide)
  have kp : Rz 300 p := hp.mono (by decide)
  have kq : Rz 300 q := hq.mono (by decide)
  have ks : Rz 300 s := hs.mono (by decide)
  have hm : Rz 3 ((-2 : Int) : Rat) := Rz.int (Sz.small (by decide) (by decide) (by decide)) (by decide)
  have km : Rz 300 ((-2 : Int) : Rat) := hm.mono (by decide)
  have A1 : Rz 16 (d - p - q - s * s) := (((hd.sub hp).sub hq).sub (hs.mul hs)).mono (by decide)
  have B1 : Rz 6 (((-2 : Int) : Rat) * s) := (hm.mul hs).mono (by decide)
  have D1 : Rz 6 ((-2 : Int) : Rat) := hm.mono (by decide)
  have M1 : Rz 6 p := hp.mono (by decide)
  have N1 : Rz 6 q := hq.mono (by decide)
  refine Ok.of (by kernel_rfl) Tryz.func19 rfl rfl ?_
  rw [show Tryz.f19.ntmps = 50 from rfl, show Tryz.f19.results.toList = [.tmp 8, .tmp 9] from rfl]
  refine dw_seq ?_
  -- region 0
  refine dw_region (by kernel_rfl) ?_
  refine dl_new (sem_box_a rfl rfl) rfl ?_
  refine dl_new (sem_box_a rfl rfl) rfl ?_
  refine dl_new (sem_box_a rfl rfl) rfl ?_
  refine dl_new (sem_box_a rfl rfl) rfl ?_
  refine dl_r (sem_assign rfl rfl) ?_
  refine dl_r (sem_assign rfl rfl) ?_
  refine dl_end ?_
  refine dw_seq ?_
  refine dw_seq ?_
  -- region 1
  refine dw_region (by kernel_rfl) ?_
  refine dl_r (sem_load (us := cR d) ty26 rfl rfl rfl rfl rfl) ?_
  refine dl_r (sem_call rfl rfl (sSign_ok) rfl) ?_
  refine dl_r (sem_castb (sem_cmp rfl rfl rfl rfl) zd) ?_
  refine dl_r (sem_move rfl rfl) ?_
  refine dl_skip (sem_skip rfl) ?_
  refine dl_skip (sem_skip rfl) ?_
  refine dl_skip (sem_skip rfl) ?_
  refine dl_r (sem_pick rfl rfl rfl rfl) ?_
  refine dl_r (sem_move rfl rfl) ?_
  refine dl_skip (sem_skip rfl) ?_
  refine dl_skip (sem_skip rfl) ?_
  refine dl_skip (sem_skip rfl) ?_
  refine dl_r (sem_pick rfl rfl rfl rfl) ?_
  refine dl_r (sem_move rfl rfl) ?_
  refine dl_skip (sem_skip rfl) ?_
  refine dl_skip (sem_skip rfl) ?_
  refine dl_skip (sem_skip rfl) ?_
  refine dl_r (sem_pick rfl rfl rfl rfl) ?_
  refine dl_end ?_
  refine dw_true rfl ?_
  refine dw_seq ?_
  -- region 2
  refine dw_region (by kernel_rfl) ?_
  refine dl_r (sem_assign rfl rfl) ?_
  refine dl_r (sem_assign rfl rfl) ?_
  refine dl_end ?_
  refine dw_ret ?_
  -- path 
  exact ⟨.inr rfl, (resL_tmp rfl (resL_tmp rfl resL_nil))⟩
theorem xSum_1 {d p q s : Rat} (hd : Rz 2 d) (hp : Rz 2 p) (hq : Rz 2 q) (hs : Rz 2 s) (zd : decide (cmpR d 0 < 0) = false) (zp : decide (cmpR p 0 < 0) = true) : Ok Tryz.prog 18 [dR d, dR p, dR q, dR s] [.c (.i .i64 0), .c (.i .i64 7)] := by
  have kd : Rz 300 d := hd.mono (by decide)
  have kp : Rz 300 p := hp.mono (by decide)
  have kq : Rz 300 q := hq.mono (by decide)
  have ks : Rz 300 s := hs.mono (by decide)
  have hm : Rz 3 ((-2 : Int) : Rat) := Rz.int (Sz.small (by decide) (by decide) (by decide)) (by decide)
  have km : Rz 300 ((-2 : Int) : Rat) := hm.mono (by decide)
  have A1 : Rz 16 (d - p - q - s * s) := (((hd.sub hp).sub hq).sub (hs.mul hs)).mono (by decide)
  have B1 : Rz 6 (((-2 : Int) : Rat) * s) := (hm.mul hs).mono (by decide)
  have D1 : Rz 6 ((-2 : Int) : Rat) := hm.mono (by decide)
  have M1 : Rz 6 p := hp.mono (by decide)
  have N1 : Rz 6 q := hq.mono (by decide)
  refine Ok.of (by kernel_rfl) Tryz.func18 rfl rfl ?_
  rw [show Tryz.f18.ntmps = 48 from rfl, show Tryz.f18.results.toList = [.tmp 8, .tmp 9] from rfl]
  refine dw_seq ?_
  -- region 0
  refine dw_region (by kernel_rfl) ?_
  refine dl_new (sem_box_a rfl rfl) rfl ?_
  refine dl_new (sem_box_a rfl rfl) rfl ?_
  refine dl_new (sem_box_a rfl rfl) rfl ?_
  refine dl_new (sem_box_a rfl rfl) rfl ?_
  refine dl_r (sem_assign rfl rfl) ?_
  refine dl_r (sem_assign rfl rfl) ?_
  refine dl_end ?_
  refine dw_seq ?_
  refine dw_seq ?_
  -- region 1
  refine dw_region (by kernel_rfl) ?_
  refine dl_r (sem_load (us := cR d) ty26 rfl rfl rfl rfl rfl) ?_
  refine dl_r (sem_load (us := cR p) ty26 rfl rfl rfl rfl rfl) ?_
  refine dl_r (sem_load (us := cR q) ty26 rfl rfl rfl rfl rfl) ?_
  refine dl_r (sem_load (us := cR s) ty26 rfl rfl rfl rfl rfl) ?_
  refine dl_r (sem_slit_D (n := 4) (us := cR d ++ cR p ++ cR q ++ cR s) el55 rfl rfl rfl (by decide) (by decide) rfl) ?_
  refine dl_r (sem_len sl55 rfl rfl) ?_
  refine dl_r (sem_move rfl rfl) ?_
  refine dl_end ?_
  refine dw_block ?_
  refine dw_loop (ι := Nat) (fun i => match i with | 0 => ⟨48, [(4, .p 4 0), (5, .p 5 0), (6, .p 6 0), (7, .p 7 0), (8, .v (.c (.i .i64 0))), (9, .v (.c (.i .i64 0))), (18, .v (.c (.s 4 (cR d ++ cR p ++ cR q ++ cR s)))), (19, .v (.c (.i .i64 4))), (20, .v (.c (.i .i64 0)))], [(4, 26, cR d), (5, 26, cR p), (6, 26, cR q), (7, 26, cR s)]⟩ | _ + 1 => ⟨48, [(4, .p 4 0), (5, .p 5 0), (6, .p 6 0), (7, .p 7 0), (8, .v (.c (.i .i64 0))), (9, .v (.c (.i .i64 0))), (18, .v (.c (.s 4 (cR d ++ cR p ++ cR q ++ cR s)))), (19, .v (.c (.i .i64 4))), (20, .v (.c (.i .i64 1)))], [(4, 26, cR d), (5, 26, cR p), (6, 26, cR q), (7, 26, cR s)]⟩) (fun i => 1 - i) 0 (sub_of ⟨rfl, rfl, rfl, rfl, rfl, rfl, rfl, rfl, rfl, trivial⟩ ⟨rfl, rfl, rfl, rfl, trivial⟩ rfl) ?_
  intro i
  match i with
  | 0 =>
    show Dw _ _ ⟨48, [(4, .p 4 0), (5, .p 5 0), (6, .p 6 0), (7, .p 7 0), (8, .v (.c (.i .i64 0))), (9, .v (.c (.i .i64 0))), (18, .v (.c (.s 4 (cR d ++ cR p ++ cR q ++ cR s)))), (19, .v (.c (.i .i64 4))), (20, .v (.c (.i .i64 0)))], [(4, 26, cR d), (5, 26, cR p), (6, 26, cR q), (7, 26, cR s)]⟩ _
    refine dw_seq ?_
    -- region 2
    refine dw_region (by kernel_rfl) ?_
    refine dl_r (sem_cmp rfl rfl rfl rfl) ?_
    refine dl_end ?_
    refine dw_seq ?_
    refine dw_true rfl ?_
    refine dw_skip ?_
    refine dw_seq ?_
    refine dw_block ?_
    refine dw_seq ?_
    -- region 3
    refine dw_region (by kernel_rfl) ?_
    refine dl_r (sem_index sl55 rfl rfl (by decide) rfl rfl rfl) ?_
    refine dl_r (sem_loadq (us := cR d) ty26 rfl rfl rfl rfl) ?_
    refine dl_new (sem_alloc zc26 rfl) rfl ?_
    refine dl_st (sem_store_a ty26 rfl rfl rfl rfl rfl rfl) ?_
    refine dl_end ?_
    refine dw_seq ?_
    -- region 4
    refine dw_region (by kernel_rfl) ?_
    refine dl_r (sem_load (us := cR d) ty26 rfl rfl rfl rfl rfl) ?_
    refine dl_r (sem_call rfl rfl (pSign_ok) rfl) ?_
    refine dl_r (sem_castb (sem_cmp rfl rfl rfl rfl) zd) ?_
    refine dl_end ?_
    refine dw_false rfl ?_
    refine dw_skip ?_
    -- region 6
    refine dw_region (by kernel_rfl) ?_
    refine dl_r (sem_ari (r := 1) rfl rfl rfl rfl) ?_
    refine dl_r (sem_move rfl rfl) ?_
    refine dl_end ?_
    exact ⟨1, sub_of ⟨rfl, rfl, rfl, rfl, rfl, rfl, rfl, rfl, rfl, trivial⟩ ⟨rfl, rfl, rfl, rfl, trivial⟩ rfl, by show 1 - 1 < 1 - 0; decide⟩
  | z + 1 =>
    show Dw _ _ ⟨48, [(4, .p 4 0), (5, .p 5 0), (6, .p 6 0), (7, .p 7 0), (8, .v (.c (.i .i64 0))), (9, .v (.c (.i .i64 0))), (18, .v (.c (.s 4 (cR d ++ cR p ++ cR q ++ cR s)))), (19, .v (.c (.i .i64 4))), (20, .v (.c (.i .i64 1)))], [(4, 26, cR d), (5, 26, cR p), (6, 26, cR q), (7, 26, cR s)]⟩ _
    refine dw_seq ?_
    -- region 2
    refine dw_region (by kernel_rfl) ?_
    refine dl_r (sem_cmp rfl rfl rfl rfl) ?_
    refine dl_end ?_
    refine dw_seq ?_
    refine dw_true rfl ?_
    refine dw_skip ?_
    refine dw_seq ?_
    refine dw_block ?_
    refine dw_seq ?_
    -- region 3
    refine dw_region (by kernel_rfl) ?_
    refine dl_r (sem_index sl55 rfl rfl (by decide) rfl rfl rfl) ?_
    refine dl_r (sem_loadq (us := cR p) ty26 rfl rfl rfl rfl) ?_
    refine dl_new (sem_alloc zc26 rfl) rfl ?_
    refine dl_st (sem_store_a ty26 rfl rfl rfl rfl rfl rfl) ?_
    refine dl_end ?_
    refine dw_seq ?_
    -- region 4
    refine dw_region (by kernel_rfl) ?_
    refine dl_r (sem_load (us := cR p) ty26 rfl rfl rfl rfl rfl) ?_
    refine dl_r (sem_call rfl rfl (pSign_ok) rfl) ?_
    refine dl_r (sem_castb (sem_cmp rfl rfl rfl rfl) zp) ?_
    refine dl_end ?_
    refine dw_true rfl ?_
    refine dw_seq ?_
    -- region 5
    refine dw_region (by kernel_rfl) ?_
    refine dl_r (sem_assign rfl rfl) ?_
    refine dl_r (sem_assign rfl rfl) ?_
    refine dl_end ?_
    refine dw_ret ?_
    -- path L1
    exact ⟨.inr rfl, (resL_tmp rfl (resL_tmp rfl resL_nil))⟩
theorem ySum_1 {d p q s : Rat} (hd : Rz 2 d) (hp : Rz 2 p) (hq : Rz 2 q) (hs : Rz 2 s) (zd : decide (cmpR d 0 < 0) = false) (zp : decide (cmpR p 0 < 0) = true) : Ok Tryz.prog 19 [dR d, dR p, dR q, dR s] [.c (.i .i64 0), .c (.i .i64 7)] := by
  have kd : Rz 300 d := hd.mono (by decide)
  have kp : Rz 300 p := hp.mono (by decide)
  have kq : Rz 300 q := hq.mono (by decide)
  have ks : Rz 300 s := hs.mono (by decide)
  have hm : Rz 3 ((-2 : Int) : Rat) := Rz.int (Sz.small (by decide) (by decide) (by decide)) (by decide)
  have km : Rz 300 ((-2 : Int) : Rat) := hm.mono (by decide)
  have A1 : Rz 16 (d - p - q - s * s) := (((hd.sub hp).sub hq).sub (hs.mul hs)).mono (by decide)
  have B1 : Rz 6 (((-2 : Int) : Rat) * s) := (hm.mul hs).mono (by decide)
  have D1 : Rz 6 ((-2 : Int) : Rat) := hm.mono (by decide)
  have M1 : Rz 6 p := hp.mono (by decide)
  have N1 : Rz 6 q := hq.mono (by decide)
  refine Ok.of (by kernel_rfl) Tryz.func19 rfl rfl ?_
  rw [show Tryz.f19.ntmps = 50 from rfl, show Tryz.f19.results.toList = [.tmp 8, .tmp 9] from rfl]
  refine dw_seq ?_
  -- region 0
  refine dw_region (by kernel_rfl) ?_
  refine dl_new (sem_box_a rfl rfl) rfl ?_
  refine dl_new (sem_box_a rfl rfl) rfl ?_
  refine dl_new (sem_box_a rfl rfl) rfl ?_
  refine dl_new (sem_box_a rfl rfl) rfl ?_
  refine dl_r (sem_assign rfl rfl) ?_
  refine dl_r (sem_assign rfl rfl) ?_
  refine dl_end ?_
  refine dw_seq ?_
  refine dw_seq ?_
  -- region 1
  refine dw_region (by kernel_rfl) ?_
  refine dl_r (sem_load (us := cR d) ty26 rfl rfl rfl rfl rfl) ?_
  refine dl_r (sem_call rfl rfl (sSign_ok) rfl) ?_
  refine dl_r (sem_castb (sem_cmp rfl rfl rfl rfl) zd) ?_
  refine dl_r (sem_move rfl rfl) ?_
  refine dl_r (sem_load (us := cR p) ty26 rfl rfl rfl rfl rfl) ?_
  refine dl_r (sem_call rfl rfl (sSign_ok) rfl) ?_
  refine dl_r (sem_castb (sem_cmp rfl rfl rfl rfl) zp) ?_
  refine dl_r (sem_pick rfl rfl rfl rfl) ?_
  refine dl_r (sem_move rfl rfl) ?_
  refine dl_skip (sem_skip rfl) ?_
  refine dl_skip (sem_skip rfl) ?_
  refine dl_skip (sem_skip rfl) ?_
  refine dl_r (sem_pick rfl rfl rfl rfl) ?_
  refine dl_r (sem_move rfl rfl) ?_
  refine dl_skip (sem_skip rfl) ?_
  refine dl_skip (sem_skip rfl) ?_
  refine dl_skip (sem_skip rfl) ?_
  refine dl_r (sem_pick rfl rfl rfl rfl) ?_
  refine dl_end ?_
  refine dw_true rfl ?_
  refine dw_seq ?_
  -- region 2
  refine dw_region (by kernel_rfl) ?_
  refine dl_r (sem_assign rfl rfl) ?_
  refine dl_r (sem_assign rfl rfl) ?_
  refine dl_end ?_
  refine dw_ret ?_
  -- path 
  exact ⟨.inr rfl, (resL_tmp rfl (resL_tmp rfl resL_nil))⟩
theorem xSum_2 {d p q s : Rat} (hd : Rz 2 d) (hp : Rz 2 p) (hq : Rz 2 q) (hs : Rz 2 s) (zd : decide (cmpR d 0 < 0) = false) (zp : decide (cmpR p 0 < 0) = false) (zq : decide (cmpR q 0 < 0) = true) : Ok Tryz.prog 18 [dR d, dR p, dR q, dR s] [.c (.i .i64 0), .c (.i .i64 7)] := by
  have kd : Rz 300 d := hd.mono (by decide)
  have kp : Rz 300 p := hp.mono (by decide)
  have kq : Rz 300 q := hq.mono (by decide)
  have ks : Rz 300 s := hs.mono (by decide)
  have hm : Rz 3 ((-2 : Int) : Rat) := Rz.int (Sz.small (by decide) (by decide) (by decide)) (by decide)
  have km : Rz 300 ((-2 : Int) : Rat) := hm.mono (by decide)
  have A1 : Rz 16 (d - p - q - s * s) := (((hd.sub hp).sub hq).sub (hs.mul hs)).mono (by decide)
  have B1 : Rz 6 (((-2 : Int) : Rat) * s) := (hm.mul hs).mono (by decide)
  have D1 : Rz 6 ((-2 : Int) : Rat) := hm.mono (by decide)
  have M1 : Rz 6 p := hp.mono (by decide)
  have N1 : Rz 6 q := hq.mono (by decide)
  refine Ok.of (by kernel_rfl) Tryz.func18 rfl rfl ?_
  rw [show Tryz.f18.ntmps = 48 from rfl, show Tryz.f18.results.toList = [.tmp 8, .tmp 9] from rfl]
  refine dw_seq ?_
  -- region 0
  refine dw_region (by kernel_rfl) ?_
  refine dl_new (sem_box_a rfl rfl) rfl ?_
  refine dl_new (sem_box_a rfl rfl) rfl ?_
  refine dl_new (sem_box_a rfl rfl) rfl ?_
  refine dl_new (sem_box_a rfl rfl) rfl ?_
  refine dl_r (sem_assign rfl rfl) ?_
  refine dl_r (sem_assign rfl rfl) ?_
  refine dl_end ?_
  refine dw_seq ?_
  refine dw_seq ?_
  -- region 1
  refine dw_region (by kernel_rfl) ?_
  refine dl_r (sem_load (us := cR d) ty26 rfl rfl rfl rfl rfl) ?_
  refine dl_r (sem_load (us := cR p) ty26 rfl rfl rfl rfl rfl) ?_
  refine dl_r (sem_load (us := cR q) ty26 rfl rfl rfl rfl rfl) ?_
  refine dl_r (sem_load (us := cR s) ty26 rfl rfl rfl rfl rfl) ?_
  refine dl_r (sem_slit_D (n := 4) (us := cR d ++ cR p ++ cR q ++ cR s) el55 rfl rfl rfl (by decide) (by decide) rfl) ?_
  refine dl_r (sem_len sl55 rfl rfl) ?_
  refine dl_r (sem_move rfl rfl) ?_
  refine dl_end ?_
  refine dw_block ?_
  refine dw_loop (ι := Nat) (fun i => match i with | 0 => ⟨48, [(4, .p 4 0), (5, .p 5 0), (6, .p 6 0), (7, .p 7 0), (8, .v (.c (.i .i64 0))), (9, .v (.c (.i .i64 0))), (18, .v (.c (.s 4 (cR d ++ cR p ++ cR q ++ cR s)))), (19, .v (.c (.i .i64 4))), (20, .v (.c (.i .i64 0)))], [(4, 26, cR d), (5, 26, cR p), (6, 26, cR q), (7, 26, cR s)]⟩ | 1 => ⟨48, [(4, .p 4 0), (5, .p 5 0), (6, .p 6 0), (7, .p 7 0), (8, .v (.c (.i .i64 0))), (9, .v (.c (.i .i64 0))), (18, .v (.c (.s 4 (cR d ++ cR p ++ cR q ++ cR s)))), (19, .v (.c (.i .i64 4))), (20, .v (.c (.i .i64 1)))], [(4, 26, cR d), (5, 26, cR p), (6, 26, cR q), (7, 26, cR s)]⟩ | _ + 2 => ⟨48, [(4, .p 4 0), (5, .p 5 0), (6, .p 6 0), (7, .p 7 0), (8, .v (.c (.i .i64 0))), (9, .v (.c (.i .i64 0))), (18, .v (.c (.s 4 (cR d ++ cR p ++ cR q ++ cR s)))), (19, .v (.c (.i .i64 4))), (20, .v (.c (.i .i64 2)))], [(4, 26, cR d), (5, 26, cR p), (6, 26, cR q), (7, 26, cR s)]⟩) (fun i => 2 - i) 0 (sub_of ⟨rfl, rfl, rfl, rfl, rfl, rfl, rfl, rfl, rfl, trivial⟩ ⟨rfl, rfl, rfl, rfl, trivial⟩ rfl) ?_
  intro i
  match i with
  | 0 =>
    show Dw _ _ ⟨48, [(4, .p 4 0), (5, .p 5 0), (6, .p 6 0), (7, .p 7 0), (8, .v (.c (.i .i64 0))), (9, .v (.c (.i .i64 0))), (18, .v (.c (.s 4 (cR d ++ cR p ++ cR q ++ cR s)))), (19, .v (.c (.i .i64 4))), (20, .v (.c (.i .i64 0)))], [(4, 26, cR d), (5, 26, cR p), (6, 26, cR q), (7, 26, cR s)]⟩ _
    refine dw_seq ?_
    -- region 2
    refine dw_region (by kernel_rfl) ?_
    refine dl_r (sem_cmp rfl rfl rfl rfl) ?_
    refine dl_end ?_
    refine dw_seq ?_
    refine dw_true rfl ?_
    refine dw_skip ?_
    refine dw_seq ?_
    refine dw_block ?_
    refine dw_seq ?_
    -- region 3
    refine dw_region (by kernel_rfl) ?_
    refine dl_r (sem_index sl55 rfl rfl (by decide) rfl rfl rfl) ?_
    refine dl_r (sem_loadq (us := cR d) ty26 rfl rfl rfl rfl) ?_
    refine dl_new (sem_alloc zc26 rfl) rfl ?_
    refine dl_st (sem_store_a ty26 rfl rfl rfl rfl rfl rfl) ?_
    refine dl_end ?_
    refine dw_seq ?_
    -- region 4
    refine dw_region (by kernel_rfl) ?_
    refine dl_r (sem_load (us := cR d) ty26 rfl rfl rfl rfl rfl) ?_
    refine dl_r (sem_call rfl rfl (pSign_ok) rfl) ?_
    refine dl_r (sem_castb (sem_cmp rfl rfl rfl rfl) zd) ?_
    refine dl_end ?_
    refine dw_false rfl ?_
    refine dw_skip ?_
    -- region 6
    refine dw_region (by kernel_rfl) ?_
    refine dl_r (sem_ari (r := 1) rfl rfl rfl rfl) ?_
    refine dl_r (sem_move rfl rfl) ?_
    refine dl_end ?_
    exact ⟨1, sub_of ⟨rfl, rfl, rfl, rfl, rfl, rfl, rfl, rfl, rfl, trivial⟩ ⟨rfl, rfl, rfl, rfl, trivial⟩ rfl, by show 2 - 1 < 2 - 0; decide⟩
  | 1 =>
    show Dw _ _ ⟨48, [(4, .p 4 0), (5, .p 5 0), (6, .p 6 0), (7, .p 7 0), (8, .v (.c (.i .i64 0))), (9, .v (.c (.i .i64 0))), (18, .v (.c (.s 4 (cR d ++ cR p ++ cR q ++ cR s)))), (19, .v (.c (.i .i64 4))), (20, .v (.c (.i .i64 1)))], [(4, 26, cR d), (5, 26, cR p), (6, 26, cR q), (7, 26, cR s)]⟩ _
    refine dw_seq ?_
    -- region 2
    refine dw_region (by kernel_rfl) ?_
    refine dl_r (sem_cmp rfl rfl rfl rfl) ?_
    refine dl_end ?_
    refine dw_seq ?_
    refine dw_true rfl ?_
    refine dw_skip ?_
    refine dw_seq ?_
    refine dw_block ?_
    refine dw_seq ?_
    -- region 3
    refine dw_region (by kernel_rfl) ?_
    refine dl_r (sem_index sl55 rfl rfl (by decide) rfl rfl rfl) ?_
    refine dl_r (sem_loadq (us := cR p) ty26 rfl rfl rfl rfl) ?_
    refine dl_new (sem_alloc zc26 rfl) rfl ?_
    refine dl_st (sem_store_a ty26 rfl rfl rfl rfl rfl rfl) ?_
    refine dl_end ?_
    refine dw_seq ?_
    -- region 4
    refine dw_region (by kernel_rfl) ?_
    refine dl_r (sem_load (us := cR p) ty26 rfl rfl rfl rfl rfl) ?_
    refine dl_r (sem_call rfl rfl (pSign_ok) rfl) ?_
    refine dl_r (sem_castb (sem_cmp rfl rfl rfl rfl) zp) ?_
    refine dl_end ?_
    refine dw_false rfl ?_
    refine dw_skip ?_
    -- region 6
    refine dw_region (by kernel_rfl) ?_
    refine dl_r (sem_ari (r := 2) rfl rfl rfl rfl) ?_
    refine dl_r (sem_move rfl rfl) ?_
    refine dl_end ?_
    exact ⟨2, sub_of ⟨rfl, rfl, rfl, rfl, rfl, rfl, rfl, rfl, rfl, trivial⟩ ⟨rfl, rfl, rfl, rfl, trivial⟩ rfl, by show 2 - 2 < 2 - 1; decide⟩
  | z + 2 =>
    show Dw _ _ ⟨48, [(4, .p 4 0), (5, .p 5 0), (6, .p 6 0), (7, .p 7 0), (8, .v (.c (.i .i64 0))), (9, .v (.c (.i .i64 0))), (18, .v (.c (.s 4 (cR d ++ cR p ++ cR q ++ cR s)))), (19, .v (.c (.i .i64 4))), (20, .v (.c (.i .i64 2)))], [(4, 26, cR d), (5, 26, cR p), (6, 26, cR q), (7, 26, cR s)]⟩ _
    refine dw_seq ?_
    -- region 2
    refine dw_region (by kernel_rfl) ?_
    refine dl_r (sem_cmp rfl rfl rfl rfl) ?_
    refine dl_end ?_
    refine dw_seq ?_
    refine dw_true rfl ?_
    refine dw_skip ?_
    refine dw_seq ?_
    refine dw_block ?_
    refine dw_seq ?_
    -- region 3
    refine dw_region (by kernel_rfl) ?_
    refine dl_r (sem_index sl55 rfl rfl (by decide) rfl rfl rfl) ?_
    refine dl_r (sem_loadq (us := cR q) ty26 rfl rfl rfl rfl) ?_
    refine dl_new (sem_alloc zc26 rfl) rfl ?_
    refine dl_st (sem_store_a ty26 rfl rfl rfl rfl rfl rfl) ?_
    refine dl_end ?_
    refine dw_seq ?_
    -- region 4
    refine dw_region (by kernel_rfl) ?_
    refine dl_r (sem_load (us := cR q) ty26 rfl rfl rfl rfl rfl) ?_
    refine dl_r (sem_call rfl rfl (pSign_ok) rfl) ?_
    refine dl_r (sem_castb (sem_cmp rfl rfl rfl rfl) zq) ?_
    refine dl_end ?_
    refine dw_true rfl ?_
    refine dw_seq ?_
    -- region 5
    refine dw_region (by kernel_rfl) ?_
    refine dl_r (sem_assign rfl rfl) ?_
    refine dl_r (sem_assign rfl rfl) ?_
    refine dl_end ?_
    refine dw_ret ?_
    -- path L2
    exact ⟨.inr rfl, (resL_tmp rfl (resL_tmp rfl resL_nil))⟩
theorem ySum_2 {d p q s : Rat} (hd : Rz 2 d) (hp : Rz 2 p) (hq : Rz 2 q) (hs : Rz 2 s) (zd : decide (cmpR d 0 < 0) = false) (zp : decide (cmpR p 0 < 0) = false) (zq : decide (cmpR q 0 < 0) = true) : Ok Tryz.prog 19 [dR d, dR p, dR q, dR s] [.c (.i .i64 0), .c (.i .i64 7)] := by
  have kd : Rz 300 d := hd.mono (by decide)
  have kp : Rz 300 p := hp.mono (by decide)
  have kq : Rz 300 q := hq.mono (by decide)
  have ks : Rz 300 s := hs.mono (by decide)
  have hm : Rz 3 ((-2 : Int) : Rat) := Rz.int (Sz.small (by decide) (by decide) (by decide)) (by decide)
  have km : Rz 300 ((-2 : Int) : Rat) := hm.mono (by decide)
  have A1 : Rz 16 (d - p - q - s * s) := (((hd.sub hp).sub hq).sub (hs.mul hs)).mono (by decide)
  have B1 : Rz 6 (((-2 : Int) : Rat) * s) := (hm.mul hs).mono (by decide)
  have D1 : Rz 6 ((-2 : Int) : Rat) := hm.mono (by decide)
  have M1 : Rz 6 p := hp.mono (by decide)
  have N1 : Rz 6 q := hq.mono (by decide)
  refine Ok.of (by kernel_rfl) Tryz.func19 rfl rfl ?_
  rw [show Tryz.f19.ntmps = 50 from rfl, show Tryz.f19.results.toList = [.tmp 8, .tmp 9] from rfl]
  refine dw_seq ?_
  -- region 0
  refine dw_region (by kernel_rfl) ?_
  refine dl_new (sem_box_a rfl rfl) rfl ?_
  refine dl_new (sem_box_a rfl rfl) rfl ?_
  refine dl_new (sem_box_a rfl rfl) rfl ?_
  refine dl_new (sem_box_a rfl rfl) rfl ?_
  refine dl_r (sem_assign rfl rfl) ?_
  refine dl_r (sem_assign rfl rfl) ?_
  refine dl_end ?_
  refine dw_seq ?_
  refine dw_seq ?_
  -- region 1
  refine dw_region (by kernel_rfl) ?_
  refine dl_r (sem_load (us := cR d) ty26 rfl rfl rfl rfl rfl) ?_
  refine dl_r (sem_call rfl rfl (sSign_ok) rfl) ?_
  refine dl_r (sem_castb (sem_cmp rfl rfl rfl rfl) zd) ?_
  refine dl_r (sem_move rfl rfl) ?_
  refine dl_r (sem_load (us := cR p) ty26 rfl rfl rfl rfl rfl) ?_
  refine dl_r (sem_call rfl rfl (sSign_ok) rfl) ?_
  refine dl_r (sem_castb (sem_cmp rfl rfl rfl rfl) zp) ?_
  refine dl_r (sem_pick rfl rfl rfl rfl) ?_
  refine dl_r (sem_move rfl rfl) ?_
  refine dl_r (sem_load (us := cR q) ty26 rfl rfl rfl rfl rfl) ?_
  refine dl_r (sem_call rfl rfl (sSign_ok) rfl) ?_
  refine dl_r (sem_castb (sem_cmp rfl rfl rfl rfl) zq) ?_
  refine dl_r (sem_pick rfl rfl rfl rfl) ?_
  refine dl_r (sem_move rfl rfl) ?_
  refine dl_skip (sem_skip rfl) ?_
  refine dl_skip (sem_skip rfl) ?_
  refine dl_skip (sem_skip rfl) ?_
  refine dl_r (sem_pick rfl rfl rfl rfl) ?_
  refine dl_end ?_
  refine dw_true rfl ?_
  refine dw_seq ?_
  -- region 2
  refine dw_region (by kernel_rfl) ?_
  refine dl_r (sem_assign rfl rfl) ?_
  refine dl_r (sem_assign rfl rfl) ?_
  refine dl_end ?_
  refine dw_ret ?_
  -- path 
  exact ⟨.inr rfl, (resL_tmp rfl (resL_tmp rfl resL_nil))⟩
theorem xSum_3 {d p q s : Rat} (hd : Rz 2 d) (hp : Rz 2 p) (hq : Rz 2 q) (hs : Rz 2 s) (zd : decide (cmpR d 0 < 0) = false) (zp : decide (cmpR p 0 < 0) = false) (zq : decide (cmpR q 0 < 0) = false) (zs : decide (cmpR s 0 < 0) = true) : Ok Tryz.prog 18 [dR d, dR p, dR q, dR s] [.c (.i .i64 0), .c (.i .i64 7)] := by
  have kd : Rz 300 d := hd.mono (by decide)
  have kp : Rz 300 p := hp.mono (by decide)
  have kq : Rz 300 q := hq.mono (by decide)
  have ks : Rz 300 s := hs.mono (by decide)
  have hm : Rz 3 ((-2 : Int) : Rat) := Rz.int (Sz.small (by decide) (by decide) (by decide)) (by decide)
  have km : Rz 300 ((-2 : Int) : Rat) := hm.mono (by decide)
  have A1 : Rz 16 (d - p - q - s * s) := (((hd.sub hp).sub hq).sub (hs.mul hs)).mono (by decide)
  have B1 : Rz 6 (((-2 : Int) : Rat) * s) := (hm.mul hs).mono (by decide)
  have D1 : Rz 6 ((-2 : Int) : Rat) := hm.mono (by decide)
  have M1 : Rz 6 p := hp.mono (by decide)
  have N1 : Rz 6 q := hq.mono (by decide)
  refine Ok.of (by kernel_rfl) Tryz.func18 rfl rfl ?_
  rw [show Tryz.f18.ntmps = 48 from rfl, show Tryz.f18.results.toList = [.tmp 8, .tmp 9] from rfl]
  refine dw_seq ?_
  -- region 0
  refine dw_region (by kernel_rfl) ?_
  refine dl_new (sem_box_a rfl rfl) rfl ?_
  refine dl_new (sem_box_a rfl rfl) rfl ?_
  refine dl_new (sem_box_a rfl rfl) rfl ?_
  refine dl_new (sem_box_a rfl rfl) rfl ?_
  refine dl_r (sem_assign rfl rfl) ?_
  refine dl_r (sem_assign rfl rfl) ?_
  refine dl_end ?_
  refine dw_seq ?_
  refine dw_seq ?_
  -- region 1
  refine dw_region (by kernel_rfl) ?_
  refine dl_r (sem_load (us := cR d) ty26 rfl rfl rfl rfl rfl) ?_
  refine dl_r (sem_load (us := cR p) ty26 rfl rfl rfl rfl rfl) ?_
  refine dl_r (sem_load (us := cR q) ty26 rfl rfl rfl rfl rfl) ?_
  refine dl_r (sem_load (us := cR s) ty26 rfl rfl rfl rfl rfl) ?_
  refine dl_r (sem_slit_D (n := 4) (us := cR d ++ cR p ++ cR q ++ cR s) el55 rfl rfl rfl (by decide) (by decide) rfl) ?_
  refine dl_r (sem_len sl55 rfl rfl) ?_
  refine dl_r (sem_move rfl rfl) ?_
  refine dl_end ?_
  refine dw_block ?_
  refine dw_loop (ι := Nat) (fun i => match i with | 0 => ⟨48, [(4, .p 4 0), (5, .p 5 0), (6, .p 6 0), (7, .p 7 0), (8, .v (.c (.i .i64 0))), (9, .v (.c (.i .i64 0))), (18, .v (.c (.s 4 (cR d ++ cR p ++ cR q ++ cR s)))), (19, .v (.c (.i .i64 4))), (20, .v (.c (.i .i64 0)))], [(4, 26, cR d), (5, 26, cR p), (6, 26, cR q), (7, 26, cR s)]⟩ | 1 => ⟨48, [(4, .p 4 0), (5, .p 5 0), (6, .p 6 0), (7, .p 7 0), (8, .v (.c (.i .i64 0))), (9, .v (.c (.i .i64 0))), (18, .v (.c (.s 4 (cR d ++ cR p ++ cR q ++ cR s)))), (19, .v (.c (.i .i64 4))), (20, .v (.c (.i .i64 1)))], [(4, 26, cR d), (5, 26, cR p), (6, 26, cR q), (7, 26, cR s)]⟩ | 2 => ⟨48, [(4, .p 4 0), (5, .p 5 0), (6, .p 6 0), (7, .p 7 0), (8, .v (.c (.i .i64 0))), (9, .v (.c (.i .i64 0))), (18, .v (.c (.s 4 (cR d ++ cR p ++ cR q ++ cR s)))), (19, .v (.c (.i .i64 4))), (20, .v (.c (.i .i64 2)))], [(4, 26, cR d), (5, 26, cR p), (6, 26, cR q), (7, 26, cR s)]⟩ | _ + 3 => ⟨48, [(4, .p 4 0), (5, .p 5 0), (6, .p 6 0), (7, .p 7 0), (8, .v (.c (.i .i64 0))), (9, .v (.c (.i .i64 0))), (18, .v (.c (.s 4 (cR d ++ cR p ++ cR q ++ cR s)))), (19, .v (.c (.i .i64 4))), (20, .v (.c (.i .i64 3)))], [(4, 26, cR d), (5, 26, cR p), (6, 26, cR q), (7, 26, cR s)]⟩) (fun i => 3 - i) 0 (sub_of ⟨rfl, rfl, rfl, rfl, rfl, rfl, rfl, rfl, rfl, trivial⟩ ⟨rfl, rfl, rfl, rfl, trivial⟩ rfl) ?_
  intro i
  match i with
  | 0 =>
    show Dw _ _ ⟨48, [(4, .p 4 0), (5, .p 5 0), (6, .p 6 0), (7, .p 7 0), (8, .v (.c (.i .i64 0))), (9, .v (.c (.i .i64 0))), (18, .v (.c (.s 4 (cR d ++ cR p ++ cR q ++ cR s)))), (19, .v (.c (.i .i64 4))), (20, .v (.c (.i .i64 0)))], [(4, 26, cR d), (5, 26, cR p), (6, 26, cR q), (7, 26, cR s)]⟩ _
    refine dw_seq ?_
    -- region 2
    refine dw_region (by kernel_rfl) ?_
    refine dl_r (sem_cmp rfl rfl rfl rfl) ?_
    refine dl_end ?_
    refine dw_seq ?_
    refine dw_true rfl ?_
    refine dw_skip ?_
    refine dw_seq ?_
    refine dw_block ?_
    refine dw_seq ?_
    -- region 3
    refine dw_region (by kernel_rfl) ?_
    refine dl_r (sem_index sl55 rfl rfl (by decide) rfl rfl rfl) ?_
    refine dl_r (sem_loadq (us := cR d) ty26 rfl rfl rfl rfl) ?_
    refine dl_new (sem_alloc zc26 rfl) rfl ?_
    refine dl_st (sem_store_a ty26 rfl rfl rfl rfl rfl rfl) ?_
    refine dl_end ?_
    refine dw_seq ?_
    -- region 4
    refine dw_region (by kernel_rfl) ?_
    refine dl_r (sem_load (us := cR d) ty26 rfl rfl rfl rfl rfl) ?_
    refine dl_r (sem_call rfl rfl (pSign_ok) rfl) ?_
    refine dl_r (sem_castb (sem_cmp rfl rfl rfl rfl) zd) ?_
    refine dl_end ?_
    refine dw_false rfl ?_
    refine dw_skip ?_
    -- region 6
    refine dw_region (by kernel_rfl) ?_
    refine dl_r (sem_ari (r := 1) rfl rfl rfl rfl) ?_
    refine dl_r (sem_move rfl rfl) ?_
    refine dl_end ?_
    exact ⟨1, sub_of ⟨rfl, rfl, rfl, rfl, rfl, rfl, rfl, rfl, rfl, trivial⟩ ⟨rfl, rfl, rfl, rfl, trivial⟩ rfl, by show 3 - 1 < 3 - 0; decide⟩
  | 1 =>
    show Dw _ _ ⟨48, [(4, .p 4 0), (5, .p 5 0), (6, .p 6 0), (7, .p 7 0), (8, .v (.c (.i .i64 0))), (9, .v (.c (.i .i64 0))), (18, .v (.c (.s 4 (cR d ++ cR p ++ cR q ++ cR s)))), (19, .v (.c (.i .i64 4))), (20, .v (.c (.i .i64 1)))], [(4, 26, cR d), (5, 26, cR p), (6, 26, cR q), (7, 26, cR s)]⟩ _
    refine dw_seq ?_
    -- region 2
    refine dw_region (by kernel_rfl) ?_
    refine dl_r (sem_cmp rfl rfl rfl rfl) ?_
    refine dl_end ?_
    refine dw_seq ?_
    refine dw_true rfl ?_
    refine dw_skip ?_
    refine dw_seq ?_
    refine dw_block ?_
    refine dw_seq ?_
    -- region 3
    refine dw_region (by kernel_rfl) ?_
    refine dl_r (sem_index sl55 rfl rfl (by decide) rfl rfl rfl) ?_
    refine dl_r (sem_loadq (us := cR p) ty26 rfl rfl rfl rfl) ?_
    refine dl_new (sem_alloc zc26 rfl) rfl ?_
    refine dl_st (sem_store_a ty26 rfl rfl rfl rfl rfl rfl) ?_
    refine dl_end ?_
    refine dw_seq ?_
    -- region 4
    refine dw_region (by kernel_rfl) ?_
    refine dl_r (sem_load (us := cR p) ty26 rfl rfl rfl rfl rfl) ?_
    refine dl_r (sem_call rfl rfl (pSign_ok) rfl) ?_
    refine dl_r (sem_castb (sem_cmp rfl rfl rfl rfl) zp) ?_
    refine dl_end ?_
    refine dw_false rfl ?_
    refine dw_skip ?_
    -- region 6
    refine dw_region (by kernel_rfl) ?_
    refine dl_r (sem_ari (r := 2) rfl rfl rfl rfl) ?_
    refine dl_r (sem_move rfl rfl) ?_
    refine dl_end ?_
    exact ⟨2, sub_of ⟨rfl, rfl, rfl, rfl, rfl, rfl, rfl, rfl, rfl, trivial⟩ ⟨rfl, rfl, rfl, rfl, trivial⟩ rfl, by show 3 - 2 < 3 - 1; decide⟩
  | 2 =>
    show Dw _ _ ⟨48, [(4, .p 4 0), (5, .p 5 0), (6, .p 6 0), (7, .p 7 0), (8, .v (.c (.i .i64 0))), (9, .v (.c (.i .i64 0))), (18, .v (.c (.s 4 (cR d ++ cR p ++ cR q ++ cR s)))), (19, .v (.c (.i .i64 4))), (20, .v (.c (.i .i64 2)))], [(4, 26, cR d), (5, 26, cR p), (6, 26, cR q), (7, 26, cR s)]⟩ _
    refine dw_seq ?_
    -- region 2
    refine dw_region (by kernel_rfl) ?_
    refine dl_r (sem_cmp rfl rfl rfl rfl) ?_
    refine dl_end ?_
    refine dw_seq ?_
    refine dw_true rfl ?_
    refine dw_skip ?_
    refine dw_seq ?_
    refine dw_block ?_
    refine dw_seq ?_
    -- region 3
    refine dw_region (by kernel_rfl) ?_
    refine dl_r (sem_index sl55 rfl rfl (by decide) rfl rfl rfl) ?_
    refine dl_r (sem_loadq (us := cR q) ty26 rfl rfl rfl rfl) ?_
    refine dl_new (sem_alloc zc26 rfl) rfl ?_
    refine dl_st (sem_store_a ty26 rfl rfl rfl rfl rfl rfl) ?_
    refine dl_end ?_
    refine dw_seq ?_
    -- region 4
    refine dw_region (by kernel_rfl) ?_
    refine dl_r (sem_load (us := cR q) ty26 rfl rfl rfl rfl rfl) ?_
    refine dl_r (sem_call rfl rfl (pSign_ok) rfl) ?_
    refine dl_r (sem_castb (sem_cmp rfl rfl rfl rfl) zq) ?_
    refine dl_end ?_
    refine dw_false rfl ?_
    refine dw_skip ?_
    -- region 6
    refine dw_region (by kernel_rfl) ?_
    refine dl_r (sem_ari (r := 3) rfl rfl rfl rfl) ?_
    refine dl_r (sem_move rfl rfl) ?_
    refine dl_end ?_
    exact ⟨3, sub_of ⟨rfl, rfl, rfl, rfl, rfl, rfl, rfl, rfl, rfl, trivial⟩ ⟨rfl, rfl, rfl, rfl, trivial⟩ rfl, by show 3 - 3 < 3 - 2; decide⟩
  | z + 3 =>
    show Dw _ _ ⟨48, [(4, .p 4 0), (5, .p 5 0), (6, .p 6 0), (7, .p 7 0), (8, .v (.c (.i .i64 0))), (9, .v (.c (.i .i64 0))), (18, .v (.c (.s 4 (cR d ++ cR p ++ cR q ++ cR s)))), (19, .v (.c (.i .i64 4))), (20, .v (.c (.i .i64 3)))], [(4, 26, cR d), (5, 26, cR p), (6, 26, cR q), (7, 26, cR s)]⟩ _
    refine dw_seq ?_
    -- region 2
    refine dw_region (by kernel_rfl) ?_
    refine dl_r (sem_cmp rfl rfl rfl rfl) ?_
    refine dl_end ?_
    refine dw_seq ?_
    refine dw_true rfl ?_
    refine dw_skip ?_
    refine dw_seq ?_
    refine dw_block ?_
    refine dw_seq ?_
    -- region 3
    refine dw_region (by kernel_rfl) ?_
    refine dl_r (sem_index sl55 rfl rfl (by decide) rfl rfl rfl) ?_
    refine dl_r (sem_loadq (us := cR s) ty26 rfl rfl rfl rfl) ?_
    refine dl_new (sem_alloc zc26 rfl) rfl ?_
    refine dl_st (sem_store_a ty26 rfl rfl rfl rfl rfl rfl) ?_
    refine dl_end ?_
    refine dw_seq ?_
    -- region 4
    refine dw_region (by kernel_rfl) ?_
    refine dl_r (sem_load (us := cR s) ty26 rfl rfl rfl rfl rfl) ?_
    refine dl_r (sem_call rfl rfl (pSign_ok) rfl) ?_
    refine dl_r (sem_castb (sem_cmp rfl rfl rfl rfl) zs) ?_
    refine dl_end ?_
    refine dw_true rfl ?_
    refine dw_seq ?_
    -- region 5
    refine dw_region (by kernel_rfl) ?_
    refine dl_r (sem_assign rfl rfl) ?_
    refine dl_r (sem_assign rfl rfl) ?_
    refine dl_end ?_
    refine dw_ret ?_
    -- path L3
    exact ⟨.inr rfl, (resL_tmp rfl (resL_tmp rfl resL_nil))⟩
theorem ySum_3 {d p q s : Rat} (hd : Rz 2 d) (hp : Rz 2 p) (hq : Rz 2 q) (hs : Rz 2 s) (zd : decide (cmpR d 0 < 0) = false) (zp : decide (cmpR p 0 < 0) = false) (zq : decide (cmpR q 0 < 0) = false) (zs : decide (cmpR s 0 < 0) = true) : Ok Tryz.prog 19 [dR d, dR p, dR q, dR s] [.c (.i .i64 0), .c (.i .i64 7)] := by
  have kd : Rz 300 d := hd.mono (by decide)
  have kp : Rz 300 p := hp.mono (by decide)
  have kq : Rz 300 q := hq.mono (by decide)
  have ks : Rz 300 s := hs.mono (by decide)
  have hm : Rz 3 ((-2 : Int) : Rat) := Rz.int (Sz.small (by decide) (by decide) (by decide)) (by decide)
  have km : Rz 300 ((-2 : Int) : Rat) := hm.mono (by decide)
  have A1 : Rz 16 (d - p - q - s * s) := (((hd.sub hp).sub hq).sub (hs.mul hs)).mono (by decide)
  have B1 : Rz 6 (((-2 : Int) : Rat) * s) := (hm.mul hs).mono (by decide)
  have D1 : Rz 6 ((-2 : Int) : Rat) := hm.mono (by decide)
  have M1 : Rz 6 p := hp.mono (by decide)
  have N1 : Rz 6 q := hq.mono (by decide)
  refine Ok.of (by kernel_rfl) Tryz.func19 rfl rfl ?_
  rw [show Tryz.f19.ntmps = 50 from rfl, show Tryz.f19.results.toList = [.tmp 8, .tmp 9] from rfl]
  refine dw_seq ?_
  -- region 0
  refine dw_region (by kernel_rfl) ?_
  refine dl_new (sem_box_a rfl rfl) rfl ?_
  refine dl_new (sem_box_a rfl rfl) rfl ?_
  refine dl_new (sem_box_a rfl rfl) rfl ?_
  refine dl_new (sem_box_a rfl rfl) rfl ?_
  refine dl_r (sem_assign rfl rfl) ?_
  refine dl_r (sem_assign rfl rfl) ?_
  refine dl_end ?_
  refine dw_seq ?_
  refine dw_seq ?_
  -- region 1
  refine dw_region (by kernel_rfl) ?_
  refine dl_r (sem_load (us := cR d) ty26 rfl rfl rfl rfl rfl) ?_
  refine dl_r (sem_call rfl rfl (sSign_ok) rfl) ?_
  refine dl_r (sem_castb (sem_cmp rfl rfl rfl rfl) zd) ?_
  refine dl_r (sem_move rfl rfl) ?_
  refine dl_r (sem_load (us := cR p) ty26 rfl rfl rfl rfl rfl) ?_
  refine dl_r (sem_call rfl rfl (sSign_ok) rfl) ?_
  refine dl_r (sem_castb (sem_cmp rfl rfl rfl rfl) zp) ?_
  refine dl_r (sem_pick rfl rfl rfl rfl) ?_
  refine dl_r (sem_move rfl rfl) ?_
  refine dl_r (sem_load (us := cR q) ty26 rfl rfl rfl rfl rfl) ?_
  refine dl_r (sem_call rfl rfl (sSign_ok) rfl) ?_
  refine dl_r (sem_castb (sem_cmp rfl rfl rfl rfl) zq) ?_
  refine dl_r (sem_pick rfl rfl rfl rfl) ?_
  refine dl_r (sem_move rfl rfl) ?_
  refine dl_r (sem_load (us := cR s) ty26 rfl rfl rfl rfl rfl) ?_
  refine dl_r (sem_call rfl rfl (sSign_ok) rfl) ?_
  refine dl_r (sem_castb (sem_cmp rfl rfl rfl rfl) zs) ?_
  refine dl_r (sem_pick rfl rfl rfl rfl) ?_
  refine dl_end ?_
  refine dw_true rfl ?_
  refine dw_seq ?_
  -- region 2
  refine dw_region (by kernel_rfl) ?_
  refine dl_r (sem_assign rfl rfl) ?_
  refine dl_r (sem_assign rfl rfl) ?_
  refine dl_end ?_
  refine dw_ret ?_
  -- path 
  exact ⟨.inr rfl, (resL_tmp rfl (resL_tmp rfl resL_nil))⟩
theorem xSum_4 {d p q s : Rat} (hd : Rz 2 d) (hp : Rz 2 p) (hq : Rz 2 q) (hs : Rz 2 s) (zd : decide (cmpR d 0 < 0) = false) (zp : decide (cmpR p 0 < 0) = false) (zq : decide (cmpR q 0 < 0) = false) (zs : decide (cmpR s 0 < 0) = false) : Ok Tryz.prog 18 [dR d, dR p, dR q, dR s] [.c (.i .i64 (signQ (d - p - q - s * s) (((-2 : Int) : Rat) * s) (((-2 : Int) : Rat) * s) ((-2 : Int) : Rat) p q)), .c (.i .i64 0)] := by
  have kd : Rz 300 d := hd.mono (by decide)
  have kp : Rz 300 p := hp.mono (by decide)
  have kq : Rz 300 q := hq.mono (by decide)
  have ks : Rz 300 s := hs.mono (by decide)
  have hm : Rz 3 ((-2 : Int) : Rat) := Rz.int (Sz.small (by decide) (by decide) (by decide)) (by decide)
  have km : Rz 300 ((-2 : Int) : Rat) := hm.mono (by decide)
  have A1 : Rz 16 (d - p - q - s * s) := (((hd.sub hp).sub hq).sub (hs.mul hs)).mono (by decide)
  have B1 : Rz 6 (((-2 : Int) : Rat) * s) := (hm.mul hs).mono (by decide)
  have D1 : Rz 6 ((-2 : Int) : Rat) := hm.mono (by decide)
  have M1 : Rz 6 p := hp.mono (by decide)
  have N1 : Rz 6 q := hq.mono (by decide)
  refine Ok.of (by kernel_rfl) Tryz.func18 rfl rfl ?_
  rw [show Tryz.f18.ntmps = 48 from rfl, show Tryz.f18.results.toList = [.tmp 8, .tmp 9] from rfl]
  refine dw_seq ?_
  -- region 0
  refine dw_region (by kernel_rfl) ?_
  refine dl_new (sem_box_a rfl rfl) rfl ?_
  refine dl_new (sem_box_a rfl rfl) rfl ?_
  refine dl_new (sem_box_a rfl rfl) rfl ?_
  refine dl_new (sem_box_a rfl rfl) rfl ?_
  refine dl_r (sem_assign rfl rfl) ?_
  refine dl_r (sem_assign rfl rfl) ?_
  refine dl_end ?_
  refine dw_seq ?_
  refine dw_seq ?_
  -- region 1
  refine dw_region (by kernel_rfl) ?_
  refine dl_r (sem_load (us := cR d) ty26 rfl rfl rfl rfl rfl) ?_
  refine dl_r (sem_load (us := cR p) ty26 rfl rfl rfl rfl rfl) ?_
  refine dl_r (sem_load (us := cR q) ty26 rfl rfl rfl rfl rfl) ?_
  refine dl_r (sem_load (us := cR s) ty26 rfl rfl rfl rfl rfl) ?_
  refine dl_r (sem_slit_D (n := 4) (us := cR d ++ cR p ++ cR q ++ cR s) el55 rfl rfl rfl (by decide) (by decide) rfl) ?_
  refine dl_r (sem_len sl55 rfl rfl) ?_
  refine dl_r (sem_move rfl rfl) ?_
  refine dl_end ?_
  refine dw_block ?_
  refine dw_loop (ι := Nat) (fun i => match i with | 0 => ⟨48, [(4, .p 4 0), (5, .p 5 0), (6, .p 6 0), (7, .p 7 0), (8, .v (.c (.i .i64 0))), (9, .v (.c (.i .i64 0))), (18, .v (.c (.s 4 (cR d ++ cR p ++ cR q ++ cR s)))), (19, .v (.c (.i .i64 4))), (20, .v (.c (.i .i64 0)))], [(4, 26, cR d), (5, 26, cR p), (6, 26, cR q), (7, 26, cR s)]⟩ | 1 => ⟨48, [(4, .p 4 0), (5, .p 5 0), (6, .p 6 0), (7, .p 7 0), (8, .v (.c (.i .i64 0))), (9, .v (.c (.i .i64 0))), (18, .v (.c (.s 4 (cR d ++ cR p ++ cR q ++ cR s)))), (19, .v (.c (.i .i64 4))), (20, .v (.c (.i .i64 1)))], [(4, 26, cR d), (5, 26, cR p), (6, 26, cR q), (7, 26, cR s)]⟩ | 2 => ⟨48, [(4, .p 4 0), (5, .p 5 0), (6, .p 6 0), (7, .p 7 0), (8, .v (.c (.i .i64 0))), (9, .v (.c (.i .i64 0))), (18, .v (.c (.s 4 (cR d ++ cR p ++ cR q ++ cR s)))), (19, .v (.c (.i .i64 4))), (20, .v (.c (.i .i64 2)))], [(4, 26, cR d), (5, 26, cR p), (6, 26, cR q), (7, 26, cR s)]⟩ | 3 => ⟨48, [(4, .p 4 0), (5, .p 5 0), (6, .p 6 0), (7, .p 7 0), (8, .v (.c (.i .i64 0))), (9, .v (.c (.i .i64 0))), (18, .v (.c (.s 4 (cR d ++ cR p ++ cR q ++ cR s)))), (19, .v (.c (.i .i64 4))), (20, .v (.c (.i .i64 3)))], [(4, 26, cR d), (5, 26, cR p), (6, 26, cR q), (7, 26, cR s)]⟩ | _ + 4 => ⟨48, [(4, .p 4 0), (5, .p 5 0), (6, .p 6 0), (7, .p 7 0), (8, .v (.c (.i .i64 0))), (9, .v (.c (.i .i64 0))), (18, .v (.c (.s 4 (cR d ++ cR p ++ cR q ++ cR s)))), (19, .v (.c (.i .i64 4))), (20, .v (.c (.i .i64 4)))], [(4, 26, cR d), (5, 26, cR p), (6, 26, cR q), (7, 26, cR s)]⟩) (fun i => 4 - i) 0 (sub_of ⟨rfl, rfl, rfl, rfl, rfl, rfl, rfl, rfl, rfl, trivial⟩ ⟨rfl, rfl, rfl, rfl, trivial⟩ rfl) ?_
  intro i
  match i with
  | 0 =>
    show Dw _ _ ⟨48, [(4, .p 4 0), (5, .p 5 0), (6, .p 6 0), (7, .p 7 0), (8, .v (.c (.i .i64 0))), (9, .v (.c (.i .i64 0))), (18, .v (.c (.s 4 (cR d ++ cR p ++ cR q ++ cR s)))), (19, .v (.c (.i .i64 4))), (20, .v (.c (.i .i64 0)))], [(4, 26, cR d), (5, 26, cR p), (6, 26, cR q), (7, 26, cR s)]⟩ _
    refine dw_seq ?_
    -- region 2
    refine dw_region (by kernel_rfl) ?_
    refine dl_r (sem_cmp rfl rfl rfl rfl) ?_
    refine dl_end ?_
    refine dw_seq ?_
    refine dw_true rfl ?_
    refine dw_skip ?_
    refine dw_seq ?_
    refine dw_block ?_
    refine dw_seq ?_
    -- region 3
    refine dw_region (by kernel_rfl) ?_
    refine dl_r (sem_index sl55 rfl rfl (by decide) rfl rfl rfl) ?_
    refine dl_r (sem_loadq (us := cR d) ty26 rfl rfl rfl rfl) ?_
    refine dl_new (sem_alloc zc26 rfl) rfl ?_
    refine dl_st (sem_store_a ty26 rfl rfl rfl rfl rfl rfl) ?_
    refine dl_end ?_
    refine dw_seq ?_
    -- region 4
    refine dw_region (by kernel_rfl) ?_
    refine dl_r (sem_load (us := cR d) ty26 rfl rfl rfl rfl rfl) ?_
    refine dl_r (sem_call rfl rfl (pSign_ok) rfl) ?_
    refine dl_r (sem_castb (sem_cmp rfl rfl rfl rfl) zd) ?_
    refine dl_end ?_
    refine dw_false rfl ?_
    refine dw_skip ?_
    -- region 6
    refine dw_region (by kernel_rfl) ?_
    refine dl_r (sem_ari (r := 1) rfl rfl rfl rfl) ?_
    refine dl_r (sem_move rfl rfl) ?_
    refine dl_end ?_
    exact ⟨1, sub_of ⟨rfl, rfl, rfl, rfl, rfl, rfl, rfl, rfl, rfl, trivial⟩ ⟨rfl, rfl, rfl, rfl, trivial⟩ rfl, by show 4 - 1 < 4 - 0; decide⟩
  | 1 =>
    show Dw _ _ ⟨48, [(4, .p 4 0), (5, .p 5 0), (6, .p 6 0), (7, .p 7 0), (8, .v (.c (.i .i64 0))), (9, .v (.c (.i .i64 0))), (18, .v (.c (.s 4 (cR d ++ cR p ++ cR q ++ cR s)))), (19, .v (.c (.i .i64 4))), (20, .v (.c (.i .i64 1)))], [(4, 26, cR d), (5, 26, cR p), (6, 26, cR q), (7, 26, cR s)]⟩ _
    refine dw_seq ?_
    -- region 2
    refine dw_region (by kernel_rfl) ?_
    refine dl_r (sem_cmp rfl rfl rfl rfl) ?_
    refine dl_end ?_
    refine dw_seq ?_
    refine dw_true rfl ?_
    refine dw_skip ?_
    refine dw_seq ?_
    refine dw_block ?_
    refine dw_seq ?_
    -- region 3
    refine dw_region (by kernel_rfl) ?_
    refine dl_r (sem_index sl55 rfl rfl (by decide) rfl rfl rfl) ?_
    refine dl_r (sem_loadq (us := cR p) ty26 rfl rfl rfl rfl) ?_
    refine dl_new (sem_alloc zc26 rfl) rfl ?_
    refine dl_st (sem_store_a ty26 rfl rfl rfl rfl rfl rfl) ?_
    refine dl_end ?_
    refine dw_seq ?_
    -- region 4
    refine dw_region (by kernel_rfl) ?_
    refine dl_r (sem_load (us := cR p) ty26 rfl rfl rfl rfl rfl) ?_
    refine dl_r (sem_call rfl rfl (pSign_ok) rfl) ?_
    refine dl_r (sem_castb (sem_cmp rfl rfl rfl rfl) zp) ?_
    refine dl_end ?_
    refine dw_false rfl ?_
    refine dw_skip ?_
    -- region 6
    refine dw_region (by kernel_rfl) ?_
    refine dl_r (sem_ari (r := 2) rfl rfl rfl rfl) ?_
    refine dl_r (sem_move rfl rfl) ?_
    refine dl_end ?_
    exact ⟨2, sub_of ⟨rfl, rfl, rfl, rfl, rfl, rfl, rfl, rfl, rfl, trivial⟩ ⟨rfl, rfl, rfl, rfl, trivial⟩ rfl, by show 4 - 2 < 4 - 1; decide⟩
  | 2 =>
    show Dw _ _ ⟨48, [(4, .p 4 0), (5, .p 5 0), (6, .p 6 0), (7, .p 7 0), (8, .v (.c (.i .i64 0))), (9, .v (.c (.i .i64 0))), (18, .v (.c (.s 4 (cR d ++ cR p ++ cR q ++ cR s)))), (19, .v (.c (.i .i64 4))), (20, .v (.c (.i .i64 2)))], [(4, 26, cR d), (5, 26, cR p), (6, 26, cR q), (7, 26, cR s)]⟩ _
    refine dw_seq ?_
    -- region 2
    refine dw_region (by kernel_rfl) ?_
    refine dl_r (sem_cmp rfl rfl rfl rfl) ?_
    refine dl_end ?_
    refine dw_seq ?_
    refine dw_true rfl ?_
    refine dw_skip ?_
    refine dw_seq ?_
    refine dw_block ?_
    refine dw_seq ?_
    -- region 3
    refine dw_region (by kernel_rfl) ?_
    refine dl_r (sem_index sl55 rfl rfl (by decide) rfl rfl rfl) ?_
    refine dl_r (sem_loadq (us := cR q) ty26 rfl rfl rfl rfl) ?_
    refine dl_new (sem_alloc zc26 rfl) rfl ?_
    refine dl_st (sem_store_a ty26 rfl rfl rfl rfl rfl rfl) ?_
    refine dl_end ?_
    refine dw_seq ?_
    -- region 4
    refine dw_region (by kernel_rfl) ?_
    refine dl_r (sem_load (us := cR q) ty26 rfl rfl rfl rfl rfl) ?_
    refine dl_r (sem_call rfl rfl (pSign_ok) rfl) ?_
    refine dl_r (sem_castb (sem_cmp rfl rfl rfl rfl) zq) ?_
    refine dl_end ?_
    refine dw_false rfl ?_
    refine dw_skip ?_
    -- region 6
    refine dw_region (by kernel_rfl) ?_
    refine dl_r (sem_ari (r := 3) rfl rfl rfl rfl) ?_
    refine dl_r (sem_move rfl rfl) ?_
    refine dl_end ?_
    exact ⟨3, sub_of ⟨rfl, rfl, rfl, rfl, rfl, rfl, rfl, rfl, rfl, trivial⟩ ⟨rfl, rfl, rfl, rfl, trivial⟩ rfl, by show 4 - 3 < 4 - 2; decide⟩
  | 3 =>
    show Dw _ _ ⟨48, [(4, .p 4 0), (5, .p 5 0), (6, .p 6 0), (7, .p 7 0), (8, .v (.c (.i .i64 0))), (9, .v (.c (.i .i64 0))), (18, .v (.c (.s 4 (cR d ++ cR p ++ cR q ++ cR s)))), (19, .v (.c (.i .i64 4))), (20, .v (.c (.i .i64 3)))], [(4, 26, cR d), (5, 26, cR p), (6, 26, cR q), (7, 26, cR s)]⟩ _
    refine dw_seq ?_
    -- region 2
    refine dw_region (by kernel_rfl) ?_
    refine dl_r (sem_cmp rfl rfl rfl rfl) ?_
    refine dl_end ?_
    refine dw_seq ?_
    refine dw_true rfl ?_
    refine dw_skip ?_
    refine dw_seq ?_
    refine dw_block ?_
    refine dw_seq ?_
    -- region 3
    refine dw_region (by kernel_rfl) ?_
    refine dl_r (sem_index sl55 rfl rfl (by decide) rfl rfl rfl) ?_
    refine dl_r (sem_loadq (us := cR s) ty26 rfl rfl rfl rfl) ?_
    refine dl_new (sem_alloc zc26 rfl) rfl ?_
    refine dl_st (sem_store_a ty26 rfl rfl rfl rfl rfl rfl) ?_
    refine dl_end ?_
    refine dw_seq ?_
    -- region 4
    refine dw_region (by kernel_rfl) ?_
    refine dl_r (sem_load (us := cR s) ty26 rfl rfl rfl rfl rfl) ?_
    refine dl_r (sem_call rfl rfl (pSign_ok) rfl) ?_
    refine dl_r (sem_castb (sem_cmp rfl rfl rfl rfl) zs) ?_
    refine dl_end ?_
    refine dw_false rfl ?_
    refine dw_skip ?_
    -- region 6
    refine dw_region (by kernel_rfl) ?_
    refine dl_r (sem_ari (r := 4) rfl rfl rfl rfl) ?_
    refine dl_r (sem_move rfl rfl) ?_
    refine dl_end ?_
    exact ⟨4, sub_of ⟨rfl, rfl, rfl, rfl, rfl, rfl, rfl, rfl, rfl, trivial⟩ ⟨rfl, rfl, rfl, rfl, trivial⟩ rfl, by show 4 - 4 < 4 - 3; decide⟩
  | z + 4 =>
    show Dw _ _ ⟨48, [(4, .p 4 0), (5, .p 5 0), (6, .p 6 0), (7, .p 7 0), (8, .v (.c (.i .i64 0))), (9, .v (.c (.i .i64 0))), (18, .v (.c (.s 4 (cR d ++ cR p ++ cR q ++ cR s)))), (19, .v (.c (.i .i64 4))), (20, .v (.c (.i .i64 4)))], [(4, 26, cR d), (5, 26, cR p), (6, 26, cR q), (7, 26, cR s)]⟩ _
    refine dw_seq ?_
    -- region 2
    refine dw_region (by kernel_rfl) ?_
    refine dl_r (sem_cmp rfl rfl rfl rfl) ?_
    refine dl_end ?_
    refine dw_seq ?_
    refine dw_false rfl ?_
    refine dw_exit ?_
    refine dw_seq ?_
    -- region 7
    refine dw_draw 10 [] follows_mixed (by kernel_rfl) rfl rfl ?_
    refine dq_r (sem_load (us := cR d) ty26 rfl rfl rfl rfl rfl) ?_
    refine dq_r (sem_load (us := cR p) ty26 rfl rfl rfl rfl rfl) ?_
    refine dq_r (sem_call rfl rfl (pSub_ok (by first | assumption | exact Rz.mono hd (by decide)) (by first | assumption | exact Rz.mono hp (by decide))) rfl) ?_
    refine dq_r (sem_load (us := cR q) ty26 rfl rfl rfl rfl rfl) ?_
    refine dq_r (sem_call rfl rfl (pSub_ok (by first | assumption | exact Rz.mono (Rz.sub hd hp) (by decide)) (by first | assumption | exact Rz.mono hq (by decide))) rfl) ?_
    refine dq_r (sem_load (us := cR s) ty26 rfl rfl rfl rfl rfl) ?_
    refine dq_r (sem_load (us := cR s) ty26 rfl rfl rfl rfl rfl) ?_
    refine dq_r (sem_call rfl rfl (pMul_ok (by first | assumption | exact Rz.mono hs (by decide)) (by first | assumption | exact Rz.mono hs (by decide))) rfl) ?_
    refine dq_r (sem_call rfl rfl (pSub_ok (by first | assumption | exact Rz.mono (Rz.sub (Rz.sub hd hp) hq) (by decide)) (by first | assumption | exact Rz.mono (Rz.mul hs hs) (by decide))) rfl) ?_
    refine dq_new (sem_alloc zc26 rfl) rfl ?_
    refine dq_end ?_
    refine dl_start1 ?_
    refine dl_st (sem_store_a ty26 rfl rfl rfl rfl rfl rfl) ?_
    refine dl_end ?_
    refine dw_seq ?_
    -- region 8
    refine dw_draw 4 [] follows_mixed (by kernel_rfl) rfl rfl ?_
    refine dq_r (sem_call rfl rfl (pFrom_ok (by decide) (by decide)) rfl) ?_
    refine dq_r (sem_load (us := cR s) ty26 rfl rfl rfl rfl rfl) ?_
    refine dq_r (sem_call rfl rfl (pMul_ok (by first | assumption | exact Rz.mono (Rz.int (Sz.neg (Sz.small (k := 3) (by decide) (by decide) (by decide))) (by decide)) (by decide)) (by first | assumption | exact Rz.mono hs (by decide))) rfl) ?_
    refine dq_new (sem_alloc zc26 rfl) rfl ?_
    refine dq_end ?_
    refine dl_start1 ?_
    refine dl_st (sem_store_a ty26 rfl rfl rfl rfl rfl rfl) ?_
    refine dl_end ?_
    refine dw_seq ?_
    -- region 9
    refine dw_draw 10 [] follows_mixed (by kernel_rfl) rfl rfl ?_
    refine dq_r (sem_load (us := cR (((d - p) - q) - (s * s))) ty26 rfl rfl rfl rfl rfl) ?_
    refine dq_r (sem_load (us := cR ((((-2 : Int) : Rat)) * s)) ty26 rfl rfl rfl rfl rfl) ?_
    refine dq_r (sem_load (us := cR ((((-2 : Int) : Rat)) * s)) ty26 rfl rfl rfl rfl rfl) ?_
    refine dq_r (sem_call rfl rfl (pFrom_ok (by decide) (by decide)) rfl) ?_
    refine dq_r (sem_load (us := cR p) ty26 rfl rfl rfl rfl rfl) ?_
    refine dq_r (sem_load (us := cR q) ty26 rfl rfl rfl rfl rfl) ?_
    refine dq_r (sem_build (us := (cR (((d - p) - q) - (s * s)) ++ cR ((((-2 : Int) : Rat)) * s) ++ cR ((((-2 : Int) : Rat)) * s) ++ cR (((-2 : Int) : Rat)) ++ cR p ++ cR q)) fs28 zc28 rfl rfl rfl) ?_
    refine dq_r (sem_call rfl rfl (xSignBQ_ok A1 B1 B1 D1 M1 N1) rfl) ?_
    refine dq_r (sem_assign rfl rfl) ?_
    refine dq_r (sem_assign rfl rfl) ?_
    refine dq_end ?_
    refine dl_start0 ?_
    refine dl_end ?_
    refine dw_ret ?_
    -- path L4
    exact ⟨.inr rfl, (resL_tmp rfl (resL_tmp rfl resL_nil))⟩
theorem ySum_4 {d p q s : Rat} (hd : Rz 2 d) (hp : Rz 2 p) (hq : Rz 2 q) (hs : Rz 2 s) (zd : decide (cmpR d 0 < 0) = false) (zp : decide (cmpR p 0 < 0) = false) (zq : decide (cmpR q 0 < 0) = false) (zs : decide (cmpR s 0 < 0) = false) : Ok Tryz.prog 19 [dR d, dR p, dR q, dR s] [.c (.i .i64 (signQ (d - p - q - s * s) (((-2 : Int) : Rat) * s) (((-2 : Int) : Rat) * s) ((-2 : Int) : Rat) p q)), .c (.i .i64 0)] := by
  have kd : Rz 300 d := hd.mono (by decide)
  have kp : Rz 300 p := hp.mono (by decide)
  have kq : Rz 300 q := hq.mono (by decide)
  have ks : Rz 300 s := hs.mono (by decide)
  have hm : Rz 3 ((-2 : Int) : Rat) := Rz.int (Sz.small (by decide) (by decide) (by decide)) (by decide)
  have km : Rz 300 ((-2 : Int) : Rat) := hm.mono (by decide)
  have A1 : Rz 16 (d - p - q - s * s) := (((hd.sub hp).sub hq).sub (hs.mul hs)).mono (by decide)
  have B1 : Rz 6 (((-2 : Int) : Rat) * s) := (hm.mul hs).mono (by decide)
  have D1 : Rz 6 ((-2 : Int) : Rat) := hm.mono (by decide)
  have M1 : Rz 6 p := hp.mono (by decide)
  have N1 : Rz 6 q := hq.mono (by decide)
  refine Ok.of (by kernel_rfl) Tryz.func19 rfl rfl ?_
  rw [show Tryz.f19.ntmps = 50 from rfl, show Tryz.f19.results.toList = [.tmp 8, .tmp 9] from rfl]
  refine dw_seq ?_
  -- region 0
  refine dw_region (by kernel_rfl) ?_
  refine dl_new (sem_box_a rfl rfl) rfl ?_
  refine dl_new (sem_box_a rfl rfl) rfl ?_
  refine dl_new (sem_box_a rfl rfl) rfl ?_
  refine dl_new (sem_box_a rfl rfl) rfl ?_
  refine dl_r (sem_assign rfl rfl) ?_
  refine dl_r (sem_assign rfl rfl) ?_
  refine dl_end ?_
  refine dw_seq ?_
  refine dw_seq ?_
  -- region 1
  refine dw_region (by kernel_rfl) ?_
  refine dl_r (sem_load (us := cR d) ty26 rfl rfl rfl rfl rfl) ?_
  refine dl_r (sem_call rfl rfl (sSign_ok) rfl) ?_
  refine dl_r (sem_castb (sem_cmp rfl rfl rfl rfl) zd) ?_
  refine dl_r (sem_move rfl rfl) ?_
  refine dl_r (sem_load (us := cR p) ty26 rfl rfl rfl rfl rfl) ?_
  refine dl_r (sem_call rfl rfl (sSign_ok) rfl) ?_
  refine dl_r (sem_castb (sem_cmp rfl rfl rfl rfl) zp) ?_
  refine dl_r (sem_pick rfl rfl rfl rfl) ?_
  refine dl_r (sem_move rfl rfl) ?_
  refine dl_r (sem_load (us := cR q) ty26 rfl rfl rfl rfl rfl) ?_
  refine dl_r (sem_call rfl rfl (sSign_ok) rfl) ?_
  refine dl_r (sem_castb (sem_cmp rfl rfl rfl rfl) zq) ?_
  refine dl_r (sem_pick rfl rfl rfl rfl) ?_
  refine dl_r (sem_move rfl rfl) ?_
  refine dl_r (sem_load (us := cR s) ty26 rfl rfl rfl rfl rfl) ?_
  refine dl_r (sem_call rfl rfl (sSign_ok) rfl) ?_
  refine dl_r (sem_castb (sem_cmp rfl rfl rfl rfl) zs) ?_
  refine dl_r (sem_pick rfl rfl rfl rfl) ?_
  refine dl_end ?_
  refine dw_false rfl ?_
  refine dw_skip ?_
  refine dw_seq ?_
  -- region 3
  refine dw_draw 10 [] follows_mixed (by kernel_rfl) rfl rfl ?_
  refine dq_r (sem_load (us := cR d) ty26 rfl rfl rfl rfl rfl) ?_
  refine dq_r (sem_load (us := cR p) ty26 rfl rfl rfl rfl rfl) ?_
  refine dq_r (sem_call rfl rfl (sSub_ok (by first | assumption | exact Rz.mono hd (by decide)) (by first | assumption | exact Rz.mono hp (by decide))) rfl) ?_
  refine dq_r (sem_load (us := cR q) ty26 rfl rfl rfl rfl rfl) ?_
  refine dq_r (sem_call rfl rfl (sSub_ok (by first | assumption | exact Rz.mono (Rz.sub hd hp) (by decide)) (by first | assumption | exact Rz.mono hq (by decide))) rfl) ?_
  refine dq_r (sem_load (us := cR s) ty26 rfl rfl rfl rfl rfl) ?_
  refine dq_r (sem_load (us := cR s) ty26 rfl rfl rfl rfl rfl) ?_
  refine dq_r (sem_call rfl rfl (sMul_ok (by first | assumption | exact Rz.mono hs (by decide)) (by first | assumption | exact Rz.mono hs (by decide))) rfl) ?_
  refine dq_r (sem_call rfl rfl (sSub_ok (by first | assumption | exact Rz.mono (Rz.sub (Rz.sub hd hp) hq) (by decide)) (by first | assumption | exact Rz.mono (Rz.mul hs hs) (by decide))) rfl) ?_
  refine dq_new (sem_alloc zc26 rfl) rfl ?_
  refine dq_end ?_
  refine dl_start1 ?_
  refine dl_st (sem_store_a ty26 rfl rfl rfl rfl rfl rfl) ?_
  refine dl_end ?_
  refine dw_seq ?_
  -- region 4
  refine dw_draw 4 [] follows_mixed (by kernel_rfl) rfl rfl ?_
  refine dq_r (sem_call rfl rfl (sFrom_ok (by decide) (by decide)) rfl) ?_
  refine dq_r (sem_load (us := cR s) ty26 rfl rfl rfl rfl rfl) ?_
  refine dq_r (sem_call rfl rfl (sMul_ok (by first | assumption | exact Rz.mono (Rz.int (Sz.neg (Sz.small (k := 3) (by decide) (by decide) (by decide))) (by decide)) (by decide)) (by first | assumption | exact Rz.mono hs (by decide))) rfl) ?_
  refine dq_new (sem_alloc zc26 rfl) rfl ?_
  refine dq_end ?_
  refine dl_start1 ?_
  refine dl_st (sem_store_a ty26 rfl rfl rfl rfl rfl rfl) ?_
  refine dl_end ?_
  refine dw_seq ?_
  -- region 5
  refine dw_draw 10 [] follows_mixed (by kernel_rfl) rfl rfl ?_
  refine dq_r (sem_load (us := cR (((d - p) - q) - (s * s))) ty26 rfl rfl rfl rfl rfl) ?_
  refine dq_r (sem_load (us := cR ((((-2 : Int) : Rat)) * s)) ty26 rfl rfl rfl rfl rfl) ?_
  refine dq_r (sem_load (us := cR ((((-2 : Int) : Rat)) * s)) ty26 rfl rfl rfl rfl rfl) ?_
  refine dq_r (sem_call rfl rfl (sFrom_ok (by decide) (by decide)) rfl) ?_
  refine dq_r (sem_load (us := cR p) ty26 rfl rfl rfl rfl rfl) ?_
  refine dq_r (sem_load (us := cR q) ty26 rfl rfl rfl rfl rfl) ?_
  refine dq_r (sem_build (us := (cR (((d - p) - q) - (s * s)) ++ cR ((((-2 : Int) : Rat)) * s) ++ cR ((((-2 : Int) : Rat)) * s) ++ cR (((-2 : Int) : Rat)) ++ cR p ++ cR q)) fs28 zc28 rfl rfl rfl) ?_
  refine dq_r (sem_call rfl rfl (ySignB_ok A1 B1 B1 D1 M1 N1) rfl) ?_
  refine dq_r (sem_assign rfl rfl) ?_
  refine dq_r (sem_assign rfl rfl) ?_
  refine dq_end ?_
  refine dl_start0 ?_
  refine dl_end ?_
  refine dw_ret ?_
  -- path 
  exact ⟨.inr rfl, (resL_tmp rfl (resL_tmp rfl resL_nil))⟩
theorem lwSu_A {x1 x2 x3 x4 : RN} (oF : Ok Tryz.prog 8 [.c (.s 4 (cN x1 ++ cN x2 ++ cN x3 ++ cN x4))] [.c (.b false)]) : Ok Tryz.prog 6 [.a (cN x1 ++ cN x2 ++ cN x3 ++ cN x4)] [.c (.b true)] := by
  refine Ok.of (by kernel_rfl) Tryz.func6 rfl rfl ?_
  rw [show Tryz.f6.ntmps = 55 from rfl, show Tryz.f6.results.toList = [.tmp 2] from rfl]
  refine dw_seq ?_
  -- region 0
  refine dw_region (by kernel_rfl) ?_
  refine dl_new (sem_box_a rfl rfl) rfl ?_
  refine dl_r (sem_assign rfl rfl) ?_
  refine dl_end ?_
  refine dw_seq ?_
  refine dw_seq ?_
  -- region 1
  refine dw_region (by kernel_rfl) ?_
  refine dl_r (sem_call rfl rfl (awake5_ok) rfl) ?_
  refine dl_r (sem_not rfl rfl) ?_
  refine dl_r (sem_move rfl rfl) ?_
  refine dl_r (sem_index_a ar44 rfl rfl (by decide) rfl) ?_
  refine dl_r (sem_load (us := cN x1) ty26 rfl rfl rfl rfl rfl) ?_
  refine dl_r (sem_index_a ar44 rfl rfl (by decide) rfl) ?_
  refine dl_r (sem_load (us := cN x2) ty26 rfl rfl rfl rfl rfl) ?_
  refine dl_r (sem_index_a ar44 rfl rfl (by decide) rfl) ?_
  refine dl_r (sem_load (us := cN x3) ty26 rfl rfl rfl rfl rfl) ?_
  refine dl_r (sem_index_a ar44 rfl rfl (by decide) rfl) ?_
  refine dl_r (sem_load (us := cN x4) ty26 rfl rfl rfl rfl rfl) ?_
  refine dl_r (sem_slit_D (n := 4) (us := cN x1 ++ cN x2 ++ cN x3 ++ cN x4) el55 rfl rfl rfl (by decide) (by decide) rfl) ?_
  refine dl_r (sem_call rfl rfl (oF) rfl) ?_
  refine dl_r (sem_not rfl rfl) ?_
  refine dl_r (sem_pick rfl rfl rfl rfl) ?_
  refine dl_end ?_
  refine dw_true rfl ?_
  refine dw_seq ?_
  -- region 2
  refine dw_region (by kernel_rfl) ?_
  refine dl_r (sem_call rfl rfl (awake5_ok) rfl) ?_
  refine dl_r (sem_assign rfl rfl) ?_
  refine dl_end ?_
  refine dw_ret ?_
  -- path 
  exact ⟨.inr rfl, (resL_tmp rfl resL_nil)⟩
theorem lwSu_B {d p q s : Rat} {n1 n2 : Int} (oF : Ok Tryz.prog 8 [.c (.s 4 (cR d ++ cR p ++ cR q ++ cR s))] [.c (.b true)]) (oP : Ok Tryz.prog 18 [dR d, dR p, dR q, dR s] [.c (.i .i64 n1), .c (.i .i64 n2)]) (oR : Ok Tryz.prog 19 [dR d, dR p, dR q, dR s] [.c (.i .i64 n1), .c (.i .i64 n2)]) : Ok Tryz.prog 6 [.a (cR d ++ cR p ++ cR q ++ cR s)] [.c (.b true)] := by
  refine Ok.of (by kernel_rfl) Tryz.func6 rfl rfl ?_
  rw [show Tryz.f6.ntmps = 55 from rfl, show Tryz.f6.results.toList = [.tmp 2] from rfl]
  refine dw_seq ?_
  -- region 0
  refine dw_region (by kernel_rfl) ?_
  refine dl_new (sem_box_a rfl rfl) rfl ?_
  refine dl_r (sem_assign rfl rfl) ?_
  refine dl_end ?_
  refine dw_seq ?_
  refine dw_seq ?_
  -- region 1
  refine dw_region (by kernel_rfl) ?_
  refine dl_r (sem_call rfl rfl (awake5_ok) rfl) ?_
  refine dl_r (sem_not rfl rfl) ?_
  refine dl_r (sem_move rfl rfl) ?_
  refine dl_r (sem_index_a ar44 rfl rfl (by decide) rfl) ?_
  refine dl_r (sem_load (us := cR d) ty26 rfl rfl rfl rfl rfl) ?_
  refine dl_r (sem_index_a ar44 rfl rfl (by decide) rfl) ?_
  refine dl_r (sem_load (us := cR p) ty26 rfl rfl rfl rfl rfl) ?_
  refine dl_r (sem_index_a ar44 rfl rfl (by decide) rfl) ?_
  refine dl_r (sem_load (us := cR q) ty26 rfl rfl rfl rfl rfl) ?_
  refine dl_r (sem_index_a ar44 rfl rfl (by decide) rfl) ?_
  refine dl_r (sem_load (us := cR s) ty26 rfl rfl rfl rfl rfl) ?_
  refine dl_r (sem_slit_D (n := 4) (us := cR d ++ cR p ++ cR q ++ cR s) el55 rfl rfl rfl (by decide) (by decide) rfl) ?_
  refine dl_r (sem_call rfl rfl (oF) rfl) ?_
  refine dl_r (sem_not rfl rfl) ?_
  refine dl_r (sem_pick rfl rfl rfl rfl) ?_
  refine dl_end ?_
  refine dw_false rfl ?_
  refine dw_skip ?_
  refine dw_seq ?_
  -- region 3
  refine dw_region (by kernel_rfl) ?_
  refine dl_r (sem_index_a ar44 rfl rfl (by decide) rfl) ?_
  refine dl_r (sem_load (us := cR d) ty26 rfl rfl rfl rfl rfl) ?_
  refine dl_r (sem_index_a ar44 rfl rfl (by decide) rfl) ?_
  refine dl_r (sem_load (us := cR p) ty26 rfl rfl rfl rfl rfl) ?_
  refine dl_r (sem_index_a ar44 rfl rfl (by decide) rfl) ?_
  refine dl_r (sem_load (us := cR q) ty26 rfl rfl rfl rfl rfl) ?_
  refine dl_r (sem_index_a ar44 rfl rfl (by decide) rfl) ?_
  refine dl_r (sem_load (us := cR s) ty26 rfl rfl rfl rfl rfl) ?_
  refine dl_r (sem_call rfl rfl (oP) rfl) ?_
  refine dl_r (sem_move rfl rfl) ?_
  refine dl_r (sem_extract rfl rfl rfl) ?_
  refine dl_r (sem_extract rfl rfl rfl) ?_
  refine dl_r (sem_assign rfl rfl) ?_
  refine dl_r (sem_assign rfl rfl) ?_
  refine dl_end ?_
  refine dw_seq ?_
  -- region 4
  refine dw_region (by kernel_rfl) ?_
  refine dl_r (sem_index_a ar44 rfl rfl (by decide) rfl) ?_
  refine dl_r (sem_load (us := cR d) ty26 rfl rfl rfl rfl rfl) ?_
  refine dl_r (sem_index_a ar44 rfl rfl (by decide) rfl) ?_
  refine dl_r (sem_load (us := cR p) ty26 rfl rfl rfl rfl rfl) ?_
  refine dl_r (sem_index_a ar44 rfl rfl (by decide) rfl) ?_
  refine dl_r (sem_load (us := cR q) ty26 rfl rfl rfl rfl rfl) ?_
  refine dl_r (sem_index_a ar44 rfl rfl (by decide) rfl) ?_
  refine dl_r (sem_load (us := cR s) ty26 rfl rfl rfl rfl rfl) ?_
  refine dl_r (sem_call rfl rfl (oR) rfl) ?_
  refine dl_r (sem_move rfl rfl) ?_
  refine dl_r (sem_extract rfl rfl rfl) ?_
  refine dl_r (sem_extract rfl rfl rfl) ?_
  refine dl_r (sem_assign rfl rfl) ?_
  refine dl_r (sem_assign rfl rfl) ?_
  refine dl_end ?_
  refine dw_seq ?_
  -- region 5
  refine dw_region (by kernel_rfl) ?_
  refine dl_r (sem_move rfl rfl) ?_
  refine dl_r (sem_move rfl rfl) ?_
  refine dl_r (sem_castb (sem_cmp rfl rfl rfl rfl) (beq_self_eq_true n1)) ?_
  refine dl_r (sem_move rfl rfl) ?_
  refine dl_r (sem_move rfl rfl) ?_
  refine dl_r (sem_move rfl rfl) ?_
  refine dl_r (sem_castb (sem_cmp rfl rfl rfl rfl) (beq_self_eq_true n2)) ?_
  refine dl_r (sem_pick rfl rfl rfl rfl) ?_
  refine dl_r (sem_assign rfl rfl) ?_
  refine dl_end ?_
  refine dw_ret ?_
  -- path 
  exact ⟨.inr rfl, (resL_tmp rfl resL_nil)⟩
end Go.Proofs.YtcbjmiddangfoaaGreat
/- RadicalSum: for every input the law returns true, and each argument reads behind the call as it read before. No condition. -/
namespace Go.Proofs.YtcbjmiddangfoaaGreat
open Go.ChangeShapes Go.WideShapes Go.ChangeAt Go.RowKit
theorem law_sum5 {x1 x2 x3 x4 : RN} (w1 : x1.Wf) (w2 : x2.Wf) (w3 : x3.Wf) (w4 : x4.Wf) :
    Ok Tryz.prog 6 [.a (cN x1 ++ cN x2 ++ cN x3 ++ cN x4)] [.c (.b true)] := by
  rcases few4 w1 w2 w3 w4 with h | ⟨d, p, q, s, g1, g2, g3, g4, e1, e2, e3, e4, h⟩
  · exact lwSu_A h
  · rw [e1, e2, e3, e4]
    cases z1 : decide (cmpR d 0 < 0) with
    | true => exact lwSu_B h (xSum_0 g1 g2 g3 g4 z1) (ySum_0 g1 g2 g3 g4 z1)
    | false =>
    cases z2 : decide (cmpR p 0 < 0) with
    | true => exact lwSu_B h (xSum_1 g1 g2 g3 g4 z1 z2) (ySum_1 g1 g2 g3 g4 z1 z2)
    | false =>
    cases z3 : decide (cmpR q 0 < 0) with
    | true => exact lwSu_B h (xSum_2 g1 g2 g3 g4 z1 z2 z3) (ySum_2 g1 g2 g3 g4 z1 z2 z3)
    | false =>
    cases z4 : decide (cmpR s 0 < 0) with
    | true => exact lwSu_B h (xSum_3 g1 g2 g3 g4 z1 z2 z3 z4) (ySum_3 g1 g2 g3 g4 z1 z2 z3 z4)
    | false => exact lwSu_B h (xSum_4 g1 g2 g3 g4 z1 z2 z3 z4) (ySum_4 g1 g2 g3 g4 z1 z2 z3 z4)
set_option maxRecDepth 100000 in
theorem sum5_lifted (os : Os) (started : os.Started) (H : Type) (enc : TypeId × Value → H) :
    ReturnsInHanded {} Tryz.checked os 6 .any (Rows.radicalSumSpec.pre6 enc Tryz.prog Tryz.f6 Rows.radicalSumRow.domain false) (Rows.radicalSumSpec.post enc Tryz.prog Tryz.f6 false true false false) := by
  refine returnsInHanded_of_change (C := Tryz.checked) own started (by kernel_rfl) Tryz.func6
    (ChangeSpec.witness6 (enc := enc) (C := Tryz.checked) false ⟨#[], #[.agg (Array.replicate 8 #[Value.bool false, .slice none 0 0]).flatten], []⟩ 8 (by kernel_rfl) (by kernel_rfl) (by kernel_rfl) (by kernel_rfl)) ?_
  intro W base args ds gs before hval0 hW hcnd _
  have hval : ∀ (j : Nat) t v, Tryz.f6.params[j]? = some t → args[j]? = some v → Value.okWide Tryz.prog W .any base t v := hval0
  have hW' := hW
  obtain ⟨p, q, hA0, hV, rfl, hfz, hnd⟩ := hW
  have hA : DataW.TrodAll enc Tryz.prog W 0 (fun _ => true) true Tryz.f6.params.toList args.toList ds p := hA0
  rw [Tryz.params6] at hA hval
  obtain ⟨v0, vs0, d0, ds0, p0, q0, hargs, rfl, rfl, h0, r0⟩ := trodAll_cons hA
  obtain ⟨rfl, rfl, rfl⟩ := trodAll_nil r0
  obtain rfl : args = #[v0] := by cases args; simp_all
  obtain ⟨rfl, rfl⟩ := trodVars_none hV
  obtain ⟨a0, rfl⟩ := okWide_arr Tryz.underlying44 (hval 0 44 v0 rfl rfl)
  have k0 := h0
  have lt0 : ∀ x ∈ p0, x.block < W.heap.size := by obtain ⟨m, hm⟩ := k0; exact DataW.trod_lt m _ _ _ hm
  obtain ⟨e00, e01, e02, e03, w00, w01, w02, w03, hr0⟩ := rats4_of (show DataW.trod enc Tryz.prog W 0 _ _ h0.choose 44 a0.toList = some _ from h0.choose_spec)
  clear hA0 hval0
  refine (law_of (law_sum5 w00 w01 w02 w03) (RdL.cons ⟨a0, rfl, hr0⟩ RdL.nil)).mono fun e W' ⟨he, bel⟩ => ?_
  subst he
  exact ⟨_, rfl, _, _, _, [], _, [], hW', trodAll_mk1 (shut_bool Tryz.underlying4 _), (trodAll_cons_mk (Below.trod laidOut (by kernel_rfl) (of_decide_eq_true (by kernel_rfl)) k0 bel lt0) trodAll_mk0), rfl, bel.frame _, fun h => by cases h⟩
theorem sum5_proved : Rows.RadicalSumSaid :=
  OpenClaim.holds_of_wide 6 Tryz.f6 rfl rfl rfl rfl rfl rfl rfl ⟨rfl, rfl, rfl, rfl, rfl⟩ rfl rfl rfl rfl rfl (by kernel_rfl) Tryz.func6 (by kernel_rfl)
    (of_decide_eq_true (by kernel_rfl)) (by unfold Func.isWrapper; first | (rw [if_pos (by decide +kernel)]; kernel_rfl) | (rw [if_neg (by decide +kernel)]; exact ⟨rfl, rfl⟩))
    (fun os started H enc _ => sum5_lifted os started H enc)
end Go.Proofs.YtcbjmiddangfoaaGreat
