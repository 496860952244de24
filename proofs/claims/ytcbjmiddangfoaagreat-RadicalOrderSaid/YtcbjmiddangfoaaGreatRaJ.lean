/- Signs of a + b sqrt(m), program and reference. -/
import Derived.Test.YtcbjmiddangfoaaGreatRaI
namespace Go.Proofs.YtcbjmiddangfoaaGreat
open Go Go.RowKit
theorem xPlain_ok {a b m : Rat} (ha : Rz 100 a) (hb : Rz 100 b) (hm : Rz 100 m) : Ok Tryz.prog 28 [dR a, dR b, dR m] [.c (.i .i64 (plainS a b m))] := by
  have ka : Rz 300 a := ha.mono (by decide)
  have kb : Rz 300 b := hb.mono (by decide)
  have hp := prod_bd (cmpR_bd b 0) (cmpR_bd m 0)
  have hp2 := prod_bd (cmpR_bd a 0) (cmpR_bd (a * a) (b * b * m))
  refine Ok.of (by kernel_rfl) Tryz.func28 rfl rfl ?_
  rw [show Tryz.f28.ntmps = 40 from rfl, show Tryz.f28.results.toList = [.tmp 6] from rfl]
  refine dw_seq ?_
  -- region 0
  refine dw_region (by kernel_rfl) ?_
  refine dl_new (sem_box_a rfl rfl) rfl ?_
  refine dl_new (sem_box_a rfl rfl) rfl ?_
  refine dl_new (sem_box_a rfl rfl) rfl ?_
  refine dl_r (sem_assign rfl rfl) ?_
  refine dl_end ?_
  refine dw_seq ?_
  -- region 1
  refine dw_draw 9 [] follows_mixed (by kernel_rfl) rfl rfl ?_
  refine dq_r (sem_load (us := cR a) ty26 rfl rfl rfl rfl rfl) ?_
  refine dq_r (sem_call rfl rfl (pSign_ok) rfl) ?_
  refine dq_r (sem_load (us := cR b) ty26 rfl rfl rfl rfl rfl) ?_
  refine dq_r (sem_call rfl rfl (pSign_ok) rfl) ?_
  refine dq_r (sem_load (us := cR m) ty26 rfl rfl rfl rfl rfl) ?_
  refine dq_r (sem_call rfl rfl (pSign_ok) rfl) ?_
  refine dq_r (sem_ari (r := (cmpR b 0) * (cmpR m 0)) rfl rfl (ari_i64_mul (by omega) (by omega)) rfl) ?_
  refine dq_r (sem_assign rfl rfl) ?_
  refine dq_r (sem_assign rfl rfl) ?_
  refine dq_end ?_
  refine dl_start0 ?_
  refine dl_end ?_
  refine dw_seq ?_
  refine dw_block ?_
  refine dw_seq ?_
  -- region 2
  refine dw_region (by kernel_rfl) ?_
  refine dl_r (sem_move rfl rfl) ?_
  refine dl_r (sem_cmp rfl rfl rfl rfl) ?_
  refine dl_rb (sem_move rfl rfl) (fun c1 hb1 => ?_)
  cases c1
  · refine dl_r (sem_move rfl rfl) ?_
    refine dl_r (sem_move rfl rfl) ?_
    refine dl_r (sem_cmp rfl rfl rfl rfl) ?_
    refine dl_r (sem_pick rfl rfl rfl rfl) ?_
    refine dl_r (sem_assign rfl rfl) ?_
    refine dl_end ?_
    refine dw_cond rfl (fun hc2 => ?_) (fun hc2 => ?_)
    · refine dw_seq ?_
      -- region 3
      refine dw_region (by kernel_rfl) ?_
      refine dl_r (sem_move rfl rfl) ?_
      refine dl_r (sem_assign rfl rfl) ?_
      refine dl_end ?_
      refine dw_ret ?_
      -- path fT
      unfold plainS
      rw [comb_eq hc2]
      exact ⟨.inr rfl, (resL_tmp rfl resL_nil)⟩
    · refine dw_seq ?_
      -- region 4
      refine dw_region (by kernel_rfl) ?_
      refine dl_r (sem_move rfl rfl) ?_
      refine dl_r (sem_cmp rfl rfl rfl rfl) ?_
      refine dl_r (sem_assign rfl rfl) ?_
      refine dl_end ?_
      refine dw_cond rfl (fun hc3 => ?_) (fun hc3 => ?_)
      · refine dw_seq ?_
        -- region 5
        refine dw_region (by kernel_rfl) ?_
        refine dl_r (sem_move rfl rfl) ?_
        refine dl_r (sem_assign rfl rfl) ?_
        refine dl_end ?_
        refine dw_ret ?_
        -- path fFT
        unfold plainS
        rw [comb_s0 hc3]
        exact ⟨.inr rfl, (resL_tmp rfl resL_nil)⟩
      · refine dw_skip ?_
        refine dw_seq ?_
        -- region 6
        refine dw_draw 12 [] follows_mixed (by kernel_rfl) rfl rfl ?_
        refine dq_r (sem_move rfl rfl) ?_
        refine dq_r (sem_load (us := cR a) ty26 rfl rfl rfl rfl rfl) ?_
        refine dq_r (sem_load (us := cR a) ty26 rfl rfl rfl rfl rfl) ?_
        refine dq_r (sem_call rfl rfl (pMul_ok (by first | assumption | exact Rz.mono ha (by decide)) (by first | assumption | exact Rz.mono ha (by decide))) rfl) ?_
        refine dq_r (sem_load (us := cR b) ty26 rfl rfl rfl rfl rfl) ?_
        refine dq_r (sem_load (us := cR b) ty26 rfl rfl rfl rfl rfl) ?_
        refine dq_r (sem_call rfl rfl (pMul_ok (by first | assumption | exact Rz.mono hb (by decide)) (by first | assumption | exact Rz.mono hb (by decide))) rfl) ?_
        refine dq_r (sem_load (us := cR m) ty26 rfl rfl rfl rfl rfl) ?_
        refine dq_r (sem_call rfl rfl (pMul_ok (by first | assumption | exact Rz.mono (Rz.mul hb hb) (by decide)) (by first | assumption | exact Rz.mono hm (by decide))) rfl) ?_
        refine dq_r (sem_call rfl rfl (pCmp_ok (by first | assumption | exact Rz.mono (Rz.mul ha ha) (by decide)) (by first | assumption | exact Rz.mono (Rz.mul (Rz.mul hb hb) hm) (by decide))) rfl) ?_
        refine dq_r (sem_ari (r := (cmpR a 0) * (cmpR (a * a) ((b * b) * m))) rfl rfl (ari_i64_mul (by omega) (by omega)) rfl) ?_
        refine dq_r (sem_assign rfl rfl) ?_
        refine dq_end ?_
        refine dl_start0 ?_
        refine dl_end ?_
        refine dw_ret ?_
        -- path fFF
        unfold plainS
        rw [comb_ne hc3 hb1 hc2]
        exact ⟨.inr rfl, (resL_tmp rfl resL_nil)⟩
  · refine dl_skip (sem_skip rfl) ?_
    refine dl_skip (sem_skip rfl) ?_
    refine dl_skip (sem_skip rfl) ?_
    refine dl_r (sem_pick rfl rfl rfl rfl) ?_
    refine dl_r (sem_assign rfl rfl) ?_
    refine dl_end ?_
    refine dw_true rfl ?_
    refine dw_seq ?_
    -- region 3
    refine dw_region (by kernel_rfl) ?_
    refine dl_r (sem_move rfl rfl) ?_
    refine dl_r (sem_assign rfl rfl) ?_
    refine dl_end ?_
    refine dw_ret ?_
    -- path t
    unfold plainS
    rw [comb_t0 hb1]
    exact ⟨.inr rfl, (resL_tmp rfl resL_nil)⟩
theorem yTwo_ok {a b m : Rat} (ha : Rz 100 a) (hb : Rz 100 b) (hm : Rz 100 m) : Ok Tryz.prog 33 [dR a, dR b, dR m] [.c (.i .i64 (plainS a b m))] := by
  have ka : Rz 300 a := ha.mono (by decide)
  have kb : Rz 300 b := hb.mono (by decide)
  have hp := prod_bd (cmpR_bd b 0) (cmpR_bd m 0)
  have hp2 := prod_bd (cmpR_bd a 0) (cmpR_bd (a * a) (b * b * m))
  refine Ok.of (by kernel_rfl) Tryz.func33 rfl rfl ?_
  rw [show Tryz.f33.ntmps = 42 from rfl, show Tryz.f33.results.toList = [.tmp 6] from rfl]
  refine dw_seq ?_
  -- region 0
  refine dw_region (by kernel_rfl) ?_
  refine dl_new (sem_box_a rfl rfl) rfl ?_
  refine dl_new (sem_box_a rfl rfl) rfl ?_
  refine dl_new (sem_box_a rfl rfl) rfl ?_
  refine dl_r (sem_assign rfl rfl) ?_
  refine dl_end ?_
  refine dw_seq ?_
  -- region 1
  refine dw_draw 9 [] follows_mixed (by kernel_rfl) rfl rfl ?_
  refine dq_r (sem_load (us := cR a) ty26 rfl rfl rfl rfl rfl) ?_
  refine dq_r (sem_call rfl rfl (sSign_ok) rfl) ?_
  refine dq_r (sem_load (us := cR b) ty26 rfl rfl rfl rfl rfl) ?_
  refine dq_r (sem_call rfl rfl (sSign_ok) rfl) ?_
  refine dq_r (sem_load (us := cR m) ty26 rfl rfl rfl rfl rfl) ?_
  refine dq_r (sem_call rfl rfl (sSign_ok) rfl) ?_
  refine dq_r (sem_ari (r := (cmpR b 0) * (cmpR m 0)) rfl rfl (ari_i64_mul (by omega) (by omega)) rfl) ?_
  refine dq_r (sem_assign rfl rfl) ?_
  refine dq_r (sem_assign rfl rfl) ?_
  refine dq_end ?_
  refine dl_start0 ?_
  refine dl_end ?_
  refine dw_seq ?_
  refine dw_seq ?_
  -- region 2
  refine dw_region (by kernel_rfl) ?_
  refine dl_r (sem_move rfl rfl) ?_
  refine dl_r (sem_cmp rfl rfl rfl rfl) ?_
  refine dl_rb (sem_move rfl rfl) (fun c1 hb1 => ?_)
  cases c1
  · refine dl_r (sem_move rfl rfl) ?_
    refine dl_r (sem_cmp rfl rfl rfl rfl) ?_
    refine dl_r (sem_pick rfl rfl rfl rfl) ?_
    refine dl_rb (sem_move rfl rfl) (fun c2 hb2 => ?_)
    cases c2
    · refine dl_r (sem_move rfl rfl) ?_
      refine dl_r (sem_move rfl rfl) ?_
      refine dl_r (sem_cmp rfl rfl rfl rfl) ?_
      refine dl_r (sem_pick rfl rfl rfl rfl) ?_
      refine dl_end ?_
      refine dw_cond rfl (fun hc3 => ?_) (fun hc3 => ?_)
      · refine dw_seq ?_
        refine dw_seq ?_
        -- region 3
        refine dw_region (by kernel_rfl) ?_
        refine dl_r (sem_move rfl rfl) ?_
        refine dl_r (sem_cmp rfl rfl rfl rfl) ?_
        refine dl_end ?_
        refine dw_cond rfl (fun hc4 => ?_) (fun hc4 => ?_)
        · exact absurd hc4 (by rw [hb1]; decide)
        · refine dw_skip ?_
          refine dw_seq ?_
          -- region 5
          refine dw_region (by kernel_rfl) ?_
          refine dl_r (sem_move rfl rfl) ?_
          refine dl_r (sem_assign rfl rfl) ?_
          refine dl_end ?_
          refine dw_ret ?_
          -- path ffTF
          unfold plainS
          rw [comb_eq hc3]
          exact ⟨.inr rfl, (resL_tmp rfl resL_nil)⟩
      · refine dw_skip ?_
        refine dw_seq ?_
        -- region 6
        refine dw_draw 12 [] follows_mixed (by kernel_rfl) rfl rfl ?_
        refine dq_r (sem_move rfl rfl) ?_
        refine dq_r (sem_load (us := cR a) ty26 rfl rfl rfl rfl rfl) ?_
        refine dq_r (sem_load (us := cR a) ty26 rfl rfl rfl rfl rfl) ?_
        refine dq_r (sem_call rfl rfl (sMul_ok (by first | assumption | exact Rz.mono ha (by decide)) (by first | assumption | exact Rz.mono ha (by decide))) rfl) ?_
        refine dq_r (sem_load (us := cR b) ty26 rfl rfl rfl rfl rfl) ?_
        refine dq_r (sem_load (us := cR b) ty26 rfl rfl rfl rfl rfl) ?_
        refine dq_r (sem_call rfl rfl (sMul_ok (by first | assumption | exact Rz.mono hb (by decide)) (by first | assumption | exact Rz.mono hb (by decide))) rfl) ?_
        refine dq_r (sem_load (us := cR m) ty26 rfl rfl rfl rfl rfl) ?_
        refine dq_r (sem_call rfl rfl (sMul_ok (by first | assumption | exact Rz.mono (Rz.mul hb hb) (by decide)) (by first | assumption | exact Rz.mono hm (by decide))) rfl) ?_
        refine dq_r (sem_call rfl rfl (sCmp_ok (by first | assumption | exact Rz.mono (Rz.mul ha ha) (by decide)) (by first | assumption | exact Rz.mono (Rz.mul (Rz.mul hb hb) hm) (by decide))) rfl) ?_
        refine dq_r (sem_ari (r := (cmpR a 0) * (cmpR (a * a) ((b * b) * m))) rfl rfl (ari_i64_mul (by omega) (by omega)) rfl) ?_
        refine dq_r (sem_assign rfl rfl) ?_
        refine dq_end ?_
        refine dl_start0 ?_
        refine dl_end ?_
        refine dw_ret ?_
        -- path ffF
        unfold plainS
        rw [comb_ne hb1 hb2 hc3]
        exact ⟨.inr rfl, (resL_tmp rfl resL_nil)⟩
    · refine dl_skip (sem_skip rfl) ?_
      refine dl_skip (sem_skip rfl) ?_
      refine dl_skip (sem_skip rfl) ?_
      refine dl_r (sem_pick rfl rfl rfl rfl) ?_
      refine dl_end ?_
      refine dw_true rfl ?_
      refine dw_seq ?_
      refine dw_seq ?_
      -- region 3
      refine dw_region (by kernel_rfl) ?_
      refine dl_r (sem_move rfl rfl) ?_
      refine dl_r (sem_cmp rfl rfl rfl rfl) ?_
      refine dl_end ?_
      refine dw_cond rfl (fun hc5 => ?_) (fun hc5 => ?_)
      · exact absurd hc5 (by rw [hb1]; decide)
      · refine dw_skip ?_
        refine dw_seq ?_
        -- region 5
        refine dw_region (by kernel_rfl) ?_
        refine dl_r (sem_move rfl rfl) ?_
        refine dl_r (sem_assign rfl rfl) ?_
        refine dl_end ?_
        refine dw_ret ?_
        -- path ftF
        unfold plainS
        rw [comb_t0 hb2]
        exact ⟨.inr rfl, (resL_tmp rfl resL_nil)⟩
  · refine dl_skip (sem_skip rfl) ?_
    refine dl_skip (sem_skip rfl) ?_
    refine dl_r (sem_pick rfl rfl rfl rfl) ?_
    refine dl_r (sem_move rfl rfl) ?_
    refine dl_skip (sem_skip rfl) ?_
    refine dl_skip (sem_skip rfl) ?_
    refine dl_skip (sem_skip rfl) ?_
    refine dl_r (sem_pick rfl rfl rfl rfl) ?_
    refine dl_end ?_
    refine dw_true rfl ?_
    refine dw_seq ?_
    refine dw_seq ?_
    -- region 3
    refine dw_region (by kernel_rfl) ?_
    refine dl_r (sem_move rfl rfl) ?_
    refine dl_r (sem_cmp rfl rfl rfl rfl) ?_
    refine dl_end ?_
    refine dw_cond rfl (fun hc6 => ?_) (fun hc6 => ?_)
    · refine dw_seq ?_
      -- region 4
      refine dw_region (by kernel_rfl) ?_
      refine dl_r (sem_move rfl rfl) ?_
      refine dl_r (sem_assign rfl rfl) ?_
      refine dl_end ?_
      refine dw_ret ?_
      -- path tT
      unfold plainS
      rw [comb_s0 hb1]
      exact ⟨.inr rfl, (resL_tmp rfl resL_nil)⟩
    · exact absurd hb1 (by rw [hc6]; decide)
end Go.Proofs.YtcbjmiddangfoaaGreat
/- Signs of sums with two square roots: the reference; differences. -/
namespace Go.Proofs.YtcbjmiddangfoaaGreat
open Go Go.RowKit
theorem ySign_ok {A B C D M N : Rat} (hA : Rz 8 A) (hB : Rz 8 B) (hC : Rz 8 C) (hD : Rz 8 D) (hM : Rz 8 M) (hN : Rz 8 N) : Ok Tryz.prog 10 [.a (cR A ++ cR B ++ cR C ++ cR D ++ cR M ++ cR N)] [.c (.i .i64 (signQ A B C D M N))] := by
  have z1 := prod_bd (plainS_bd C D M) (cmpR_bd N 0)
  have z2 := prod_bd (plainS_bd A B M) (plainS_bd (A * A + B * B * M - N * (C * C + D * D * M)) ((A * B - N * (C * D)) + (A * B - N * (C * D))) M)
  refine Ok.of (by kernel_rfl) Tryz.func10 rfl rfl ?_
  rw [show Tryz.f10.ntmps = 107 from rfl, show Tryz.f10.results.toList = [.tmp 2] from rfl]
  refine dw_seq ?_
  -- region 0
  refine dw_region (by kernel_rfl) ?_
  refine dl_new (sem_box_a rfl rfl) rfl ?_
  refine dl_r (sem_assign rfl rfl) ?_
  refine dl_end ?_
  refine dw_seq ?_
  refine dw_seq ?_
  -- region 1
  refine dw_region (by kernel_rfl) ?_
  refine dl_r (sem_field fd28_4 rfl rfl) ?_
  refine dl_r (sem_load (us := cR M) ty26 rfl rfl rfl rfl rfl) ?_
  refine dl_r (sem_call rfl rfl (sSign_ok) rfl) ?_
  refine dl_r (sem_cmp rfl rfl rfl rfl) ?_
  refine dl_rb (sem_move rfl rfl) (fun c1 hb1 => ?_)
  cases c1
  · have n1 := r_nlt hb1
    refine dl_r (sem_field fd28_5 rfl rfl) ?_
    refine dl_r (sem_load (us := cR N) ty26 rfl rfl rfl rfl rfl) ?_
    refine dl_r (sem_call rfl rfl (sSign_ok) rfl) ?_
    refine dl_r (sem_cmp rfl rfl rfl rfl) ?_
    refine dl_r (sem_pick rfl rfl rfl rfl) ?_
    refine dl_end ?_
    refine dw_cond rfl (fun hc2 => ?_) (fun hc2 => ?_)
    · refine dw_seq ?_
      -- region 2
      refine dw_region (by kernel_rfl) ?_
      refine dl_r (sem_assign rfl rfl) ?_
      refine dl_end ?_
      refine dw_ret ?_
      -- path fT
      rw [signQ_n (.inr (r_lt hc2))]
      exact ⟨.inr rfl, (resL_tmp rfl resL_nil)⟩
    · have n2 := r_nlt hc2
      refine dw_skip ?_
      refine dw_seq ?_
      -- region 3
      refine dw_draw 20 [] follows_mixed (by kernel_rfl) rfl rfl ?_
      refine dq_r (sem_field fd28_0 rfl rfl) ?_
      refine dq_r (sem_load (us := cR A) ty26 rfl rfl rfl rfl rfl) ?_
      refine dq_r (sem_field fd28_1 rfl rfl) ?_
      refine dq_r (sem_load (us := cR B) ty26 rfl rfl rfl rfl rfl) ?_
      refine dq_r (sem_field fd28_4 rfl rfl) ?_
      refine dq_r (sem_load (us := cR M) ty26 rfl rfl rfl rfl rfl) ?_
      refine dq_r (sem_call rfl rfl (yTwo_ok (by first | assumption | exact Rz.mono hA (by decide)) (by first | assumption | exact Rz.mono hB (by decide)) (by first | assumption | exact Rz.mono hM (by decide))) rfl) ?_
      refine dq_r (sem_field fd28_2 rfl rfl) ?_
      refine dq_r (sem_load (us := cR C) ty26 rfl rfl rfl rfl rfl) ?_
      refine dq_r (sem_field fd28_3 rfl rfl) ?_
      refine dq_r (sem_load (us := cR D) ty26 rfl rfl rfl rfl rfl) ?_
      refine dq_r (sem_field fd28_4 rfl rfl) ?_
      refine dq_r (sem_load (us := cR M) ty26 rfl rfl rfl rfl rfl) ?_
      refine dq_r (sem_call rfl rfl (yTwo_ok (by first | assumption | exact Rz.mono hC (by decide)) (by first | assumption | exact Rz.mono hD (by decide)) (by first | assumption | exact Rz.mono hM (by decide))) rfl) ?_
      refine dq_r (sem_field fd28_5 rfl rfl) ?_
      refine dq_r (sem_load (us := cR N) ty26 rfl rfl rfl rfl rfl) ?_
      refine dq_r (sem_call rfl rfl (sSign_ok) rfl) ?_
      refine dq_r (sem_ari (r := (plainS C D M) * (cmpR N 0)) rfl rfl (ari_i64_mul (by omega) (by omega)) rfl) ?_
      refine dq_r (sem_assign rfl rfl) ?_
      refine dq_r (sem_assign rfl rfl) ?_
      refine dq_end ?_
      refine dl_start0 ?_
      refine dl_end ?_
      refine dw_seq ?_
      refine dw_seq ?_
      -- region 4
      refine dw_region (by kernel_rfl) ?_
      refine dl_r (sem_move rfl rfl) ?_
      refine dl_r (sem_cmp rfl rfl rfl rfl) ?_
      refine dl_rb (sem_move rfl rfl) (fun c3 hb3 => ?_)
      cases c3
      · refine dl_r (sem_move rfl rfl) ?_
        refine dl_r (sem_cmp rfl rfl rfl rfl) ?_
        refine dl_r (sem_pick rfl rfl rfl rfl) ?_
        refine dl_rb (sem_move rfl rfl) (fun c4 hb4 => ?_)
        cases c4
        · refine dl_r (sem_move rfl rfl) ?_
          refine dl_r (sem_move rfl rfl) ?_
          refine dl_r (sem_cmp rfl rfl rfl rfl) ?_
          refine dl_r (sem_pick rfl rfl rfl rfl) ?_
          refine dl_end ?_
          refine dw_cond rfl (fun hc5 => ?_) (fun hc5 => ?_)
          · refine dw_seq ?_
            refine dw_seq ?_
            -- region 5
            refine dw_region (by kernel_rfl) ?_
            refine dl_r (sem_move rfl rfl) ?_
            refine dl_r (sem_cmp rfl rfl rfl rfl) ?_
            refine dl_end ?_
            refine dw_cond rfl (fun hc6 => ?_) (fun hc6 => ?_)
            · exact absurd hc6 (by rw [hb3]; decide)
            · refine dw_skip ?_
              refine dw_seq ?_
              -- region 7
              refine dw_region (by kernel_rfl) ?_
              refine dl_r (sem_move rfl rfl) ?_
              refine dl_r (sem_assign rfl rfl) ?_
              refine dl_end ?_
              refine dw_ret ?_
              -- path fFffTF
              rw [signQ_p n1 n2, comb_eq hc5]
              exact ⟨.inr rfl, (resL_tmp rfl resL_nil)⟩
          · refine dw_skip ?_
            refine dw_seq ?_
            -- region 8
            refine dw_draw 18 [] follows_mixed (by kernel_rfl) rfl rfl ?_
            refine dq_r (sem_field fd28_5 rfl rfl) ?_
            refine dq_r (sem_load (us := cR N) ty26 rfl rfl rfl rfl rfl) ?_
            refine dq_r (sem_field fd28_2 rfl rfl) ?_
            refine dq_r (sem_load (us := cR C) ty26 rfl rfl rfl rfl rfl) ?_
            refine dq_r (sem_field fd28_2 rfl rfl) ?_
            refine dq_r (sem_load (us := cR C) ty26 rfl rfl rfl rfl rfl) ?_
            refine dq_r (sem_call rfl rfl (sMul_ok (by first | assumption | exact Rz.mono hC (by decide)) (by first | assumption | exact Rz.mono hC (by decide))) rfl) ?_
            refine dq_r (sem_field fd28_3 rfl rfl) ?_
            refine dq_r (sem_load (us := cR D) ty26 rfl rfl rfl rfl rfl) ?_
            refine dq_r (sem_field fd28_3 rfl rfl) ?_
            refine dq_r (sem_load (us := cR D) ty26 rfl rfl rfl rfl rfl) ?_
            refine dq_r (sem_call rfl rfl (sMul_ok (by first | assumption | exact Rz.mono hD (by decide)) (by first | assumption | exact Rz.mono hD (by decide))) rfl) ?_
            refine dq_r (sem_field fd28_4 rfl rfl) ?_
            refine dq_r (sem_load (us := cR M) ty26 rfl rfl rfl rfl rfl) ?_
            refine dq_r (sem_call rfl rfl (sMul_ok (by first | assumption | exact Rz.mono (Rz.mul hD hD) (by decide)) (by first | assumption | exact Rz.mono hM (by decide))) rfl) ?_
            refine dq_r (sem_call rfl rfl (sAdd_ok (by first | assumption | exact Rz.mono (Rz.mul hC hC) (by decide)) (by first | assumption | exact Rz.mono (Rz.mul (Rz.mul hD hD) hM) (by decide))) rfl) ?_
            refine dq_r (sem_call rfl rfl (sMul_ok (by first | assumption | exact Rz.mono hN (by decide)) (by first | assumption | exact Rz.mono (Rz.add (Rz.mul hC hC) (Rz.mul (Rz.mul hD hD) hM)) (by decide))) rfl) ?_
            refine dq_new (sem_alloc zc26 rfl) rfl ?_
            refine dq_end ?_
            refine dl_start1 ?_
            refine dl_st (sem_store_a ty26 rfl rfl rfl rfl rfl rfl) ?_
            refine dl_end ?_
            refine dw_seq ?_
            -- region 9
            refine dw_draw 17 [] follows_mixed (by kernel_rfl) rfl rfl ?_
            refine dq_r (sem_field fd28_0 rfl rfl) ?_
            refine dq_r (sem_load (us := cR A) ty26 rfl rfl rfl rfl rfl) ?_
            refine dq_r (sem_field fd28_0 rfl rfl) ?_
            refine dq_r (sem_load (us := cR A) ty26 rfl rfl rfl rfl rfl) ?_
            refine dq_r (sem_call rfl rfl (sMul_ok (by first | assumption | exact Rz.mono hA (by decide)) (by first | assumption | exact Rz.mono hA (by decide))) rfl) ?_
            refine dq_r (sem_field fd28_1 rfl rfl) ?_
            refine dq_r (sem_load (us := cR B) ty26 rfl rfl rfl rfl rfl) ?_
            refine dq_r (sem_field fd28_1 rfl rfl) ?_
            refine dq_r (sem_load (us := cR B) ty26 rfl rfl rfl rfl rfl) ?_
            refine dq_r (sem_call rfl rfl (sMul_ok (by first | assumption | exact Rz.mono hB (by decide)) (by first | assumption | exact Rz.mono hB (by decide))) rfl) ?_
            refine dq_r (sem_field fd28_4 rfl rfl) ?_
            refine dq_r (sem_load (us := cR M) ty26 rfl rfl rfl rfl rfl) ?_
            refine dq_r (sem_call rfl rfl (sMul_ok (by first | assumption | exact Rz.mono (Rz.mul hB hB) (by decide)) (by first | assumption | exact Rz.mono hM (by decide))) rfl) ?_
            refine dq_r (sem_call rfl rfl (sAdd_ok (by first | assumption | exact Rz.mono (Rz.mul hA hA) (by decide)) (by first | assumption | exact Rz.mono (Rz.mul (Rz.mul hB hB) hM) (by decide))) rfl) ?_
            refine dq_r (sem_load (us := cR (N * ((C * C) + ((D * D) * M)))) ty26 rfl rfl rfl rfl rfl) ?_
            refine dq_r (sem_call rfl rfl (sSub_ok (by first | assumption | exact Rz.mono (Rz.add (Rz.mul hA hA) (Rz.mul (Rz.mul hB hB) hM)) (by decide)) (by first | assumption | exact Rz.mono (Rz.mul hN (Rz.add (Rz.mul hC hC) (Rz.mul (Rz.mul hD hD) hM))) (by decide))) rfl) ?_
            refine dq_new (sem_alloc zc26 rfl) rfl ?_
            refine dq_end ?_
            refine dl_start1 ?_
            refine dl_st (sem_store_a ty26 rfl rfl rfl rfl rfl rfl) ?_
            refine dl_end ?_
            refine dw_seq ?_
            -- region 10
            refine dw_draw 15 [] follows_mixed (by kernel_rfl) rfl rfl ?_
            refine dq_r (sem_field fd28_0 rfl rfl) ?_
            refine dq_r (sem_load (us := cR A) ty26 rfl rfl rfl rfl rfl) ?_
            refine dq_r (sem_field fd28_1 rfl rfl) ?_
            refine dq_r (sem_load (us := cR B) ty26 rfl rfl rfl rfl rfl) ?_
            refine dq_r (sem_call rfl rfl (sMul_ok (by first | assumption | exact Rz.mono hA (by decide)) (by first | assumption | exact Rz.mono hB (by decide))) rfl) ?_
            refine dq_r (sem_field fd28_5 rfl rfl) ?_
            refine dq_r (sem_load (us := cR N) ty26 rfl rfl rfl rfl rfl) ?_
            refine dq_r (sem_field fd28_2 rfl rfl) ?_
            refine dq_r (sem_load (us := cR C) ty26 rfl rfl rfl rfl rfl) ?_
            refine dq_r (sem_field fd28_3 rfl rfl) ?_
            refine dq_r (sem_load (us := cR D) ty26 rfl rfl rfl rfl rfl) ?_
            refine dq_r (sem_call rfl rfl (sMul_ok (by first | assumption | exact Rz.mono hC (by decide)) (by first | assumption | exact Rz.mono hD (by decide))) rfl) ?_
            refine dq_r (sem_call rfl rfl (sMul_ok (by first | assumption | exact Rz.mono hN (by decide)) (by first | assumption | exact Rz.mono (Rz.mul hC hD) (by decide))) rfl) ?_
            refine dq_r (sem_call rfl rfl (sSub_ok (by first | assumption | exact Rz.mono (Rz.mul hA hB) (by decide)) (by first | assumption | exact Rz.mono (Rz.mul hN (Rz.mul hC hD)) (by decide))) rfl) ?_
            refine dq_new (sem_alloc zc26 rfl) rfl ?_
            refine dq_end ?_
            refine dl_start1 ?_
            refine dl_st (sem_store_a ty26 rfl rfl rfl rfl rfl rfl) ?_
            refine dl_end ?_
            refine dw_seq ?_
            -- region 11
            refine dw_draw 10 [] follows_mixed (by kernel_rfl) rfl rfl ?_
            refine dq_r (sem_move rfl rfl) ?_
            refine dq_r (sem_load (us := cR (((A * A) + ((B * B) * M)) - (N * ((C * C) + ((D * D) * M))))) ty26 rfl rfl rfl rfl rfl) ?_
            refine dq_r (sem_load (us := cR ((A * B) - (N * (C * D)))) ty26 rfl rfl rfl rfl rfl) ?_
            refine dq_r (sem_load (us := cR ((A * B) - (N * (C * D)))) ty26 rfl rfl rfl rfl rfl) ?_
            refine dq_r (sem_call rfl rfl (sAdd_ok (by first | assumption | exact Rz.mono (Rz.sub (Rz.mul hA hB) (Rz.mul hN (Rz.mul hC hD))) (by decide)) (by first | assumption | exact Rz.mono (Rz.sub (Rz.mul hA hB) (Rz.mul hN (Rz.mul hC hD))) (by decide))) rfl) ?_
            refine dq_r (sem_field fd28_4 rfl rfl) ?_
            refine dq_r (sem_load (us := cR M) ty26 rfl rfl rfl rfl rfl) ?_
            refine dq_r (sem_call rfl rfl (yTwo_ok (by first | assumption | exact Rz.mono (Rz.sub (Rz.add (Rz.mul hA hA) (Rz.mul (Rz.mul hB hB) hM)) (Rz.mul hN (Rz.add (Rz.mul hC hC) (Rz.mul (Rz.mul hD hD) hM)))) (by decide)) (by first | assumption | exact Rz.mono (Rz.add (Rz.sub (Rz.mul hA hB) (Rz.mul hN (Rz.mul hC hD))) (Rz.sub (Rz.mul hA hB) (Rz.mul hN (Rz.mul hC hD)))) (by decide)) (by first | assumption | exact Rz.mono hM (by decide))) rfl) ?_
            refine dq_r (sem_ari (r := (plainS A B M) * (plainS (((A * A) + ((B * B) * M)) - (N * ((C * C) + ((D * D) * M)))) (((A * B) - (N * (C * D))) + ((A * B) - (N * (C * D)))) M)) rfl rfl (ari_i64_mul (by omega) (by omega)) rfl) ?_
            refine dq_r (sem_assign rfl rfl) ?_
            refine dq_end ?_
            refine dl_start0 ?_
            refine dl_end ?_
            refine dw_ret ?_
            -- path fFffF
            rw [signQ_p n1 n2, comb_ne hb3 hb4 hc5]
            exact ⟨.inr rfl, (resL_tmp rfl resL_nil)⟩
        · refine dl_skip (sem_skip rfl) ?_
          refine dl_skip (sem_skip rfl) ?_
          refine dl_skip (sem_skip rfl) ?_
          refine dl_r (sem_pick rfl rfl rfl rfl) ?_
          refine dl_end ?_
          refine dw_true rfl ?_
          refine dw_seq ?_
          refine dw_seq ?_
          -- region 5
          refine dw_region (by kernel_rfl) ?_
          refine dl_r (sem_move rfl rfl) ?_
          refine dl_r (sem_cmp rfl rfl rfl rfl) ?_
          refine dl_end ?_
          refine dw_cond rfl (fun hc7 => ?_) (fun hc7 => ?_)
          · exact absurd hc7 (by rw [hb3]; decide)
          · refine dw_skip ?_
            refine dw_seq ?_
            -- region 7
            refine dw_region (by kernel_rfl) ?_
            refine dl_r (sem_move rfl rfl) ?_
            refine dl_r (sem_assign rfl rfl) ?_
            refine dl_end ?_
            refine dw_ret ?_
            -- path fFftF
            rw [signQ_p n1 n2, comb_t0 hb4]
            exact ⟨.inr rfl, (resL_tmp rfl resL_nil)⟩
      · refine dl_skip (sem_skip rfl) ?_
        refine dl_skip (sem_skip rfl) ?_
        refine dl_r (sem_pick rfl rfl rfl rfl) ?_
        refine dl_r (sem_move rfl rfl) ?_
        refine dl_skip (sem_skip rfl) ?_
        refine dl_skip (sem_skip rfl) ?_
        refine dl_skip (sem_skip rfl) ?_
        refine dl_r (sem_pick rfl rfl rfl rfl) ?_
        refine dl_end ?_
        refine dw_true rfl ?_
        refine dw_seq ?_
        refine dw_seq ?_
        -- region 5
        refine dw_region (by kernel_rfl) ?_
        refine dl_r (sem_move rfl rfl) ?_
        refine dl_r (sem_cmp rfl rfl rfl rfl) ?_
        refine dl_end ?_
        refine dw_cond rfl (fun hc8 => ?_) (fun hc8 => ?_)
        · refine dw_seq ?_
          -- region 6
          refine dw_region (by kernel_rfl) ?_
          refine dl_r (sem_move rfl rfl) ?_
          refine dl_r (sem_assign rfl rfl) ?_
          refine dl_end ?_
          refine dw_ret ?_
          -- path fFtT
          rw [signQ_p n1 n2, comb_s0 hb3]
          exact ⟨.inr rfl, (resL_tmp rfl resL_nil)⟩
        · exact absurd hb3 (by rw [hc8]; decide)
  · refine dl_skip (sem_skip rfl) ?_
    refine dl_skip (sem_skip rfl) ?_
    refine dl_skip (sem_skip rfl) ?_
    refine dl_skip (sem_skip rfl) ?_
    refine dl_r (sem_pick rfl rfl rfl rfl) ?_
    refine dl_end ?_
    refine dw_true rfl ?_
    refine dw_seq ?_
    -- region 2
    refine dw_region (by kernel_rfl) ?_
    refine dl_r (sem_assign rfl rfl) ?_
    refine dl_end ?_
    refine dw_ret ?_
    -- path t
    rw [signQ_n (.inl (r_lt hb1))]
    exact ⟨.inr rfl, (resL_tmp rfl resL_nil)⟩
-- no function swarf/swarfref05.Sub in this seat
-- no function swarf/swarfref05.Cmp in this seat
theorem xCopied_ok {a : Rat} (ha : Rz 300 a) : Ok Tryz.prog 73 [dR a] [dR a] := by
  refine Ok.of (by kernel_rfl) Tryz.func73 rfl rfl ?_
  rw [show Tryz.f73.ntmps = 6 from rfl, show Tryz.f73.results.toList = [.cell 2 26] from rfl]
  refine dw_seq ?_
  -- region 0
  refine dw_region (by kernel_rfl) ?_
  refine dl_new (sem_box_a rfl rfl) rfl ?_
  refine dl_new (sem_alloc zc26 rfl) rfl ?_
  refine dl_end ?_
  refine dw_seq ?_
  -- region 1
  refine dw_region (by kernel_rfl) ?_
  refine dl_r (sem_load (us := cR a) ty26 rfl rfl rfl rfl rfl) ?_
  refine dl_r (sem_call rfl rfl (pNeg_ok (by first | assumption | exact Rz.mono ha (by decide))) rfl) ?_
  refine dl_r (sem_call rfl rfl (pNeg_ok (by first | assumption | exact Rz.mono (Rz.neg ha) (by decide))) rfl) ?_
  refine dl_st (sem_store_a ty26 rfl rfl rfl rfl rfl rfl) ?_
  refine dl_end ?_
  refine dw_ret ?_
  -- path 
  have hfin : dR a = dR (-(-a)) := by rw [Rat.neg_neg]
  rw [hfin]
  exact ⟨.inr rfl, (resL_cell (us := cR (-(-a))) ty26 rfl rfl rfl rfl resL_nil)⟩
theorem xSub_ok {a b c d e f : Rat} (ha : Rz 300 a) (hb : Rz 300 b) (hc : Rz 300 c) (hd : Rz 300 d) (he : Rz 300 e) (hf : Rz 300 f) : Ok Tryz.prog 42 [.a (cR a ++ cR b ++ cR c), .a (cR d ++ cR e ++ cR f)] [.a (cR (a - d) ++ cR b ++ cR (-e) ++ cR 0 ++ cR c ++ cR f)] := by
  refine Ok.of (by kernel_rfl) Tryz.func42 rfl rfl ?_
  rw [show Tryz.f42.ntmps = 24 from rfl, show Tryz.f42.results.toList = [.cell 4 28] from rfl]
  refine dw_seq ?_
  -- region 0
  refine dw_region (by kernel_rfl) ?_
  refine dl_new (sem_box_a rfl rfl) rfl ?_
  refine dl_new (sem_box_a rfl rfl) rfl ?_
  refine dl_new (sem_alloc zc28 rfl) rfl ?_
  refine dl_end ?_
  refine dw_seq ?_
  -- region 1
  refine dw_draw 19 [] follows_mixed (by kernel_rfl) rfl rfl ?_
  refine dq_r (sem_field fd39_0 rfl rfl) ?_
  refine dq_r (sem_load (us := cR a) ty26 rfl rfl rfl rfl rfl) ?_
  refine dq_r (sem_field fd39_0 rfl rfl) ?_
  refine dq_r (sem_load (us := cR d) ty26 rfl rfl rfl rfl rfl) ?_
  refine dq_r (sem_call rfl rfl (pSub_ok (by first | assumption | exact Rz.mono ha (by decide)) (by first | assumption | exact Rz.mono hd (by decide))) rfl) ?_
  refine dq_r (sem_field fd39_1 rfl rfl) ?_
  refine dq_r (sem_load (us := cR b) ty26 rfl rfl rfl rfl rfl) ?_
  refine dq_r (sem_call rfl rfl (xCopied_ok (by first | assumption | exact Rz.mono hb (by decide))) rfl) ?_
  refine dq_r (sem_field fd39_1 rfl rfl) ?_
  refine dq_r (sem_load (us := cR e) ty26 rfl rfl rfl rfl rfl) ?_
  refine dq_r (sem_call rfl rfl (pNeg_ok (by first | assumption | exact Rz.mono he (by decide))) rfl) ?_
  refine dq_r (sem_call rfl rfl ((show Ok Tryz.prog 45 [.c (.i .i64 0)] [dR 0] from pFrom_ok (by omega) (by omega))) rfl) ?_
  refine dq_r (sem_field fd39_2 rfl rfl) ?_
  refine dq_r (sem_load (us := cR c) ty26 rfl rfl rfl rfl rfl) ?_
  refine dq_r (sem_call rfl rfl (xCopied_ok (by first | assumption | exact Rz.mono hc (by decide))) rfl) ?_
  refine dq_r (sem_field fd39_2 rfl rfl) ?_
  refine dq_r (sem_load (us := cR f) ty26 rfl rfl rfl rfl rfl) ?_
  refine dq_r (sem_call rfl rfl (xCopied_ok (by first | assumption | exact Rz.mono hf (by decide))) rfl) ?_
  refine dq_r (sem_build (us := (cR (a - d) ++ cR b ++ cR (-e) ++ cR 0 ++ cR c ++ cR f)) fs28 zc28 rfl rfl rfl) ?_
  refine dq_end ?_
  refine dl_start0 ?_
  refine dl_st (sem_store_a ty28 rfl rfl rfl rfl rfl rfl) ?_
  refine dl_end ?_
  refine dw_ret ?_
  -- path 
  exact ⟨.inr rfl, (resL_cell (us := (cR (a - d) ++ cR b ++ cR (-e) ++ cR 0 ++ cR c ++ cR f)) ty28 rfl rfl rfl rfl resL_nil)⟩
end Go.Proofs.YtcbjmiddangfoaaGreat
/- Steps: the greater and the lesser of two numbers; shifts by a constant. -/
namespace Go.Proofs.YtcbjmiddangfoaaGreat
open Go Go.RowKit
section
variable {P : Program} {ops : Array Oper} {T : TF} {B : BF}
theorem sem_shr {dst : Option Nat} {xt yt : TypeId} {x y : Operand} {ty : TypeId} {pos : String} {af : Array Edge} {g : Option (Nat × Bool)} {k yk : IntKind} {m n r : Int}
    (hx : opd T x = some (.v (.c (.i k m)))) (hy : opd T y = some (.v (.c (.i yk n)))) (h0 : ¬ n < 0) (hr : m.fdiv (2 ^ (min n.toNat k.bits)) = r) (hg : gd ops ⟨dst, .binOp .shr xt x y yt, ty, pos, af, g⟩ T = some true) :
    Sem P ops ⟨dst, .binOp .shr xt x y yt, ty, pos, af, g⟩ T B (.r (.v (.c (.i k r)))) :=
  sem_pure hg (nop rfl) (fun V β a w hs => by
      have e1 : a.eval x = .int k m := RdC.int_eq (opd_reads hs (x := x) (by simp [Op.operands]) hx)
      have e2 : a.eval y = .int yk n := RdC.int_eq (opd_reads hs (x := y) (by simp [Op.operands]) hy)
      subst hr
      exact ⟨.int k (m.fdiv (2 ^ (min n.toNat k.bits))), by simp [execOp, e1, e2, eqGuard, binOp, Op.shift, h0], .i _ _⟩)
theorem sem_shl {dst : Option Nat} {xt yt : TypeId} {x y : Operand} {ty : TypeId} {pos : String} {af : Array Edge} {g : Option (Nat × Bool)} {k yk : IntKind} {m n r : Int}
    (hx : opd T x = some (.v (.c (.i k m)))) (hy : opd T y = some (.v (.c (.i yk n)))) (h0 : ¬ n < 0) (hr : k.wrap (m * 2 ^ (min n.toNat k.bits)) = r) (hg : gd ops ⟨dst, .binOp .shl xt x y yt, ty, pos, af, g⟩ T = some true) :
    Sem P ops ⟨dst, .binOp .shl xt x y yt, ty, pos, af, g⟩ T B (.r (.v (.c (.i k r)))) :=
  sem_pure hg (nop rfl) (fun V β a w hs => by
      have e1 : a.eval x = .int k m := RdC.int_eq (opd_reads hs (x := x) (by simp [Op.operands]) hx)
      have e2 : a.eval y = .int yk n := RdC.int_eq (opd_reads hs (x := y) (by simp [Op.operands]) hy)
      subst hr
      exact ⟨.int k (k.wrap (m * 2 ^ (min n.toNat k.bits))), by simp [execOp, e1, e2, eqGuard, binOp, Op.shift, h0], .i _ _⟩)
theorem sem_max {dst : Option Nat} {x y : Operand} {t1 t2 : TypeId} {ty : TypeId} {pos : String} {af : Array Edge} {g : Option (Nat × Bool)} {k : IntKind} {m n : Int}
    (hx : opd T x = some (.v (.c (.i k m)))) (hy : opd T y = some (.v (.c (.i k n)))) (hg : gd ops ⟨dst, .call ⟨.builtin .max, #[x, y], #[t1, t2]⟩, ty, pos, af, g⟩ T = some true) :
    Sem P ops ⟨dst, .call ⟨.builtin .max, #[x, y], #[t1, t2]⟩, ty, pos, af, g⟩ T B (.r (.v (.c (.i k (max m n))))) :=
  sem_pure hg (nop rfl) (fun V β a w hs => by
    have e1 : a.eval x = .int k m := RdC.int_eq (opd_reads hs (x := x) (by simp [Op.operands, Call.operands]) hx)
    have e2 : a.eval y = .int k n := RdC.int_eq (opd_reads hs (x := y) (by simp [Op.operands, Call.operands]) hy)
    refine ⟨.int k (max m n), ?_, .i _ _⟩
    simp [execOp, resolve, invoke, builtin, Builtin.max_, Builtin.max2, e1, e2]
    split <;> omega)
theorem sem_min {dst : Option Nat} {x y : Operand} {t1 t2 : TypeId} {ty : TypeId} {pos : String} {af : Array Edge} {g : Option (Nat × Bool)} {k : IntKind} {m n : Int}
    (hx : opd T x = some (.v (.c (.i k m)))) (hy : opd T y = some (.v (.c (.i k n)))) (hg : gd ops ⟨dst, .call ⟨.builtin .min, #[x, y], #[t1, t2]⟩, ty, pos, af, g⟩ T = some true) :
    Sem P ops ⟨dst, .call ⟨.builtin .min, #[x, y], #[t1, t2]⟩, ty, pos, af, g⟩ T B (.r (.v (.c (.i k (min m n))))) :=
  sem_pure hg (nop rfl) (fun V β a w hs => by
    have e1 : a.eval x = .int k m := RdC.int_eq (opd_reads hs (x := x) (by simp [Op.operands, Call.operands]) hx)
    have e2 : a.eval y = .int k n := RdC.int_eq (opd_reads hs (x := y) (by simp [Op.operands, Call.operands]) hy)
    refine ⟨.int k (min m n), ?_, .i _ _⟩
    simp [execOp, resolve, invoke, builtin, Builtin.min_, Builtin.min2, e1, e2]
    split <;> omega)
end
/-- the ends of the root of an interval -/
def sqLo (x : Int) : Int := isqI (max x 0 * 65536)
def sqHi (y : Int) : Int := if sqI (y * 65536) then isqI (y * 65536) else isqI (y * 65536) + 1
theorem isq_bd {n : Int} (h0 : 0 ≤ n) (h1 : n ≤ 2305843009213693952) : 0 ≤ isqI (n * 65536) ∧ isqI (n * 65536) ≤ 549755813888 := by
  refine ⟨isqI_nonneg _, ?_⟩
  have h2 := isqI_le (x := n * 65536) (by omega)
  by_cases h : isqI (n * 65536) ≤ 549755813888
  · exact h
  · have := sq_le (a := 549755813889) (b := isqI (n * 65536)) (by decide) (by omega)
    omega
theorem fit_small {x : Int} (h0 : -4611686018427387904 ≤ x) (h1 : x ≤ 4611686018427387904) : fitB x = true := fit_iff.2 ⟨by omega, by omega⟩
theorem ok_small {lo hi : Int} (h0 : -2305843009213693952 ≤ lo) (h1 : hi ≤ 2305843009213693952) : okI lo hi = true := ok_in (by omega) (by omega)
end Go.Proofs.YtcbjmiddangfoaaGreat
/- Package filter: FromRat. -/
namespace Go.Proofs.YtcbjmiddangfoaaGreat
open Go Go.RowKit
theorem fFromRat_ok {a : Rat} (ha : Rz 200 a) : Ok Tryz.prog 58 [dR a] [.a ([.i .i64 (if frOk a then frLo a else 0)] ++ [.i .i64 (if frOk a then frHi a else 0)]), .c (.b (frOk a))] := by
  have hz : Rz 300 (a * ((65536 : Int) : Rat)) := (Rz.mul ha (Rz.int (Sz.small (k := 3) (by decide) (by decide) (by decide)) (by decide))).mono (by decide)
  have ha3 : Rz 300 a := ha.mono (by decide)
  have h65 : Rz 300 ((65536 : Int) : Rat) := (Rz.int (Sz.small (k := 3) (by decide) (by decide) (by decide)) (by decide)).mono (by decide)
  have hzn : Rz 300 (-(a * ((65536 : Int) : Rat))) := hz.neg
  have hs1 : Sz 1000000 (frLo a) := (Sz.fdiv hz.n).mono (by decide)
  have hs2 : Sz 1000000 ((-(a * ((65536 : Int) : Rat))).num.fdiv ((-(a * ((65536 : Int) : Rat))).den : Int)) := (Sz.fdiv hzn.n).mono (by decide)
  have hs3 : Sz 1000000 (frHi a) := hs2.neg
  have hf1 : Ok Tryz.prog 93 [dR (a * ((65536 : Int) : Rat))] [dI (frLo a)] := pFloor_ok hz
  have hf3 : Ok Tryz.prog 80 [dI ((-(a * ((65536 : Int) : Rat))).num.fdiv ((-(a * ((65536 : Int) : Rat))).den : Int))] [dI (frHi a)] := iNeg_ok hs2
  refine Ok.of (by kernel_rfl) Tryz.func58 rfl rfl ?_
  rw [show Tryz.f58.ntmps = 38 from rfl, show Tryz.f58.results.toList = [.cell 2 80, .tmp 3] from rfl]
  refine dw_seq ?_
  -- region 0
  refine dw_region (by kernel_rfl) ?_
  refine dl_new (sem_box_a rfl rfl) rfl ?_
  refine dl_new (sem_alloc zc80 rfl) rfl ?_
  refine dl_r (sem_assign rfl rfl) ?_
  refine dl_end ?_
  refine dw_seq ?_
  -- region 1
  refine dw_draw 4 [] follows_mixed (by kernel_rfl) rfl rfl ?_
  refine dq_r (sem_load (us := cR a) ty26 rfl rfl rfl rfl rfl) ?_
  refine dq_r (sem_call rfl rfl (pFrom_ok (by omega) (by omega)) rfl) ?_
  refine dq_r (sem_call rfl rfl (pMul_ok (by first | assumption | exact Rz.mono (by assumption) (by decide)) (by first | assumption | exact Rz.mono (Rz.int (Sz.small (k := 3) (by decide) (by decide) (by decide)) (by decide)) (by decide))) rfl) ?_
  refine dq_new (sem_alloc zc26 rfl) rfl ?_
  refine dq_end ?_
  refine dl_start1 ?_
  refine dl_st (sem_store_a ty26 rfl rfl rfl rfl rfl rfl) ?_
  refine dl_end ?_
  refine dw_seq ?_
  -- region 2
  refine dw_region (by kernel_rfl) ?_
  refine dl_r (sem_load (us := cR (a * (((65536 : Int) : Rat)))) ty26 rfl rfl rfl rfl rfl) ?_
  refine dl_r (sem_call rfl rfl (hf1) rfl) ?_
  refine dl_r (sem_call rfl rfl (iInt64_ok (by first | assumption | exact Sz.mono (by assumption) (by decide))) rfl) ?_
  refine dl_r (sem_move rfl rfl) ?_
  refine dl_r (sem_extract rfl rfl rfl) ?_
  refine dl_r (sem_extract rfl rfl rfl) ?_
  refine dl_r (sem_assign rfl rfl) ?_
  refine dl_r (sem_assign rfl rfl) ?_
  refine dl_end ?_
  refine dw_seq ?_
  -- region 3
  refine dw_region (by kernel_rfl) ?_
  refine dl_r (sem_load (us := cR (a * (((65536 : Int) : Rat)))) ty26 rfl rfl rfl rfl rfl) ?_
  refine dl_r (sem_call rfl rfl (pNeg_ok (by first | assumption | exact Rz.mono (Rz.mul (by assumption) (Rz.int (Sz.small (k := 3) (by decide) (by decide) (by decide)) (by decide))) (by decide))) rfl) ?_
  refine dl_r (sem_call rfl rfl (pFloor_ok hzn) rfl) ?_
  refine dl_r (sem_call rfl rfl (hf3) rfl) ?_
  refine dl_r (sem_call rfl rfl (iInt64_ok (by first | assumption | exact Sz.mono (by assumption) (by decide))) rfl) ?_
  refine dl_r (sem_move rfl rfl) ?_
  refine dl_r (sem_extract rfl rfl rfl) ?_
  refine dl_r (sem_extract rfl rfl rfl) ?_
  refine dl_r (sem_assign rfl rfl) ?_
  refine dl_r (sem_assign rfl rfl) ?_
  refine dl_end ?_
  refine dw_seq ?_
  refine dw_seq ?_
  -- region 4
  refine dw_region (by kernel_rfl) ?_
  refine dl_r (sem_move rfl rfl) ?_
  refine dl_r (sem_not rfl rfl) ?_
  refine dl_rb (sem_move rfl rfl) (fun c1 hb1 => ?_)
  cases c1
  · refine dl_r (sem_move rfl rfl) ?_
    refine dl_r (sem_not rfl rfl) ?_
    refine dl_r (sem_pick rfl rfl rfl rfl) ?_
    refine dl_end ?_
    refine dw_cond rfl (fun hc2 => ?_) (fun hc2 => ?_)
    · refine dw_seq ?_
      -- region 5
      refine dw_region (by kernel_rfl) ?_
      refine dl_r (sem_build (us := ([.i .i64 0] ++ [.i .i64 0])) fs80 zc80 rfl rfl rfl) ?_
      refine dl_st (sem_store_a ty80 rfl rfl rfl rfl rfl rfl) ?_
      refine dl_r (sem_assign rfl rfl) ?_
      refine dl_end ?_
      refine dw_ret ?_
      -- path fT
      rw [show frOk a = false from by unfold frOk; rw [not_t hc2, Bool.false_and, Bool.and_false], if_neg (by decide), if_neg (by decide)]
      exact ⟨.inr rfl, (resL_cell (us := ([.i .i64 0] ++ [.i .i64 0])) ty80 rfl rfl rfl rfl (resL_tmp rfl resL_nil))⟩
    · have e1 := not_f hb1
      have e2 := not_f hc2
      refine Dw.weak (σ' := ⟨38, [(2, .p 2 0), (5, .v (.c (.i .i64 (frLo a)))), (7, .v (.c (.i .i64 (frHi a))))], [(2, 80, ([.i .i64 0] ++ [.i .i64 0]))]⟩) (sub_of ⟨rfl, by rw [if_pos e1]; rfl, by rw [if_pos e2]; rfl, trivial⟩ ⟨rfl, trivial⟩ rfl) ?_
      refine dw_skip ?_
      refine dw_seq ?_
      -- region 6
      refine dw_region (by kernel_rfl) ?_
      refine dl_r (sem_move rfl rfl) ?_
      refine dl_r (sem_move rfl rfl) ?_
      refine dl_r (sem_call rfl rfl (fProper_ok) rfl) ?_
      refine dl_r (sem_extract rfl rfl rfl) ?_
      refine dl_r (sem_extract rfl rfl rfl) ?_
      refine dl_st (sem_store_a ty80 rfl rfl rfl rfl rfl rfl) ?_
      refine dl_r (sem_assign rfl rfl) ?_
      refine dl_end ?_
      refine dw_ret ?_
      -- path fF
      rw [show frOk a = okI (frLo a) (frHi a) from by unfold frOk; rw [e1, e2]; rfl]
      exact ⟨.inr rfl, (resL_cell (us := ([.i .i64 (if okI (frLo a) (frHi a) then (frLo a) else 0)] ++ [.i .i64 (if okI (frLo a) (frHi a) then (frHi a) else 0)])) ty80 rfl rfl rfl rfl (resL_tmp rfl resL_nil))⟩
  · refine dl_skip (sem_skip rfl) ?_
    refine dl_skip (sem_skip rfl) ?_
    refine dl_r (sem_pick rfl rfl rfl rfl) ?_
    refine dl_end ?_
    refine dw_true rfl ?_
    refine dw_seq ?_
    -- region 5
    refine dw_region (by kernel_rfl) ?_
    refine dl_r (sem_build (us := ([.i .i64 0] ++ [.i .i64 0])) fs80 zc80 rfl rfl rfl) ?_
    refine dl_st (sem_store_a ty80 rfl rfl rfl rfl rfl rfl) ?_
    refine dl_r (sem_assign rfl rfl) ?_
    refine dl_end ?_
    refine dw_ret ?_
    -- path t
    rw [show frOk a = false from by unfold frOk; rw [not_t hb1]; rfl, if_neg (by decide), if_neg (by decide)]
    exact ⟨.inr rfl, (resL_cell (us := ([.i .i64 0] ++ [.i .i64 0])) ty80 rfl rfl rfl rfl (resL_tmp rfl resL_nil))⟩
end Go.Proofs.YtcbjmiddangfoaaGreat
/- Package filter: root, Sqrt, Add, abs. -/
namespace Go.Proofs.YtcbjmiddangfoaaGreat
open Go Go.RowKit
theorem fRoot_ok {n : Int} (h0 : 0 ≤ n) (h1 : n ≤ 2305843009213693952) : Ok Tryz.prog 90 [.c (.i .i64 n)] [.c (.i .i64 (isqI (n * 65536))), .c (.b (sqI (n * 65536)))] := by
  have z1 : Sz 1000000 n := Sz.small (by decide) (by omega) (by omega)
  have z2 : Sz 1000000 (65536 : Int) := Sz.small (by decide) (by decide) (by decide)
  have z4 : Sz 3 (n * 65536) := ⟨by have : pw 3 = 1000000000000000000000000000 := by decide
                                    omega, by have : pw 3 = 1000000000000000000000000000 := by decide
                                              omega⟩
  have z5 : Sz 999999 (n * 65536) := z4.mono (by decide)
  have z6 : Sz 1000000 (isqI (n * 65536)) := z4.isq.mono (by decide)
  have hb := isq_bd h0 h1
  have e0 : (if fitB (isqI (n * 65536)) then isqI (n * 65536) else 0) = isqI (n * 65536) := by rw [fit_small (by omega) (by omega), if_pos rfl]
  refine Ok.of (by kernel_rfl) Tryz.func90 rfl rfl ?_
  rw [show Tryz.f90.ntmps = 30 from rfl, show Tryz.f90.results.toList = [.tmp 2, .tmp 3] from rfl]
  refine dw_seq ?_
  -- region 0
  refine dw_region (by kernel_rfl) ?_
  refine dl_r (sem_assign rfl rfl) ?_
  refine dl_r (sem_assign rfl rfl) ?_
  refine dl_end ?_
  refine dw_seq ?_
  -- region 1
  refine dw_region (by kernel_rfl) ?_
  refine dl_r (sem_move rfl rfl) ?_
  refine dl_r (sem_call rfl rfl (iFrom_ok (by omega) (by omega)) rfl) ?_
  refine dl_r (sem_call rfl rfl (iFrom_ok (by omega) (by omega)) rfl) ?_
  refine dl_r (sem_call rfl rfl (iMul_ok (by first | assumption | exact Sz.mono (by assumption) (by decide)) (by first | assumption | exact Sz.mono (Sz.small (k := 3) (by decide) (by decide) (by decide)) (by decide))) rfl) ?_
  refine dl_new (sem_alloc zc24 rfl) rfl ?_
  refine dl_st (sem_store_a ty24 rfl rfl rfl rfl rfl rfl) ?_
  refine dl_end ?_
  refine dw_seq ?_
  -- region 2
  refine dw_region (by kernel_rfl) ?_
  refine dl_r (sem_load (us := cI (n * 65536)) ty24 rfl rfl rfl rfl rfl) ?_
  refine dl_r (sem_call rfl rfl (iSqrt_ok (by first | assumption | exact Sz.mono (Sz.mul (by assumption) (Sz.small (k := 3) (by decide) (by decide) (by decide))) (by decide))) rfl) ?_
  refine dl_r (sem_move rfl rfl) ?_
  refine dl_r (sem_extract rfl rfl rfl) ?_
  refine dl_r (sem_extract rfl rfl rfl) ?_
  refine dl_new (sem_alloc zc24 rfl) rfl ?_
  refine dl_st (sem_store_a ty24 rfl rfl rfl rfl rfl rfl) ?_
  refine dl_r (sem_assign rfl rfl) ?_
  refine dl_end ?_
  refine dw_seq ?_
  -- region 3
  refine dw_region (by kernel_rfl) ?_
  refine dl_r (sem_load (us := cI (isqI (n * 65536))) ty24 rfl rfl rfl rfl rfl) ?_
  refine dl_r (sem_call rfl rfl ((show Ok Tryz.prog 92 [dI (isqI (n * 65536))] [.c (.i .i64 (isqI (n * 65536))), .c (.b (fitB (isqI (n * 65536))))] from by have := iInt64_ok z6; rw [e0] at this; exact this)) rfl) ?_
  refine dl_r (sem_move rfl rfl) ?_
  refine dl_r (sem_extract rfl rfl rfl) ?_
  refine dl_r (sem_extract rfl rfl rfl) ?_
  refine dl_r (sem_assign rfl rfl) ?_
  refine dl_r (sem_assign rfl rfl) ?_
  refine dl_end ?_
  refine dw_seq ?_
  -- region 4
  refine dw_draw 9 [] follows_mixed (by kernel_rfl) rfl rfl ?_
  refine dq_r (sem_move rfl rfl) ?_
  refine dq_r (sem_load (us := cI (isqI (n * 65536))) ty24 rfl rfl rfl rfl rfl) ?_
  refine dq_r (sem_load (us := cI (isqI (n * 65536))) ty24 rfl rfl rfl rfl rfl) ?_
  refine dq_r (sem_call rfl rfl (iMul_ok (by first | assumption | exact Sz.mono (Sz.isq (Sz.mul (by assumption) (Sz.small (k := 3) (by decide) (by decide) (by decide)))) (by decide)) (by first | assumption | exact Sz.mono (Sz.isq (Sz.mul (by assumption) (Sz.small (k := 3) (by decide) (by decide) (by decide)))) (by decide))) rfl) ?_
  refine dq_r (sem_load (us := cI (n * 65536)) ty24 rfl rfl rfl rfl rfl) ?_
  refine dq_r (sem_call rfl rfl (iCmp_ok) rfl) ?_
  refine dq_r (sem_cmp rfl rfl rfl rfl) ?_
  refine dq_r (sem_assign rfl rfl) ?_
  refine dq_r (sem_assign rfl rfl) ?_
  refine dq_end ?_
  refine dl_start0 ?_
  refine dl_end ?_
  refine dw_ret ?_
  -- path 
  rw [sqI_cmp]
  exact ⟨.inr rfl, (resL_tmp rfl (resL_tmp rfl resL_nil))⟩
theorem fSqrt_bad {x y : Int} (hn : y < 0) : Ok Tryz.prog 57 [.a ([.i .i64 x] ++ [.i .i64 y])] [.a ([.i .i64 0] ++ [.i .i64 0]), .c (.b false)] := by
  refine Ok.of (by kernel_rfl) Tryz.func57 rfl rfl ?_
  rw [show Tryz.f57.ntmps = 34 from rfl, show Tryz.f57.results.toList = [.cell 2 80, .tmp 3] from rfl]
  refine dw_seq ?_
  -- region 0
  refine dw_region (by kernel_rfl) ?_
  refine dl_new (sem_box_a rfl rfl) rfl ?_
  refine dl_new (sem_alloc zc80 rfl) rfl ?_
  refine dl_r (sem_assign rfl rfl) ?_
  refine dl_end ?_
  refine dw_seq ?_
  refine dw_seq ?_
  -- region 1
  refine dw_region (by kernel_rfl) ?_
  refine dl_r (sem_field fd80_1 rfl rfl) ?_
  refine dl_r (sem_load1 ty2 rfl rfl rfl rfl) ?_
  refine dl_r (sem_cmp rfl rfl rfl rfl) ?_
  refine dl_end ?_
  refine dw_cond rfl (fun hc1 => ?_) (fun hc1 => ?_)
  · refine dw_seq ?_
    -- region 2
    refine dw_region (by kernel_rfl) ?_
    refine dl_r (sem_build (us := ([.i .i64 0] ++ [.i .i64 0])) fs80 zc80 rfl rfl rfl) ?_
    refine dl_st (sem_store_a ty80 rfl rfl rfl rfl rfl rfl) ?_
    refine dl_r (sem_assign rfl rfl) ?_
    refine dl_end ?_
    refine dw_ret ?_
    -- path T
    exact ⟨.inr rfl, (resL_cell (us := ([.i .i64 0] ++ [.i .i64 0])) ty80 rfl rfl rfl rfl (resL_tmp rfl resL_nil))⟩
  · exact absurd hn (dec_f hc1)
theorem fSqrt_ok {x y : Int} (h0 : -2305843009213693952 ≤ x) (h1 : x ≤ 2305843009213693952) (h2 : -2305843009213693952 ≤ y) (h3 : y ≤ 2305843009213693952) (hn : ¬ y < 0) : Ok Tryz.prog 57 [.a ([.i .i64 x] ++ [.i .i64 y])] [.a ([.i .i64 (sqLo x)] ++ [.i .i64 (sqHi y)]), .c (.b true)] := by
  have b1 := isq_bd (n := max x 0) (by omega) (by omega)
  have b2 := isq_bd (n := y) (by omega) h3
  refine Ok.of (by kernel_rfl) Tryz.func57 rfl rfl ?_
  rw [show Tryz.f57.ntmps = 34 from rfl, show Tryz.f57.results.toList = [.cell 2 80, .tmp 3] from rfl]
  refine dw_seq ?_
  -- region 0
  refine dw_region (by kernel_rfl) ?_
  refine dl_new (sem_box_a rfl rfl) rfl ?_
  refine dl_new (sem_alloc zc80 rfl) rfl ?_
  refine dl_r (sem_assign rfl rfl) ?_
  refine dl_end ?_
  refine dw_seq ?_
  refine dw_seq ?_
  -- region 1
  refine dw_region (by kernel_rfl) ?_
  refine dl_r (sem_field fd80_1 rfl rfl) ?_
  refine dl_r (sem_load1 ty2 rfl rfl rfl rfl) ?_
  refine dl_r (sem_cmp rfl rfl rfl rfl) ?_
  refine dl_end ?_
  refine dw_cond rfl (fun hc1 => ?_) (fun hc1 => ?_)
  · exact absurd (dec_t hc1) hn
  · refine dw_skip ?_
    refine dw_seq ?_
    -- region 3
    refine dw_region (by kernel_rfl) ?_
    refine dl_r (sem_field fd80_0 rfl rfl) ?_
    refine dl_r (sem_load1 ty2 rfl rfl rfl rfl) ?_
    refine dl_r (sem_max rfl rfl rfl) ?_
    refine dl_r (sem_call rfl rfl (fRoot_ok (by omega) (by omega)) rfl) ?_
    refine dl_r (sem_move rfl rfl) ?_
    refine dl_r (sem_extract rfl rfl rfl) ?_
    refine dl_r (sem_extract rfl rfl rfl) ?_
    refine dl_r (sem_assign rfl rfl) ?_
    refine dl_r (sem_assign rfl rfl) ?_
    refine dl_end ?_
    refine dw_seq ?_
    -- region 4
    refine dw_region (by kernel_rfl) ?_
    refine dl_r (sem_field fd80_1 rfl rfl) ?_
    refine dl_r (sem_load1 ty2 rfl rfl rfl rfl) ?_
    refine dl_r (sem_call rfl rfl (fRoot_ok (by omega) (by omega)) rfl) ?_
    refine dl_r (sem_move rfl rfl) ?_
    refine dl_r (sem_extract rfl rfl rfl) ?_
    refine dl_r (sem_extract rfl rfl rfl) ?_
    refine dl_r (sem_assign rfl rfl) ?_
    refine dl_r (sem_assign rfl rfl) ?_
    refine dl_end ?_
    refine dw_seq ?_
    refine dw_seq ?_
    -- region 5
    refine dw_region (by kernel_rfl) ?_
    refine dl_r (sem_move rfl rfl) ?_
    refine dl_r (sem_not rfl rfl) ?_
    refine dl_end ?_
    refine dw_cond rfl (fun hc2 => ?_) (fun hc2 => ?_)
    · -- region 6
      refine dw_region (by kernel_rfl) ?_
      refine dl_r (sem_move rfl rfl) ?_
      refine dl_r (sem_ari (r := (isqI (y * 65536)) + 1) rfl rfl (ari_i64_add (by omega) (by omega)) rfl) ?_
      refine dl_r (sem_assign rfl rfl) ?_
      refine dl_end ?_
      refine dw_seq ?_
      -- region 7
      refine dw_region (by kernel_rfl) ?_
      refine dl_r (sem_move rfl rfl) ?_
      refine dl_r (sem_move rfl rfl) ?_
      refine dl_r (sem_call rfl rfl ((show Ok Tryz.prog 91 [.c (.i .i64 (isqI ((max x 0) * 65536))), .c (.i .i64 ((isqI (y * 65536)) + 1))] [.a ([.i .i64 (isqI ((max x 0) * 65536))] ++ [.i .i64 ((isqI (y * 65536)) + 1)]), .c (.b true)] from by have := fProper_ok (x := isqI ((max x 0) * 65536)) (y := (isqI (y * 65536)) + 1); rw [ok_small (by omega) (by omega), if_pos rfl, if_pos rfl] at this; exact this)) rfl) ?_
      refine dl_r (sem_extract rfl rfl rfl) ?_
      refine dl_r (sem_extract rfl rfl rfl) ?_
      refine dl_st (sem_store_a ty80 rfl rfl rfl rfl rfl rfl) ?_
      refine dl_r (sem_assign rfl rfl) ?_
      refine dl_end ?_
      refine dw_ret ?_
      -- path FT
      unfold sqLo sqHi
      rw [not_t hc2, if_neg (by decide)]
      exact ⟨.inr rfl, (resL_cell (us := ([.i .i64 (isqI ((max x 0) * 65536))] ++ [.i .i64 ((isqI (y * 65536)) + 1)])) ty80 rfl rfl rfl rfl (resL_tmp rfl resL_nil))⟩
    · refine dw_skip ?_
      refine dw_seq ?_
      -- region 7
      refine dw_region (by kernel_rfl) ?_
      refine dl_r (sem_move rfl rfl) ?_
      refine dl_r (sem_move rfl rfl) ?_
      refine dl_r (sem_call rfl rfl ((show Ok Tryz.prog 91 [.c (.i .i64 (isqI ((max x 0) * 65536))), .c (.i .i64 (isqI (y * 65536)))] [.a ([.i .i64 (isqI ((max x 0) * 65536))] ++ [.i .i64 (isqI (y * 65536))]), .c (.b true)] from by have := fProper_ok (x := isqI ((max x 0) * 65536)) (y := isqI (y * 65536)); rw [ok_small (by omega) (by omega), if_pos rfl, if_pos rfl] at this; exact this)) rfl) ?_
      refine dl_r (sem_extract rfl rfl rfl) ?_
      refine dl_r (sem_extract rfl rfl rfl) ?_
      refine dl_st (sem_store_a ty80 rfl rfl rfl rfl rfl rfl) ?_
      refine dl_r (sem_assign rfl rfl) ?_
      refine dl_end ?_
      refine dw_ret ?_
      -- path FF
      unfold sqLo sqHi
      rw [not_f hc2, if_pos rfl]
      exact ⟨.inr rfl, (resL_cell (us := ([.i .i64 (isqI ((max x 0) * 65536))] ++ [.i .i64 (isqI (y * 65536))])) ty80 rfl rfl rfl rfl (resL_tmp rfl resL_nil))⟩
theorem fAdd_ok {x y u v : Int} (h0 : -2305843009213693952 ≤ x) (h1 : x ≤ 2305843009213693952) (h2 : -2305843009213693952 ≤ y) (h3 : y ≤ 2305843009213693952) (h4 : -2305843009213693952 ≤ u) (h5 : u ≤ 2305843009213693952) (h6 : -2305843009213693952 ≤ v) (h7 : v ≤ 2305843009213693952) : Ok Tryz.prog 60 [.a ([.i .i64 x] ++ [.i .i64 y]), .a ([.i .i64 u] ++ [.i .i64 v])] [.a ([.i .i64 (if okI (x + u) (y + v) then x + u else 0)] ++ [.i .i64 (if okI (x + u) (y + v) then y + v else 0)]), .c (.b (okI (x + u) (y + v)))] := by
  refine Ok.of (by kernel_rfl) Tryz.func60 rfl rfl ?_
  rw [show Tryz.f60.ntmps = 19 from rfl, show Tryz.f60.results.toList = [.cell 4 80, .tmp 5] from rfl]
  refine dw_seq ?_
  -- region 0
  refine dw_region (by kernel_rfl) ?_
  refine dl_new (sem_box_a rfl rfl) rfl ?_
  refine dl_new (sem_box_a rfl rfl) rfl ?_
  refine dl_new (sem_alloc zc80 rfl) rfl ?_
  refine dl_r (sem_assign rfl rfl) ?_
  refine dl_end ?_
  refine dw_seq ?_
  -- region 1
  refine dw_region (by kernel_rfl) ?_
  refine dl_r (sem_field fd80_0 rfl rfl) ?_
  refine dl_r (sem_load1 ty2 rfl rfl rfl rfl) ?_
  refine dl_r (sem_field fd80_0 rfl rfl) ?_
  refine dl_r (sem_load1 ty2 rfl rfl rfl rfl) ?_
  refine dl_r (sem_ari (r := x + u) rfl rfl (ari_i64_add (by omega) (by omega)) rfl) ?_
  refine dl_r (sem_field fd80_1 rfl rfl) ?_
  refine dl_r (sem_load1 ty2 rfl rfl rfl rfl) ?_
  refine dl_r (sem_field fd80_1 rfl rfl) ?_
  refine dl_r (sem_load1 ty2 rfl rfl rfl rfl) ?_
  refine dl_r (sem_ari (r := y + v) rfl rfl (ari_i64_add (by omega) (by omega)) rfl) ?_
  refine dl_r (sem_call rfl rfl (fProper_ok) rfl) ?_
  refine dl_r (sem_extract rfl rfl rfl) ?_
  refine dl_r (sem_extract rfl rfl rfl) ?_
  refine dl_st (sem_store_a ty80 rfl rfl rfl rfl rfl rfl) ?_
  refine dl_r (sem_assign rfl rfl) ?_
  refine dl_end ?_
  refine dw_ret ?_
  -- path 
  exact ⟨.inr rfl, (resL_cell (us := ([.i .i64 (if okI (x + u) (y + v) then (x + u) else 0)] ++ [.i .i64 (if okI (x + u) (y + v) then (y + v) else 0)])) ty80 rfl rfl rfl rfl (resL_tmp rfl resL_nil))⟩
theorem fAbs_ok {x : Int} (h0 : -9223372036854775808 ≤ x) (h1 : x ≤ 9223372036854775807) : Ok Tryz.prog 116 [.c (.i .i64 x)] [.c (.i .u64 (x.natAbs : Int))] := by
  refine Ok.of (by kernel_rfl) Tryz.func116 rfl rfl ?_
  rw [show Tryz.f116.ntmps = 10 from rfl, show Tryz.f116.results.toList = [.tmp 2] from rfl]
  refine dw_seq ?_
  -- region 0
  refine dw_region (by kernel_rfl) ?_
  refine dl_r (sem_assign rfl rfl) ?_
  refine dl_end ?_
  refine dw_seq ?_
  refine dw_seq ?_
  -- region 1
  refine dw_region (by kernel_rfl) ?_
  refine dl_r (sem_move rfl rfl) ?_
  refine dl_r (sem_cmp rfl rfl rfl rfl) ?_
  refine dl_end ?_
  refine dw_cond rfl (fun hc1 => ?_) (fun hc1 => ?_)
  · have hn := dec_t hc1
    have e : (x.natAbs : Int) = -x := by omega
    refine dw_seq ?_
    -- region 2
    refine dw_region (by kernel_rfl) ?_
    refine dl_r (sem_move rfl rfl) ?_
    refine dl_r (sem_conv' (r := x + 18446744073709551616) und2 und106 rfl (wu64_neg hn h0) rfl) ?_
    refine dl_r (sem_neg' (r := -x) rfl (wu64_neg2 hn h0) rfl) ?_
    refine dl_r (sem_assign rfl rfl) ?_
    refine dl_end ?_
    refine dw_ret ?_
    -- path T
    rw [e]
    exact ⟨.inr rfl, (resL_tmp rfl resL_nil)⟩
  · have hn := dec_f hc1
    have e : (x.natAbs : Int) = x := by omega
    refine dw_skip ?_
    refine dw_seq ?_
    -- region 3
    refine dw_region (by kernel_rfl) ?_
    refine dl_r (sem_move rfl rfl) ?_
    refine dl_r (sem_conv' (r := x) und2 und106 rfl (nwu64 (by omega) (by omega)) rfl) ?_
    refine dl_r (sem_assign rfl rfl) ?_
    refine dl_end ?_
    refine dw_ret ?_
    -- path F
    rw [e]
    exact ⟨.inr rfl, (resL_tmp rfl resL_nil)⟩
end Go.Proofs.YtcbjmiddangfoaaGreat
/- Steps: bits of 64-bit numbers. -/
namespace Go.Proofs.YtcbjmiddangfoaaGreat
open Go Go.RowKit
section
variable {P : Program} {ops : Array Oper} {T : TF} {B : BF}
theorem sem_and {dst : Option Nat} {xt yt : TypeId} {x y : Operand} {ty : TypeId} {pos : String} {af : Array Edge} {g : Option (Nat × Bool)} {k : IntKind} {m n r : Int}
    (hx : opd T x = some (.v (.c (.i k m)))) (hy : opd T y = some (.v (.c (.i k n)))) (hr : k.wrap ((BitVec.ofInt k.bits m &&& BitVec.ofInt k.bits n).toNat : Int) = r) (hg : gd ops ⟨dst, .binOp .and xt x y yt, ty, pos, af, g⟩ T = some true) :
    Sem P ops ⟨dst, .binOp .and xt x y yt, ty, pos, af, g⟩ T B (.r (.v (.c (.i k r)))) :=
  sem_pure hg (nop rfl) (fun V β a w hs => by
      have e1 : a.eval x = .int k m := RdC.int_eq (opd_reads hs (x := x) (by simp [Op.operands]) hx)
      have e2 : a.eval y = .int k n := RdC.int_eq (opd_reads hs (x := y) (by simp [Op.operands]) hy)
      subst hr
      exact ⟨.int k (k.wrap ((BitVec.ofInt k.bits m &&& BitVec.ofInt k.bits n).toNat : Int)), by simp [execOp, e1, e2, eqGuard, binOp, Op.intBits], .i _ _⟩)
theorem sem_or {dst : Option Nat} {xt yt : TypeId} {x y : Operand} {ty : TypeId} {pos : String} {af : Array Edge} {g : Option (Nat × Bool)} {k : IntKind} {m n r : Int}
    (hx : opd T x = some (.v (.c (.i k m)))) (hy : opd T y = some (.v (.c (.i k n)))) (hr : k.wrap ((BitVec.ofInt k.bits m ||| BitVec.ofInt k.bits n).toNat : Int) = r) (hg : gd ops ⟨dst, .binOp .or xt x y yt, ty, pos, af, g⟩ T = some true) :
    Sem P ops ⟨dst, .binOp .or xt x y yt, ty, pos, af, g⟩ T B (.r (.v (.c (.i k r)))) :=
  sem_pure hg (nop rfl) (fun V β a w hs => by
      have e1 : a.eval x = .int k m := RdC.int_eq (opd_reads hs (x := x) (by simp [Op.operands]) hx)
      have e2 : a.eval y = .int k n := RdC.int_eq (opd_reads hs (x := y) (by simp [Op.operands]) hy)
      subst hr
      exact ⟨.int k (k.wrap ((BitVec.ofInt k.bits m ||| BitVec.ofInt k.bits n).toNat : Int)), by simp [execOp, e1, e2, eqGuard, binOp, Op.intBits], .i _ _⟩)
end
theorem bv_nat (n : Nat) (h : n < 18446744073709551616) : (BitVec.ofInt 64 (n : Int)).toNat = n := by
  rw [BitVec.toNat_ofInt]; omega
theorem and32 {x : Int} (h0 : 0 ≤ x) (h1 : x ≤ 18446744073709551615) : IntKind.u64.wrap ((BitVec.ofInt IntKind.u64.bits x &&& BitVec.ofInt IntKind.u64.bits 4294967295).toNat : Int) = x % 4294967296 := by
  obtain ⟨n, rfl⟩ := Int.eq_ofNat_of_zero_le h0
  have e : (BitVec.ofInt IntKind.u64.bits (n : Int) &&& BitVec.ofInt IntKind.u64.bits 4294967295).toNat = n % 4294967296 := by
    show (BitVec.ofInt 64 (n : Int) &&& BitVec.ofInt 64 ((4294967295 : Nat) : Int)).toNat = _
    rw [BitVec.toNat_and, bv_nat n (by omega), bv_nat _ (by decide)]
    exact Nat.and_two_pow_sub_one_eq_mod n 32
  rw [e, nwu64 (by omega) (by omega)]; omega
theorem and16 {x : Int} (h0 : 0 ≤ x) (h1 : x ≤ 18446744073709551615) : IntKind.u64.wrap ((BitVec.ofInt IntKind.u64.bits x &&& BitVec.ofInt IntKind.u64.bits 65535).toNat : Int) = x % 65536 := by
  obtain ⟨n, rfl⟩ := Int.eq_ofNat_of_zero_le h0
  have e : (BitVec.ofInt IntKind.u64.bits (n : Int) &&& BitVec.ofInt IntKind.u64.bits 65535).toNat = n % 65536 := by
    show (BitVec.ofInt 64 (n : Int) &&& BitVec.ofInt 64 ((65535 : Nat) : Int)).toNat = _
    rw [BitVec.toNat_and, bv_nat n (by omega), bv_nat _ (by decide)]
    exact Nat.and_two_pow_sub_one_eq_mod n 16
  rw [e, nwu64 (by omega) (by omega)]; omega
theorem or48 {h l : Int} (h0 : 0 ≤ h) (h1 : h < 65536) (l0 : 0 ≤ l) (l1 : l < 281474976710656) : IntKind.u64.wrap ((BitVec.ofInt IntKind.u64.bits (h * 281474976710656) ||| BitVec.ofInt IntKind.u64.bits l).toNat : Int) = h * 281474976710656 + l := by
  obtain ⟨n, rfl⟩ := Int.eq_ofNat_of_zero_le h0
  obtain ⟨m, rfl⟩ := Int.eq_ofNat_of_zero_le l0
  have e : (BitVec.ofInt IntKind.u64.bits ((n : Int) * 281474976710656) ||| BitVec.ofInt IntKind.u64.bits (m : Int)).toNat = n * 281474976710656 + m := by
    show (BitVec.ofInt 64 ((n : Int) * ((281474976710656 : Nat) : Int)) ||| BitVec.ofInt 64 (m : Int)).toNat = _
    rw [← Int.natCast_mul, BitVec.toNat_or, bv_nat _ (by omega), bv_nat _ (by omega)]
    have := Nat.two_pow_add_eq_or_of_lt (i := 48) (b := m) (by omega) n
    rw [show n * 281474976710656 = 2 ^ 48 * n from by omega]
    exact this.symm
  rw [e, nwu64 (by omega) (by omega)]; omega
theorem shr32 {x : Int} : x.fdiv (2 ^ (min (32 : Int).toNat IntKind.u64.bits)) = x / 4294967296 := by
  rw [show (2 : Int) ^ (min (32 : Int).toNat IntKind.u64.bits) = 4294967296 from rfl]; exact Int.fdiv_eq_ediv_of_nonneg _ (by decide)
theorem shr16 {x : Int} : x.fdiv (2 ^ (min (16 : Int).toNat IntKind.u64.bits)) = x / 65536 := by
  rw [show (2 : Int) ^ (min (16 : Int).toNat IntKind.u64.bits) = 65536 from rfl]; exact Int.fdiv_eq_ediv_of_nonneg _ (by decide)
theorem shl48 {x : Int} (h0 : 0 ≤ x) (h1 : x < 65536) : IntKind.u64.wrap (x * 2 ^ (min (48 : Int).toNat IntKind.u64.bits)) = x * 281474976710656 := by
  rw [show (2 : Int) ^ (min (48 : Int).toNat IntKind.u64.bits) = 281474976710656 from rfl, nwu64 (by omega) (by omega)]
theorem wmod {x : Int} : IntKind.u64.wrap x = x % 18446744073709551616 := by unfold IntKind.wrap; simp [IntKind.bits, IntKind.signed]
/-- the upper half of a product, by halves -/
theorem mul64 {x y : Int} (_h0 : 0 ≤ x) (_h1 : x ≤ 18446744073709551615) (_h2 : 0 ≤ y) (_h3 : y ≤ 18446744073709551615) :
    (x / 4294967296) * (y / 4294967296) + ((x / 4294967296) * (y % 4294967296) + (x % 4294967296) * (y % 4294967296) / 4294967296) / 4294967296 + (((x / 4294967296) * (y % 4294967296) + (x % 4294967296) * (y % 4294967296) / 4294967296) % 4294967296 + (x % 4294967296) * (y / 4294967296)) / 4294967296 = x * y / 18446744073709551616 := by
  obtain ⟨a, ha⟩ : ∃ a, x / 4294967296 = a := ⟨_, rfl⟩
  obtain ⟨b, hb⟩ : ∃ b, x % 4294967296 = b := ⟨_, rfl⟩
  obtain ⟨c, hc⟩ : ∃ c, y / 4294967296 = c := ⟨_, rfl⟩
  obtain ⟨d, hd⟩ : ∃ d, y % 4294967296 = d := ⟨_, rfl⟩
  rw [ha, hb, hc, hd]
  have ex : x = 4294967296 * a + b := by omega
  have ey : y = 4294967296 * c + d := by omega
  have e : x * y = 18446744073709551616 * (a * c) + 4294967296 * (a * d) + 4294967296 * (b * c) + b * d := by rw [ex, ey]; grind
  rw [e]
  omega
end Go.Proofs.YtcbjmiddangfoaaGreat
/- math/bits.Mul64. -/
namespace Go.Proofs.YtcbjmiddangfoaaGreat
open Go Go.RowKit
theorem bMul64_ok {x y : Int} (h0 : 0 ≤ x) (h1 : x ≤ 18446744073709551615) (h2 : 0 ≤ y) (h3 : y ≤ 18446744073709551615) : Ok Tryz.prog 115 [.c (.i .u64 x), .c (.i .u64 y)] [.c (.i .u64 (x * y / 18446744073709551616)), .c (.i .u64 (x * y % 18446744073709551616))] := by
  obtain ⟨a, ha⟩ : ∃ a, x / 4294967296 = a := ⟨_, rfl⟩
  obtain ⟨b, hb⟩ : ∃ b, x % 4294967296 = b := ⟨_, rfl⟩
  obtain ⟨c, hc⟩ : ∃ c, y / 4294967296 = c := ⟨_, rfl⟩
  obtain ⟨d, hd⟩ : ∃ d, y % 4294967296 = d := ⟨_, rfl⟩
  have hm := mul64 h0 h1 h2 h3
  rw [ha, hb, hc, hd] at hm
  have pb : ∀ u v : Int, 0 ≤ u → u ≤ 4294967295 → 0 ≤ v → v ≤ 4294967295 → 0 ≤ u * v ∧ u * v ≤ 18446744065119617025 := fun u v u0 u1 v0 v1 => ⟨Int.mul_nonneg u0 v0, Int.mul_le_mul (c := (4294967295 : Int)) u1 v1 v0 (by decide)⟩
  have q1 := pb b d (by omega) (by omega) (by omega) (by omega)
  have q2 := pb a d (by omega) (by omega) (by omega) (by omega)
  have q3 := pb b c (by omega) (by omega) (by omega) (by omega)
  have q4 := pb a c (by omega) (by omega) (by omega) (by omega)
  refine Ok.of (by kernel_rfl) Tryz.func115 rfl rfl ?_
  rw [show Tryz.f115.ntmps = 51 from rfl, show Tryz.f115.results.toList = [.tmp 4, .tmp 5] from rfl]
  refine dw_seq ?_
  -- region 0
  refine dw_region (by kernel_rfl) ?_
  refine dl_r (sem_assign rfl rfl) ?_
  refine dl_r (sem_assign rfl rfl) ?_
  refine dl_end ?_
  refine dw_seq ?_
  -- region 1
  refine dw_region (by kernel_rfl) ?_
  refine dl_r (sem_move rfl rfl) ?_
  refine dl_r (sem_and (r := b) rfl rfl (by rw [← hb]; exact and32 h0 h1) rfl) ?_
  refine dl_r (sem_assign rfl rfl) ?_
  refine dl_end ?_
  refine dw_seq ?_
  -- region 2
  refine dw_region (by kernel_rfl) ?_
  refine dl_r (sem_move rfl rfl) ?_
  refine dl_r (sem_shr (r := a) rfl rfl (by decide) (by rw [← ha]; exact shr32) rfl) ?_
  refine dl_r (sem_assign rfl rfl) ?_
  refine dl_end ?_
  refine dw_seq ?_
  -- region 3
  refine dw_region (by kernel_rfl) ?_
  refine dl_r (sem_move rfl rfl) ?_
  refine dl_r (sem_and (r := d) rfl rfl (by rw [← hd]; exact and32 h2 h3) rfl) ?_
  refine dl_r (sem_assign rfl rfl) ?_
  refine dl_end ?_
  refine dw_seq ?_
  -- region 4
  refine dw_region (by kernel_rfl) ?_
  refine dl_r (sem_move rfl rfl) ?_
  refine dl_r (sem_shr (r := c) rfl rfl (by decide) (by rw [← hc]; exact shr32) rfl) ?_
  refine dl_r (sem_assign rfl rfl) ?_
  refine dl_end ?_
  refine dw_seq ?_
  -- region 5
  refine dw_region (by kernel_rfl) ?_
  refine dl_r (sem_move rfl rfl) ?_
  refine dl_r (sem_move rfl rfl) ?_
  refine dl_r (sem_ari (r := b * d) rfl rfl (ari_u64_mul (by omega) (by omega)) rfl) ?_
  refine dl_r (sem_assign rfl rfl) ?_
  refine dl_end ?_
  refine dw_seq ?_
  -- region 6
  refine dw_region (by kernel_rfl) ?_
  refine dl_r (sem_move rfl rfl) ?_
  refine dl_r (sem_move rfl rfl) ?_
  refine dl_r (sem_ari (r := a * d) rfl rfl (ari_u64_mul (by omega) (by omega)) rfl) ?_
  refine dl_r (sem_move rfl rfl) ?_
  refine dl_r (sem_shr (r := b * d / 4294967296) rfl rfl (by decide) (shr32) rfl) ?_
  refine dl_r (sem_ari (r := (a * d) + (b * d / 4294967296)) rfl rfl (ari_u64_add (by omega) (by omega)) rfl) ?_
  refine dl_r (sem_assign rfl rfl) ?_
  refine dl_end ?_
  refine dw_seq ?_
  -- region 7
  refine dw_region (by kernel_rfl) ?_
  refine dl_r (sem_move rfl rfl) ?_
  refine dl_r (sem_and (r := (a * d + b * d / 4294967296) % 4294967296) rfl rfl (and32 (by omega) (by omega)) rfl) ?_
  refine dl_r (sem_assign rfl rfl) ?_
  refine dl_end ?_
  refine dw_seq ?_
  -- region 8
  refine dw_region (by kernel_rfl) ?_
  refine dl_r (sem_move rfl rfl) ?_
  refine dl_r (sem_shr (r := (a * d + b * d / 4294967296) / 4294967296) rfl rfl (by decide) (shr32) rfl) ?_
  refine dl_r (sem_assign rfl rfl) ?_
  refine dl_end ?_
  refine dw_seq ?_
  -- region 9
  refine dw_region (by kernel_rfl) ?_
  refine dl_r (sem_move rfl rfl) ?_
  refine dl_r (sem_move rfl rfl) ?_
  refine dl_r (sem_move rfl rfl) ?_
  refine dl_r (sem_ari (r := b * c) rfl rfl (ari_u64_mul (by omega) (by omega)) rfl) ?_
  refine dl_r (sem_ari (r := ((a * d + b * d / 4294967296) % 4294967296) + (b * c)) rfl rfl (ari_u64_add (by omega) (by omega)) rfl) ?_
  refine dl_r (sem_assign rfl rfl) ?_
  refine dl_end ?_
  refine dw_seq ?_
  -- region 10
  refine dw_region (by kernel_rfl) ?_
  refine dl_r (sem_move rfl rfl) ?_
  refine dl_r (sem_move rfl rfl) ?_
  refine dl_r (sem_ari (r := a * c) rfl rfl (ari_u64_mul (by omega) (by omega)) rfl) ?_
  refine dl_r (sem_move rfl rfl) ?_
  refine dl_r (sem_ari (r := (a * c) + ((a * d + b * d / 4294967296) / 4294967296)) rfl rfl (ari_u64_add (by omega) (by omega)) rfl) ?_
  refine dl_r (sem_move rfl rfl) ?_
  refine dl_r (sem_shr (r := ((a * d + b * d / 4294967296) % 4294967296 + b * c) / 4294967296) rfl rfl (by decide) (shr32) rfl) ?_
  refine dl_r (sem_ari (r := ((a * c) + ((a * d + b * d / 4294967296) / 4294967296)) + (((a * d + b * d / 4294967296) % 4294967296 + b * c) / 4294967296)) rfl rfl (ari_u64_add (by omega) (by omega)) rfl) ?_
  refine dl_r (sem_assign rfl rfl) ?_
  refine dl_end ?_
  refine dw_seq ?_
  -- region 11
  refine dw_region (by kernel_rfl) ?_
  refine dl_r (sem_move rfl rfl) ?_
  refine dl_r (sem_move rfl rfl) ?_
  refine dl_r (sem_ari (r := x * y % 18446744073709551616) rfl rfl (congrArg some wmod) rfl) ?_
  refine dl_r (sem_assign rfl rfl) ?_
  refine dl_end ?_
  refine dw_ret ?_
  -- path 
  rw [← hm]
  exact ⟨.inr rfl, (resL_tmp rfl (resL_tmp rfl resL_nil))⟩
end Go.Proofs.YtcbjmiddangfoaaGreat
/- Plain: products of ends, scaled. -/
namespace Go.Proofs.YtcbjmiddangfoaaGreat
open Go Go.RowKit
def scP (x y : Int) : Int := (x.natAbs : Int) * (y.natAbs : Int)
def scUp (p : Int) : Int := if p % 65536 = 0 then p / 65536 else p / 65536 + 1
def scLo (x y : Int) : Int := if (!(decide (x < 0) == decide (y < 0))) = true then -(scUp (scP x y)) else scP x y / 65536
def scHi (x y : Int) : Int := if (!(decide (x < 0) == decide (y < 0))) = true then -(scP x y / 65536) else scUp (scP x y)
def scBig (x y : Int) : Bool := decide (scP x y / 65536 > 2305843009213693952)
def scOk (x y : Int) : Bool := !scBig x y && (decide (scLo x y ≥ -2305843009213693952) && decide (scHi x y ≤ 2305843009213693952))
theorem scUp_t {p : Int} (h : (p % 18446744073709551616 % 65536 != 0) = true) : scUp p = p / 65536 + 1 := by
  have h : p % 18446744073709551616 % 65536 ≠ 0 := by simpa using h
  unfold scUp; rw [if_neg (by omega)]
theorem scUp_f {p : Int} (h : (p % 18446744073709551616 % 65536 != 0) = false) : scUp p = p / 65536 := by
  have h : p % 18446744073709551616 % 65536 = 0 := by simpa using h
  unfold scUp; rw [if_pos (by omega)]
theorem nz_t {a : Int} (h : (a != 0) = true) : a ≠ 0 := by simpa using h
theorem nz_f {a : Int} (h : (a != 0) = false) : a = 0 := by simpa using h
end Go.Proofs.YtcbjmiddangfoaaGreat
/- filter.scaled. -/
namespace Go.Proofs.YtcbjmiddangfoaaGreat
open Go Go.RowKit
theorem fScaled_ok {x y : Int} (h0 : -9223372036854775808 ≤ x) (h1 : x ≤ 9223372036854775807) (h2 : -9223372036854775808 ≤ y) (h3 : y ≤ 9223372036854775807) : Ok Tryz.prog 94 [.c (.i .i64 x), .c (.i .i64 y)] [.c (.i .i64 (if scBig x y then 0 else scLo x y)), .c (.i .i64 (if scBig x y then 0 else scHi x y)), .c (.b (scOk x y))] := by
  obtain ⟨p, hp⟩ : ∃ p, scP x y = p := ⟨_, rfl⟩
  have hp' : (x.natAbs : Int) * (y.natAbs : Int) = p := hp
  have hp0 : 0 ≤ p := by rw [← hp']; exact Int.mul_nonneg (by omega) (by omega)
  have hp1 : p ≤ 9223372036854775808 * 9223372036854775808 := by rw [← hp']; exact Int.mul_le_mul (by omega) (by omega) (by omega) (by decide)
  have hmul : Ok Tryz.prog 115 [.c (.i .u64 (x.natAbs : Int)), .c (.i .u64 (y.natAbs : Int))] [.c (.i .u64 (p / 18446744073709551616)), .c (.i .u64 (p % 18446744073709551616))] := by rw [← hp']; exact bMul64_ok (by omega) (by omega) (by omega) (by omega)
  have big : p / 65536 > 2305843009213693952 → scBig x y = true := fun h => by unfold scBig; rw [hp]; exact decide_eq_true h
  have small : ¬ p / 65536 > 2305843009213693952 → scBig x y = false := fun h => by unfold scBig; rw [hp]; exact decide_eq_false h
  refine Ok.of (by kernel_rfl) Tryz.func94 rfl rfl ?_
  rw [show Tryz.f94.ntmps = 56 from rfl, show Tryz.f94.results.toList = [.tmp 4, .tmp 5, .tmp 6] from rfl]
  refine dw_seq ?_
  -- region 0
  refine dw_region (by kernel_rfl) ?_
  refine dl_r (sem_assign rfl rfl) ?_
  refine dl_r (sem_assign rfl rfl) ?_
  refine dl_r (sem_assign rfl rfl) ?_
  refine dl_end ?_
  refine dw_seq ?_
  -- region 1
  refine dw_region (by kernel_rfl) ?_
  refine dl_r (sem_move rfl rfl) ?_
  refine dl_r (sem_call rfl rfl (fAbs_ok (by omega) (by omega)) rfl) ?_
  refine dl_r (sem_move rfl rfl) ?_
  refine dl_r (sem_call rfl rfl (fAbs_ok (by omega) (by omega)) rfl) ?_
  refine dl_r (sem_call rfl rfl (hmul) rfl) ?_
  refine dl_r (sem_move rfl rfl) ?_
  refine dl_r (sem_extract rfl rfl rfl) ?_
  refine dl_r (sem_extract rfl rfl rfl) ?_
  refine dl_r (sem_assign rfl rfl) ?_
  refine dl_r (sem_assign rfl rfl) ?_
  refine dl_end ?_
  refine dw_seq ?_
  refine dw_seq ?_
  -- region 2
  refine dw_region (by kernel_rfl) ?_
  refine dl_r (sem_move rfl rfl) ?_
  refine dl_r (sem_shr (r := p / 18446744073709551616 / 65536) rfl rfl (by decide) (shr16) rfl) ?_
  refine dl_r (sem_cmp rfl rfl rfl rfl) ?_
  refine dl_end ?_
  refine dw_cond rfl (fun hc1 => ?_) (fun hc1 => ?_)
  · have g1 := nz_t hc1
    refine dw_seq ?_
    -- region 3
    refine dw_region (by kernel_rfl) ?_
    refine dl_r (sem_assign rfl rfl) ?_
    refine dl_r (sem_assign rfl rfl) ?_
    refine dl_r (sem_assign rfl rfl) ?_
    refine dl_end ?_
    refine dw_ret ?_
    -- path T
    rw [show scOk x y = false from by unfold scOk; rw [big (by omega)]; rfl, big (by omega), if_pos rfl, if_pos rfl]
    exact ⟨.inr rfl, (resL_tmp rfl (resL_tmp rfl (resL_tmp rfl resL_nil)))⟩
  · have g1 := nz_f hc1
    refine dw_skip ?_
    refine dw_seq ?_
    -- region 4
    refine dw_region (by kernel_rfl) ?_
    refine dl_r (sem_move rfl rfl) ?_
    refine dl_r (sem_shl (r := (p / 18446744073709551616) * 281474976710656) rfl rfl (by decide) (shl48 (by omega) (by omega)) rfl) ?_
    refine dl_r (sem_move rfl rfl) ?_
    refine dl_r (sem_shr (r := p % 18446744073709551616 / 65536) rfl rfl (by decide) (shr16) rfl) ?_
    refine dl_r (sem_or (r := p / 65536) rfl rfl ((or48 (by omega) (by omega) (by omega) (by omega)).trans (by omega)) rfl) ?_
    refine dl_r (sem_assign rfl rfl) ?_
    refine dl_end ?_
    refine dw_seq ?_
    refine dw_seq ?_
    -- region 5
    refine dw_region (by kernel_rfl) ?_
    refine dl_r (sem_move rfl rfl) ?_
    refine dl_r (sem_cmp rfl rfl rfl rfl) ?_
    refine dl_end ?_
    refine dw_cond rfl (fun hc2 => ?_) (fun hc2 => ?_)
    · refine dw_seq ?_
      -- region 6
      refine dw_region (by kernel_rfl) ?_
      refine dl_r (sem_assign rfl rfl) ?_
      refine dl_r (sem_assign rfl rfl) ?_
      refine dl_r (sem_assign rfl rfl) ?_
      refine dl_end ?_
      refine dw_ret ?_
      -- path FT
      rw [show scOk x y = false from by unfold scOk; rw [big (dec_t hc2)]; rfl, big (dec_t hc2), if_pos rfl, if_pos rfl]
      exact ⟨.inr rfl, (resL_tmp rfl (resL_tmp rfl (resL_tmp rfl resL_nil)))⟩
    · have g2 := dec_f hc2
      refine dw_skip ?_
      refine dw_seq ?_
      -- region 7
      refine dw_region (by kernel_rfl) ?_
      refine dl_r (sem_move rfl rfl) ?_
      refine dl_r (sem_conv' (r := p / 65536) und106 und2 rfl (nw64 (by omega) (by omega)) rfl) ?_
      refine dl_r (sem_move rfl rfl) ?_
      refine dl_r (sem_conv' (r := p / 65536) und106 und2 rfl (nw64 (by omega) (by omega)) rfl) ?_
      refine dl_r (sem_assign rfl rfl) ?_
      refine dl_r (sem_assign rfl rfl) ?_
      refine dl_end ?_
      refine dw_seq ?_
      refine dw_seq ?_
      -- region 8
      refine dw_region (by kernel_rfl) ?_
      refine dl_r (sem_move rfl rfl) ?_
      refine dl_r (sem_and (r := p % 18446744073709551616 % 65536) rfl rfl (and16 (by omega) (by omega)) rfl) ?_
      refine dl_r (sem_cmp rfl rfl rfl rfl) ?_
      refine dl_end ?_
      refine dw_cond rfl (fun hc3 => ?_) (fun hc3 => ?_)
      · have hu := scUp_t hc3
        -- region 9
        refine dw_region (by kernel_rfl) ?_
        refine dl_r (sem_move rfl rfl) ?_
        refine dl_r (sem_ari (r := (p / 65536) + 1) rfl rfl (ari_i64_add (by omega) (by omega)) rfl) ?_
        refine dl_r (sem_assign rfl rfl) ?_
        refine dl_end ?_
        refine dw_seq ?_
        refine dw_seq ?_
        -- region 10
        refine dw_region (by kernel_rfl) ?_
        refine dl_r (sem_move rfl rfl) ?_
        refine dl_r (sem_cmp rfl rfl rfl rfl) ?_
        refine dl_r (sem_move rfl rfl) ?_
        refine dl_r (sem_cmp rfl rfl rfl rfl) ?_
        refine dl_r (sem_bneq rfl rfl ty_bool rfl) ?_
        refine dl_end ?_
        refine dw_cond rfl (fun hc4 => ?_) (fun hc4 => ?_)
        · -- region 11
          refine dw_region (by kernel_rfl) ?_
          refine dl_r (sem_move rfl rfl) ?_
          refine dl_r (sem_neg' (r := -(p / 65536 + 1)) rfl (by rw [nw64 (by omega) (by omega)]; omega) rfl) ?_
          refine dl_r (sem_move rfl rfl) ?_
          refine dl_r (sem_neg' (r := -(p / 65536)) rfl (by rw [nw64 (by omega) (by omega)]; omega) rfl) ?_
          refine dl_r (sem_assign rfl rfl) ?_
          refine dl_r (sem_assign rfl rfl) ?_
          refine dl_end ?_
          refine dw_seq ?_
          -- region 12
          refine dw_region (by kernel_rfl) ?_
          refine dl_r (sem_move rfl rfl) ?_
          refine dl_r (sem_move rfl rfl) ?_
          refine dl_r (sem_move rfl rfl) ?_
          refine dl_r (sem_cmp rfl rfl rfl rfl) ?_
          refine dl_rb (sem_move rfl rfl) (fun c5 hb5 => ?_)
          cases c5
          · refine dl_skip (sem_skip rfl) ?_
            refine dl_skip (sem_skip rfl) ?_
            refine dl_r (sem_pick rfl rfl rfl rfl) ?_
            refine dl_r (sem_assign rfl rfl) ?_
            refine dl_r (sem_assign rfl rfl) ?_
            refine dl_r (sem_assign rfl rfl) ?_
            refine dl_end ?_
            refine dw_ret ?_
            -- path FFTTf
            unfold scOk
            rw [small (dec_f hc2), if_neg (by decide), if_neg (by decide), Bool.not_false, Bool.true_and]
            rw [show scLo x y = -(p / 65536 + 1) from by unfold scLo; rw [hp, hu, if_pos hc4], show scHi x y = -(p / 65536) from by unfold scHi; rw [hp, hu, if_pos hc4]]
            rw [hb5, Bool.false_and]
            exact ⟨.inr rfl, (resL_tmp rfl (resL_tmp rfl (resL_tmp rfl resL_nil)))⟩
          · refine dl_r (sem_move rfl rfl) ?_
            refine dl_r (sem_cmp rfl rfl rfl rfl) ?_
            refine dl_r (sem_pick rfl rfl rfl rfl) ?_
            refine dl_r (sem_assign rfl rfl) ?_
            refine dl_r (sem_assign rfl rfl) ?_
            refine dl_r (sem_assign rfl rfl) ?_
            refine dl_end ?_
            refine dw_ret ?_
            -- path FFTTt
            unfold scOk
            rw [small (dec_f hc2), if_neg (by decide), if_neg (by decide), Bool.not_false, Bool.true_and]
            rw [show scLo x y = -(p / 65536 + 1) from by unfold scLo; rw [hp, hu, if_pos hc4], show scHi x y = -(p / 65536) from by unfold scHi; rw [hp, hu, if_pos hc4]]
            rw [hb5, Bool.true_and]
            exact ⟨.inr rfl, (resL_tmp rfl (resL_tmp rfl (resL_tmp rfl resL_nil)))⟩
        · refine dw_skip ?_
          refine dw_seq ?_
          -- region 12
          refine dw_region (by kernel_rfl) ?_
          refine dl_r (sem_move rfl rfl) ?_
          refine dl_r (sem_move rfl rfl) ?_
          refine dl_r (sem_move rfl rfl) ?_
          refine dl_r (sem_cmp rfl rfl rfl rfl) ?_
          refine dl_rb (sem_move rfl rfl) (fun c6 hb6 => ?_)
          cases c6
          · refine dl_skip (sem_skip rfl) ?_
            refine dl_skip (sem_skip rfl) ?_
            refine dl_r (sem_pick rfl rfl rfl rfl) ?_
            refine dl_r (sem_assign rfl rfl) ?_
            refine dl_r (sem_assign rfl rfl) ?_
            refine dl_r (sem_assign rfl rfl) ?_
            refine dl_end ?_
            refine dw_ret ?_
            -- path FFTFf
            unfold scOk
            rw [small (dec_f hc2), if_neg (by decide), if_neg (by decide), Bool.not_false, Bool.true_and]
            rw [show scLo x y = p / 65536 from by unfold scLo; rw [hp, hu, if_neg (by rw [hc4]; decide)], show scHi x y = p / 65536 + 1 from by unfold scHi; rw [hp, hu, if_neg (by rw [hc4]; decide)]]
            rw [hb6, Bool.false_and]
            exact ⟨.inr rfl, (resL_tmp rfl (resL_tmp rfl (resL_tmp rfl resL_nil)))⟩
          · refine dl_r (sem_move rfl rfl) ?_
            refine dl_r (sem_cmp rfl rfl rfl rfl) ?_
            refine dl_r (sem_pick rfl rfl rfl rfl) ?_
            refine dl_r (sem_assign rfl rfl) ?_
            refine dl_r (sem_assign rfl rfl) ?_
            refine dl_r (sem_assign rfl rfl) ?_
            refine dl_end ?_
            refine dw_ret ?_
            -- path FFTFt
            unfold scOk
            rw [small (dec_f hc2), if_neg (by decide), if_neg (by decide), Bool.not_false, Bool.true_and]
            rw [show scLo x y = p / 65536 from by unfold scLo; rw [hp, hu, if_neg (by rw [hc4]; decide)], show scHi x y = p / 65536 + 1 from by unfold scHi; rw [hp, hu, if_neg (by rw [hc4]; decide)]]
            rw [hb6, Bool.true_and]
            exact ⟨.inr rfl, (resL_tmp rfl (resL_tmp rfl (resL_tmp rfl resL_nil)))⟩
      · have hu := scUp_f hc3
        refine dw_skip ?_
        refine dw_seq ?_
        refine dw_seq ?_
        -- region 10
        refine dw_region (by kernel_rfl) ?_
        refine dl_r (sem_move rfl rfl) ?_
        refine dl_r (sem_cmp rfl rfl rfl rfl) ?_
        refine dl_r (sem_move rfl rfl) ?_
        refine dl_r (sem_cmp rfl rfl rfl rfl) ?_
        refine dl_r (sem_bneq rfl rfl ty_bool rfl) ?_
        refine dl_end ?_
        refine dw_cond rfl (fun hc7 => ?_) (fun hc7 => ?_)
        · -- region 11
          refine dw_region (by kernel_rfl) ?_
          refine dl_r (sem_move rfl rfl) ?_
          refine dl_r (sem_neg' (r := -(p / 65536)) rfl (by rw [nw64 (by omega) (by omega)]; omega) rfl) ?_
          refine dl_r (sem_move rfl rfl) ?_
          refine dl_r (sem_neg' (r := -(p / 65536)) rfl (by rw [nw64 (by omega) (by omega)]; omega) rfl) ?_
          refine dl_r (sem_assign rfl rfl) ?_
          refine dl_r (sem_assign rfl rfl) ?_
          refine dl_end ?_
          refine dw_seq ?_
          -- region 12
          refine dw_region (by kernel_rfl) ?_
          refine dl_r (sem_move rfl rfl) ?_
          refine dl_r (sem_move rfl rfl) ?_
          refine dl_r (sem_move rfl rfl) ?_
          refine dl_r (sem_cmp rfl rfl rfl rfl) ?_
          refine dl_rb (sem_move rfl rfl) (fun c8 hb8 => ?_)
          cases c8
          · refine dl_skip (sem_skip rfl) ?_
            refine dl_skip (sem_skip rfl) ?_
            refine dl_r (sem_pick rfl rfl rfl rfl) ?_
            refine dl_r (sem_assign rfl rfl) ?_
            refine dl_r (sem_assign rfl rfl) ?_
            refine dl_r (sem_assign rfl rfl) ?_
            refine dl_end ?_
            refine dw_ret ?_
            -- path FFFTf
            unfold scOk
            rw [small (dec_f hc2), if_neg (by decide), if_neg (by decide), Bool.not_false, Bool.true_and]
            rw [show scLo x y = -(p / 65536) from by unfold scLo; rw [hp, hu, if_pos hc7], show scHi x y = -(p / 65536) from by unfold scHi; rw [hp, hu, if_pos hc7]]
            rw [hb8, Bool.false_and]
            exact ⟨.inr rfl, (resL_tmp rfl (resL_tmp rfl (resL_tmp rfl resL_nil)))⟩
          · refine dl_r (sem_move rfl rfl) ?_
            refine dl_r (sem_cmp rfl rfl rfl rfl) ?_
            refine dl_r (sem_pick rfl rfl rfl rfl) ?_
            refine dl_r (sem_assign rfl rfl) ?_
            refine dl_r (sem_assign rfl rfl) ?_
            refine dl_r (sem_assign rfl rfl) ?_
            refine dl_end ?_
            refine dw_ret ?_
            -- path FFFTt
            unfold scOk
            rw [small (dec_f hc2), if_neg (by decide), if_neg (by decide), Bool.not_false, Bool.true_and]
            rw [show scLo x y = -(p / 65536) from by unfold scLo; rw [hp, hu, if_pos hc7], show scHi x y = -(p / 65536) from by unfold scHi; rw [hp, hu, if_pos hc7]]
            rw [hb8, Bool.true_and]
            exact ⟨.inr rfl, (resL_tmp rfl (resL_tmp rfl (resL_tmp rfl resL_nil)))⟩
        · refine dw_skip ?_
          refine dw_seq ?_
          -- region 12
          refine dw_region (by kernel_rfl) ?_
          refine dl_r (sem_move rfl rfl) ?_
          refine dl_r (sem_move rfl rfl) ?_
          refine dl_r (sem_move rfl rfl) ?_
          refine dl_r (sem_cmp rfl rfl rfl rfl) ?_
          refine dl_rb (sem_move rfl rfl) (fun c9 hb9 => ?_)
          cases c9
          · refine dl_skip (sem_skip rfl) ?_
            refine dl_skip (sem_skip rfl) ?_
            refine dl_r (sem_pick rfl rfl rfl rfl) ?_
            refine dl_r (sem_assign rfl rfl) ?_
            refine dl_r (sem_assign rfl rfl) ?_
            refine dl_r (sem_assign rfl rfl) ?_
            refine dl_end ?_
            refine dw_ret ?_
            -- path FFFFf
            unfold scOk
            rw [small (dec_f hc2), if_neg (by decide), if_neg (by decide), Bool.not_false, Bool.true_and]
            rw [show scLo x y = p / 65536 from by unfold scLo; rw [hp, hu, if_neg (by rw [hc7]; decide)], show scHi x y = p / 65536 from by unfold scHi; rw [hp, hu, if_neg (by rw [hc7]; decide)]]
            rw [hb9, Bool.false_and]
            exact ⟨.inr rfl, (resL_tmp rfl (resL_tmp rfl (resL_tmp rfl resL_nil)))⟩
          · refine dl_r (sem_move rfl rfl) ?_
            refine dl_r (sem_cmp rfl rfl rfl rfl) ?_
            refine dl_r (sem_pick rfl rfl rfl rfl) ?_
            refine dl_r (sem_assign rfl rfl) ?_
            refine dl_r (sem_assign rfl rfl) ?_
            refine dl_r (sem_assign rfl rfl) ?_
            refine dl_end ?_
            refine dw_ret ?_
            -- path FFFFt
            unfold scOk
            rw [small (dec_f hc2), if_neg (by decide), if_neg (by decide), Bool.not_false, Bool.true_and]
            rw [show scLo x y = p / 65536 from by unfold scLo; rw [hp, hu, if_neg (by rw [hc7]; decide)], show scHi x y = p / 65536 from by unfold scHi; rw [hp, hu, if_neg (by rw [hc7]; decide)]]
            rw [hb9, Bool.true_and]
            exact ⟨.inr rfl, (resL_tmp rfl (resL_tmp rfl (resL_tmp rfl resL_nil)))⟩
end Go.Proofs.YtcbjmiddangfoaaGreat
/- Plain: the sign that an interval shows. -/
namespace Go.Proofs.YtcbjmiddangfoaaGreat
open Go Go.RowKit
def sgI (x y : Int) : Int := if x > 0 then 1 else if y < 0 then -1 else 0
def skI (x y : Int) : Bool := decide (x > 0) || (decide (y < 0) || (x == 0 && y == 0))
theorem sg_p {x y : Int} (h : decide (x > 0) = true) : sgI x y = 1 ∧ skI x y = true := by
  unfold sgI skI; rw [if_pos (by simpa using h), h]; exact ⟨rfl, rfl⟩
theorem sg_n {x y : Int} (h : decide (x > 0) = false) (h2 : decide (y < 0) = true) : sgI x y = -1 ∧ skI x y = true := by
  unfold sgI skI; rw [if_neg (by simpa using h), if_pos (by simpa using h2), h, h2]; exact ⟨rfl, rfl⟩
theorem sg_z {x y : Int} (h : decide (x > 0) = false) (h2 : decide (y < 0) = false) : sgI x y = 0 ∧ skI x y = (x == 0 && y == 0) := by
  unfold sgI skI; rw [if_neg (by simpa using h), if_neg (by simpa using h2), h, h2]; exact ⟨rfl, rfl⟩
end Go.Proofs.YtcbjmiddangfoaaGreat
/- filter.Sign. -/
namespace Go.Proofs.YtcbjmiddangfoaaGreat
open Go Go.RowKit
theorem fSign_ok {x y : Int} : Ok Tryz.prog 61 [.a ([.i .i64 x] ++ [.i .i64 y])] [.c (.i .i64 (sgI x y)), .c (.b (skI x y))] := by
  refine Ok.of (by kernel_rfl) Tryz.func61 rfl rfl ?_
  rw [show Tryz.f61.ntmps = 20 from rfl, show Tryz.f61.results.toList = [.tmp 2, .tmp 3] from rfl]
  refine dw_seq ?_
  -- region 0
  refine dw_region (by kernel_rfl) ?_
  refine dl_new (sem_box_a rfl rfl) rfl ?_
  refine dl_r (sem_assign rfl rfl) ?_
  refine dl_r (sem_assign rfl rfl) ?_
  refine dl_end ?_
  refine dw_seq ?_
  refine dw_block ?_
  refine dw_seq ?_
  -- region 1
  refine dw_region (by kernel_rfl) ?_
  refine dl_r (sem_field fd80_0 rfl rfl) ?_
  refine dl_r (sem_load1 ty2 rfl rfl rfl rfl) ?_
  refine dl_r (sem_cmp rfl rfl rfl rfl) ?_
  refine dl_r (sem_assign rfl rfl) ?_
  refine dl_end ?_
  refine dw_cond rfl (fun hc1 => ?_) (fun hc1 => ?_)
  · refine dw_seq ?_
    -- region 2
    refine dw_region (by kernel_rfl) ?_
    refine dl_r (sem_assign rfl rfl) ?_
    refine dl_r (sem_assign rfl rfl) ?_
    refine dl_end ?_
    refine dw_ret ?_
    -- path T
    rw [(sg_p hc1).1, (sg_p hc1).2]
    exact ⟨.inr rfl, (resL_tmp rfl (resL_tmp rfl resL_nil))⟩
  · refine dw_seq ?_
    -- region 3
    refine dw_region (by kernel_rfl) ?_
    refine dl_r (sem_field fd80_1 rfl rfl) ?_
    refine dl_r (sem_load1 ty2 rfl rfl rfl rfl) ?_
    refine dl_r (sem_cmp rfl rfl rfl rfl) ?_
    refine dl_r (sem_assign rfl rfl) ?_
    refine dl_end ?_
    refine dw_cond rfl (fun hc2 => ?_) (fun hc2 => ?_)
    · refine dw_seq ?_
      -- region 4
      refine dw_region (by kernel_rfl) ?_
      refine dl_r (sem_assign rfl rfl) ?_
      refine dl_r (sem_assign rfl rfl) ?_
      refine dl_end ?_
      refine dw_ret ?_
      -- path FT
      rw [(sg_n hc1 hc2).1, (sg_n hc1 hc2).2]
      exact ⟨.inr rfl, (resL_tmp rfl (resL_tmp rfl resL_nil))⟩
    · refine dw_skip ?_
      refine dw_seq ?_
      -- region 5
      refine dw_draw 10 [] follows_mixed (by kernel_rfl) rfl rfl ?_
      refine dq_r (sem_field fd80_0 rfl rfl) ?_
      refine dq_r (sem_load1 ty2 rfl rfl rfl rfl) ?_
      refine dq_r (sem_cmp rfl rfl rfl rfl) ?_
      refine dq_rb (sem_move rfl rfl) (fun c3 hb3 => ?_)
      cases c3
      · refine dq_skip (sem_skip rfl) ?_
        refine dq_skip (sem_skip rfl) ?_
        refine dq_skip (sem_skip rfl) ?_
        refine dq_r (sem_pick rfl rfl rfl rfl) ?_
        refine dq_r (sem_assign rfl rfl) ?_
        refine dq_r (sem_assign rfl rfl) ?_
        refine dq_end ?_
        refine dl_start0 ?_
        refine dl_end ?_
        refine dw_ret ?_
        -- path FFf
        rw [(sg_z hc1 hc2).1, (sg_z hc1 hc2).2, hb3, Bool.false_and]
        exact ⟨.inr rfl, (resL_tmp rfl (resL_tmp rfl resL_nil))⟩
      · refine dq_r (sem_field fd80_1 rfl rfl) ?_
        refine dq_r (sem_load1 ty2 rfl rfl rfl rfl) ?_
        refine dq_r (sem_cmp rfl rfl rfl rfl) ?_
        refine dq_r (sem_pick rfl rfl rfl rfl) ?_
        refine dq_r (sem_assign rfl rfl) ?_
        refine dq_r (sem_assign rfl rfl) ?_
        refine dq_end ?_
        refine dl_start0 ?_
        refine dl_end ?_
        refine dw_ret ?_
        -- path FFt
        rw [(sg_z hc1 hc2).1, (sg_z hc1 hc2).2, hb3, Bool.true_and]
        exact ⟨.inr rfl, (resL_tmp rfl (resL_tmp rfl resL_nil))⟩
end Go.Proofs.YtcbjmiddangfoaaGreat
/- Plain: the product of two intervals, pair by pair. -/
namespace Go.Proofs.YtcbjmiddangfoaaGreat
open Go Go.RowKit
def sel (x y : Int) (k : Nat) : Int := if k = 0 then x else y
theorem sel_get {x y : Int} {k : Nat} (h : k < 2) : ([CellD.i .i64 x, .i .i64 y])[k * 1]? = some (.i .i64 (sel x y k)) := by
  have : k = 0 ∨ k = 1 := by omega
  rcases this with rfl | rfl <;> rfl
theorem sel_bd {x y : Int} {k : Nat} (h0 : -2305843009213693952 ≤ x) (h1 : x ≤ 2305843009213693952) (h2 : -2305843009213693952 ≤ y) (h3 : y ≤ 2305843009213693952) : -2305843009213693952 ≤ sel x y k ∧ sel x y k ≤ 2305843009213693952 := by
  unfold sel; split <;> omega
def loN (x y u v : Int) : Nat → Int
  | 0 => 2305843009213693952
  | n + 1 => min (loN x y u v n) (scLo (sel x y (n / 2)) (sel u v (n % 2)))
def hiN (x y u v : Int) : Nat → Int
  | 0 => -2305843009213693952
  | n + 1 => max (hiN x y u v n) (scHi (sel x y (n / 2)) (sel u v (n % 2)))
def okN (x y u v : Int) : Nat → Bool
  | 0 => true
  | n + 1 => okN x y u v n && scOk (sel x y (n / 2)) (sel u v (n % 2))
theorem sc_big {x y : Int} (h : scOk x y = true) : ¬ scBig x y = true := by
  unfold scOk at h
  rw [Bool.and_eq_true] at h
  intro e
  rw [e] at h
  exact absurd h.1 (by decide)
theorem ok_false {x y u v : Int} {n : Nat} (h : okN x y u v n = false) (m : Nat) : okN x y u v (n + m) = false := by
  induction m with
  | zero => exact h
  | succ m ih => show (okN x y u v (n + m) && _) = false; rw [ih]; rfl
theorem lo_step {x y u v : Int} {k j : Nat} (hj : j < 2) (h : scOk (sel x y k) (sel u v j) = true) : min (loN x y u v (2 * k + j)) (if scBig (sel x y k) (sel u v j) then 0 else scLo (sel x y k) (sel u v j)) = loN x y u v (2 * k + (j + 1)) := by
  rw [if_neg (sc_big h)]
  show _ = min (loN x y u v (2 * k + j)) (scLo (sel x y ((2 * k + j) / 2)) (sel u v ((2 * k + j) % 2)))
  rw [show (2 * k + j) / 2 = k from by omega, show (2 * k + j) % 2 = j from by omega]
theorem hi_step {x y u v : Int} {k j : Nat} (hj : j < 2) (h : scOk (sel x y k) (sel u v j) = true) : max (hiN x y u v (2 * k + j)) (if scBig (sel x y k) (sel u v j) then 0 else scHi (sel x y k) (sel u v j)) = hiN x y u v (2 * k + (j + 1)) := by
  rw [if_neg (sc_big h)]
  show _ = max (hiN x y u v (2 * k + j)) (scHi (sel x y ((2 * k + j) / 2)) (sel u v ((2 * k + j) % 2)))
  rw [show (2 * k + j) / 2 = k from by omega, show (2 * k + j) % 2 = j from by omega]
theorem ok_step {x y u v : Int} {k j : Nat} (hj : j < 2) : okN x y u v (2 * k + (j + 1)) = (okN x y u v (2 * k + j) && scOk (sel x y k) (sel u v j)) := by
  show (okN x y u v (2 * k + j) && scOk (sel x y ((2 * k + j) / 2)) (sel u v ((2 * k + j) % 2))) = _
  rw [show (2 * k + j) / 2 = k from by omega, show (2 * k + j) % 2 = j from by omega]
end Go.Proofs.YtcbjmiddangfoaaGreat
/- filter.Mul. -/
namespace Go.Proofs.YtcbjmiddangfoaaGreat
open Go Go.RowKit
theorem fMul_ok {x y u v : Int} (h0 : -2305843009213693952 ≤ x) (h1 : x ≤ 2305843009213693952) (h2 : -2305843009213693952 ≤ y) (h3 : y ≤ 2305843009213693952) (h4 : -2305843009213693952 ≤ u) (h5 : u ≤ 2305843009213693952) (h6 : -2305843009213693952 ≤ v) (h7 : v ≤ 2305843009213693952) : Ok Tryz.prog 59 [.a ([.i .i64 x] ++ [.i .i64 y]), .a ([.i .i64 u] ++ [.i .i64 v])] [.a ([.i .i64 (if okN x y u v 4 then loN x y u v 4 else 0)] ++ [.i .i64 (if okN x y u v 4 then hiN x y u v 4 else 0)]), .c (.b (okN x y u v 4))] := by
  refine Ok.of (by kernel_rfl) Tryz.func59 rfl rfl ?_
  rw [show Tryz.f59.ntmps = 56 from rfl, show Tryz.f59.results.toList = [.cell 4 80, .tmp 5] from rfl]
  refine dw_seq ?_
  -- region 0
  refine dw_region (by kernel_rfl) ?_
  refine dl_new (sem_box_a rfl rfl) rfl ?_
  refine dl_new (sem_box_a rfl rfl) rfl ?_
  refine dl_new (sem_alloc zc80 rfl) rfl ?_
  refine dl_r (sem_assign rfl rfl) ?_
  refine dl_end ?_
  refine dw_seq ?_
  -- region 1
  refine dw_region (by kernel_rfl) ?_
  refine dl_r (sem_assign rfl rfl) ?_
  refine dl_r (sem_assign rfl rfl) ?_
  refine dl_end ?_
  refine dw_seq ?_
  refine dw_seq ?_
  -- region 2
  refine dw_region (by kernel_rfl) ?_
  refine dl_r (sem_field fd80_0 rfl rfl) ?_
  refine dl_r (sem_load1 ty2 rfl rfl rfl rfl) ?_
  refine dl_r (sem_field fd80_1 rfl rfl) ?_
  refine dl_r (sem_load1 ty2 rfl rfl rfl rfl) ?_
  refine dl_mk (sem_slit (us := [.i .i64 x, .i .i64 y]) el117 rfl rfl (by decide) (by decide) rfl) rfl ?_
  refine dl_r (sem_len_o sl117 rfl rfl) ?_
  refine dl_r (sem_move rfl rfl) ?_
  refine dl_end ?_
  refine dw_block ?_
  refine dw_loop (ι := {k : Nat // k ≤ 2 ∧ okN x y u v (2 * k) = true}) (fun i => ⟨56, [(2, .p 2 0), (3, .p 3 0), (4, .p 4 0), (6, .v (.c (.i .i64 (loN x y u v (2 * i.1))))), (7, .v (.c (.i .i64 (hiN x y u v (2 * i.1))))), (19, .o 19 2 2), (20, .v (.c (.i .i64 (2 : Int)))), (21, .v (.c (.i .i64 (i.1 : Int))))], [(2, 80, ([.i .i64 x] ++ [.i .i64 y])), (3, 80, ([.i .i64 u] ++ [.i .i64 v])), (4, 80, ([.i .i64 0] ++ [.i .i64 0])), (19, 2, [.i .i64 x, .i .i64 y])]⟩) (fun i => 2 - i.1) ⟨0, by omega, rfl⟩ (sub_of ⟨rfl, rfl, rfl, rfl, rfl, rfl, rfl, rfl, trivial⟩ ⟨rfl, rfl, rfl, rfl, trivial⟩ rfl) ?_
  rintro ⟨k, hk0, hok⟩
  replace hk0 : k ≤ 2 := hk0
  replace hok : okN x y u v (2 * k) = true := hok
  have gx := sel_bd (k := k) h0 h1 h2 h3
  show Dw _ _ ⟨56, [(2, .p 2 0), (3, .p 3 0), (4, .p 4 0), (6, .v (.c (.i .i64 (loN x y u v (2 * k))))), (7, .v (.c (.i .i64 (hiN x y u v (2 * k))))), (19, .o 19 2 2), (20, .v (.c (.i .i64 (2 : Int)))), (21, .v (.c (.i .i64 (k : Int))))], [(2, 80, ([.i .i64 x] ++ [.i .i64 y])), (3, 80, ([.i .i64 u] ++ [.i .i64 v])), (4, 80, ([.i .i64 0] ++ [.i .i64 0])), (19, 2, [.i .i64 x, .i .i64 y])]⟩ _
  refine dw_seq ?_
  -- region 3
  refine dw_region (by kernel_rfl) ?_
  refine dl_r (sem_cmp rfl rfl rfl rfl) ?_
  refine dl_end ?_
  refine dw_seq ?_
  refine dw_cond rfl (fun hc1 => ?_) (fun hc1 => ?_)
  · have hk : k < 2 := by have := dec_t hc1; omega
    refine dw_skip ?_
    refine dw_seq ?_
    refine dw_block ?_
    refine dw_seq ?_
    -- region 4
    refine dw_region (by kernel_rfl) ?_
    refine dl_r (sem_index_o sl117 rfl rfl (by omega) rfl) ?_
    refine dl_r (sem_load1 ty2 rfl rfl (sel_get (x := x) (y := y) (k := k) (by omega)) rfl) ?_
    refine dl_r (sem_assign rfl rfl) ?_
    refine dl_end ?_
    refine dw_seq ?_
    -- region 5
    refine dw_region (by kernel_rfl) ?_
    refine dl_r (sem_field fd80_0 rfl rfl) ?_
    refine dl_r (sem_load1 ty2 rfl rfl rfl rfl) ?_
    refine dl_r (sem_field fd80_1 rfl rfl) ?_
    refine dl_r (sem_load1 ty2 rfl rfl rfl rfl) ?_
    refine dl_mk (sem_slit (us := [.i .i64 u, .i .i64 v]) el117 rfl rfl (by decide) (by decide) rfl) rfl ?_
    refine dl_r (sem_len_o sl117 rfl rfl) ?_
    refine dl_r (sem_move rfl rfl) ?_
    refine dl_end ?_
    refine dw_block ?_
    refine dw_loop (ι := {j : Nat // j ≤ 2 ∧ okN x y u v (2 * k + j) = true}) (fun i => ⟨56, [(2, .p 2 0), (3, .p 3 0), (4, .p 4 0), (6, .v (.c (.i .i64 (loN x y u v (2 * k + i.1))))), (7, .v (.c (.i .i64 (hiN x y u v (2 * k + i.1))))), (19, .o 19 2 2), (20, .v (.c (.i .i64 (2 : Int)))), (21, .v (.c (.i .i64 (k : Int)))), (9, .v (.c (.i .i64 (sel x y k)))), (29, .o 29 2 2), (30, .v (.c (.i .i64 (2 : Int)))), (31, .v (.c (.i .i64 (i.1 : Int))))], [(2, 80, ([.i .i64 x] ++ [.i .i64 y])), (3, 80, ([.i .i64 u] ++ [.i .i64 v])), (4, 80, ([.i .i64 0] ++ [.i .i64 0])), (19, 2, [.i .i64 x, .i .i64 y]), (29, 2, [.i .i64 u, .i .i64 v])]⟩) (fun i => 2 - i.1) ⟨0, by omega, hok⟩ (sub_of ⟨rfl, rfl, rfl, rfl, rfl, rfl, rfl, rfl, rfl, rfl, rfl, rfl, trivial⟩ ⟨rfl, rfl, rfl, rfl, rfl, trivial⟩ rfl) ?_
    rintro ⟨j, hj0, hokj⟩
    replace hj0 : j ≤ 2 := hj0
    replace hokj : okN x y u v (2 * k + j) = true := hokj
    have gu := sel_bd (k := j) h4 h5 h6 h7
    show Dw _ _ ⟨56, [(2, .p 2 0), (3, .p 3 0), (4, .p 4 0), (6, .v (.c (.i .i64 (loN x y u v (2 * k + j))))), (7, .v (.c (.i .i64 (hiN x y u v (2 * k + j))))), (19, .o 19 2 2), (20, .v (.c (.i .i64 (2 : Int)))), (21, .v (.c (.i .i64 (k : Int)))), (9, .v (.c (.i .i64 (sel x y k)))), (29, .o 29 2 2), (30, .v (.c (.i .i64 (2 : Int)))), (31, .v (.c (.i .i64 (j : Int))))], [(2, 80, ([.i .i64 x] ++ [.i .i64 y])), (3, 80, ([.i .i64 u] ++ [.i .i64 v])), (4, 80, ([.i .i64 0] ++ [.i .i64 0])), (19, 2, [.i .i64 x, .i .i64 y]), (29, 2, [.i .i64 u, .i .i64 v])]⟩ _
    refine dw_seq ?_
    -- region 6
    refine dw_region (by kernel_rfl) ?_
    refine dl_r (sem_cmp rfl rfl rfl rfl) ?_
    refine dl_end ?_
    refine dw_seq ?_
    refine dw_cond rfl (fun hc2 => ?_) (fun hc2 => ?_)
    · have hj : j < 2 := by have := dec_t hc2; omega
      refine dw_skip ?_
      refine dw_seq ?_
      refine dw_block ?_
      refine dw_seq ?_
      -- region 7
      refine dw_region (by kernel_rfl) ?_
      refine dl_r (sem_index_o sl117 rfl rfl (by omega) rfl) ?_
      refine dl_r (sem_load1 ty2 rfl rfl (sel_get (x := u) (y := v) (k := j) (by omega)) rfl) ?_
      refine dl_r (sem_assign rfl rfl) ?_
      refine dl_end ?_
      refine dw_seq ?_
      -- region 8
      refine dw_region (by kernel_rfl) ?_
      refine dl_r (sem_move rfl rfl) ?_
      refine dl_r (sem_move rfl rfl) ?_
      refine dl_r (sem_call rfl rfl (fScaled_ok (by omega) (by omega) (by omega) (by omega)) rfl) ?_
      refine dl_r (sem_move rfl rfl) ?_
      refine dl_r (sem_extract rfl rfl rfl) ?_
      refine dl_r (sem_extract rfl rfl rfl) ?_
      refine dl_r (sem_extract rfl rfl rfl) ?_
      refine dl_r (sem_assign rfl rfl) ?_
      refine dl_r (sem_assign rfl rfl) ?_
      refine dl_r (sem_assign rfl rfl) ?_
      refine dl_end ?_
      refine dw_seq ?_
      refine dw_seq ?_
      -- region 9
      refine dw_region (by kernel_rfl) ?_
      refine dl_r (sem_move rfl rfl) ?_
      refine dl_r (sem_not rfl rfl) ?_
      refine dl_end ?_
      refine dw_cond rfl (fun hc3 => ?_) (fun hc3 => ?_)
      · have hbad : okN x y u v 4 = false := by
          have h8 := ok_false (n := 2 * k + (j + 1)) (by rw [ok_step hj, not_t hc3, Bool.and_false]) (4 - (2 * k + (j + 1)))
          rw [show 2 * k + (j + 1) + (4 - (2 * k + (j + 1))) = 4 from by omega] at h8; exact h8
        refine dw_seq ?_
        -- region 10
        refine dw_region (by kernel_rfl) ?_
        refine dl_r (sem_build (us := ([.i .i64 0] ++ [.i .i64 0])) fs80 zc80 rfl rfl rfl) ?_
        refine dl_st (sem_store_a ty80 rfl rfl rfl rfl rfl rfl) ?_
        refine dl_r (sem_assign rfl rfl) ?_
        refine dl_end ?_
        refine dw_ret ?_
        -- path TTT
        rw [hbad, if_neg (by decide), if_neg (by decide)]
        exact ⟨.inr rfl, (resL_cell (us := ([.i .i64 0] ++ [.i .i64 0])) ty80 rfl rfl rfl rfl (resL_tmp rfl resL_nil))⟩
      · have hsc := not_f hc3
        refine dw_skip ?_
        -- region 11
        refine dw_region (by kernel_rfl) ?_
        refine dl_r (sem_move rfl rfl) ?_
        refine dl_r (sem_move rfl rfl) ?_
        refine dl_r (sem_min rfl rfl rfl) ?_
        refine dl_r (sem_move rfl rfl) ?_
        refine dl_r (sem_move rfl rfl) ?_
        refine dl_r (sem_max rfl rfl rfl) ?_
        refine dl_r (sem_assign rfl rfl) ?_
        refine dl_r (sem_assign rfl rfl) ?_
        refine dl_end ?_
        -- region 12
        refine dw_region (by kernel_rfl) ?_
        refine dl_r (sem_ari (r := (j : Int) + 1) rfl rfl (ari_i64_add (by omega) (by omega)) rfl) ?_
        refine dl_r (sem_move rfl rfl) ?_
        refine dl_end ?_
        exact ⟨⟨j + 1, by omega, by rw [ok_step hj, hokj, hsc]; rfl⟩, sub_of ⟨rfl, rfl, rfl, by rw [← lo_step hj hsc]; rfl, by rw [← hi_step hj hsc]; rfl, rfl, rfl, rfl, rfl, rfl, rfl, by rw [show ((j + 1 : Nat) : Int) = (j : Int) + 1 from by omega]; rfl, trivial⟩ ⟨rfl, rfl, rfl, rfl, rfl, trivial⟩ rfl, by show 2 - (j + 1) < 2 - j; omega⟩
    · have hj2 : 2 * k + j = 2 * k + 2 := by have := dec_f hc2; omega
      refine dw_exit ?_
      -- region 13
      refine dw_region (by kernel_rfl) ?_
      refine dl_r (sem_ari (r := (k : Int) + 1) rfl rfl (ari_i64_add (by omega) (by omega)) rfl) ?_
      refine dl_r (sem_move rfl rfl) ?_
      refine dl_end ?_
      exact ⟨⟨k + 1, by omega, by rw [show 2 * (k + 1) = 2 * k + 2 from by omega, ← hj2]; exact hokj⟩, sub_of ⟨rfl, rfl, rfl, by rw [show 2 * (k + 1) = 2 * k + 2 from by omega, ← hj2]; rfl, by rw [show 2 * (k + 1) = 2 * k + 2 from by omega, ← hj2]; rfl, rfl, rfl, by rw [show ((k + 1 : Nat) : Int) = (k : Int) + 1 from by omega]; rfl, trivial⟩ ⟨rfl, rfl, rfl, rfl, trivial⟩ rfl, by show 2 - (k + 1) < 2 - k; omega⟩
  · have hk2 : 2 * k = 4 := by have := dec_f hc1; omega
    refine dw_exit ?_
    refine dw_seq ?_
    -- region 14
    refine dw_region (by kernel_rfl) ?_
    refine dl_r (sem_move rfl rfl) ?_
    refine dl_r (sem_move rfl rfl) ?_
    refine dl_r (sem_build (us := ([.i .i64 (loN x y u v (2 * k))] ++ [.i .i64 (hiN x y u v (2 * k))])) fs80 zc80 rfl rfl rfl) ?_
    refine dl_st (sem_store_a ty80 rfl rfl rfl rfl rfl rfl) ?_
    refine dl_r (sem_assign rfl rfl) ?_
    refine dl_end ?_
    refine dw_ret ?_
    -- path F
    rw [hk2] at hok
    have e1 : loN x y u v 4 = loN x y u v (2 * k) := by rw [hk2]
    have e2 : hiN x y u v 4 = hiN x y u v (2 * k) := by rw [hk2]
    rw [hok, if_pos rfl, if_pos rfl, e1, e2]
    exact ⟨.inr rfl, (resL_cell (us := ([.i .i64 (loN x y u v (2 * k))] ++ [.i .i64 (hiN x y u v (2 * k))])) ty80 rfl rfl rfl rfl (resL_tmp rfl resL_nil))⟩
end Go.Proofs.YtcbjmiddangfoaaGreat
/- Plain: the interval of a root. -/
namespace Go.Proofs.YtcbjmiddangfoaaGreat
open Go Go.RowKit
theorem frHi_nonneg {c : Rat} (h : ¬ c < 0) : 0 ≤ frHi c := by
  unfold frHi
  have h0 : 0 ≤ c := Rat.not_lt.1 h
  have h1 : 0 ≤ c * ((65536 : Int) : Rat) := Rat.mul_nonneg h0 (by decide)
  have h2 : 0 ≤ (c * ((65536 : Int) : Rat)).num := Rat.num_nonneg.2 h1
  have h3 := den_pos (-(c * ((65536 : Int) : Rat)))
  rw [Int.fdiv_eq_ediv_of_nonneg _ (by omega), Rat.neg_num]
  have h4 : (-(c * ((65536 : Int) : Rat)).num) / ((-(c * ((65536 : Int) : Rat))).den : Int) ≤ 0 := by
    have h5 := Int.ediv_le_ediv h3 (show -(c * ((65536 : Int) : Rat)).num ≤ 0 by omega)
    rw [Int.zero_ediv] at h5; exact h5
  omega
theorem ok_bd {lo hi : Int} (h : okI lo hi = true) : -2305843009213693952 ≤ lo ∧ hi ≤ 2305843009213693952 := by unfold okI at h; simpa using h
theorem fr_le (c : Rat) : frLo c ≤ frHi c := by
  unfold frLo frHi
  have h3 := den_pos (c * ((65536 : Int) : Rat))
  rw [Rat.neg_num, Rat.neg_den, Int.fdiv_eq_ediv_of_nonneg _ (by omega), Int.fdiv_eq_ediv_of_nonneg _ (by omega)]
  generalize (c * ((65536 : Int) : Rat)).num = n at *
  generalize ((c * ((65536 : Int) : Rat)).den : Int) = d at *
  have e1 := Int.mul_ediv_add_emod n d
  have e2 := Int.mul_ediv_add_emod (-n) d
  have m1 := Int.emod_nonneg n (show d ≠ 0 by omega)
  have m2 := Int.emod_nonneg (-n) (show d ≠ 0 by omega)
  have h4 : d * (n / d + (-n) / d) ≤ d * 0 := by rw [Int.mul_add]; omega
  have := Int.le_of_mul_le_mul_left h4 h3
  omega
theorem fr_bd {c : Rat} (h : frOk c = true) : -2305843009213693952 ≤ frLo c ∧ frLo c ≤ 2305843009213693952 ∧ -2305843009213693952 ≤ frHi c ∧ frHi c ≤ 2305843009213693952 := by
  unfold frOk at h
  simp only [Bool.and_eq_true] at h
  have h1 := ok_bd h.2.2
  have h2 := fr_le c
  omega
theorem sq_bd {x y : Int} (h1 : x ≤ 2305843009213693952) (h2 : 0 ≤ y) (h3 : y ≤ 2305843009213693952) : 0 ≤ sqLo x ∧ sqLo x ≤ 549755813889 ∧ 0 ≤ sqHi y ∧ sqHi y ≤ 549755813889 := by
  have b1 := isq_bd (n := max x 0) (by omega) (by omega)
  have b2 := isq_bd (n := y) h2 h3
  unfold sqLo sqHi
  refine ⟨b1.1, by omega, ?_, ?_⟩ <;> split <;> omega
theorem n_bd {x y u v : Int} (n : Nat) (h : okN x y u v n = true) : -2305843009213693952 ≤ loN x y u v n ∧ loN x y u v n ≤ 2305843009213693952 ∧ -2305843009213693952 ≤ hiN x y u v n ∧ hiN x y u v n ≤ 2305843009213693952 := by
  induction n with
  | zero => show _ ≤ (2305843009213693952 : Int) ∧ (2305843009213693952 : Int) ≤ _ ∧ _ ≤ (-2305843009213693952 : Int) ∧ (-2305843009213693952 : Int) ≤ _; omega
  | succ n ih =>
    have h' : (okN x y u v n && scOk (sel x y (n / 2)) (sel u v (n % 2))) = true := h
    rw [Bool.and_eq_true] at h'
    have i := ih h'.1
    have s1 := h'.2
    unfold scOk at s1
    simp only [Bool.and_eq_true, decide_eq_true_eq] at s1
    show _ ≤ min _ _ ∧ min _ _ ≤ _ ∧ _ ≤ max _ _ ∧ max _ _ ≤ _
    omega
def rtMo (b c : Rat) : Bool := okN (frLo b) (frHi b) (sqLo (frLo c)) (sqHi (frHi c)) 4
def rtMl (b c : Rat) : Int := loN (frLo b) (frHi b) (sqLo (frLo c)) (sqHi (frHi c)) 4
def rtMh (b c : Rat) : Int := hiN (frLo b) (frHi b) (sqLo (frLo c)) (sqHi (frHi c)) 4
def rtX (a b c : Rat) : Bool := frOk b && (frOk c && (!decide (cmpR c 0 < 0) && (rtMo b c && okI (frLo a + rtMl b c) (frHi a + rtMh b c))))
def rtOk (a b c : Rat) : Bool := frOk a && ((cmpR b 0 == 0) || rtX a b c)
def rtLo (a b c : Rat) : Int := if rtOk a b c then (if (cmpR b 0 == 0) = true then frLo a else frLo a + rtMl b c) else 0
def rtHi (a b c : Rat) : Int := if rtOk a b c then (if (cmpR b 0 == 0) = true then frHi a else frHi a + rtMh b c) else 0
theorem rt_no {a b c : Rat} (h : rtOk a b c = false) : rtLo a b c = 0 ∧ rtHi a b c = 0 := by
  unfold rtLo rtHi; rw [h]; exact ⟨rfl, rfl⟩
theorem rt_a {a b c : Rat} (h : frOk a = false) : rtOk a b c = false := by unfold rtOk; rw [h]; rfl
theorem rt_x {a b c : Rat} (h : (cmpR b 0 == 0) = false) (hx : rtX a b c = false) : rtOk a b c = false := by unfold rtOk; rw [h, hx]; cases frOk a <;> rfl
theorem rt_b {a b c : Rat} (h : frOk a = true) (h2 : (cmpR b 0 == 0) = true) : rtLo a b c = frLo a ∧ rtHi a b c = frHi a ∧ rtOk a b c = true := by
  have e : rtOk a b c = true := by unfold rtOk; rw [h, h2]; rfl
  unfold rtLo rtHi; rw [e, if_pos rfl, if_pos rfl, if_pos h2, if_pos h2]; exact ⟨rfl, rfl, rfl⟩
theorem rt_f {a b c : Rat} (h : frOk a = true) (h2 : (cmpR b 0 == 0) = false) (h3 : frOk b = true) (h4 : frOk c = true) (h5 : decide (cmpR c 0 < 0) = false) (h6 : rtMo b c = true) :
    rtLo a b c = (if okI (frLo a + rtMl b c) (frHi a + rtMh b c) then frLo a + rtMl b c else 0) ∧ rtHi a b c = (if okI (frLo a + rtMl b c) (frHi a + rtMh b c) then frHi a + rtMh b c else 0) ∧ rtOk a b c = okI (frLo a + rtMl b c) (frHi a + rtMh b c) := by
  have e : rtOk a b c = okI (frLo a + rtMl b c) (frHi a + rtMh b c) := by unfold rtOk rtX; rw [h, h2, h3, h4, h5, h6]; rfl
  unfold rtLo rtHi; rw [e, h2]; exact ⟨rfl, rfl, rfl⟩
end Go.Proofs.YtcbjmiddangfoaaGreat
