/- radical.Sign. -/
import Derived.Test.YthhhlpdbainlaaaGreatTaL
namespace Go.Proofs.YthhhlpdbainlaaaGreat
open Go Go.RowKit
theorem xSignAdd_ok {a b : Rat} (ha : Rz 300 a) (hb : Rz 300 b) : Ok Tryz.prog 119 [dR a, dR b] [dR (a + b)] := by
  refine Ok.of (by kernel_rfl) Tryz.func119 rfl rfl ?_
  rw [show Tryz.f119.ntmps = 8 from rfl, show Tryz.f119.results.toList = [.cell 4 31] from rfl]
  refine dw_seq <| dw_region (by kernel_rfl) <| dl_new (sem_box_a rfl rfl) rfl <| dl_new (sem_box_a rfl rfl) rfl <| dl_new (sem_alloc zc31 rfl) rfl <| dl_end <| dw_seq <| dw_region (by kernel_rfl) ?_
  refine dl_r (sem_load (us := cR a) ty31 rfl rfl rfl rfl rfl) <| dl_r (sem_load (us := cR b) ty31 rfl rfl rfl rfl rfl) ?_
  refine dl_r (sem_call rfl rfl (pAdd_ok (by first | assumption | exact Rz.mono ha (by decide)) (by first | assumption | exact Rz.mono hb (by decide))) rfl) ?_
  refine dl_st (sem_store_a ty31 rfl rfl rfl rfl rfl rfl) <| dl_end <| dw_ret ?_
  exact ⟨.inr rfl, (resL_cell (us := cR (a + b)) ty31 rfl rfl rfl rfl resL_nil)⟩
theorem xSign_ok {A B C D M N : Rat} (hA : Rz 8 A) (hB : Rz 8 B) (hC : Rz 8 C) (hD : Rz 8 D) (hM : Rz 8 M) (hN : Rz 8 N) : Ok Tryz.prog 79 [.a (cR A ++ cR B ++ cR C ++ cR D ++ cR M ++ cR N)] [.c (.i .i64 (sgnP A B C D M N))] := by
  have z1 := prod_bd (plainS_bd C D M) (cmpR_bd N 0)
  have z2 := prod_bd (plainS_bd A B M) (plainS_bd (A * A + M * (B * B) - N * (C * C + M * (D * D))) ((A * B - N * (C * D)) + (A * B - N * (C * D))) M)
  have kA : Rz 200 A := hA.mono (by decide)
  have kB : Rz 200 B := hB.mono (by decide)
  have kC : Rz 200 C := hC.mono (by decide)
  have kD : Rz 200 D := hD.mono (by decide)
  have kM : Rz 200 M := hM.mono (by decide)
  have kN : Rz 200 N := hN.mono (by decide)
  refine Ok.of (by kernel_rfl) Tryz.func79 rfl rfl ?_
  rw [show Tryz.f79.ntmps = 127 from rfl, show Tryz.f79.results.toList = [.tmp 2] from rfl]
  refine dw_seq <| dw_region (by kernel_rfl) <| dl_new (sem_box_a rfl rfl) rfl <| dl_r (sem_assign rfl rfl) <| dl_end <| dw_seq <| dw_seq <| dw_region (by kernel_rfl) ?_
  refine dl_r (sem_field fd126_4 rfl rfl) <| dl_r (sem_load (us := cR M) ty31 rfl rfl rfl rfl rfl) <| dl_r (sem_call rfl rfl (pSign_ok) rfl) <| dl_r (sem_cmp rfl rfl rfl rfl) ?_
  refine dl_rb (sem_move rfl rfl) (fun c1 hb1 => ?_)
  cases c1
  · have n1 := r_nlt hb1
    refine dl_r (sem_field fd126_5 rfl rfl) <| dl_r (sem_load (us := cR N) ty31 rfl rfl rfl rfl rfl) <| dl_r (sem_call rfl rfl (pSign_ok) rfl) <| dl_r (sem_cmp rfl rfl rfl rfl) <| dl_r (sem_pick rfl rfl rfl rfl) <| dl_end ?_
    refine dw_cond rfl (fun hc2 => ?_) (fun hc2 => ?_)
    · refine dw_seq <| dw_region (by kernel_rfl) <| dl_r (sem_assign rfl rfl) <| dl_end <| dw_ret ?_
      rw [sgnP_n (.inr (r_lt hc2))]
      exact ⟨.inr rfl, (resL_tmp rfl resL_nil)⟩
    · have n2 := r_nlt hc2
      refine dw_skip <| dw_seq <| dw_seq <| dw_region (by kernel_rfl) <| dl_r (sem_load (us := (cR A ++ cR B ++ cR C ++ cR D ++ cR M ++ cR N)) ty126 rfl rfl rfl rfl rfl) <| dl_r (sem_call rfl rfl (xQuick_ok (by assumption) (by assumption) (by assumption) (by assumption) (by assumption) (by assumption) (by assumption) (by assumption)) rfl) <| dl_r (sem_move rfl rfl) <| dl_r (sem_extract rfl rfl rfl) ?_
      refine dl_r (sem_extract rfl rfl rfl) <| dl_r (sem_assign rfl rfl) <| dl_r (sem_assign rfl rfl) <| dl_end <| dw_seq <| dw_region (by kernel_rfl) <| dl_r (sem_move rfl rfl) <| dl_end ?_
      refine dw_cond rfl (fun hc3 => ?_) (fun hc3 => ?_)
      · refine dw_seq <| dw_region (by kernel_rfl) <| dl_r (sem_move rfl rfl) <| dl_r (sem_assign rfl rfl) <| dl_end <| dw_ret ?_
        rw [sgnP_q n1 n2 hc3]
        exact ⟨.inr rfl, (resL_tmp rfl resL_nil)⟩
      · refine dw_skip <| dw_seq <| dw_draw 20 [] follows_mixed (by kernel_rfl) rfl rfl <| dq_r (sem_field fd126_0 rfl rfl) <| dq_r (sem_load (us := cR A) ty31 rfl rfl rfl rfl rfl) <| dq_r (sem_field fd126_1 rfl rfl) <| dq_r (sem_load (us := cR B) ty31 rfl rfl rfl rfl rfl) <| dq_r (sem_field fd126_4 rfl rfl) ?_
        refine dq_r (sem_load (us := cR M) ty31 rfl rfl rfl rfl rfl) ?_
        refine dq_r (sem_call rfl rfl (xPlain_ok (by first | assumption | exact Rz.mono hA (by decide)) (by first | assumption | exact Rz.mono hB (by decide)) (by first | assumption | exact Rz.mono hM (by decide))) rfl) ?_
        refine dq_r (sem_field fd126_2 rfl rfl) <| dq_r (sem_load (us := cR C) ty31 rfl rfl rfl rfl rfl) <| dq_r (sem_field fd126_3 rfl rfl) <| dq_r (sem_load (us := cR D) ty31 rfl rfl rfl rfl rfl) <| dq_r (sem_field fd126_4 rfl rfl) <| dq_r (sem_load (us := cR M) ty31 rfl rfl rfl rfl rfl) ?_
        refine dq_r (sem_call rfl rfl (xPlain_ok (by first | assumption | exact Rz.mono hC (by decide)) (by first | assumption | exact Rz.mono hD (by decide)) (by first | assumption | exact Rz.mono hM (by decide))) rfl) ?_
        refine dq_r (sem_field fd126_5 rfl rfl) <| dq_r (sem_load (us := cR N) ty31 rfl rfl rfl rfl rfl) <| dq_r (sem_call rfl rfl (pSign_ok) rfl) <| dq_r (sem_ari (r := (plainS C D M) * (cmpR N 0)) rfl rfl (ari_i64_mul (by omega) (by omega)) rfl) <| dq_r (sem_assign rfl rfl) <| dq_r (sem_assign rfl rfl) <| dq_end <| dl_start0 ?_
        refine dl_end <| dw_seq <| dw_block <| dw_seq <| dw_region (by kernel_rfl) <| dl_r (sem_move rfl rfl) <| dl_r (sem_cmp rfl rfl rfl rfl) ?_
        refine dl_rb (sem_move rfl rfl) (fun c4 hb4 => ?_)
        cases c4
        · refine dl_r (sem_move rfl rfl) <| dl_r (sem_move rfl rfl) <| dl_r (sem_cmp rfl rfl rfl rfl) <| dl_r (sem_pick rfl rfl rfl rfl) <| dl_r (sem_assign rfl rfl) <| dl_end ?_
          refine dw_cond rfl (fun hc5 => ?_) (fun hc5 => ?_)
          · refine dw_seq <| dw_region (by kernel_rfl) <| dl_r (sem_move rfl rfl) <| dl_r (sem_assign rfl rfl) <| dl_end <| dw_ret ?_
            rw [sgnP_p n1 n2 hc3, comb_eq hc5]
            exact ⟨.inr rfl, (resL_tmp rfl resL_nil)⟩
          · refine dw_seq <| dw_region (by kernel_rfl) <| dl_r (sem_move rfl rfl) <| dl_r (sem_cmp rfl rfl rfl rfl) <| dl_r (sem_assign rfl rfl) <| dl_end ?_
            refine dw_cond rfl (fun hc6 => ?_) (fun hc6 => ?_)
            · refine dw_seq <| dw_region (by kernel_rfl) <| dl_r (sem_move rfl rfl) <| dl_r (sem_assign rfl rfl) <| dl_end <| dw_ret ?_
              rw [sgnP_p n1 n2 hc3, comb_s0 hc6]
              exact ⟨.inr rfl, (resL_tmp rfl resL_nil)⟩
            · refine dw_skip <| dw_seq <| dw_region (by kernel_rfl) <| dl_r (sem_assign rfl rfl) <| dl_end <| dw_seq <| dw_region (by kernel_rfl) <| dl_r (sem_assign rfl rfl) ?_
              refine dl_end <| dw_seq <| dw_draw 42 [] follows_mixed (by kernel_rfl) rfl rfl <| dq_r (sem_move rfl rfl) <| dq_r (sem_move rfl rfl) <| dq_r (sem_field fd126_0 rfl rfl) <| dq_r (sem_load (us := cR A) ty31 rfl rfl rfl rfl rfl) <| dq_r (sem_field fd126_0 rfl rfl) ?_
              refine dq_r (sem_load (us := cR A) ty31 rfl rfl rfl rfl rfl) ?_
              refine dq_r (sem_call rfl rfl (pMul_ok (by first | assumption | exact Rz.mono hA (by decide)) (by first | assumption | exact Rz.mono hA (by decide))) rfl) ?_
              refine dq_r (sem_move rfl rfl) <| dq_r (sem_field fd126_4 rfl rfl) <| dq_r (sem_load (us := cR M) ty31 rfl rfl rfl rfl rfl) <| dq_r (sem_move rfl rfl) <| dq_r (sem_field fd126_1 rfl rfl) <| dq_r (sem_load (us := cR B) ty31 rfl rfl rfl rfl rfl) <| dq_r (sem_field fd126_1 rfl rfl) <| dq_r (sem_load (us := cR B) ty31 rfl rfl rfl rfl rfl) ?_
              refine dq_r (sem_call rfl rfl (pMul_ok (by first | assumption | exact Rz.mono hB (by decide)) (by first | assumption | exact Rz.mono hB (by decide))) rfl) ?_
              refine dq_r (sem_call rfl rfl (pMul_ok (by first | assumption | exact Rz.mono hM (by decide)) (by first | assumption | exact Rz.mono (Rz.mul hB hB) (by decide))) rfl) ?_
              refine dq_r (sem_call rfl rfl (xSignAdd_ok (by first | assumption | exact Rz.mono (Rz.mul hA hA) (by decide)) (by first | assumption | exact Rz.mono (Rz.mul hM (Rz.mul hB hB)) (by decide))) rfl) ?_
              refine dq_r (sem_move rfl rfl) <| dq_r (sem_field fd126_5 rfl rfl) <| dq_r (sem_load (us := cR N) ty31 rfl rfl rfl rfl rfl) <| dq_r (sem_move rfl rfl) <| dq_r (sem_move rfl rfl) <| dq_r (sem_field fd126_2 rfl rfl) <| dq_r (sem_load (us := cR C) ty31 rfl rfl rfl rfl rfl) <| dq_r (sem_field fd126_2 rfl rfl) ?_
              refine dq_r (sem_load (us := cR C) ty31 rfl rfl rfl rfl rfl) ?_
              refine dq_r (sem_call rfl rfl (pMul_ok (by first | assumption | exact Rz.mono hC (by decide)) (by first | assumption | exact Rz.mono hC (by decide))) rfl) ?_
              refine dq_r (sem_move rfl rfl) <| dq_r (sem_field fd126_4 rfl rfl) <| dq_r (sem_load (us := cR M) ty31 rfl rfl rfl rfl rfl) <| dq_r (sem_move rfl rfl) <| dq_r (sem_field fd126_3 rfl rfl) <| dq_r (sem_load (us := cR D) ty31 rfl rfl rfl rfl rfl) <| dq_r (sem_field fd126_3 rfl rfl) <| dq_r (sem_load (us := cR D) ty31 rfl rfl rfl rfl rfl) ?_
              refine dq_r (sem_call rfl rfl (pMul_ok (by first | assumption | exact Rz.mono hD (by decide)) (by first | assumption | exact Rz.mono hD (by decide))) rfl) ?_
              refine dq_r (sem_call rfl rfl (pMul_ok (by first | assumption | exact Rz.mono hM (by decide)) (by first | assumption | exact Rz.mono (Rz.mul hD hD) (by decide))) rfl) ?_
              refine dq_r (sem_call rfl rfl (xSignAdd_ok (by first | assumption | exact Rz.mono (Rz.mul hC hC) (by decide)) (by first | assumption | exact Rz.mono (Rz.mul hM (Rz.mul hD hD)) (by decide))) rfl) ?_
              refine dq_r (sem_call rfl rfl (pMul_ok (by first | assumption | exact Rz.mono hN (by decide)) (by first | assumption | exact Rz.mono (Rz.add (Rz.mul hC hC) (Rz.mul hM (Rz.mul hD hD))) (by decide))) rfl) ?_
              refine dq_r (sem_call rfl rfl (pSub_ok (by first | assumption | exact Rz.mono (Rz.add (Rz.mul hA hA) (Rz.mul hM (Rz.mul hB hB))) (by decide)) (by first | assumption | exact Rz.mono (Rz.mul hN (Rz.add (Rz.mul hC hC) (Rz.mul hM (Rz.mul hD hD)))) (by decide))) rfl) ?_
              refine dq_new (sem_alloc zc31 rfl) rfl <| dq_end <| dl_start1 <| dl_st (sem_store_a ty31 rfl rfl rfl rfl rfl rfl) <| dl_end <| dw_seq <| dw_draw 18 [] follows_mixed (by kernel_rfl) rfl rfl <| dq_r (sem_move rfl rfl) ?_
              refine dq_r (sem_field fd126_0 rfl rfl) <| dq_r (sem_load (us := cR A) ty31 rfl rfl rfl rfl rfl) <| dq_r (sem_field fd126_1 rfl rfl) <| dq_r (sem_load (us := cR B) ty31 rfl rfl rfl rfl rfl) ?_
              refine dq_r (sem_call rfl rfl (pMul_ok (by first | assumption | exact Rz.mono hA (by decide)) (by first | assumption | exact Rz.mono hB (by decide))) rfl) ?_
              refine dq_r (sem_move rfl rfl) <| dq_r (sem_field fd126_5 rfl rfl) <| dq_r (sem_load (us := cR N) ty31 rfl rfl rfl rfl rfl) <| dq_r (sem_move rfl rfl) <| dq_r (sem_field fd126_2 rfl rfl) <| dq_r (sem_load (us := cR C) ty31 rfl rfl rfl rfl rfl) <| dq_r (sem_field fd126_3 rfl rfl) <| dq_r (sem_load (us := cR D) ty31 rfl rfl rfl rfl rfl) ?_
              refine dq_r (sem_call rfl rfl (pMul_ok (by first | assumption | exact Rz.mono hC (by decide)) (by first | assumption | exact Rz.mono hD (by decide))) rfl) ?_
              refine dq_r (sem_call rfl rfl (pMul_ok (by first | assumption | exact Rz.mono hN (by decide)) (by first | assumption | exact Rz.mono (Rz.mul hC hD) (by decide))) rfl) ?_
              refine dq_r (sem_call rfl rfl (pSub_ok (by first | assumption | exact Rz.mono (Rz.mul hA hB) (by decide)) (by first | assumption | exact Rz.mono (Rz.mul hN (Rz.mul hC hD)) (by decide))) rfl) ?_
              refine dq_new (sem_alloc zc31 rfl) rfl <| dq_end <| dl_start1 <| dl_st (sem_store_a ty31 rfl rfl rfl rfl rfl rfl) <| dl_end <| dw_seq <| dw_draw 11 [] follows_mixed (by kernel_rfl) rfl rfl <| dq_r (sem_move rfl rfl) ?_
              refine dq_r (sem_load (us := cR (((A * A) + (M * (B * B))) - (N * ((C * C) + (M * (D * D)))))) ty31 rfl rfl rfl rfl rfl) <| dq_r (sem_move rfl rfl) <| dq_r (sem_load (us := cR ((A * B) - (N * (C * D)))) ty31 rfl rfl rfl rfl rfl) <| dq_r (sem_load (us := cR ((A * B) - (N * (C * D)))) ty31 rfl rfl rfl rfl rfl) ?_
              refine dq_r (sem_call rfl rfl (xSignAdd_ok (by first | assumption | exact Rz.mono (Rz.sub (Rz.mul hA hB) (Rz.mul hN (Rz.mul hC hD))) (by decide)) (by first | assumption | exact Rz.mono (Rz.sub (Rz.mul hA hB) (Rz.mul hN (Rz.mul hC hD))) (by decide))) rfl) ?_
              refine dq_r (sem_field fd126_4 rfl rfl) <| dq_r (sem_load (us := cR M) ty31 rfl rfl rfl rfl rfl) ?_
              refine dq_r (sem_call rfl rfl (xPlain_ok (by first | assumption | exact Rz.mono (Rz.sub (Rz.add (Rz.mul hA hA) (Rz.mul hM (Rz.mul hB hB))) (Rz.mul hN (Rz.add (Rz.mul hC hC) (Rz.mul hM (Rz.mul hD hD))))) (by decide)) (by first | assumption | exact Rz.mono (Rz.add (Rz.sub (Rz.mul hA hB) (Rz.mul hN (Rz.mul hC hD))) (Rz.sub (Rz.mul hA hB) (Rz.mul hN (Rz.mul hC hD)))) (by decide)) (by first | assumption | exact Rz.mono hM (by decide))) rfl) ?_
              refine dq_r (sem_ari (r := (plainS A B M) * (plainS (((A * A) + (M * (B * B))) - (N * ((C * C) + (M * (D * D))))) (((A * B) - (N * (C * D))) + ((A * B) - (N * (C * D)))) M)) rfl rfl (ari_i64_mul (by omega) (by omega)) rfl) <| dq_r (sem_assign rfl rfl) <| dq_end <| dl_start0 <| dl_end <| dw_ret ?_
              rw [sgnP_p n1 n2 hc3, comb_ne hc6 hb4 hc5]
              exact ⟨.inr rfl, (resL_tmp rfl resL_nil)⟩
        · refine dl_skip (sem_skip rfl) <| dl_skip (sem_skip rfl) <| dl_skip (sem_skip rfl) <| dl_r (sem_pick rfl rfl rfl rfl) <| dl_r (sem_assign rfl rfl) <| dl_end <| dw_true rfl <| dw_seq ?_
          refine dw_region (by kernel_rfl) <| dl_r (sem_move rfl rfl) <| dl_r (sem_assign rfl rfl) <| dl_end <| dw_ret ?_
          rw [sgnP_p n1 n2 hc3, comb_t0 hb4]
          exact ⟨.inr rfl, (resL_tmp rfl resL_nil)⟩
  · refine dl_skip (sem_skip rfl) <| dl_skip (sem_skip rfl) <| dl_skip (sem_skip rfl) <| dl_skip (sem_skip rfl) <| dl_r (sem_pick rfl rfl rfl rfl) <| dl_end <| dw_true rfl <| dw_seq ?_
    refine dw_region (by kernel_rfl) <| dl_r (sem_assign rfl rfl) <| dl_end <| dw_ret ?_
    rw [sgnP_n (.inl (r_lt hb1))]
    exact ⟨.inr rfl, (resL_tmp rfl resL_nil)⟩
theorem xCmp_ok {a b c d e f : Rat} (ha : Rz 100 a) (hb : Rz 8 b) (hc : Rz 8 c) (hd : Rz 100 d) (he : Rz 8 e) (hf : Rz 8 f) (h1 : Rz 8 (a - d)) : Ok Tryz.prog 31 [.a (cR a ++ cR b ++ cR c), .a (cR d ++ cR e ++ cR f)] [.c (.i .i64 (cmpP a b c d e f))] := by
  have ka : Rz 300 a := ha.mono (by decide)
  have la : Rz 200 a := ha.mono (by decide)
  have kb : Rz 300 b := hb.mono (by decide)
  have lb : Rz 200 b := hb.mono (by decide)
  have kc : Rz 300 c := hc.mono (by decide)
  have lc : Rz 200 c := hc.mono (by decide)
  have kd : Rz 300 d := hd.mono (by decide)
  have ld : Rz 200 d := hd.mono (by decide)
  have ke : Rz 300 e := he.mono (by decide)
  have le : Rz 200 e := he.mono (by decide)
  have kf : Rz 300 f := hf.mono (by decide)
  have lf : Rz 200 f := hf.mono (by decide)
  have m2 : Rz 8 (-e) := he.neg
  have m0 : Rz 8 (0 : Rat) := Rz.int (n := 0) (Sz.small (by decide) (by decide) (by decide)) (by decide)
  have w1 : Rz 100 (a - d) := h1.mono (by decide)
  have w2 : Rz 100 (b - e) := (hb.sub he).mono (by decide)
  have w3 : Rz 100 c := hc.mono (by decide)
  refine Ok.of (by kernel_rfl) Tryz.func31 rfl rfl ?_
  rw [show Tryz.f31.ntmps = 53 from rfl, show Tryz.f31.results.toList = [.tmp 4] from rfl]
  refine dw_seq <| dw_region (by kernel_rfl) <| dl_new (sem_box_a rfl rfl) rfl <| dl_new (sem_box_a rfl rfl) rfl <| dl_r (sem_assign rfl rfl) <| dl_end <| dw_seq <| dw_seq ?_
  refine dw_region (by kernel_rfl) <| dl_r (sem_field fd33_1 rfl rfl) <| dl_r (sem_load (us := cR b) ty31 rfl rfl rfl rfl rfl) <| dl_r (sem_call rfl rfl (pSign_ok) rfl) <| dl_r (sem_cmp rfl rfl rfl rfl) ?_
  refine dl_rb (sem_move rfl rfl) (fun c1 hb1 => ?_)
  cases c1
  · refine dl_skip (sem_skip rfl) <| dl_skip (sem_skip rfl) <| dl_skip (sem_skip rfl) <| dl_skip (sem_skip rfl) <| dl_r (sem_pick rfl rfl rfl rfl) <| dl_end <| dw_false rfl <| dw_skip ?_
    refine dw_seq <| dw_seq <| dw_region (by kernel_rfl) <| dl_r (sem_load (us := (cR a ++ cR b ++ cR c)) ty33 rfl rfl rfl rfl rfl) <| dl_r (sem_load (us := (cR d ++ cR e ++ cR f)) ty33 rfl rfl rfl rfl rfl) <| dl_r (sem_call rfl rfl (xApart_ok (by assumption) (by assumption) (by assumption) (by assumption) (by assumption) (by assumption)) rfl) <| dl_r (sem_move rfl rfl) <| dl_r (sem_extract rfl rfl rfl) ?_
    refine dl_r (sem_extract rfl rfl rfl) <| dl_r (sem_assign rfl rfl) <| dl_r (sem_assign rfl rfl) <| dl_end <| dw_seq <| dw_region (by kernel_rfl) <| dl_r (sem_move rfl rfl) <| dl_end ?_
    refine dw_cond rfl (fun hc2 => ?_) (fun hc2 => ?_)
    · refine dw_seq <| dw_region (by kernel_rfl) <| dl_r (sem_move rfl rfl) <| dl_r (sem_assign rfl rfl) <| dl_end <| dw_ret ?_
      rw [cmpP_a (nb_l hb1) hc2]
      exact ⟨.inr rfl, (resL_tmp rfl resL_nil)⟩
    · refine dw_skip <| dw_seq <| dw_seq <| dw_region (by kernel_rfl) <| dl_r (sem_field fd33_2 rfl rfl) <| dl_r (sem_load (us := cR c) ty31 rfl rfl rfl rfl rfl) <| dl_r (sem_field fd33_2 rfl rfl) <| dl_r (sem_load (us := cR f) ty31 rfl rfl rfl rfl rfl) ?_
      refine dl_r (sem_call rfl rfl (pCmp_ok (by first | assumption | exact Rz.mono hc (by decide)) (by first | assumption | exact Rz.mono hf (by decide))) rfl) ?_
      refine dl_r (sem_cmp rfl rfl rfl rfl) <| dl_end ?_
      refine dw_cond rfl (fun hc3 => ?_) (fun hc3 => ?_)
      · refine dw_seq <| dw_draw 14 [] follows_mixed (by kernel_rfl) rfl rfl <| dq_r (sem_field fd33_0 rfl rfl) <| dq_r (sem_load (us := cR a) ty31 rfl rfl rfl rfl rfl) <| dq_r (sem_field fd33_0 rfl rfl) <| dq_r (sem_load (us := cR d) ty31 rfl rfl rfl rfl rfl) ?_
        refine dq_r (sem_call rfl rfl (pSub_ok (by first | assumption | exact Rz.mono ha (by decide)) (by first | assumption | exact Rz.mono hd (by decide))) rfl) ?_
        refine dq_r (sem_field fd33_1 rfl rfl) <| dq_r (sem_load (us := cR b) ty31 rfl rfl rfl rfl rfl) <| dq_r (sem_field fd33_1 rfl rfl) <| dq_r (sem_load (us := cR e) ty31 rfl rfl rfl rfl rfl) ?_
        refine dq_r (sem_call rfl rfl (pSub_ok (by first | assumption | exact Rz.mono hb (by decide)) (by first | assumption | exact Rz.mono he (by decide))) rfl) ?_
        refine dq_r (sem_field fd33_2 rfl rfl) <| dq_r (sem_load (us := cR c) ty31 rfl rfl rfl rfl rfl) <| dq_r (sem_call rfl rfl (xPlain_ok w1 w2 w3) rfl) <| dq_r (sem_assign rfl rfl) <| dq_end <| dl_start0 <| dl_end <| dw_ret ?_
        rw [cmpP_c (nb_l hb1) hc2 hc3]
        exact ⟨.inr rfl, (resL_tmp rfl resL_nil)⟩
      · refine dw_skip <| dw_seq <| dw_region (by kernel_rfl) <| dl_r (sem_load (us := (cR a ++ cR b ++ cR c)) ty33 rfl rfl rfl rfl rfl) <| dl_r (sem_load (us := (cR d ++ cR e ++ cR f)) ty33 rfl rfl rfl rfl rfl) <| dl_r (sem_call rfl rfl (xSub_ok (by assumption) (by assumption) (by assumption) (by assumption) (by assumption) (by assumption)) rfl) <| dl_r (sem_call rfl rfl (xSign_ok (by assumption) (by assumption) (by assumption) (by assumption) (by assumption) (by assumption)) rfl) <| dl_r (sem_assign rfl rfl) ?_
        refine dl_end <| dw_ret ?_
        rw [cmpP_s (nb_l hb1) hc2 hc3]
        exact ⟨.inr rfl, (resL_tmp rfl resL_nil)⟩
  · refine dl_r (sem_field fd33_1 rfl rfl) <| dl_r (sem_load (us := cR e) ty31 rfl rfl rfl rfl rfl) <| dl_r (sem_call rfl rfl (pSign_ok) rfl) <| dl_r (sem_cmp rfl rfl rfl rfl) <| dl_r (sem_pick rfl rfl rfl rfl) <| dl_end ?_
    refine dw_cond rfl (fun hc4 => ?_) (fun hc4 => ?_)
    · refine dw_seq <| dw_region (by kernel_rfl) <| dl_r (sem_field fd33_0 rfl rfl) <| dl_r (sem_load (us := cR a) ty31 rfl rfl rfl rfl rfl) <| dl_r (sem_field fd33_0 rfl rfl) <| dl_r (sem_load (us := cR d) ty31 rfl rfl rfl rfl rfl) ?_
      refine dl_r (sem_call rfl rfl (pCmp_ok (by first | assumption | exact Rz.mono ha (by decide)) (by first | assumption | exact Rz.mono hd (by decide))) rfl) ?_
      refine dl_r (sem_assign rfl rfl) <| dl_end <| dw_ret ?_
      rw [cmpP_r hb1 hc4]
      exact ⟨.inr rfl, (resL_tmp rfl resL_nil)⟩
    · refine dw_skip <| dw_seq <| dw_seq <| dw_region (by kernel_rfl) <| dl_r (sem_load (us := (cR a ++ cR b ++ cR c)) ty33 rfl rfl rfl rfl rfl) <| dl_r (sem_load (us := (cR d ++ cR e ++ cR f)) ty33 rfl rfl rfl rfl rfl) <| dl_r (sem_call rfl rfl (xApart_ok (by assumption) (by assumption) (by assumption) (by assumption) (by assumption) (by assumption)) rfl) <| dl_r (sem_move rfl rfl) ?_
      refine dl_r (sem_extract rfl rfl rfl) <| dl_r (sem_extract rfl rfl rfl) <| dl_r (sem_assign rfl rfl) <| dl_r (sem_assign rfl rfl) <| dl_end <| dw_seq <| dw_region (by kernel_rfl) <| dl_r (sem_move rfl rfl) ?_
      refine dl_end ?_
      refine dw_cond rfl (fun hc5 => ?_) (fun hc5 => ?_)
      · refine dw_seq <| dw_region (by kernel_rfl) <| dl_r (sem_move rfl rfl) <| dl_r (sem_assign rfl rfl) <| dl_end <| dw_ret ?_
        rw [cmpP_a (nb_r hc4) hc5]
        exact ⟨.inr rfl, (resL_tmp rfl resL_nil)⟩
      · refine dw_skip <| dw_seq <| dw_seq <| dw_region (by kernel_rfl) <| dl_r (sem_field fd33_2 rfl rfl) <| dl_r (sem_load (us := cR c) ty31 rfl rfl rfl rfl rfl) <| dl_r (sem_field fd33_2 rfl rfl) <| dl_r (sem_load (us := cR f) ty31 rfl rfl rfl rfl rfl) ?_
        refine dl_r (sem_call rfl rfl (pCmp_ok (by first | assumption | exact Rz.mono hc (by decide)) (by first | assumption | exact Rz.mono hf (by decide))) rfl) ?_
        refine dl_r (sem_cmp rfl rfl rfl rfl) <| dl_end ?_
        refine dw_cond rfl (fun hc6 => ?_) (fun hc6 => ?_)
        · refine dw_seq <| dw_draw 14 [] follows_mixed (by kernel_rfl) rfl rfl <| dq_r (sem_field fd33_0 rfl rfl) <| dq_r (sem_load (us := cR a) ty31 rfl rfl rfl rfl rfl) <| dq_r (sem_field fd33_0 rfl rfl) <| dq_r (sem_load (us := cR d) ty31 rfl rfl rfl rfl rfl) ?_
          refine dq_r (sem_call rfl rfl (pSub_ok (by first | assumption | exact Rz.mono ha (by decide)) (by first | assumption | exact Rz.mono hd (by decide))) rfl) ?_
          refine dq_r (sem_field fd33_1 rfl rfl) <| dq_r (sem_load (us := cR b) ty31 rfl rfl rfl rfl rfl) <| dq_r (sem_field fd33_1 rfl rfl) <| dq_r (sem_load (us := cR e) ty31 rfl rfl rfl rfl rfl) ?_
          refine dq_r (sem_call rfl rfl (pSub_ok (by first | assumption | exact Rz.mono hb (by decide)) (by first | assumption | exact Rz.mono he (by decide))) rfl) ?_
          refine dq_r (sem_field fd33_2 rfl rfl) <| dq_r (sem_load (us := cR c) ty31 rfl rfl rfl rfl rfl) <| dq_r (sem_call rfl rfl (xPlain_ok w1 w2 w3) rfl) <| dq_r (sem_assign rfl rfl) <| dq_end <| dl_start0 <| dl_end <| dw_ret ?_
          rw [cmpP_c (nb_r hc4) hc5 hc6]
          exact ⟨.inr rfl, (resL_tmp rfl resL_nil)⟩
        · refine dw_skip <| dw_seq <| dw_region (by kernel_rfl) <| dl_r (sem_load (us := (cR a ++ cR b ++ cR c)) ty33 rfl rfl rfl rfl rfl) <| dl_r (sem_load (us := (cR d ++ cR e ++ cR f)) ty33 rfl rfl rfl rfl rfl) <| dl_r (sem_call rfl rfl (xSub_ok (by assumption) (by assumption) (by assumption) (by assumption) (by assumption) (by assumption)) rfl) <| dl_r (sem_call rfl rfl (xSign_ok (by assumption) (by assumption) (by assumption) (by assumption) (by assumption) (by assumption)) rfl) <| dl_r (sem_assign rfl rfl) ?_
          refine dl_end <| dw_ret ?_
          rw [cmpP_s (nb_r hc4) hc5 hc6]
          exact ⟨.inr rfl, (resL_tmp rfl resL_nil)⟩
def leR (x y : Re) : Prop := 0 ≤ sgR (y - x)
theorem le_tr {x y z : Re} (h : leR x y) (g : leR y z) : leR x z := by
  unfold leR at *
  have e : z - x = (z - y) + (y - x) := Re.ext fun k => by simp only [re_sub, re_add]; grind
  rw [e]; exact sgR_nn g h
theorem of_le {p q : Rat} (h : p ≤ q) : leR (Re.of p) (Re.of q) := by
  unfold leR
  rw [of_sub, sgR_of]
  unfold cmpR
  rw [if_neg (by grind)]
  split <;> omega
theorem nn_of {x y : Re} (h : ∀ k, x.s k = y.s k) (g : 0 ≤ sgR x) : 0 ≤ sgR y := by rw [← Re.ext h]; exact g
def InI (lo hi : Int) (x : Re) : Prop := leR (Re.of (lo : Rat)) (Re.of 65536 * x) ∧ leR (Re.of 65536 * x) (Re.of (hi : Rat))
theorem sgR_add_le {x y u v : Re} (h : leR x y) (g : leR u v) : leR (x + u) (y + v) := by
  unfold leR at *
  exact nn_of (fun k => by simp only [re_sub, re_add]; grind) (sgR_nn h g)
theorem fl_le (y : Rat) : ((y.num.fdiv (y.den : Int) : Int) : Rat) ≤ y := by
  have hd := den_pos y
  have h1 := r_num y
  have hp : (0 : Rat) < ((y.den : Int) : Rat) := Rat.intCast_pos.2 hd
  refine q_cancel hp ?_
  rw [h1, ← Rat.intCast_mul]
  refine Rat.intCast_le_intCast.2 ?_
  rw [Int.fdiv_eq_ediv_of_nonneg _ (by omega), Int.mul_comm]
  have := Int.mul_ediv_add_emod y.num (y.den : Int)
  have := Int.emod_nonneg y.num (show (y.den : Int) ≠ 0 by omega)
  omega
theorem in_fr (a : Rat) : InI (frLo a) (frHi a) (Re.of a) := by
  have h1 := fl_le (a * ((65536 : Int) : Rat))
  have h2 := fl_le (-(a * ((65536 : Int) : Rat)))
  have e : ((65536 : Int) : Rat) = 65536 := rfl
  rw [e] at h1 h2
  refine ⟨?_, ?_⟩
  · rw [of_mul]
    refine of_le ?_
    unfold frLo
    rw [e]
    grind
  · rw [of_mul]
    refine of_le ?_
    unfold frHi
    rw [e, Rat.intCast_neg]
    grind
theorem in_g {a : Rat} (h : frOk a = true) : InI (gL a) (gH a) (Re.of a) := by
  unfold gL gH; rw [h, if_pos rfl, if_pos rfl]; exact in_fr a
theorem sq_le_re {p q : Re} (_hp : 0 ≤ sgR p) (hq : 0 ≤ sgR q) (h : 0 ≤ sgR (q * q - p * p)) : leR p q := by
  unfold leR
  rcases sgR_cases (q - p) with a | a | a
  · omega
  · omega
  · exfalso
    have h1 : 0 < sgR (p - q) := by
      have e : p - q = -(q - p) := Re.ext fun k => by simp only [re_sub, re_neg]; grind
      rw [e, sgR_neg, a]; decide
    have h2 : 0 < sgR (p + q) := by
      have e : p + q = (p - q) + (q + q) := Re.ext fun k => by simp only [re_sub, re_add]; grind
      rw [e]; exact sgR_pn h1 (sgR_nn hq hq)
    have h3 : sgR ((q - p) * (p + q)) = sgR (q * q - p * p) := congrArg sgR (Re.ext fun k => by simp only [re_sub, re_add, re_mul]; grind)
    rw [sgR_mul, a] at h3
    omega
theorem nn_cast {n : Int} (h : 0 ≤ n) : 0 ≤ sgR (Re.of (n : Rat)) := by
  have := of_le (Rat.intCast_nonneg.2 h)
  unfold leR at this
  refine nn_of (fun k => ?_) this
  simp only [re_sub, re_of]; grind
theorem of_le_iff {p q : Rat} (h : leR (Re.of p) (Re.of q)) : p ≤ q := by
  unfold leR at h
  rw [of_sub, sgR_of] at h
  unfold cmpR at h
  apply Classical.byContradiction
  intro hn
  rw [if_pos (by grind)] at h
  omega
theorem rt65_nn (m : Rat) : 0 ≤ sgR (Re.of 65536 * Re.rt m) := by
  have h1 := rt_nn m
  have h2 : sgR (Re.of 65536) = 1 := by rw [sgR_of]; decide +kernel
  rw [sgR_mul, h2]; omega
theorem rt65_sq {m : Rat} (h : 0 ≤ m) (q : Rat) : sgR (Re.of 65536 * Re.rt m * (Re.of 65536 * Re.rt m) - Re.of q) = cmpR (65536 * 65536 * m) q := by
  rw [← cmpR_sub, ← sgR_of]
  refine sgR_same ?_
  have e : Re.of 65536 * Re.rt m * (Re.of 65536 * Re.rt m) - Re.of q - Re.of (65536 * 65536 * m - q) = Re.of (65536 * 65536) * (Re.rt m * Re.rt m - Re.of m) := Re.ext fun k => by
    simp only [re_sub, re_mul, re_of]; grind
  rw [e, sgR_mul, rt_sq h, Int.mul_zero]
theorem cmpR_geI {x y : Rat} (h : y ≤ x) : 0 ≤ cmpR x y := by unfold cmpR; rw [if_neg (by grind)]; split <;> omega
theorem cmpR_leI {x y : Rat} (h : x ≤ y) : cmpR x y ≤ 0 := by
  unfold cmpR
  split
  · omega
  · rw [if_neg (by grind)]; omega
theorem in_sq {m : Rat} (hm : 0 ≤ m) {lo hi : Int} (h : InI lo hi (Re.of m)) : InI (sqLo lo) (sqHi hi) (Re.rt m) := by
  obtain ⟨h1, h2⟩ := h
  rw [of_mul] at h1 h2
  have g1 := of_le_iff h1
  have g2 := of_le_iff h2
  have hq : (0 : Rat) ≤ 65536 * m := Rat.mul_nonneg (by decide) hm
  refine ⟨?_, ?_⟩
  · refine sq_le_re (nn_cast (isqI_nonneg _)) (rt65_nn m) ?_
    rw [of_mul, rt65_sq hm]
    refine cmpR_geI ?_
    have h3 := isqI_le (x := max lo 0 * 65536) (by omega)
    have h4 : ((isqI (max lo 0 * 65536) * isqI (max lo 0 * 65536) : Int) : Rat) ≤ ((max lo 0 * 65536 : Int) : Rat) := Rat.intCast_le_intCast.2 h3
    rw [Rat.intCast_mul, Rat.intCast_mul] at h4
    have e65 : ((65536 : Int) : Rat) = 65536 := rfl
    have h5 : ((max lo 0 : Int) : Rat) ≤ 65536 * m := by
      by_cases hl : 0 ≤ lo
      · rw [show max lo 0 = lo from by omega]; exact g1
      · rw [show max lo 0 = 0 from by omega]; simpa using hq
    rw [e65] at h4
    unfold sqLo
    grind
  · refine sq_le_re (rt65_nn m) (nn_cast ?_) ?_
    · unfold sqHi; have := isqI_nonneg (hi * 65536); split <;> omega
    have h3 : 0 ≤ -sgR (Re.of 65536 * Re.rt m * (Re.of 65536 * Re.rt m) - Re.of (((sqHi hi : Int) : Rat) * ((sqHi hi : Int) : Rat))) := by
      rw [rt65_sq hm]
      have hh : (0 : Int) ≤ hi := by
        have : (0 : Rat) ≤ (hi : Rat) := by grind
        exact Rat.intCast_nonneg.1 this
      have h4 : hi * 65536 ≤ sqHi hi * sqHi hi := by
        unfold sqHi
        split
        · rename_i hs
          unfold sqI at hs
          have := beq_iff_eq.1 hs
          omega
        · have := isqI_lt (x := hi * 65536) (by omega)
          omega
      have h5 : ((hi * 65536 : Int) : Rat) ≤ ((sqHi hi * sqHi hi : Int) : Rat) := Rat.intCast_le_intCast.2 h4
      rw [Rat.intCast_mul, Rat.intCast_mul] at h5
      have e65 : ((65536 : Int) : Rat) = 65536 := rfl
      rw [e65] at h5
      have := cmpR_leI (x := 65536 * 65536 * m) (y := ((sqHi hi : Int) : Rat) * ((sqHi hi : Int) : Rat)) (by grind)
      omega
    rw [← sgR_neg] at h3
    refine nn_of (fun k => ?_) h3
    simp only [re_neg, re_sub, re_mul, re_of]; grind
theorem lin_nn {k u v U L : Re} (h1 : 0 ≤ sgR (k * u - L)) (h2 : 0 ≤ sgR (k * v - L)) (g1 : leR u U) (g2 : leR U v) : 0 ≤ sgR (k * U - L) := by
  unfold leR at *
  have e : (v - u) * (k * U - L) = (v - U) * (k * u - L) + (U - u) * (k * v - L) := Re.ext fun j => by simp only [re_sub, re_mul, re_add]; grind
  have hr : 0 ≤ sgR ((v - U) * (k * u - L) + (U - u) * (k * v - L)) := by
    refine sgR_nn ?_ ?_
    · rw [sgR_mul]; exact Int.mul_nonneg g2 h1
    · rw [sgR_mul]; exact Int.mul_nonneg g1 h2
  rw [← e, sgR_mul] at hr
  have e2 : sgR (v - u) = sgR ((v - U) + (U - u)) := congrArg sgR (Re.ext fun j => by simp only [re_sub, re_add]; grind)
  rcases sgR_cases (v - u) with a | a | a
  · rw [a] at hr; omega
  · rcases sgR_cases (U - u) with b | b | b
    · have := sgR_pn (x := U - u) (y := v - U) (by omega) g2
      rw [re_addc] at this
      omega
    · have e3 : k * U - L = (k * u - L) + k * (U - u) := Re.ext fun j => by simp only [re_sub, re_add, re_mul]; grind
      rw [e3, sgR_addz _ (by rw [sgR_mul, b, Int.mul_zero])]
      exact h1
    · omega
  · have := sgR_nn g2 g1
    omega
theorem bil_nn {x y u v X U L : Re} (h1 : 0 ≤ sgR (x * u - L)) (h2 : 0 ≤ sgR (x * v - L)) (h3 : 0 ≤ sgR (y * u - L)) (h4 : 0 ≤ sgR (y * v - L)) (g1 : leR x X) (g2 : leR X y) (g3 : leR u U) (g4 : leR U v) : 0 ≤ sgR (X * U - L) := by
  have a := lin_nn h1 h2 g3 g4
  have b := lin_nn h3 h4 g3 g4
  rw [re_mulc x U] at a
  rw [re_mulc y U] at b
  have := lin_nn a b g1 g2
  rw [re_mulc U X] at this
  exact this
theorem sc_lo (a b : Int) : scLo a b * 65536 ≤ a * b ∧ a * b ≤ scHi a b * 65536 := by
  have e : a * b = if (!(decide (a < 0) == decide (b < 0))) = true then -scP a b else scP a b := by
    unfold scP
    by_cases ha : a < 0 <;> by_cases hb : b < 0
    · have h1 : (a.natAbs : Int) = -a := by omega
      have h2 : (b.natAbs : Int) = -b := by omega
      simp [ha, hb, h1, h2]; try grind
    · have h1 : (a.natAbs : Int) = -a := by omega
      have h2 : (b.natAbs : Int) = b := by omega
      simp [ha, hb, h1, h2]; try grind
    · have h1 : (a.natAbs : Int) = a := by omega
      have h2 : (b.natAbs : Int) = -b := by omega
      simp [ha, hb, h1, h2]; try grind
    · have h1 : (a.natAbs : Int) = a := by omega
      have h2 : (b.natAbs : Int) = b := by omega
      simp [ha, hb, h1, h2]
  rw [e]
  unfold scLo scHi
  generalize scP a b = p
  have hu : p ≤ scUp p * 65536 := by unfold scUp; split <;> omega
  generalize scUp p = u at *
  by_cases hc : (!(decide (a < 0) == decide (b < 0))) = true
  · rw [if_pos hc, if_pos hc, if_pos hc]; omega
  · rw [if_neg hc, if_neg hc, if_neg hc]; omega
theorem in_mul {x y u v : Int} {X U : Re} (h : InI x y X) (g : InI u v U) : InI (loN x y u v 4) (hiN x y u v 4) (X * U) := by
  have lo : ∀ a b : Int, loN x y u v 4 ≤ scLo a b → 0 ≤ sgR (Re.of (a : Rat) * Re.of (b : Rat) - Re.of ((loN x y u v 4 * 65536 : Int) : Rat)) := by
    intro a b hl
    rw [of_mul]
    refine of_le ?_
    rw [← Rat.intCast_mul]
    exact Rat.intCast_le_intCast.2 (by have := (sc_lo a b).1; omega)
  have hi : ∀ a b : Int, scHi a b ≤ hiN x y u v 4 → 0 ≤ sgR (-Re.of (a : Rat) * Re.of (b : Rat) - Re.of (-((hiN x y u v 4 * 65536 : Int) : Rat))) := by
    intro a b hl
    rw [of_neg, of_mul]
    refine of_le ?_
    have h1 : ((a * b : Int) : Rat) ≤ ((hiN x y u v 4 * 65536 : Int) : Rat) := Rat.intCast_le_intCast.2 (by have := (sc_lo a b).2; omega)
    rw [Rat.intCast_mul] at h1
    grind
  have hlo : loN x y u v 4 = min (min (min (min 2305843009213693952 (scLo x u)) (scLo x v)) (scLo y u)) (scLo y v) := rfl
  have hhi : hiN x y u v 4 = max (max (max (max (-2305843009213693952) (scHi x u)) (scHi x v)) (scHi y u)) (scHi y v) := rfl
  have e65 : ((65536 : Int) : Rat) = 65536 := rfl
  have p65 : sgR (Re.of 65536) = 1 := by rw [sgR_of]; decide +kernel
  refine ⟨?_, ?_⟩
  · have hb := bil_nn (lo x u (by omega)) (lo x v (by omega)) (lo y u (by omega)) (lo y v (by omega)) h.1 h.2 g.1 g.2
    have e : sgR (Re.of 65536 * (Re.of 65536 * (X * U) - Re.of ((loN x y u v 4 : Int) : Rat))) = sgR (Re.of 65536 * X * (Re.of 65536 * U) - Re.of ((loN x y u v 4 * 65536 : Int) : Rat)) := congrArg sgR (Re.ext fun k => by
      simp only [re_sub, re_mul, re_of, Rat.intCast_mul, e65]; grind)
    rw [← e, sgR_mul, p65, Int.one_mul] at hb
    exact hb
  · have n1 : leR (-Re.of (y : Rat)) (-(Re.of 65536 * X)) := nn_of (fun k => by simp only [re_sub, re_neg]; grind) h.2
    have n2 : leR (-(Re.of 65536 * X)) (-Re.of (x : Rat)) := nn_of (fun k => by simp only [re_sub, re_neg]; grind) h.1
    have hb := bil_nn (hi y u (by omega)) (hi y v (by omega)) (hi x u (by omega)) (hi x v (by omega)) n1 n2 g.1 g.2
    have e : sgR (Re.of 65536 * (Re.of ((hiN x y u v 4 : Int) : Rat) - Re.of 65536 * (X * U))) = sgR (-(Re.of 65536 * X) * (Re.of 65536 * U) - Re.of (-((hiN x y u v 4 * 65536 : Int) : Rat))) := congrArg sgR (Re.ext fun k => by
      simp only [re_sub, re_mul, re_of, re_neg, Rat.intCast_mul, e65]; grind)
    rw [← e, sgR_mul, p65, Int.one_mul] at hb
    exact hb
theorem in_p {x y u v : Int} {X U : Re} (h : InI x y X) (g : InI u v U) (hk : okN x y u v 4 = true) : InI (pL x y u v) (pH x y u v) (X * U) := by
  unfold pL pH; rw [hk, if_pos rfl, if_pos rfl]; exact in_mul h g
theorem in_add {x y u v : Int} {X U : Re} (h : InI x y X) (g : InI u v U) : InI (x + u) (y + v) (X + U) := by
  have a := sgR_add_le h.1 g.1
  have b := sgR_add_le h.2 g.2
  refine ⟨nn_of (fun k => ?_) a, nn_of (fun k => ?_) b⟩
  · simp only [re_sub, re_add, re_mul, re_of, Rat.intCast_add]; grind
  · simp only [re_sub, re_add, re_mul, re_of, Rat.intCast_add]; grind
theorem in_a {x y u v : Int} {X U : Re} (h : InI x y X) (g : InI u v U) (hk : okI (x + u) (y + v) = true) : InI (aL x y u v) (aH x y u v) (X + U) := by
  unfold aL aH; rw [hk, if_pos rfl, if_pos rfl]; exact in_add h g
theorem sg65 (X : Re) : sgR (Re.of 65536 * X) = sgR X := by
  have p65 : sgR (Re.of 65536) = 1 := by rw [sgR_of]; decide +kernel
  rw [sgR_mul, p65, Int.one_mul]
theorem pos_cast {n : Int} (h : 0 < n) : 0 < sgR (Re.of (n : Rat)) := by
  rw [sgR_of]
  have h1 : (0 : Rat) < (n : Rat) := Rat.intCast_pos.2 h
  unfold cmpR
  rw [if_neg (by grind), if_pos h1]; decide
theorem in_lo {lo hi : Int} {X : Re} (h : InI lo hi X) (hl : 0 < lo) : sgR X = 1 := by
  have h1 := sgR_pn (pos_cast hl) h.1
  have e : sgR (Re.of (lo : Rat) + (Re.of 65536 * X - Re.of (lo : Rat))) = sgR (Re.of 65536 * X) := congrArg sgR (Re.ext fun k => by simp only [re_sub, re_add]; grind)
  rw [e, sg65] at h1
  have := sgR_cases X
  omega
theorem in_hi {lo hi : Int} {X : Re} (h : InI lo hi X) (hl : hi < 0) : sgR X = -1 := by
  have h0 : 0 < sgR (-Re.of (hi : Rat)) := by
    rw [of_neg, ← Rat.intCast_neg]; exact pos_cast (by omega)
  have h1 := sgR_pn h0 h.2
  have e : sgR (-Re.of (hi : Rat) + (Re.of (hi : Rat) - Re.of 65536 * X)) = sgR (-(Re.of 65536 * X)) := congrArg sgR (Re.ext fun k => by simp only [re_sub, re_add, re_neg]; grind)
  rw [e, sgR_neg, sg65] at h1
  have := sgR_cases X
  omega
theorem in_zero {X : Re} (h : InI 0 0 X) : sgR X = 0 := by
  have h1 := h.1
  have h2 := h.2
  unfold leR at h1 h2
  have e1 : sgR (Re.of 65536 * X - Re.of ((0 : Int) : Rat)) = sgR (Re.of 65536 * X) := congrArg sgR (Re.ext fun k => by simp only [re_sub, re_of]; grind)
  have e2 : sgR (Re.of ((0 : Int) : Rat) - Re.of 65536 * X) = sgR (-(Re.of 65536 * X)) := congrArg sgR (Re.ext fun k => by simp only [re_sub, re_of, re_neg]; grind)
  rw [e1, sg65] at h1
  rw [e2, sgR_neg, sg65] at h2
  omega
theorem in_sign {lo hi : Int} {X : Re} (h : InI lo hi X) (hs : skI lo hi = true) : sgI lo hi = sgR X := by
  unfold skI at hs
  simp only [Bool.or_eq_true, decide_eq_true_eq, Bool.and_eq_true, beq_iff_eq] at hs
  unfold sgI
  by_cases h1 : lo > 0
  · rw [if_pos h1, in_lo h h1]
  · rw [if_neg h1]
    by_cases h2 : hi < 0
    · rw [if_pos h2, in_hi h h2]
    · rw [if_neg h2]
      rcases hs with hs | hs | ⟨hs, hs'⟩
      · omega
      · omega
      · subst hs hs'
        exact (in_zero h).symm
theorem qk_sign {A B C D M N : Rat} (hM : 0 ≤ M) (hN : 0 ≤ N) (h : qkK A B C D M N = true) : qkS A B C D M N = sgR (val6 A B C D M N) := by
  unfold qkK at h
  rw [Bool.and_eq_true] at h
  obtain ⟨h3, hs⟩ := h
  rw [(qk_yes h3).1]
  unfold qK3 qK2 qK1 at h3
  simp only [Bool.and_eq_true] at h3
  obtain ⟨⟨⟨k1, k2⟩, k3, k4, k5, k6, k7, k8, k9⟩, k10, k11, k12, k13⟩ := h3
  have im := in_sq hM (in_g k1)
  have in_ := in_sq hN (in_g k2)
  have ib : InI (qbL B M) (qbH B M) _ := in_p (in_g k3) im k4
  have ic : InI (qbL C N) (qbH C N) _ := in_p (in_g k5) in_ k6
  have imn : InI (qmnL M N) (qmnH M N) _ := in_p im in_ k8
  have id' : InI (qdL D M N) (qdH D M N) _ := in_p (in_g k7) imn k9
  have iab : InI (qabL A B M) (qabH A B M) _ := in_a (in_g k10) ib k11
  have icd : InI (qcdL C D M N) (qcdH C D M N) _ := in_a ic id' k12
  have is' : InI (qsL A B C D M N) (qsH A B C D M N) _ := in_a iab icd k13
  rw [in_sign is' hs]
  refine congrArg sgR (Re.ext fun k => ?_)
  unfold val6 val3
  simp only [re_add, re_mul, re_of]; grind
theorem sgnP_eq {A B C D M N : Rat} (hM : 0 ≤ M) (hN : 0 ≤ N) : sgnP A B C D M N = sgR (val6 A B C D M N) := by
  unfold sgnP
  rw [if_neg (by rintro (h | h) <;> grind)]
  split
  · rename_i h; exact qk_sign hM hN h
  · exact signQ_sg hM hN
theorem in_rt {a b c : Rat} (h : rtOk a b c = true) : InI (rtLo a b c) (rtHi a b c) (val3 a b c) := by
  have h0 := h
  unfold rtOk at h
  rw [Bool.and_eq_true] at h
  obtain ⟨h1, h2⟩ := h
  cases hb : (cmpR b 0 == 0) with
  | true =>
    obtain ⟨e1, e2, _⟩ := rt_b (c := c) h1 hb
    rw [e1, e2]
    have hb0 : b = 0 := r_eq hb
    subst hb0
    have := in_fr a
    have e : val3 a 0 c = Re.of a := Re.ext fun k => by unfold val3; simp only [re_add, re_mul, re_of]; grind
    rw [e]; exact this
  | false =>
    rw [hb, Bool.false_or] at h2
    unfold rtX at h2
    simp only [Bool.and_eq_true, Bool.not_eq_true'] at h2
    obtain ⟨g1, g2, g3, g4, g5⟩ := h2
    have hc : 0 ≤ c := Rat.not_lt.1 (r_nlt g3)
    obtain ⟨e1, e2, _⟩ := rt_f h1 hb g1 g2 g3 g4
    have ir := in_sq hc (in_fr c)
    have im := in_mul (in_fr b) ir
    have := in_add (in_fr a) im
    unfold rtLo rtHi
    rw [h0, if_pos rfl, if_pos rfl, hb, if_neg (by decide), if_neg (by decide)]
    exact this
theorem ap_sign {a b c d e f : Rat} (h : apK (rtOk a b c) (rtOk d e f) (rtLo a b c) (rtHi a b c) (rtLo d e f) (rtHi d e f) = true) :
    apS (rtOk a b c) (rtOk d e f) (rtLo a b c) (rtHi a b c) (rtLo d e f) (rtHi d e f) = sgR (val3 a b c - val3 d e f) := by
  unfold apK at h
  simp only [Bool.and_eq_true, Bool.or_eq_true, decide_eq_true_eq] at h
  obtain ⟨⟨k1, k2⟩, hs⟩ := h
  have i1 := in_rt k1
  have i2 := in_rt k2
  have i3 : InI (rtLo a b c - rtHi d e f) (rtHi a b c - rtLo d e f) (val3 a b c - val3 d e f) := by
    have n := sgR_add_le i1.1 (nn_of (y := -(Re.of 65536 * val3 d e f) - -Re.of ((rtHi d e f : Int) : Rat)) (fun k => by simp only [re_sub, re_neg]; grind) i2.2)
    have m := sgR_add_le i1.2 (nn_of (y := -Re.of ((rtLo d e f : Int) : Rat) - -(Re.of 65536 * val3 d e f)) (fun k => by simp only [re_sub, re_neg]; grind) i2.1)
    refine ⟨nn_of (fun k => ?_) n, nn_of (fun k => ?_) m⟩
    · simp only [re_sub, re_add, re_mul, re_of, re_neg, Rat.intCast_sub]; grind
    · simp only [re_sub, re_add, re_mul, re_of, re_neg, Rat.intCast_sub]; grind
  unfold apS
  rw [k1, k2, Bool.and_self, if_pos rfl]
  by_cases h1 : rtHi a b c < rtLo d e f
  · rw [if_pos (decide_eq_true h1), in_hi i3 (by omega)]
  · rw [if_neg (by simpa using h1)]
    rcases hs with hs | hs
    · omega
    · rw [if_pos (decide_eq_true hs), in_lo i3 (by omega)]
theorem cmpP_eq {a b c d e f : Rat} (hc : 0 ≤ c) (hf : 0 ≤ f) : cmpP a b c d e f = sgR (val3 a b c - val3 d e f) := by
  unfold cmpP
  split
  · rename_i h
    have hb : b = 0 := r_eq h.1
    have he : e = 0 := r_eq h.2
    subst hb he
    rw [← cmpR_sub, ← sgR_of]
    refine congrArg sgR (Re.ext fun k => ?_)
    unfold val3; simp only [re_sub, re_add, re_mul, re_of]; grind
  · split
    · rename_i h; exact ap_sign h
    · split
      · rename_i h
        have e1 : c = f := cmpR_eq0.1 (by simpa using h)
        subst e1
        rw [plainS_sg hc]
        refine congrArg sgR (Re.ext fun k => ?_)
        unfold val3; simp only [re_sub, re_add, re_mul, re_of]; grind
      · rw [sgnP_eq hc hf]
        refine congrArg sgR (Re.ext fun k => ?_)
        unfold val6 val3; simp only [re_sub, re_add, re_mul, re_of]; grind
theorem isqI_pos {x : Int} (h : 0 < x) : 0 < isqI x := by
  have h1 := isqI_lt (x := x) (by omega)
  have h2 := isqI_nonneg x
  by_cases e : isqI x = 0
  · rw [e] at h1; omega
  · omega
theorem Rz.rt {k : Nat} {c : Rat} (h : Rz k c) : Rz k (rt c) := Rz.of h.n.isq h.d.isq (by have := isqI_pos (den_pos c); omega)
theorem rt_cells {c : Rat} (h : sqR c = true) : cQ (if sqR c then isqI c.num else 0) (if sqR c then isqI (c.den : Int) else 0) = cR (rt c) := by
  have := rt_data h
  unfold dQ dR at this
  injection this
def zR : List CellD := [.b false, .s 0 [], .b false, .s 0 [], .b false, .s 0 [], .b false, .s 0 [], .b false, .s 0 [], .b false, .s 0 []]
theorem rrMake_sq {a b c : Rat} (ha : Rz 50 a) (hb : Rz 50 b) (hc : Rz 50 c) (h0 : ¬ c < 0) (hs : sqR c = true) : Ok Tryz.prog 23 [dR a, dR b, dR c] [.a (cR (a + b * rt c) ++ cR 0 ++ cR 0), .c (.i .i64 0)] := by
  have ka : Rz 300 a := ha.mono (by decide)
  have kb : Rz 300 b := hb.mono (by decide)
  have kc : Rz 300 c := hc.mono (by decide)
  have kt : Rz 50 (rt c) := hc.rt
  refine Ok.of (by kernel_rfl) Tryz.func23 rfl rfl ?_
  rw [show Tryz.f23.ntmps = 30 from rfl, show Tryz.f23.results.toList = [.cell 6 33, .tmp 7] from rfl]
  refine dw_seq <| dw_region (by kernel_rfl) <| dl_new (sem_box_a rfl rfl) rfl <| dl_new (sem_box_a rfl rfl) rfl <| dl_new (sem_box_a rfl rfl) rfl <| dl_new (sem_alloc zc33 rfl) rfl <| dl_r (sem_assign rfl rfl) <| dl_end ?_
  refine dw_seq <| dw_seq <| dw_region (by kernel_rfl) <| dl_r (sem_load (us := cR c) ty31 rfl rfl rfl rfl rfl) <| dl_r (sem_call rfl rfl (sSign_ok) rfl) <| dl_r (sem_cmp rfl rfl rfl rfl) <| dl_end ?_
  refine dw_cond rfl (fun hc1 => ?_) (fun hc1 => ?_)
  · exact absurd (r_lt hc1) h0
  · refine dw_skip <| dw_seq <| dw_seq <| dw_region (by kernel_rfl) <| dl_r (sem_load (us := cR c) ty31 rfl rfl rfl rfl rfl) ?_
    refine dl_r (sem_call rfl rfl (sSqrt_ok (by first | assumption | exact Rz.mono hc (by decide))) rfl) ?_
    refine dl_r (sem_move rfl rfl) <| dl_r (sem_extract rfl rfl rfl) <| dl_r (sem_extract rfl rfl rfl) <| dl_new (sem_alloc zc31 rfl) rfl <| dl_st (sem_store_a ty31 rfl rfl rfl rfl rfl rfl) <| dl_r (sem_assign rfl rfl) <| dl_end <| dw_seq ?_
    refine dw_region (by kernel_rfl) <| dl_r (sem_move rfl rfl) <| dl_end ?_
    refine dw_cond rfl (fun hc2 => ?_) (fun hc2 => ?_)
    · refine Dw.weak (σ' := ⟨30, [(3, .p 3 0), (4, .p 4 0), (6, .p 6 0), (8, .p 8 0)], [(3, 31, cR a), (4, 31, cR b), (6, 33, zR), (8, 31, cR (rt c))]⟩) (sub_of ⟨rfl, rfl, rfl, rfl, trivial⟩ ⟨rfl, rfl, rfl, by rw [← rt_cells hs]; rfl, trivial⟩ rfl) <| dw_seq <| dw_draw 6 [] follows_mixed (by kernel_rfl) rfl rfl <| dq_r (sem_load (us := cR a) ty31 rfl rfl rfl rfl rfl) <| dq_r (sem_load (us := cR b) ty31 rfl rfl rfl rfl rfl) <| dq_r (sem_load (us := cR (rt c)) ty31 rfl rfl rfl rfl rfl) ?_
      refine dq_r (sem_call rfl rfl (sMul_ok (by first | assumption | exact Rz.mono hb (by decide)) (by first | assumption | exact Rz.mono (by assumption) (by decide))) rfl) ?_
      refine dq_r (sem_call rfl rfl (sAdd_ok (by first | assumption | exact Rz.mono ha (by decide)) (by first | assumption | exact Rz.mono (Rz.mul hb (by assumption)) (by decide))) rfl) ?_
      refine dq_r (sem_call rfl rfl (rrFromRat_ok) rfl) <| dq_end <| dl_start0 <| dl_st (sem_store_a ty33 rfl rfl rfl rfl rfl rfl) <| dl_r (sem_assign rfl rfl) <| dl_end <| dw_ret ?_
      exact ⟨.inr rfl, (resL_cell (us := (cR (a + (b * (rt c))) ++ cR 0 ++ cR 0)) ty33 rfl rfl rfl rfl (resL_tmp rfl resL_nil))⟩
    · exact absurd hs (by rw [hc2]; decide)
theorem rrMake_ns {a b c : Rat} (ha : Rz 50 a) (hb : Rz 50 b) (hc : Rz 50 c) (h0 : ¬ c < 0) (hs : sqR c = false) : Ok Tryz.prog 23 [dR a, dR b, dR c] [.a (cR a ++ cR (rB b c) ++ cR (rC b c)), .c (.i .i64 0)] := by
  have ka : Rz 300 a := ha.mono (by decide)
  have kb : Rz 300 b := hb.mono (by decide)
  have kc : Rz 300 c := hc.mono (by decide)
  have kt : Rz 50 (rt c) := hc.rt
  refine Ok.of (by kernel_rfl) Tryz.func23 rfl rfl ?_
  rw [show Tryz.f23.ntmps = 30 from rfl, show Tryz.f23.results.toList = [.cell 6 33, .tmp 7] from rfl]
  refine dw_seq <| dw_region (by kernel_rfl) <| dl_new (sem_box_a rfl rfl) rfl <| dl_new (sem_box_a rfl rfl) rfl <| dl_new (sem_box_a rfl rfl) rfl <| dl_new (sem_alloc zc33 rfl) rfl <| dl_r (sem_assign rfl rfl) <| dl_end ?_
  refine dw_seq <| dw_seq <| dw_region (by kernel_rfl) <| dl_r (sem_load (us := cR c) ty31 rfl rfl rfl rfl rfl) <| dl_r (sem_call rfl rfl (sSign_ok) rfl) <| dl_r (sem_cmp rfl rfl rfl rfl) <| dl_end ?_
  refine dw_cond rfl (fun hc1 => ?_) (fun hc1 => ?_)
  · exact absurd (r_lt hc1) h0
  · refine dw_skip <| dw_seq <| dw_seq <| dw_region (by kernel_rfl) <| dl_r (sem_load (us := cR c) ty31 rfl rfl rfl rfl rfl) ?_
    refine dl_r (sem_call rfl rfl (sSqrt_ok (by first | assumption | exact Rz.mono hc (by decide))) rfl) ?_
    refine dl_r (sem_move rfl rfl) <| dl_r (sem_extract rfl rfl rfl) <| dl_r (sem_extract rfl rfl rfl) <| dl_new (sem_alloc zc31 rfl) rfl <| dl_st (sem_store_a ty31 rfl rfl rfl rfl rfl rfl) <| dl_r (sem_assign rfl rfl) <| dl_end <| dw_seq ?_
    refine dw_region (by kernel_rfl) <| dl_r (sem_move rfl rfl) <| dl_end ?_
    refine dw_cond rfl (fun hc2 => ?_) (fun hc2 => ?_)
    · exact absurd hc2 (by rw [hs]; decide)
    · refine dw_skip <| dw_seq <| dw_region (by kernel_rfl) <| dl_r (sem_load (us := cR a) ty31 rfl rfl rfl rfl rfl) <| dl_r (sem_load (us := cR b) ty31 rfl rfl rfl rfl rfl) <| dl_r (sem_load (us := cR c) ty31 rfl rfl rfl rfl rfl) <| dl_r (sem_call rfl rfl (rrReduced_ok) rfl) <| dl_st (sem_store_a ty33 rfl rfl rfl rfl rfl rfl) ?_
      refine dl_r (sem_assign rfl rfl) <| dl_end <| dw_ret ?_
      exact ⟨.inr rfl, (resL_cell (us := (cR a ++ cR (rB b c) ++ cR (rC b c))) ty33 rfl rfl rfl rfl (resL_tmp rfl resL_nil))⟩
theorem rrOf_sq {A B C D E F : Int} (a0 : -32768 ≤ A) (a1 : A ≤ 32767) (b0 : -32768 ≤ B) (b1 : B ≤ 32767) (c0 : 0 ≤ C) (c1 : C ≤ 65535) (d0 : 0 ≤ D) (d1 : D ≤ 255) (e0 : 0 ≤ E) (e1 : E ≤ 255) (f0 : 0 ≤ F) (f1 : F ≤ 255) (hs : sqR (Rat.divInt C (F + 1)) = true) : Ok Tryz.prog 5 [.a ([.i .i16 A] ++ [.i .i16 B] ++ [.i .u16 C] ++ [.i .u8 D] ++ [.i .u8 E] ++ [.i .u8 F])] [.a (cR (Rat.divInt A (D + 1) + Rat.divInt B (E + 1) * rt (Rat.divInt C (F + 1))) ++ cR 0 ++ cR 0)] := by
  have k1 : Rz 50 (Rat.divInt A (D + 1)) := Rz.of (Sz.small (by decide) (by omega) (by omega)) (Sz.small (by decide) (by omega) (by omega)) (by omega)
  have k2 : Rz 50 (Rat.divInt B (E + 1)) := Rz.of (Sz.small (by decide) (by omega) (by omega)) (Sz.small (by decide) (by omega) (by omega)) (by omega)
  have k3 : Rz 50 (Rat.divInt C (F + 1)) := Rz.of (Sz.small (by decide) (by omega) (by omega)) (Sz.small (by decide) (by omega) (by omega)) (by omega)
  have hnn : ¬ Rat.divInt C (F + 1) < 0 := Rat.not_lt.2 (Rat.divInt_nonneg c0 (by omega))
  refine Ok.of (by kernel_rfl) Tryz.func5 rfl rfl ?_
  rw [show Tryz.f5.ntmps = 38 from rfl, show Tryz.f5.results.toList = [.cell 2 33] from rfl]
  refine dw_seq <| dw_region (by kernel_rfl) <| dl_new (sem_box_a rfl rfl) rfl <| dl_new (sem_alloc zc33 rfl) rfl <| dl_end <| dw_seq <| dw_region (by kernel_rfl) <| dl_r (sem_field fd25_0 rfl rfl) ?_
  refine dl_r (sem_load1 ty22 rfl rfl rfl rfl) <| dl_r (sem_conv' (r := A) und22 und2 rfl (nw64 (by omega) (by omega)) rfl) <| dl_r (sem_field fd25_3 rfl rfl) <| dl_r (sem_load1 ty5 rfl rfl rfl rfl) <| dl_r (sem_conv' (r := D) und5 und2 rfl (nw64 (by omega) (by omega)) rfl) <| dl_r (sem_ari (r := D + 1) rfl rfl (ari_i64_add (by omega) (by omega)) rfl) <| dl_r (sem_call rfl rfl (sFrac_ok (by omega) (by omega) (by omega) (by omega) (by omega)) rfl) <| dl_new (sem_alloc zc31 rfl) rfl ?_
  refine dl_st (sem_store_a ty31 rfl rfl rfl rfl rfl rfl) <| dl_end <| dw_seq <| dw_region (by kernel_rfl) <| dl_r (sem_field fd25_1 rfl rfl) <| dl_r (sem_load1 ty22 rfl rfl rfl rfl) <| dl_r (sem_conv' (r := B) und22 und2 rfl (nw64 (by omega) (by omega)) rfl) <| dl_r (sem_field fd25_4 rfl rfl) ?_
  refine dl_r (sem_load1 ty5 rfl rfl rfl rfl) <| dl_r (sem_conv' (r := E) und5 und2 rfl (nw64 (by omega) (by omega)) rfl) <| dl_r (sem_ari (r := E + 1) rfl rfl (ari_i64_add (by omega) (by omega)) rfl) <| dl_r (sem_call rfl rfl (sFrac_ok (by omega) (by omega) (by omega) (by omega) (by omega)) rfl) <| dl_new (sem_alloc zc31 rfl) rfl <| dl_st (sem_store_a ty31 rfl rfl rfl rfl rfl rfl) <| dl_end <| dw_seq ?_
  refine dw_draw 17 [5] follows_mixed (by kernel_rfl) rfl rfl <| dq_r (sem_load (us := cR (Rat.divInt A (D + 1))) ty31 rfl rfl rfl rfl rfl) <| dq_r (sem_load (us := cR (Rat.divInt B (E + 1))) ty31 rfl rfl rfl rfl rfl) <| dq_r (sem_field fd25_2 rfl rfl) <| dq_r (sem_load1 ty23 rfl rfl rfl rfl) <| dq_r (sem_conv' (r := C) und23 und2 rfl (nw64 (by omega) (by omega)) rfl) <| dq_r (sem_field fd25_5 rfl rfl) <| dq_r (sem_load1 ty5 rfl rfl rfl rfl) ?_
  refine dq_r (sem_conv' (r := F) und5 und2 rfl (nw64 (by omega) (by omega)) rfl) <| dq_r (sem_ari (r := F + 1) rfl rfl (ari_i64_add (by omega) (by omega)) rfl) <| dq_r (sem_call rfl rfl (sFrac_ok (by omega) (by omega) (by omega) (by omega) (by omega)) rfl) <| dq_r (sem_call rfl rfl (rrMake_sq k1 k2 k3 hnn hs) rfl) <| dq_r (sem_move rfl rfl) <| dq_r (sem_extract rfl rfl rfl) <| dq_r (sem_extract rfl rfl rfl) <| dq_new (sem_alloc zc33 rfl) rfl ?_
  refine dq_sn (sem_store_a ty33 rfl rfl rfl rfl rfl rfl) rfl rfl rfl rfl <| dq_r (sem_assign rfl rfl) <| dq_end <| dl_start2 <| dl_end <| dw_seq <| dw_region (by kernel_rfl) <| dl_r (sem_load (us := (cR (Rat.divInt A (D + 1) + Rat.divInt B (E + 1) * rt (Rat.divInt C (F + 1))) ++ cR 0 ++ cR 0)) ty33 rfl rfl rfl rfl rfl) ?_
  refine dl_st (sem_store_a ty33 rfl rfl rfl rfl rfl rfl) <| dl_end <| dw_ret ?_
  exact ⟨.inr rfl, (resL_cell (us := (cR (Rat.divInt A (D + 1) + Rat.divInt B (E + 1) * rt (Rat.divInt C (F + 1))) ++ cR 0 ++ cR 0)) ty33 rfl rfl rfl rfl resL_nil)⟩
theorem rrOf_ns {A B C D E F : Int} (a0 : -32768 ≤ A) (a1 : A ≤ 32767) (b0 : -32768 ≤ B) (b1 : B ≤ 32767) (c0 : 0 ≤ C) (c1 : C ≤ 65535) (d0 : 0 ≤ D) (d1 : D ≤ 255) (e0 : 0 ≤ E) (e1 : E ≤ 255) (f0 : 0 ≤ F) (f1 : F ≤ 255) (hs : sqR (Rat.divInt C (F + 1)) = false) : Ok Tryz.prog 5 [.a ([.i .i16 A] ++ [.i .i16 B] ++ [.i .u16 C] ++ [.i .u8 D] ++ [.i .u8 E] ++ [.i .u8 F])] [.a (cR (Rat.divInt A (D + 1)) ++ cR (rB (Rat.divInt B (E + 1)) (Rat.divInt C (F + 1))) ++ cR (rC (Rat.divInt B (E + 1)) (Rat.divInt C (F + 1))))] := by
  have k1 : Rz 50 (Rat.divInt A (D + 1)) := Rz.of (Sz.small (by decide) (by omega) (by omega)) (Sz.small (by decide) (by omega) (by omega)) (by omega)
  have k2 : Rz 50 (Rat.divInt B (E + 1)) := Rz.of (Sz.small (by decide) (by omega) (by omega)) (Sz.small (by decide) (by omega) (by omega)) (by omega)
  have k3 : Rz 50 (Rat.divInt C (F + 1)) := Rz.of (Sz.small (by decide) (by omega) (by omega)) (Sz.small (by decide) (by omega) (by omega)) (by omega)
  have hnn : ¬ Rat.divInt C (F + 1) < 0 := Rat.not_lt.2 (Rat.divInt_nonneg c0 (by omega))
  refine Ok.of (by kernel_rfl) Tryz.func5 rfl rfl ?_
  rw [show Tryz.f5.ntmps = 38 from rfl, show Tryz.f5.results.toList = [.cell 2 33] from rfl]
  refine dw_seq <| dw_region (by kernel_rfl) <| dl_new (sem_box_a rfl rfl) rfl <| dl_new (sem_alloc zc33 rfl) rfl <| dl_end <| dw_seq <| dw_region (by kernel_rfl) <| dl_r (sem_field fd25_0 rfl rfl) ?_
  refine dl_r (sem_load1 ty22 rfl rfl rfl rfl) <| dl_r (sem_conv' (r := A) und22 und2 rfl (nw64 (by omega) (by omega)) rfl) <| dl_r (sem_field fd25_3 rfl rfl) <| dl_r (sem_load1 ty5 rfl rfl rfl rfl) <| dl_r (sem_conv' (r := D) und5 und2 rfl (nw64 (by omega) (by omega)) rfl) <| dl_r (sem_ari (r := D + 1) rfl rfl (ari_i64_add (by omega) (by omega)) rfl) <| dl_r (sem_call rfl rfl (sFrac_ok (by omega) (by omega) (by omega) (by omega) (by omega)) rfl) <| dl_new (sem_alloc zc31 rfl) rfl ?_
  refine dl_st (sem_store_a ty31 rfl rfl rfl rfl rfl rfl) <| dl_end <| dw_seq <| dw_region (by kernel_rfl) <| dl_r (sem_field fd25_1 rfl rfl) <| dl_r (sem_load1 ty22 rfl rfl rfl rfl) <| dl_r (sem_conv' (r := B) und22 und2 rfl (nw64 (by omega) (by omega)) rfl) <| dl_r (sem_field fd25_4 rfl rfl) ?_
  refine dl_r (sem_load1 ty5 rfl rfl rfl rfl) <| dl_r (sem_conv' (r := E) und5 und2 rfl (nw64 (by omega) (by omega)) rfl) <| dl_r (sem_ari (r := E + 1) rfl rfl (ari_i64_add (by omega) (by omega)) rfl) <| dl_r (sem_call rfl rfl (sFrac_ok (by omega) (by omega) (by omega) (by omega) (by omega)) rfl) <| dl_new (sem_alloc zc31 rfl) rfl <| dl_st (sem_store_a ty31 rfl rfl rfl rfl rfl rfl) <| dl_end <| dw_seq ?_
  refine dw_draw 17 [5] follows_mixed (by kernel_rfl) rfl rfl <| dq_r (sem_load (us := cR (Rat.divInt A (D + 1))) ty31 rfl rfl rfl rfl rfl) <| dq_r (sem_load (us := cR (Rat.divInt B (E + 1))) ty31 rfl rfl rfl rfl rfl) <| dq_r (sem_field fd25_2 rfl rfl) <| dq_r (sem_load1 ty23 rfl rfl rfl rfl) <| dq_r (sem_conv' (r := C) und23 und2 rfl (nw64 (by omega) (by omega)) rfl) <| dq_r (sem_field fd25_5 rfl rfl) <| dq_r (sem_load1 ty5 rfl rfl rfl rfl) ?_
  refine dq_r (sem_conv' (r := F) und5 und2 rfl (nw64 (by omega) (by omega)) rfl) <| dq_r (sem_ari (r := F + 1) rfl rfl (ari_i64_add (by omega) (by omega)) rfl) <| dq_r (sem_call rfl rfl (sFrac_ok (by omega) (by omega) (by omega) (by omega) (by omega)) rfl) <| dq_r (sem_call rfl rfl (rrMake_ns k1 k2 k3 hnn hs) rfl) <| dq_r (sem_move rfl rfl) <| dq_r (sem_extract rfl rfl rfl) <| dq_r (sem_extract rfl rfl rfl) <| dq_new (sem_alloc zc33 rfl) rfl ?_
  refine dq_sn (sem_store_a ty33 rfl rfl rfl rfl rfl rfl) rfl rfl rfl rfl <| dq_r (sem_assign rfl rfl) <| dq_end <| dl_start2 <| dl_end <| dw_seq <| dw_region (by kernel_rfl) <| dl_r (sem_load (us := (cR (Rat.divInt A (D + 1)) ++ cR (rB (Rat.divInt B (E + 1)) (Rat.divInt C (F + 1))) ++ cR (rC (Rat.divInt B (E + 1)) (Rat.divInt C (F + 1))))) ty33 rfl rfl rfl rfl rfl) ?_
  refine dl_st (sem_store_a ty33 rfl rfl rfl rfl rfl rfl) <| dl_end <| dw_ret ?_
  exact ⟨.inr rfl, (resL_cell (us := (cR (Rat.divInt A (D + 1)) ++ cR (rB (Rat.divInt B (E + 1)) (Rat.divInt C (F + 1))) ++ cR (rC (Rat.divInt B (E + 1)) (Rat.divInt C (F + 1))))) ty33 rfl rfl rfl rfl resL_nil)⟩
section
variable {P : Program} {f : FuncId} {ds rs : List D0} {x y z u v x' y' z' u' v' : Rat}
end
theorem zc_nn {b c : Rat} (h : 0 ≤ c) : 0 ≤ zc b c := by unfold zc; split <;> grind
section
variable {a1 b1 a2 b2 c p1 q1 p2 q2 r : Rat}
end
end Go.Proofs.YthhhlpdbainlaaaGreat
