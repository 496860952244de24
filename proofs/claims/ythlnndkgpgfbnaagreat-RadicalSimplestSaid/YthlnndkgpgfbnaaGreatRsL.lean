/- radical.Sign. -/
import Derived.Test.YthlnndkgpgfbnaaGreatRsK
namespace Go.Proofs.YthlnndkgpgfbnaaGreat
open Go Go.RowKit
theorem xSignAddL_ok {a b : Rat} (ha : Rz 60000 a) (hb : Rz 60000 b) : Ok Tryz.prog 62 [dR a, dR b] [dR (a + b)] := by
  refine Ok.of (by kernel_rfl) Tryz.func62 rfl rfl ?_
  rw [show Tryz.f62.ntmps = 8 from rfl, show Tryz.f62.results.toList = [.cell 4 26] from rfl]
  refine dw_seq <| dw_region (by kernel_rfl) <| dl_new (sem_box_a rfl rfl) rfl <| dl_new (sem_box_a rfl rfl) rfl <| dl_new (sem_alloc zc26 rfl) rfl <| dl_end <| dw_seq <| dw_region (by kernel_rfl) ?_
  refine dl_r (sem_load (us := cR a) ty26 rfl rfl rfl rfl rfl) <| dl_r (sem_load (us := cR b) ty26 rfl rfl rfl rfl rfl) ?_
  refine dl_r (sem_call rfl rfl (pAddL_ok (by first | assumption | exact Rz.mono ha (by decide)) (by first | assumption | exact Rz.mono hb (by decide))) rfl) ?_
  refine dl_st (sem_store_a ty26 rfl rfl rfl rfl rfl rfl) <| dl_end <| dw_ret ?_
  exact ⟨.inr rfl, (resL_cell (us := cR (a + b)) ty26 rfl rfl rfl rfl resL_nil)⟩
theorem xSignL_ok {A B C D M N : Rat} (hA : Rz 1600 A) (hB : Rz 1600 B) (hC : Rz 1600 C) (hD : Rz 1600 D) (hM : Rz 1600 M) (hN : Rz 1600 N) : Ok Tryz.prog 24 [.a (cR A ++ cR B ++ cR C ++ cR D ++ cR M ++ cR N)] [.c (.i .i64 (sgnP A B C D M N))] := by
  have z1 := prod_bd (plainS_bd C D M) (cmpR_bd N 0)
  have z2 := prod_bd (plainS_bd A B M) (plainS_bd (A * A + M * (B * B) - N * (C * C + M * (D * D))) ((A * B - N * (C * D)) + (A * B - N * (C * D))) M)
  have kA : Rz 40000 A := hA.mono (by decide)
  have kB : Rz 40000 B := hB.mono (by decide)
  have kC : Rz 40000 C := hC.mono (by decide)
  have kD : Rz 40000 D := hD.mono (by decide)
  have kM : Rz 40000 M := hM.mono (by decide)
  have kN : Rz 40000 N := hN.mono (by decide)
  refine Ok.of (by kernel_rfl) Tryz.func24 rfl rfl ?_
  rw [show Tryz.f24.ntmps = 127 from rfl, show Tryz.f24.results.toList = [.tmp 2] from rfl]
  refine dw_seq <| dw_region (by kernel_rfl) <| dl_new (sem_box_a rfl rfl) rfl <| dl_r (sem_assign rfl rfl) <| dl_end <| dw_seq <| dw_seq <| dw_region (by kernel_rfl) ?_
  refine dl_r (sem_field fd53_4 rfl rfl) <| dl_r (sem_load (us := cR M) ty26 rfl rfl rfl rfl rfl) <| dl_r (sem_call rfl rfl (pSignL_ok) rfl) <| dl_r (sem_cmp rfl rfl rfl rfl) ?_
  refine dl_rb (sem_move rfl rfl) (fun c1 hb1 => ?_)
  cases c1
  · have n1 := r_nlt hb1
    refine dl_r (sem_field fd53_5 rfl rfl) <| dl_r (sem_load (us := cR N) ty26 rfl rfl rfl rfl rfl) <| dl_r (sem_call rfl rfl (pSignL_ok) rfl) <| dl_r (sem_cmp rfl rfl rfl rfl) <| dl_r (sem_pick rfl rfl rfl rfl) <| dl_end ?_
    refine dw_cond rfl (fun hc2 => ?_) (fun hc2 => ?_)
    · refine dw_seq <| dw_region (by kernel_rfl) <| dl_r (sem_assign rfl rfl) <| dl_end <| dw_ret ?_
      rw [sgnP_n (.inr (r_lt hc2))]
      exact ⟨.inr rfl, (resL_tmp rfl resL_nil)⟩
    · have n2 := r_nlt hc2
      refine dw_skip <| dw_seq <| dw_seq <| dw_region (by kernel_rfl) <| dl_r (sem_load (us := (cR A ++ cR B ++ cR C ++ cR D ++ cR M ++ cR N)) ty53 rfl rfl rfl rfl rfl) <| dl_r (sem_call rfl rfl (xQuickL_ok (by assumption) (by assumption) (by assumption) (by assumption) (by assumption) (by assumption) (by assumption) (by assumption)) rfl) <| dl_r (sem_move rfl rfl) <| dl_r (sem_extract rfl rfl rfl) ?_
      refine dl_r (sem_extract rfl rfl rfl) <| dl_r (sem_assign rfl rfl) <| dl_r (sem_assign rfl rfl) <| dl_end <| dw_seq <| dw_region (by kernel_rfl) <| dl_r (sem_move rfl rfl) <| dl_end ?_
      refine dw_cond rfl (fun hc3 => ?_) (fun hc3 => ?_)
      · refine dw_seq <| dw_region (by kernel_rfl) <| dl_r (sem_move rfl rfl) <| dl_r (sem_assign rfl rfl) <| dl_end <| dw_ret ?_
        rw [sgnP_q n1 n2 hc3]
        exact ⟨.inr rfl, (resL_tmp rfl resL_nil)⟩
      · refine dw_skip <| dw_seq <| dw_draw 20 [] follows_mixed (by kernel_rfl) rfl rfl <| dq_r (sem_field fd53_0 rfl rfl) <| dq_r (sem_load (us := cR A) ty26 rfl rfl rfl rfl rfl) <| dq_r (sem_field fd53_1 rfl rfl) <| dq_r (sem_load (us := cR B) ty26 rfl rfl rfl rfl rfl) <| dq_r (sem_field fd53_4 rfl rfl) ?_
        refine dq_r (sem_load (us := cR M) ty26 rfl rfl rfl rfl rfl) ?_
        refine dq_r (sem_call rfl rfl (xPlainL_ok (by first | assumption | exact Rz.mono hA (by decide)) (by first | assumption | exact Rz.mono hB (by decide)) (by first | assumption | exact Rz.mono hM (by decide))) rfl) ?_
        refine dq_r (sem_field fd53_2 rfl rfl) <| dq_r (sem_load (us := cR C) ty26 rfl rfl rfl rfl rfl) <| dq_r (sem_field fd53_3 rfl rfl) <| dq_r (sem_load (us := cR D) ty26 rfl rfl rfl rfl rfl) <| dq_r (sem_field fd53_4 rfl rfl) <| dq_r (sem_load (us := cR M) ty26 rfl rfl rfl rfl rfl) ?_
        refine dq_r (sem_call rfl rfl (xPlainL_ok (by first | assumption | exact Rz.mono hC (by decide)) (by first | assumption | exact Rz.mono hD (by decide)) (by first | assumption | exact Rz.mono hM (by decide))) rfl) ?_
        refine dq_r (sem_field fd53_5 rfl rfl) <| dq_r (sem_load (us := cR N) ty26 rfl rfl rfl rfl rfl) <| dq_r (sem_call rfl rfl (pSignL_ok) rfl) <| dq_r (sem_ari (r := (plainS C D M) * (cmpR N 0)) rfl rfl (ari_i64_mul (by omega) (by omega)) rfl) <| dq_r (sem_assign rfl rfl) <| dq_r (sem_assign rfl rfl) <| dq_end <| dl_start0 ?_
        refine dl_end <| dw_seq <| dw_block <| dw_seq <| dw_region (by kernel_rfl) <| dl_r (sem_move rfl rfl) <| dl_r (sem_cmp rfl rfl rfl rfl) ?_
        refine dl_rb (sem_move rfl rfl) (fun c4 hb4 => ?_)
        cases c4
        · refine dl_r (sem_move rfl rfl) <| dl_r (sem_move rfl rfl) <| dl_r (sem_cmp rfl rfl rfl rfl) <| dl_r (sem_pick rfl rfl rfl rfl) <| dl_r (sem_assign rfl rfl) <| dl_end ?_
          refine dw_cond rfl (fun hc5 => ?_) (fun hc5 => ?_)
          · refine dw_seq <| dw_region (by kernel_rfl) <| dl_r (sem_move rfl rfl) <| dl_r (sem_assign rfl rfl) <| dl_end <| dw_ret ?_
            rw [sgnP_p n1 n2 hc3, comb_eq hc5]
            exact ⟨.inr rfl, (resL_tmp rfl resL_nil)⟩
          · refine dw_seq <| dw_region (by kernel_rfl) <| dl_r (sem_move rfl rfl) <| dl_r (sem_cmp rfl rfl rfl rfl) <| dl_r (sem_assign rfl rfl) <| dl_end ?_
            refine dw_cond rfl (fun hc6 => ?_) (fun hc6 => ?_)
            · refine dw_seq <| dw_region (by kernel_rfl) <| dl_r (sem_move rfl rfl) <| dl_r (sem_assign rfl rfl) <| dl_end <| dw_ret ?_
              rw [sgnP_p n1 n2 hc3, comb_s0 hc6]
              exact ⟨.inr rfl, (resL_tmp rfl resL_nil)⟩
            · refine dw_skip <| dw_seq <| dw_region (by kernel_rfl) <| dl_r (sem_assign rfl rfl) <| dl_end <| dw_seq <| dw_region (by kernel_rfl) <| dl_r (sem_assign rfl rfl) ?_
              refine dl_end <| dw_seq <| dw_draw 42 [] follows_mixed (by kernel_rfl) rfl rfl <| dq_r (sem_move rfl rfl) <| dq_r (sem_move rfl rfl) <| dq_r (sem_field fd53_0 rfl rfl) <| dq_r (sem_load (us := cR A) ty26 rfl rfl rfl rfl rfl) <| dq_r (sem_field fd53_0 rfl rfl) ?_
              refine dq_r (sem_load (us := cR A) ty26 rfl rfl rfl rfl rfl) ?_
              refine dq_r (sem_call rfl rfl (pMulL_ok (by first | assumption | exact Rz.mono hA (by decide)) (by first | assumption | exact Rz.mono hA (by decide))) rfl) ?_
              refine dq_r (sem_move rfl rfl) <| dq_r (sem_field fd53_4 rfl rfl) <| dq_r (sem_load (us := cR M) ty26 rfl rfl rfl rfl rfl) <| dq_r (sem_move rfl rfl) <| dq_r (sem_field fd53_1 rfl rfl) <| dq_r (sem_load (us := cR B) ty26 rfl rfl rfl rfl rfl) <| dq_r (sem_field fd53_1 rfl rfl) <| dq_r (sem_load (us := cR B) ty26 rfl rfl rfl rfl rfl) ?_
              refine dq_r (sem_call rfl rfl (pMulL_ok (by first | assumption | exact Rz.mono hB (by decide)) (by first | assumption | exact Rz.mono hB (by decide))) rfl) ?_
              refine dq_r (sem_call rfl rfl (pMulL_ok (by first | assumption | exact Rz.mono hM (by decide)) (by first | assumption | exact Rz.mono (Rz.mul hB hB) (by decide))) rfl) ?_
              refine dq_r (sem_call rfl rfl (xSignAddL_ok (by first | assumption | exact Rz.mono (Rz.mul hA hA) (by decide)) (by first | assumption | exact Rz.mono (Rz.mul hM (Rz.mul hB hB)) (by decide))) rfl) ?_
              refine dq_r (sem_move rfl rfl) <| dq_r (sem_field fd53_5 rfl rfl) <| dq_r (sem_load (us := cR N) ty26 rfl rfl rfl rfl rfl) <| dq_r (sem_move rfl rfl) <| dq_r (sem_move rfl rfl) <| dq_r (sem_field fd53_2 rfl rfl) <| dq_r (sem_load (us := cR C) ty26 rfl rfl rfl rfl rfl) <| dq_r (sem_field fd53_2 rfl rfl) ?_
              refine dq_r (sem_load (us := cR C) ty26 rfl rfl rfl rfl rfl) ?_
              refine dq_r (sem_call rfl rfl (pMulL_ok (by first | assumption | exact Rz.mono hC (by decide)) (by first | assumption | exact Rz.mono hC (by decide))) rfl) ?_
              refine dq_r (sem_move rfl rfl) <| dq_r (sem_field fd53_4 rfl rfl) <| dq_r (sem_load (us := cR M) ty26 rfl rfl rfl rfl rfl) <| dq_r (sem_move rfl rfl) <| dq_r (sem_field fd53_3 rfl rfl) <| dq_r (sem_load (us := cR D) ty26 rfl rfl rfl rfl rfl) <| dq_r (sem_field fd53_3 rfl rfl) <| dq_r (sem_load (us := cR D) ty26 rfl rfl rfl rfl rfl) ?_
              refine dq_r (sem_call rfl rfl (pMulL_ok (by first | assumption | exact Rz.mono hD (by decide)) (by first | assumption | exact Rz.mono hD (by decide))) rfl) ?_
              refine dq_r (sem_call rfl rfl (pMulL_ok (by first | assumption | exact Rz.mono hM (by decide)) (by first | assumption | exact Rz.mono (Rz.mul hD hD) (by decide))) rfl) ?_
              refine dq_r (sem_call rfl rfl (xSignAddL_ok (by first | assumption | exact Rz.mono (Rz.mul hC hC) (by decide)) (by first | assumption | exact Rz.mono (Rz.mul hM (Rz.mul hD hD)) (by decide))) rfl) ?_
              refine dq_r (sem_call rfl rfl (pMulL_ok (by first | assumption | exact Rz.mono hN (by decide)) (by first | assumption | exact Rz.mono (Rz.add (Rz.mul hC hC) (Rz.mul hM (Rz.mul hD hD))) (by decide))) rfl) ?_
              refine dq_r (sem_call rfl rfl (pSubL_ok (by first | assumption | exact Rz.mono (Rz.add (Rz.mul hA hA) (Rz.mul hM (Rz.mul hB hB))) (by decide)) (by first | assumption | exact Rz.mono (Rz.mul hN (Rz.add (Rz.mul hC hC) (Rz.mul hM (Rz.mul hD hD)))) (by decide))) rfl) ?_
              refine dq_new (sem_alloc zc26 rfl) rfl <| dq_end <| dl_start1 <| dl_st (sem_store_a ty26 rfl rfl rfl rfl rfl rfl) <| dl_end <| dw_seq <| dw_draw 18 [] follows_mixed (by kernel_rfl) rfl rfl <| dq_r (sem_move rfl rfl) ?_
              refine dq_r (sem_field fd53_0 rfl rfl) <| dq_r (sem_load (us := cR A) ty26 rfl rfl rfl rfl rfl) <| dq_r (sem_field fd53_1 rfl rfl) <| dq_r (sem_load (us := cR B) ty26 rfl rfl rfl rfl rfl) ?_
              refine dq_r (sem_call rfl rfl (pMulL_ok (by first | assumption | exact Rz.mono hA (by decide)) (by first | assumption | exact Rz.mono hB (by decide))) rfl) ?_
              refine dq_r (sem_move rfl rfl) <| dq_r (sem_field fd53_5 rfl rfl) <| dq_r (sem_load (us := cR N) ty26 rfl rfl rfl rfl rfl) <| dq_r (sem_move rfl rfl) <| dq_r (sem_field fd53_2 rfl rfl) <| dq_r (sem_load (us := cR C) ty26 rfl rfl rfl rfl rfl) <| dq_r (sem_field fd53_3 rfl rfl) <| dq_r (sem_load (us := cR D) ty26 rfl rfl rfl rfl rfl) ?_
              refine dq_r (sem_call rfl rfl (pMulL_ok (by first | assumption | exact Rz.mono hC (by decide)) (by first | assumption | exact Rz.mono hD (by decide))) rfl) ?_
              refine dq_r (sem_call rfl rfl (pMulL_ok (by first | assumption | exact Rz.mono hN (by decide)) (by first | assumption | exact Rz.mono (Rz.mul hC hD) (by decide))) rfl) ?_
              refine dq_r (sem_call rfl rfl (pSubL_ok (by first | assumption | exact Rz.mono (Rz.mul hA hB) (by decide)) (by first | assumption | exact Rz.mono (Rz.mul hN (Rz.mul hC hD)) (by decide))) rfl) ?_
              refine dq_new (sem_alloc zc26 rfl) rfl <| dq_end <| dl_start1 <| dl_st (sem_store_a ty26 rfl rfl rfl rfl rfl rfl) <| dl_end <| dw_seq <| dw_draw 11 [] follows_mixed (by kernel_rfl) rfl rfl <| dq_r (sem_move rfl rfl) ?_
              refine dq_r (sem_load (us := cR (((A * A) + (M * (B * B))) - (N * ((C * C) + (M * (D * D)))))) ty26 rfl rfl rfl rfl rfl) <| dq_r (sem_move rfl rfl) <| dq_r (sem_load (us := cR ((A * B) - (N * (C * D)))) ty26 rfl rfl rfl rfl rfl) <| dq_r (sem_load (us := cR ((A * B) - (N * (C * D)))) ty26 rfl rfl rfl rfl rfl) ?_
              refine dq_r (sem_call rfl rfl (xSignAddL_ok (by first | assumption | exact Rz.mono (Rz.sub (Rz.mul hA hB) (Rz.mul hN (Rz.mul hC hD))) (by decide)) (by first | assumption | exact Rz.mono (Rz.sub (Rz.mul hA hB) (Rz.mul hN (Rz.mul hC hD))) (by decide))) rfl) ?_
              refine dq_r (sem_field fd53_4 rfl rfl) <| dq_r (sem_load (us := cR M) ty26 rfl rfl rfl rfl rfl) ?_
              refine dq_r (sem_call rfl rfl (xPlainL_ok (by first | assumption | exact Rz.mono (Rz.sub (Rz.add (Rz.mul hA hA) (Rz.mul hM (Rz.mul hB hB))) (Rz.mul hN (Rz.add (Rz.mul hC hC) (Rz.mul hM (Rz.mul hD hD))))) (by decide)) (by first | assumption | exact Rz.mono (Rz.add (Rz.sub (Rz.mul hA hB) (Rz.mul hN (Rz.mul hC hD))) (Rz.sub (Rz.mul hA hB) (Rz.mul hN (Rz.mul hC hD)))) (by decide)) (by first | assumption | exact Rz.mono hM (by decide))) rfl) ?_
              refine dq_r (sem_ari (r := (plainS A B M) * (plainS (((A * A) + (M * (B * B))) - (N * ((C * C) + (M * (D * D))))) (((A * B) - (N * (C * D))) + ((A * B) - (N * (C * D)))) M)) rfl rfl (ari_i64_mul (by omega) (by omega)) rfl) <| dq_r (sem_assign rfl rfl) <| dq_end <| dl_start0 <| dl_end <| dw_ret ?_
              rw [sgnP_p n1 n2 hc3, comb_ne hc6 hb4 hc5]
              exact ⟨.inr rfl, (resL_tmp rfl resL_nil)⟩
        · refine dl_skip (sem_skip rfl) <| dl_skip (sem_skip rfl) <| dl_skip (sem_skip rfl) <| dl_r (sem_pick rfl rfl rfl rfl) <| dl_r (sem_assign rfl rfl) <| dl_end <| dw_true rfl <| dw_seq ?_
          refine dw_region (by kernel_rfl) <| dl_r (sem_move rfl rfl) <| dl_r (sem_assign rfl rfl) <| dl_end <| dw_ret ?_
          rw [sgnP_p n1 n2 hc3, comb_t0 hb4]
          exact ⟨.inr rfl, (resL_tmp rfl resL_nil)⟩
  · refine dl_skip (sem_skip rfl) <| dl_skip (sem_skip rfl) <| dl_skip (sem_skip rfl) <| dl_skip (sem_skip rfl) <| dl_r (sem_pick rfl rfl rfl rfl) <| dl_end <| dw_true rfl <| dw_seq ?_
    refine dw_region (by kernel_rfl) <| dl_r (sem_assign rfl rfl) <| dl_end <| dw_ret ?_
    rw [sgnP_n (.inl (r_lt hb1))]
    exact ⟨.inr rfl, (resL_tmp rfl resL_nil)⟩
theorem xSign_ok {A B C D M N : Rat} (hA : Rz 8 A) (hB : Rz 8 B) (hC : Rz 8 C) (hD : Rz 8 D) (hM : Rz 8 M) (hN : Rz 8 N) : Ok Tryz.prog 24 [.a (cR A ++ cR B ++ cR C ++ cR D ++ cR M ++ cR N)] [.c (.i .i64 (sgnP A B C D M N))] := xSignL_ok (hA.mono (by decide)) (hB.mono (by decide)) (hC.mono (by decide)) (hD.mono (by decide)) (hM.mono (by decide)) (hN.mono (by decide))
theorem xCmpL_ok {a b c d e f : Rat} (ha : Rz 20000 a) (hb : Rz 1600 b) (hc : Rz 1600 c) (hd : Rz 20000 d) (he : Rz 1600 e) (hf : Rz 1600 f) (h1 : Rz 1600 (a - d)) : Ok Tryz.prog 28 [.a (cR a ++ cR b ++ cR c), .a (cR d ++ cR e ++ cR f)] [.c (.i .i64 (cmpP a b c d e f))] := by
  have ka : Rz 60000 a := ha.mono (by decide)
  have la : Rz 40000 a := ha.mono (by decide)
  have kb : Rz 60000 b := hb.mono (by decide)
  have lb : Rz 40000 b := hb.mono (by decide)
  have kc : Rz 60000 c := hc.mono (by decide)
  have lc : Rz 40000 c := hc.mono (by decide)
  have kd : Rz 60000 d := hd.mono (by decide)
  have ld : Rz 40000 d := hd.mono (by decide)
  have ke : Rz 60000 e := he.mono (by decide)
  have le : Rz 40000 e := he.mono (by decide)
  have kf : Rz 60000 f := hf.mono (by decide)
  have lf : Rz 40000 f := hf.mono (by decide)
  have m2 : Rz 1600 (-e) := he.neg
  have m0 : Rz 1600 (0 : Rat) := Rz.int (n := 0) (Sz.small (by decide) (by decide) (by decide)) (by decide)
  have w1 : Rz 20000 (a - d) := h1.mono (by decide)
  have w2 : Rz 20000 (b - e) := (hb.sub he).mono (by decide)
  have w3 : Rz 20000 c := hc.mono (by decide)
  refine Ok.of (by kernel_rfl) Tryz.func28 rfl rfl ?_
  rw [show Tryz.f28.ntmps = 53 from rfl, show Tryz.f28.results.toList = [.tmp 4] from rfl]
  refine dw_seq <| dw_region (by kernel_rfl) <| dl_new (sem_box_a rfl rfl) rfl <| dl_new (sem_box_a rfl rfl) rfl <| dl_r (sem_assign rfl rfl) <| dl_end <| dw_seq <| dw_seq ?_
  refine dw_region (by kernel_rfl) <| dl_r (sem_field fd28_1 rfl rfl) <| dl_r (sem_load (us := cR b) ty26 rfl rfl rfl rfl rfl) <| dl_r (sem_call rfl rfl (pSignL_ok) rfl) <| dl_r (sem_cmp rfl rfl rfl rfl) ?_
  refine dl_rb (sem_move rfl rfl) (fun c1 hb1 => ?_)
  cases c1
  · refine dl_skip (sem_skip rfl) <| dl_skip (sem_skip rfl) <| dl_skip (sem_skip rfl) <| dl_skip (sem_skip rfl) <| dl_r (sem_pick rfl rfl rfl rfl) <| dl_end <| dw_false rfl <| dw_skip ?_
    refine dw_seq <| dw_seq <| dw_region (by kernel_rfl) <| dl_r (sem_load (us := (cR a ++ cR b ++ cR c)) ty28 rfl rfl rfl rfl rfl) <| dl_r (sem_load (us := (cR d ++ cR e ++ cR f)) ty28 rfl rfl rfl rfl rfl) <| dl_r (sem_call rfl rfl (xApartL_ok (by assumption) (by assumption) (by assumption) (by assumption) (by assumption) (by assumption)) rfl) <| dl_r (sem_move rfl rfl) <| dl_r (sem_extract rfl rfl rfl) ?_
    refine dl_r (sem_extract rfl rfl rfl) <| dl_r (sem_assign rfl rfl) <| dl_r (sem_assign rfl rfl) <| dl_end <| dw_seq <| dw_region (by kernel_rfl) <| dl_r (sem_move rfl rfl) <| dl_end ?_
    refine dw_cond rfl (fun hc2 => ?_) (fun hc2 => ?_)
    · refine dw_seq <| dw_region (by kernel_rfl) <| dl_r (sem_move rfl rfl) <| dl_r (sem_assign rfl rfl) <| dl_end <| dw_ret ?_
      rw [cmpP_a (nb_l hb1) hc2]
      exact ⟨.inr rfl, (resL_tmp rfl resL_nil)⟩
    · refine dw_skip <| dw_seq <| dw_seq <| dw_region (by kernel_rfl) <| dl_r (sem_field fd28_2 rfl rfl) <| dl_r (sem_load (us := cR c) ty26 rfl rfl rfl rfl rfl) <| dl_r (sem_field fd28_2 rfl rfl) <| dl_r (sem_load (us := cR f) ty26 rfl rfl rfl rfl rfl) ?_
      refine dl_r (sem_call rfl rfl (pCmpL_ok (by first | assumption | exact Rz.mono hc (by decide)) (by first | assumption | exact Rz.mono hf (by decide))) rfl) ?_
      refine dl_r (sem_cmp rfl rfl rfl rfl) <| dl_end ?_
      refine dw_cond rfl (fun hc3 => ?_) (fun hc3 => ?_)
      · refine dw_seq <| dw_draw 14 [] follows_mixed (by kernel_rfl) rfl rfl <| dq_r (sem_field fd28_0 rfl rfl) <| dq_r (sem_load (us := cR a) ty26 rfl rfl rfl rfl rfl) <| dq_r (sem_field fd28_0 rfl rfl) <| dq_r (sem_load (us := cR d) ty26 rfl rfl rfl rfl rfl) ?_
        refine dq_r (sem_call rfl rfl (pSubL_ok (by first | assumption | exact Rz.mono ha (by decide)) (by first | assumption | exact Rz.mono hd (by decide))) rfl) ?_
        refine dq_r (sem_field fd28_1 rfl rfl) <| dq_r (sem_load (us := cR b) ty26 rfl rfl rfl rfl rfl) <| dq_r (sem_field fd28_1 rfl rfl) <| dq_r (sem_load (us := cR e) ty26 rfl rfl rfl rfl rfl) ?_
        refine dq_r (sem_call rfl rfl (pSubL_ok (by first | assumption | exact Rz.mono hb (by decide)) (by first | assumption | exact Rz.mono he (by decide))) rfl) ?_
        refine dq_r (sem_field fd28_2 rfl rfl) <| dq_r (sem_load (us := cR c) ty26 rfl rfl rfl rfl rfl) <| dq_r (sem_call rfl rfl (xPlainL_ok w1 w2 w3) rfl) <| dq_r (sem_assign rfl rfl) <| dq_end <| dl_start0 <| dl_end <| dw_ret ?_
        rw [cmpP_c (nb_l hb1) hc2 hc3]
        exact ⟨.inr rfl, (resL_tmp rfl resL_nil)⟩
      · refine dw_skip <| dw_seq <| dw_region (by kernel_rfl) <| dl_r (sem_load (us := (cR a ++ cR b ++ cR c)) ty28 rfl rfl rfl rfl rfl) <| dl_r (sem_load (us := (cR d ++ cR e ++ cR f)) ty28 rfl rfl rfl rfl rfl) <| dl_r (sem_call rfl rfl (xSubL_ok (by assumption) (by assumption) (by assumption) (by assumption) (by assumption) (by assumption)) rfl) <| dl_r (sem_call rfl rfl (xSignL_ok (by assumption) (by assumption) (by assumption) (by assumption) (by assumption) (by assumption)) rfl) <| dl_r (sem_assign rfl rfl) ?_
        refine dl_end <| dw_ret ?_
        rw [cmpP_s (nb_l hb1) hc2 hc3]
        exact ⟨.inr rfl, (resL_tmp rfl resL_nil)⟩
  · refine dl_r (sem_field fd28_1 rfl rfl) <| dl_r (sem_load (us := cR e) ty26 rfl rfl rfl rfl rfl) <| dl_r (sem_call rfl rfl (pSignL_ok) rfl) <| dl_r (sem_cmp rfl rfl rfl rfl) <| dl_r (sem_pick rfl rfl rfl rfl) <| dl_end ?_
    refine dw_cond rfl (fun hc4 => ?_) (fun hc4 => ?_)
    · refine dw_seq <| dw_region (by kernel_rfl) <| dl_r (sem_field fd28_0 rfl rfl) <| dl_r (sem_load (us := cR a) ty26 rfl rfl rfl rfl rfl) <| dl_r (sem_field fd28_0 rfl rfl) <| dl_r (sem_load (us := cR d) ty26 rfl rfl rfl rfl rfl) ?_
      refine dl_r (sem_call rfl rfl (pCmpL_ok (by first | assumption | exact Rz.mono ha (by decide)) (by first | assumption | exact Rz.mono hd (by decide))) rfl) ?_
      refine dl_r (sem_assign rfl rfl) <| dl_end <| dw_ret ?_
      rw [cmpP_r hb1 hc4]
      exact ⟨.inr rfl, (resL_tmp rfl resL_nil)⟩
    · refine dw_skip <| dw_seq <| dw_seq <| dw_region (by kernel_rfl) <| dl_r (sem_load (us := (cR a ++ cR b ++ cR c)) ty28 rfl rfl rfl rfl rfl) <| dl_r (sem_load (us := (cR d ++ cR e ++ cR f)) ty28 rfl rfl rfl rfl rfl) <| dl_r (sem_call rfl rfl (xApartL_ok (by assumption) (by assumption) (by assumption) (by assumption) (by assumption) (by assumption)) rfl) <| dl_r (sem_move rfl rfl) ?_
      refine dl_r (sem_extract rfl rfl rfl) <| dl_r (sem_extract rfl rfl rfl) <| dl_r (sem_assign rfl rfl) <| dl_r (sem_assign rfl rfl) <| dl_end <| dw_seq <| dw_region (by kernel_rfl) <| dl_r (sem_move rfl rfl) ?_
      refine dl_end ?_
      refine dw_cond rfl (fun hc5 => ?_) (fun hc5 => ?_)
      · refine dw_seq <| dw_region (by kernel_rfl) <| dl_r (sem_move rfl rfl) <| dl_r (sem_assign rfl rfl) <| dl_end <| dw_ret ?_
        rw [cmpP_a (nb_r hc4) hc5]
        exact ⟨.inr rfl, (resL_tmp rfl resL_nil)⟩
      · refine dw_skip <| dw_seq <| dw_seq <| dw_region (by kernel_rfl) <| dl_r (sem_field fd28_2 rfl rfl) <| dl_r (sem_load (us := cR c) ty26 rfl rfl rfl rfl rfl) <| dl_r (sem_field fd28_2 rfl rfl) <| dl_r (sem_load (us := cR f) ty26 rfl rfl rfl rfl rfl) ?_
        refine dl_r (sem_call rfl rfl (pCmpL_ok (by first | assumption | exact Rz.mono hc (by decide)) (by first | assumption | exact Rz.mono hf (by decide))) rfl) ?_
        refine dl_r (sem_cmp rfl rfl rfl rfl) <| dl_end ?_
        refine dw_cond rfl (fun hc6 => ?_) (fun hc6 => ?_)
        · refine dw_seq <| dw_draw 14 [] follows_mixed (by kernel_rfl) rfl rfl <| dq_r (sem_field fd28_0 rfl rfl) <| dq_r (sem_load (us := cR a) ty26 rfl rfl rfl rfl rfl) <| dq_r (sem_field fd28_0 rfl rfl) <| dq_r (sem_load (us := cR d) ty26 rfl rfl rfl rfl rfl) ?_
          refine dq_r (sem_call rfl rfl (pSubL_ok (by first | assumption | exact Rz.mono ha (by decide)) (by first | assumption | exact Rz.mono hd (by decide))) rfl) ?_
          refine dq_r (sem_field fd28_1 rfl rfl) <| dq_r (sem_load (us := cR b) ty26 rfl rfl rfl rfl rfl) <| dq_r (sem_field fd28_1 rfl rfl) <| dq_r (sem_load (us := cR e) ty26 rfl rfl rfl rfl rfl) ?_
          refine dq_r (sem_call rfl rfl (pSubL_ok (by first | assumption | exact Rz.mono hb (by decide)) (by first | assumption | exact Rz.mono he (by decide))) rfl) ?_
          refine dq_r (sem_field fd28_2 rfl rfl) <| dq_r (sem_load (us := cR c) ty26 rfl rfl rfl rfl rfl) <| dq_r (sem_call rfl rfl (xPlainL_ok w1 w2 w3) rfl) <| dq_r (sem_assign rfl rfl) <| dq_end <| dl_start0 <| dl_end <| dw_ret ?_
          rw [cmpP_c (nb_r hc4) hc5 hc6]
          exact ⟨.inr rfl, (resL_tmp rfl resL_nil)⟩
        · refine dw_skip <| dw_seq <| dw_region (by kernel_rfl) <| dl_r (sem_load (us := (cR a ++ cR b ++ cR c)) ty28 rfl rfl rfl rfl rfl) <| dl_r (sem_load (us := (cR d ++ cR e ++ cR f)) ty28 rfl rfl rfl rfl rfl) <| dl_r (sem_call rfl rfl (xSubL_ok (by assumption) (by assumption) (by assumption) (by assumption) (by assumption) (by assumption)) rfl) <| dl_r (sem_call rfl rfl (xSignL_ok (by assumption) (by assumption) (by assumption) (by assumption) (by assumption) (by assumption)) rfl) <| dl_r (sem_assign rfl rfl) ?_
          refine dl_end <| dw_ret ?_
          rw [cmpP_s (nb_r hc4) hc5 hc6]
          exact ⟨.inr rfl, (resL_tmp rfl resL_nil)⟩
def leR (x y : Re) : Prop := 0 ≤ sgR (y - x)
theorem le_tr {x y z : Re} (h : leR x y) (g : leR y z) : leR x z := by
  unfold leR at *
  have e : z - x = (z - y) + (y - x) := Re.ext fun k => by simp only [re_sub, re_add]; grind
  rw [e]; exact sgR_nn g h
theorem of_le {p q : Rat} (h : p ≤ q) : leR (Re.of p) (Re.of q) := by
  unfold leR
  rw [of_sub, sgR_of]
  unfold cmpR
  rw [if_neg (by grind)]
  split <;> omega
theorem nn_of {x y : Re} (h : ∀ k, x.s k = y.s k) (g : 0 ≤ sgR x) : 0 ≤ sgR y := by rw [← Re.ext h]; exact g
def InI (lo hi : Int) (x : Re) : Prop := leR (Re.of (lo : Rat)) (Re.of 65536 * x) ∧ leR (Re.of 65536 * x) (Re.of (hi : Rat))
theorem sgR_add_le {x y u v : Re} (h : leR x y) (g : leR u v) : leR (x + u) (y + v) := by
  unfold leR at *
  exact nn_of (fun k => by simp only [re_sub, re_add]; grind) (sgR_nn h g)
theorem fl_le (y : Rat) : ((y.num.fdiv (y.den : Int) : Int) : Rat) ≤ y := by
  have hd := den_pos y
  have h1 := r_num y
  have hp : (0 : Rat) < ((y.den : Int) : Rat) := Rat.intCast_pos.2 hd
  refine q_cancel hp ?_
  rw [h1, ← Rat.intCast_mul]
  refine Rat.intCast_le_intCast.2 ?_
  rw [Int.fdiv_eq_ediv_of_nonneg _ (by omega), Int.mul_comm]
  have := Int.mul_ediv_add_emod y.num (y.den : Int)
  have := Int.emod_nonneg y.num (show (y.den : Int) ≠ 0 by omega)
  omega
theorem in_fr (a : Rat) : InI (frLo a) (frHi a) (Re.of a) := by
  have h1 := fl_le (a * ((65536 : Int) : Rat))
  have h2 := fl_le (-(a * ((65536 : Int) : Rat)))
  have e : ((65536 : Int) : Rat) = 65536 := rfl
  rw [e] at h1 h2
  refine ⟨?_, ?_⟩
  · rw [of_mul]
    refine of_le ?_
    unfold frLo
    rw [e]
    grind
  · rw [of_mul]
    refine of_le ?_
    unfold frHi
    rw [e, Rat.intCast_neg]
    grind
theorem in_g {a : Rat} (h : frOk a = true) : InI (gL a) (gH a) (Re.of a) := by
  unfold gL gH; rw [h, if_pos rfl, if_pos rfl]; exact in_fr a
theorem sq_le_re {p q : Re} (_hp : 0 ≤ sgR p) (hq : 0 ≤ sgR q) (h : 0 ≤ sgR (q * q - p * p)) : leR p q := by
  unfold leR
  rcases sgR_cases (q - p) with a | a | a
  · omega
  · omega
  · exfalso
    have h1 : 0 < sgR (p - q) := by
      have e : p - q = -(q - p) := Re.ext fun k => by simp only [re_sub, re_neg]; grind
      rw [e, sgR_neg, a]; decide
    have h2 : 0 < sgR (p + q) := by
      have e : p + q = (p - q) + (q + q) := Re.ext fun k => by simp only [re_sub, re_add]; grind
      rw [e]; exact sgR_pn h1 (sgR_nn hq hq)
    have h3 : sgR ((q - p) * (p + q)) = sgR (q * q - p * p) := congrArg sgR (Re.ext fun k => by simp only [re_sub, re_add, re_mul]; grind)
    rw [sgR_mul, a] at h3
    omega
theorem nn_cast {n : Int} (h : 0 ≤ n) : 0 ≤ sgR (Re.of (n : Rat)) := by
  have := of_le (Rat.intCast_nonneg.2 h)
  unfold leR at this
  refine nn_of (fun k => ?_) this
  simp only [re_sub, re_of]; grind
theorem of_le_iff {p q : Rat} (h : leR (Re.of p) (Re.of q)) : p ≤ q := by
  unfold leR at h
  rw [of_sub, sgR_of] at h
  unfold cmpR at h
  apply Classical.byContradiction
  intro hn
  rw [if_pos (by grind)] at h
  omega
theorem rt65_nn (m : Rat) : 0 ≤ sgR (Re.of 65536 * Re.rt m) := by
  have h1 := rt_nn m
  have h2 : sgR (Re.of 65536) = 1 := by rw [sgR_of]; decide +kernel
  rw [sgR_mul, h2]; omega
theorem rt65_sq {m : Rat} (h : 0 ≤ m) (q : Rat) : sgR (Re.of 65536 * Re.rt m * (Re.of 65536 * Re.rt m) - Re.of q) = cmpR (65536 * 65536 * m) q := by
  rw [← cmpR_sub, ← sgR_of]
  refine sgR_same ?_
  have e : Re.of 65536 * Re.rt m * (Re.of 65536 * Re.rt m) - Re.of q - Re.of (65536 * 65536 * m - q) = Re.of (65536 * 65536) * (Re.rt m * Re.rt m - Re.of m) := Re.ext fun k => by
    simp only [re_sub, re_mul, re_of]; grind
  rw [e, sgR_mul, rt_sq h, Int.mul_zero]
theorem cmpR_geI {x y : Rat} (h : y ≤ x) : 0 ≤ cmpR x y := by unfold cmpR; rw [if_neg (by grind)]; split <;> omega
theorem cmpR_leI {x y : Rat} (h : x ≤ y) : cmpR x y ≤ 0 := by
  unfold cmpR
  split
  · omega
  · rw [if_neg (by grind)]; omega
theorem in_sq {m : Rat} (hm : 0 ≤ m) {lo hi : Int} (h : InI lo hi (Re.of m)) : InI (sqLo lo) (sqHi hi) (Re.rt m) := by
  obtain ⟨h1, h2⟩ := h
  rw [of_mul] at h1 h2
  have g1 := of_le_iff h1
  have g2 := of_le_iff h2
  have hq : (0 : Rat) ≤ 65536 * m := Rat.mul_nonneg (by decide) hm
  refine ⟨?_, ?_⟩
  · refine sq_le_re (nn_cast (isqI_nonneg _)) (rt65_nn m) ?_
    rw [of_mul, rt65_sq hm]
    refine cmpR_geI ?_
    have h3 := isqI_le (x := max lo 0 * 65536) (by omega)
    have h4 : ((isqI (max lo 0 * 65536) * isqI (max lo 0 * 65536) : Int) : Rat) ≤ ((max lo 0 * 65536 : Int) : Rat) := Rat.intCast_le_intCast.2 h3
    rw [Rat.intCast_mul, Rat.intCast_mul] at h4
    have e65 : ((65536 : Int) : Rat) = 65536 := rfl
    have h5 : ((max lo 0 : Int) : Rat) ≤ 65536 * m := by
      by_cases hl : 0 ≤ lo
      · rw [show max lo 0 = lo from by omega]; exact g1
      · rw [show max lo 0 = 0 from by omega]; simpa using hq
    rw [e65] at h4
    unfold sqLo
    grind
  · refine sq_le_re (rt65_nn m) (nn_cast ?_) ?_
    · unfold sqHi; have := isqI_nonneg (hi * 65536); split <;> omega
    have h3 : 0 ≤ -sgR (Re.of 65536 * Re.rt m * (Re.of 65536 * Re.rt m) - Re.of (((sqHi hi : Int) : Rat) * ((sqHi hi : Int) : Rat))) := by
      rw [rt65_sq hm]
      have hh : (0 : Int) ≤ hi := by
        have : (0 : Rat) ≤ (hi : Rat) := by grind
        exact Rat.intCast_nonneg.1 this
      have h4 : hi * 65536 ≤ sqHi hi * sqHi hi := by
        unfold sqHi
        split
        · rename_i hs
          unfold sqI at hs
          have := beq_iff_eq.1 hs
          omega
        · have := isqI_lt (x := hi * 65536) (by omega)
          omega
      have h5 : ((hi * 65536 : Int) : Rat) ≤ ((sqHi hi * sqHi hi : Int) : Rat) := Rat.intCast_le_intCast.2 h4
      rw [Rat.intCast_mul, Rat.intCast_mul] at h5
      have e65 : ((65536 : Int) : Rat) = 65536 := rfl
      rw [e65] at h5
      have := cmpR_leI (x := 65536 * 65536 * m) (y := ((sqHi hi : Int) : Rat) * ((sqHi hi : Int) : Rat)) (by grind)
      omega
    rw [← sgR_neg] at h3
    refine nn_of (fun k => ?_) h3
    simp only [re_neg, re_sub, re_mul, re_of]; grind
theorem lin_nn {k u v U L : Re} (h1 : 0 ≤ sgR (k * u - L)) (h2 : 0 ≤ sgR (k * v - L)) (g1 : leR u U) (g2 : leR U v) : 0 ≤ sgR (k * U - L) := by
  unfold leR at *
  have e : (v - u) * (k * U - L) = (v - U) * (k * u - L) + (U - u) * (k * v - L) := Re.ext fun j => by simp only [re_sub, re_mul, re_add]; grind
  have hr : 0 ≤ sgR ((v - U) * (k * u - L) + (U - u) * (k * v - L)) := by
    refine sgR_nn ?_ ?_
    · rw [sgR_mul]; exact Int.mul_nonneg g2 h1
    · rw [sgR_mul]; exact Int.mul_nonneg g1 h2
  rw [← e, sgR_mul] at hr
  have e2 : sgR (v - u) = sgR ((v - U) + (U - u)) := congrArg sgR (Re.ext fun j => by simp only [re_sub, re_add]; grind)
  rcases sgR_cases (v - u) with a | a | a
  · rw [a] at hr; omega
  · rcases sgR_cases (U - u) with b | b | b
    · have := sgR_pn (x := U - u) (y := v - U) (by omega) g2
      rw [re_addc] at this
      omega
    · have e3 : k * U - L = (k * u - L) + k * (U - u) := Re.ext fun j => by simp only [re_sub, re_add, re_mul]; grind
      rw [e3, sgR_addz _ (by rw [sgR_mul, b, Int.mul_zero])]
      exact h1
    · omega
  · have := sgR_nn g2 g1
    omega
theorem bil_nn {x y u v X U L : Re} (h1 : 0 ≤ sgR (x * u - L)) (h2 : 0 ≤ sgR (x * v - L)) (h3 : 0 ≤ sgR (y * u - L)) (h4 : 0 ≤ sgR (y * v - L)) (g1 : leR x X) (g2 : leR X y) (g3 : leR u U) (g4 : leR U v) : 0 ≤ sgR (X * U - L) := by
  have a := lin_nn h1 h2 g3 g4
  have b := lin_nn h3 h4 g3 g4
  rw [re_mulc x U] at a
  rw [re_mulc y U] at b
  have := lin_nn a b g1 g2
  rw [re_mulc U X] at this
  exact this
theorem sc_lo (a b : Int) : scLo a b * 65536 ≤ a * b ∧ a * b ≤ scHi a b * 65536 := by
  have e : a * b = if (!(decide (a < 0) == decide (b < 0))) = true then -scP a b else scP a b := by
    unfold scP
    by_cases ha : a < 0 <;> by_cases hb : b < 0
    · have h1 : (a.natAbs : Int) = -a := by omega
      have h2 : (b.natAbs : Int) = -b := by omega
      simp [ha, hb, h1, h2]; try grind
    · have h1 : (a.natAbs : Int) = -a := by omega
      have h2 : (b.natAbs : Int) = b := by omega
      simp [ha, hb, h1, h2]; try grind
    · have h1 : (a.natAbs : Int) = a := by omega
      have h2 : (b.natAbs : Int) = -b := by omega
      simp [ha, hb, h1, h2]; try grind
    · have h1 : (a.natAbs : Int) = a := by omega
      have h2 : (b.natAbs : Int) = b := by omega
      simp [ha, hb, h1, h2]
  rw [e]
  unfold scLo scHi
  generalize scP a b = p
  have hu : p ≤ scUp p * 65536 := by unfold scUp; split <;> omega
  generalize scUp p = u at *
  by_cases hc : (!(decide (a < 0) == decide (b < 0))) = true
  · rw [if_pos hc, if_pos hc, if_pos hc]; omega
  · rw [if_neg hc, if_neg hc, if_neg hc]; omega
theorem in_mul {x y u v : Int} {X U : Re} (h : InI x y X) (g : InI u v U) : InI (loN x y u v 4) (hiN x y u v 4) (X * U) := by
  have lo : ∀ a b : Int, loN x y u v 4 ≤ scLo a b → 0 ≤ sgR (Re.of (a : Rat) * Re.of (b : Rat) - Re.of ((loN x y u v 4 * 65536 : Int) : Rat)) := by
    intro a b hl
    rw [of_mul]
    refine of_le ?_
    rw [← Rat.intCast_mul]
    exact Rat.intCast_le_intCast.2 (by have := (sc_lo a b).1; omega)
  have hi : ∀ a b : Int, scHi a b ≤ hiN x y u v 4 → 0 ≤ sgR (-Re.of (a : Rat) * Re.of (b : Rat) - Re.of (-((hiN x y u v 4 * 65536 : Int) : Rat))) := by
    intro a b hl
    rw [of_neg, of_mul]
    refine of_le ?_
    have h1 : ((a * b : Int) : Rat) ≤ ((hiN x y u v 4 * 65536 : Int) : Rat) := Rat.intCast_le_intCast.2 (by have := (sc_lo a b).2; omega)
    rw [Rat.intCast_mul] at h1
    grind
  have hlo : loN x y u v 4 = min (min (min (min 2305843009213693952 (scLo x u)) (scLo x v)) (scLo y u)) (scLo y v) := rfl
  have hhi : hiN x y u v 4 = max (max (max (max (-2305843009213693952) (scHi x u)) (scHi x v)) (scHi y u)) (scHi y v) := rfl
  have e65 : ((65536 : Int) : Rat) = 65536 := rfl
  have p65 : sgR (Re.of 65536) = 1 := by rw [sgR_of]; decide +kernel
  refine ⟨?_, ?_⟩
  · have hb := bil_nn (lo x u (by omega)) (lo x v (by omega)) (lo y u (by omega)) (lo y v (by omega)) h.1 h.2 g.1 g.2
    have e : sgR (Re.of 65536 * (Re.of 65536 * (X * U) - Re.of ((loN x y u v 4 : Int) : Rat))) = sgR (Re.of 65536 * X * (Re.of 65536 * U) - Re.of ((loN x y u v 4 * 65536 : Int) : Rat)) := congrArg sgR (Re.ext fun k => by
      simp only [re_sub, re_mul, re_of, Rat.intCast_mul, e65]; grind)
    rw [← e, sgR_mul, p65, Int.one_mul] at hb
    exact hb
  · have n1 : leR (-Re.of (y : Rat)) (-(Re.of 65536 * X)) := nn_of (fun k => by simp only [re_sub, re_neg]; grind) h.2
    have n2 : leR (-(Re.of 65536 * X)) (-Re.of (x : Rat)) := nn_of (fun k => by simp only [re_sub, re_neg]; grind) h.1
    have hb := bil_nn (hi y u (by omega)) (hi y v (by omega)) (hi x u (by omega)) (hi x v (by omega)) n1 n2 g.1 g.2
    have e : sgR (Re.of 65536 * (Re.of ((hiN x y u v 4 : Int) : Rat) - Re.of 65536 * (X * U))) = sgR (-(Re.of 65536 * X) * (Re.of 65536 * U) - Re.of (-((hiN x y u v 4 * 65536 : Int) : Rat))) := congrArg sgR (Re.ext fun k => by
      simp only [re_sub, re_mul, re_of, re_neg, Rat.intCast_mul, e65]; grind)
    rw [← e, sgR_mul, p65, Int.one_mul] at hb
    exact hb
theorem in_p {x y u v : Int} {X U : Re} (h : InI x y X) (g : InI u v U) (hk : okN x y u v 4 = true) : InI (pL x y u v) (pH x y u v) (X * U) := by
  unfold pL pH; rw [hk, if_pos rfl, if_pos rfl]; exact in_mul h g
theorem in_add {x y u v : Int} {X U : Re} (h : InI x y X) (g : InI u v U) : InI (x + u) (y + v) (X + U) := by
  have a := sgR_add_le h.1 g.1
  have b := sgR_add_le h.2 g.2
  refine ⟨nn_of (fun k => ?_) a, nn_of (fun k => ?_) b⟩
  · simp only [re_sub, re_add, re_mul, re_of, Rat.intCast_add]; grind
  · simp only [re_sub, re_add, re_mul, re_of, Rat.intCast_add]; grind
theorem in_a {x y u v : Int} {X U : Re} (h : InI x y X) (g : InI u v U) (hk : okI (x + u) (y + v) = true) : InI (aL x y u v) (aH x y u v) (X + U) := by
  unfold aL aH; rw [hk, if_pos rfl, if_pos rfl]; exact in_add h g
theorem sg65 (X : Re) : sgR (Re.of 65536 * X) = sgR X := by
  have p65 : sgR (Re.of 65536) = 1 := by rw [sgR_of]; decide +kernel
  rw [sgR_mul, p65, Int.one_mul]
theorem pos_cast {n : Int} (h : 0 < n) : 0 < sgR (Re.of (n : Rat)) := by
  rw [sgR_of]
  have h1 : (0 : Rat) < (n : Rat) := Rat.intCast_pos.2 h
  unfold cmpR
  rw [if_neg (by grind), if_pos h1]; decide
theorem in_lo {lo hi : Int} {X : Re} (h : InI lo hi X) (hl : 0 < lo) : sgR X = 1 := by
  have h1 := sgR_pn (pos_cast hl) h.1
  have e : sgR (Re.of (lo : Rat) + (Re.of 65536 * X - Re.of (lo : Rat))) = sgR (Re.of 65536 * X) := congrArg sgR (Re.ext fun k => by simp only [re_sub, re_add]; grind)
  rw [e, sg65] at h1
  have := sgR_cases X
  omega
theorem in_hi {lo hi : Int} {X : Re} (h : InI lo hi X) (hl : hi < 0) : sgR X = -1 := by
  have h0 : 0 < sgR (-Re.of (hi : Rat)) := by
    rw [of_neg, ← Rat.intCast_neg]; exact pos_cast (by omega)
  have h1 := sgR_pn h0 h.2
  have e : sgR (-Re.of (hi : Rat) + (Re.of (hi : Rat) - Re.of 65536 * X)) = sgR (-(Re.of 65536 * X)) := congrArg sgR (Re.ext fun k => by simp only [re_sub, re_add, re_neg]; grind)
  rw [e, sgR_neg, sg65] at h1
  have := sgR_cases X
  omega
theorem in_zero {X : Re} (h : InI 0 0 X) : sgR X = 0 := by
  have h1 := h.1
  have h2 := h.2
  unfold leR at h1 h2
  have e1 : sgR (Re.of 65536 * X - Re.of ((0 : Int) : Rat)) = sgR (Re.of 65536 * X) := congrArg sgR (Re.ext fun k => by simp only [re_sub, re_of]; grind)
  have e2 : sgR (Re.of ((0 : Int) : Rat) - Re.of 65536 * X) = sgR (-(Re.of 65536 * X)) := congrArg sgR (Re.ext fun k => by simp only [re_sub, re_of, re_neg]; grind)
  rw [e1, sg65] at h1
  rw [e2, sgR_neg, sg65] at h2
  omega
theorem in_sign {lo hi : Int} {X : Re} (h : InI lo hi X) (hs : skI lo hi = true) : sgI lo hi = sgR X := by
  unfold skI at hs
  simp only [Bool.or_eq_true, decide_eq_true_eq, Bool.and_eq_true, beq_iff_eq] at hs
  unfold sgI
  by_cases h1 : lo > 0
  · rw [if_pos h1, in_lo h h1]
  · rw [if_neg h1]
    by_cases h2 : hi < 0
    · rw [if_pos h2, in_hi h h2]
    · rw [if_neg h2]
      rcases hs with hs | hs | ⟨hs, hs'⟩
      · omega
      · omega
      · subst hs hs'
        exact (in_zero h).symm
theorem qk_sign {A B C D M N : Rat} (hM : 0 ≤ M) (hN : 0 ≤ N) (h : qkK A B C D M N = true) : qkS A B C D M N = sgR (val6 A B C D M N) := by
  unfold qkK at h
  rw [Bool.and_eq_true] at h
  obtain ⟨h3, hs⟩ := h
  rw [(qk_yes h3).1]
  unfold qK3 qK2 qK1 at h3
  simp only [Bool.and_eq_true] at h3
  obtain ⟨⟨⟨k1, k2⟩, k3, k4, k5, k6, k7, k8, k9⟩, k10, k11, k12, k13⟩ := h3
  have im := in_sq hM (in_g k1)
  have in_ := in_sq hN (in_g k2)
  have ib : InI (qbL B M) (qbH B M) _ := in_p (in_g k3) im k4
  have ic : InI (qbL C N) (qbH C N) _ := in_p (in_g k5) in_ k6
  have imn : InI (qmnL M N) (qmnH M N) _ := in_p im in_ k8
  have id' : InI (qdL D M N) (qdH D M N) _ := in_p (in_g k7) imn k9
  have iab : InI (qabL A B M) (qabH A B M) _ := in_a (in_g k10) ib k11
  have icd : InI (qcdL C D M N) (qcdH C D M N) _ := in_a ic id' k12
  have is' : InI (qsL A B C D M N) (qsH A B C D M N) _ := in_a iab icd k13
  rw [in_sign is' hs]
  refine congrArg sgR (Re.ext fun k => ?_)
  unfold val6 val3
  simp only [re_add, re_mul, re_of]; grind
theorem sgnP_eq {A B C D M N : Rat} (hM : 0 ≤ M) (hN : 0 ≤ N) : sgnP A B C D M N = sgR (val6 A B C D M N) := by
  unfold sgnP
  rw [if_neg (by rintro (h | h) <;> grind)]
  split
  · rename_i h; exact qk_sign hM hN h
  · exact signQ_sg hM hN
theorem in_rt {a b c : Rat} (h : rtOk a b c = true) : InI (rtLo a b c) (rtHi a b c) (val3 a b c) := by
  have h0 := h
  unfold rtOk at h
  rw [Bool.and_eq_true] at h
  obtain ⟨h1, h2⟩ := h
  cases hb : (cmpR b 0 == 0) with
  | true =>
    obtain ⟨e1, e2, _⟩ := rt_b (c := c) h1 hb
    rw [e1, e2]
    have hb0 : b = 0 := r_eq hb
    subst hb0
    have := in_fr a
    have e : val3 a 0 c = Re.of a := Re.ext fun k => by unfold val3; simp only [re_add, re_mul, re_of]; grind
    rw [e]; exact this
  | false =>
    rw [hb, Bool.false_or] at h2
    unfold rtX at h2
    simp only [Bool.and_eq_true, Bool.not_eq_true'] at h2
    obtain ⟨g1, g2, g3, g4, g5⟩ := h2
    have hc : 0 ≤ c := Rat.not_lt.1 (r_nlt g3)
    obtain ⟨e1, e2, _⟩ := rt_f h1 hb g1 g2 g3 g4
    have ir := in_sq hc (in_fr c)
    have im := in_mul (in_fr b) ir
    have := in_add (in_fr a) im
    unfold rtLo rtHi
    rw [h0, if_pos rfl, if_pos rfl, hb, if_neg (by decide), if_neg (by decide)]
    exact this
theorem ap_sign {a b c d e f : Rat} (h : apK (rtOk a b c) (rtOk d e f) (rtLo a b c) (rtHi a b c) (rtLo d e f) (rtHi d e f) = true) :
    apS (rtOk a b c) (rtOk d e f) (rtLo a b c) (rtHi a b c) (rtLo d e f) (rtHi d e f) = sgR (val3 a b c - val3 d e f) := by
  unfold apK at h
  simp only [Bool.and_eq_true, Bool.or_eq_true, decide_eq_true_eq] at h
  obtain ⟨⟨k1, k2⟩, hs⟩ := h
  have i1 := in_rt k1
  have i2 := in_rt k2
  have i3 : InI (rtLo a b c - rtHi d e f) (rtHi a b c - rtLo d e f) (val3 a b c - val3 d e f) := by
    have n := sgR_add_le i1.1 (nn_of (y := -(Re.of 65536 * val3 d e f) - -Re.of ((rtHi d e f : Int) : Rat)) (fun k => by simp only [re_sub, re_neg]; grind) i2.2)
    have m := sgR_add_le i1.2 (nn_of (y := -Re.of ((rtLo d e f : Int) : Rat) - -(Re.of 65536 * val3 d e f)) (fun k => by simp only [re_sub, re_neg]; grind) i2.1)
    refine ⟨nn_of (fun k => ?_) n, nn_of (fun k => ?_) m⟩
    · simp only [re_sub, re_add, re_mul, re_of, re_neg, Rat.intCast_sub]; grind
    · simp only [re_sub, re_add, re_mul, re_of, re_neg, Rat.intCast_sub]; grind
  unfold apS
  rw [k1, k2, Bool.and_self, if_pos rfl]
  by_cases h1 : rtHi a b c < rtLo d e f
  · rw [if_pos (decide_eq_true h1), in_hi i3 (by omega)]
  · rw [if_neg (by simpa using h1)]
    rcases hs with hs | hs
    · omega
    · rw [if_pos (decide_eq_true hs), in_lo i3 (by omega)]
theorem cmpP_eq {a b c d e f : Rat} (hc : 0 ≤ c) (hf : 0 ≤ f) : cmpP a b c d e f = sgR (val3 a b c - val3 d e f) := by
  unfold cmpP
  split
  · rename_i h
    have hb : b = 0 := r_eq h.1
    have he : e = 0 := r_eq h.2
    subst hb he
    rw [← cmpR_sub, ← sgR_of]
    refine congrArg sgR (Re.ext fun k => ?_)
    unfold val3; simp only [re_sub, re_add, re_mul, re_of]; grind
  · split
    · rename_i h; exact ap_sign h
    · split
      · rename_i h
        have e1 : c = f := cmpR_eq0.1 (by simpa using h)
        subst e1
        rw [plainS_sg hc]
        refine congrArg sgR (Re.ext fun k => ?_)
        unfold val3; simp only [re_sub, re_add, re_mul, re_of]; grind
      · rw [sgnP_eq hc hf]
        refine congrArg sgR (Re.ext fun k => ?_)
        unfold val6 val3; simp only [re_sub, re_add, re_mul, re_of]; grind
theorem rz_l {k : Nat} {x : Rat} (h : (decide (-1000000000 < x.num) && (decide (x.num < 1000000000) && (decide ((x.den : Int) < 1000000000) && decide (1 ≤ k)))) = true) : Rz k x := by
  simp only [Bool.and_eq_true, decide_eq_true_eq] at h
  have h1 := pw_le h.2.2.2
  have e : pw 1 = 1000000000 := by decide +kernel
  have hp := den_pos x
  exact ⟨⟨by omega, by omega⟩, ⟨by omega, by omega⟩⟩
section
variable {P : Program} {f : FuncId} {ds rs : List D0} {x y z u v x' y' z' u' v' : Rat}
end
section
variable {a1 b1 a2 b2 c p1 q1 p2 q2 r : Rat}
end
theorem sqI_sq (n : Int) : sqI (n * n) = true := by
  have h : isqI (n * n) = (n.natAbs : Int) := by
    have e : (n.natAbs : Int) * (n.natAbs : Int) = n * n := by
      rw [← Int.natCast_mul, Int.natAbs_mul_self]
    refine isqI_unique ?_ (by omega) (by omega) ?_
    · rw [← e]; exact Int.mul_nonneg (by omega) (by omega)
    · have : ((n.natAbs : Int) + 1) * ((n.natAbs : Int) + 1) = (n.natAbs : Int) * (n.natAbs : Int) + 2 * (n.natAbs : Int) + 1 := by grind
      omega
  unfold sqI
  rw [h, ← Int.natCast_mul, Int.natAbs_mul_self]
  simp
theorem sqR_sq (x : Rat) : sqR (x * x) = true := by
  have e : x * x = Rat.divInt (x.num * x.num) ((x.den : Int) * (x.den : Int)) := by
    conv => lhs; rw [← Rat.num_divInt_den x]
    exact Rat.divInt_mul_divInt _ _
  have hd := den_pos x
  have hg : Int.gcd (x.num * x.num) ((x.den : Int) * (x.den : Int)) = 1 := by
    have hr : Nat.Coprime x.num.natAbs x.den := x.reduced
    show Nat.gcd (x.num * x.num).natAbs ((x.den : Int) * (x.den : Int)).natAbs = 1
    rw [Int.natAbs_mul, Int.natAbs_mul, Int.natAbs_natCast]
    exact (hr.mul_left hr).mul_right (hr.mul_left hr)
  have hv : vQ (x.num * x.num) ((x.den : Int) * (x.den : Int)) = true := by
    unfold vQ
    rw [hg, decide_eq_true (Int.mul_pos hd hd)]; rfl
  obtain ⟨h1, h2⟩ := vQ_parts hv
  rw [← e] at h1 h2
  unfold sqR
  rw [h1, h2, sqI_sq, sqI_sq]; rfl
section
variable {P : Program} {f : FuncId} {ds rs : List D0} {x y z x' y' z' : Rat}
theorem rcast3l (h : Ok P f ds (.a (cR x ++ cR y ++ cR z) :: rs)) (e1 : x = x') (e2 : y = y') (e3 : z = z') : Ok P f ds (.a (cR x' ++ cR y' ++ cR z') :: rs) := by subst e1 e2 e3; exact h
end
def flI (a b c : Rat) : Int := isqI ((a.den : Int) * (a.den : Int) * ((b * b * c).num * ((b * b * c).den : Int)))
def flN (a b c : Rat) (r : Int) : Int := (a.num * ((b * b * c).den : Int) + r).fdiv ((a.den : Int) * ((b * b * c).den : Int))
def flR (a b c : Rat) : Int := if b = 0 then a.num.fdiv (a.den : Int) else if b < 0 then flN a b c (-(flI a b c + 1)) else flN a b c (flI a b c)
section
variable {a b c : Rat}
theorem flR_0 (h : b = 0) : flR a b c = a.num.fdiv (a.den : Int) := by unfold flR; rw [if_pos h]
theorem flR_n (h : b ≠ 0) (h2 : b < 0) : flR a b c = flN a b c (-(flI a b c + 1)) := by unfold flR; rw [if_neg h, if_pos h2]
theorem flR_p (h : b ≠ 0) (h2 : ¬ b < 0) : flR a b c = flN a b c (flI a b c) := by unfold flR; rw [if_neg h, if_neg h2]
theorem fd_le {Z D : Int} (hD : 0 < D) : Z.fdiv D * D ≤ Z ∧ Z + 1 ≤ (Z.fdiv D + 1) * D := by
  rw [Int.fdiv_eq_ediv_of_nonneg _ (by omega), Int.add_mul, Int.mul_comm (Z / D) D]
  have h1 := Int.mul_ediv_add_emod Z D
  have h2 := Int.emod_nonneg Z (show D ≠ 0 by omega)
  have h3 := Int.emod_lt_of_pos Z hD
  omega
theorem leR_scale {x y : Re} {d : Rat} (hd : 0 < d) (h : leR (Re.of d * x) (Re.of d * y)) : leR x y := by
  unfold leR at *
  have e : sgR (Re.of d * y - Re.of d * x) = sgR (Re.of d * (y - x)) := congrArg sgR (Re.ext fun k => by simp only [re_sub, re_mul, re_of]; grind)
  have hp : sgR (Re.of d) = 1 := by rw [sgR_of]; unfold cmpR; rw [if_neg (by grind), if_pos hd]
  rw [e, sgR_mul, hp, Int.one_mul] at h
  exact h
theorem leR_scale2 {x y : Re} {d : Rat} (hd : 0 < d) (h : leR x y) : leR (Re.of d * x) (Re.of d * y) := by
  unfold leR at *
  have e : sgR (Re.of d * y - Re.of d * x) = sgR (Re.of d * (y - x)) := congrArg sgR (Re.ext fun k => by simp only [re_sub, re_mul, re_of]; grind)
  have hp : sgR (Re.of d) = 1 := by rw [sgR_of]; unfold cmpR; rw [if_neg (by grind), if_pos hd]
  rw [e, sgR_mul, hp, Int.one_mul]
  exact h
theorem leR_cast {m n : Int} (h : m ≤ n) : leR (Re.of (m : Rat)) (Re.of (n : Rat)) := of_le (Rat.intCast_le_intCast.2 h)
theorem fl_root (hc : 0 ≤ c) : leR (Re.of ((flI a b c : Int) : Rat)) (Re.of (((a.den : Int) * ((b * b * c).den : Int) : Int) : Rat) * (Re.of (if b < 0 then -b else b) * Re.rt c)) ∧
    leR (Re.of (((a.den : Int) * ((b * b * c).den : Int) : Int) : Rat) * (Re.of (if b < 0 then -b else b) * Re.rt c)) (Re.of (((flI a b c + 1 : Int)) : Rat)) := by
  have hbc : 0 ≤ b * b * c := by
    have : 0 ≤ b * b := by
      by_cases h : 0 ≤ b
      · exact Rat.mul_nonneg h h
      · have := Rat.mul_nonneg (show 0 ≤ -b by grind) (show 0 ≤ -b by grind); grind
    exact Rat.mul_nonneg this hc
  have hin : 0 ≤ (a.den : Int) * (a.den : Int) * ((b * b * c).num * ((b * b * c).den : Int)) :=
    Int.mul_nonneg (Int.mul_nonneg (by omega) (by omega)) (Int.mul_nonneg (Rat.num_nonneg.2 hbc) (by omega))
  have h1 := isqI_le hin
  have h2 := isqI_lt hin
  have h0 := isqI_nonneg ((a.den : Int) * (a.den : Int) * ((b * b * c).num * ((b * b * c).den : Int)))
  have hn := r_num (b * b * c)
  have dn := den_pos a
  have dq := den_pos (b * b * c)
  generalize hN : (a.den : Int) * (a.den : Int) * ((b * b * c).num * ((b * b * c).den : Int)) = N at *
  have eI : flI a b c = isqI N := by unfold flI; rw [hN]
  rw [eI]
  generalize hb' : (if b < 0 then -b else b) = b'
  have hb2 : b' * b' = b * b ∧ 0 ≤ b' := by subst hb'; split <;> (constructor <;> grind)
  generalize hD : (a.den : Int) * ((b * b * c).den : Int) = D
  have hD0 : 0 < D := by subst hD; exact Int.mul_pos dn dq
  have eN : ((N : Int) : Rat) = ((D : Int) : Rat) * ((D : Int) : Rat) * (b * b * c) := by
    subst hN hD
    simp only [Rat.intCast_mul] at *
    grind
  have nnR : 0 ≤ sgR (Re.of ((D : Int) : Rat) * (Re.of b' * Re.rt c)) := by
    have p1 : sgR (Re.of ((D : Int) : Rat)) = 1 := by have := pos_cast hD0; have := sgR_cases (Re.of ((D : Int) : Rat)); omega
    have p2 : 0 ≤ sgR (Re.of b') := by rw [sgR_of]; exact cmpR_geI hb2.2
    have p3 := rt_nn c
    rw [sgR_mul, p1, Int.one_mul, sgR_mul]
    exact Int.mul_nonneg p2 p3
  have eS : ∀ q : Rat, sgR (Re.of ((D : Int) : Rat) * (Re.of b' * Re.rt c) * (Re.of ((D : Int) : Rat) * (Re.of b' * Re.rt c)) - Re.of q) = cmpR ((N : Int) : Rat) q := by
    intro q
    rw [← cmpR_sub, ← sgR_of]
    refine sgR_same ?_
    have e : Re.of ((D : Int) : Rat) * (Re.of b' * Re.rt c) * (Re.of ((D : Int) : Rat) * (Re.of b' * Re.rt c)) - Re.of q - Re.of (((N : Int) : Rat) - q) = Re.of (((D : Int) : Rat) * ((D : Int) : Rat) * (b' * b')) * (Re.rt c * Re.rt c - Re.of c) := Re.ext fun k => by
      rw [eN]
      simp only [re_sub, re_mul, re_of]; grind
    rw [e, sgR_mul, rt_sq hc, Int.mul_zero]
  refine ⟨?_, ?_⟩
  · refine sq_le_re (nn_cast h0) nnR ?_
    rw [of_mul, eS, ← Rat.intCast_mul]
    exact cmpR_geI (Rat.intCast_le_intCast.2 h1)
  · refine sq_le_re nnR (nn_cast (by omega)) ?_
    have h3 : 0 ≤ -sgR (Re.of ((D : Int) : Rat) * (Re.of b' * Re.rt c) * (Re.of ((D : Int) : Rat) * (Re.of b' * Re.rt c)) - Re.of (((isqI N + 1 : Int) : Rat) * ((isqI N + 1 : Int) : Rat))) := by
      rw [eS, ← Rat.intCast_mul]
      have := cmpR_leI (x := ((N : Int) : Rat)) (y := (((isqI N + 1) * (isqI N + 1) : Int) : Rat)) (Rat.intCast_le_intCast.2 (by omega))
      omega
    rw [← sgR_neg] at h3
    refine nn_of (fun k => ?_) h3
    simp only [re_neg, re_sub, re_mul, re_of]; grind
theorem sub_nn {x y : Re} (h : leR x y) : 0 ≤ sgR (y - x) := h
theorem flR_in (hc : 0 ≤ c) : leR (Re.of ((flR a b c : Int) : Rat)) (Re.of a + Re.of b * Re.rt c) ∧ leR (Re.of a + Re.of b * Re.rt c) (Re.of (((flR a b c + 1 : Int)) : Rat)) := by
  by_cases hb : b = 0
  · subst hb
    have e : Re.of a + Re.of 0 * Re.rt c = Re.of a := Re.ext fun k => by simp only [re_add, re_mul, re_of]; grind
    rw [e, flR_0 rfl]
    have dn := den_pos a
    obtain ⟨h1, h2⟩ := fd_le (Z := a.num) dn
    have hn := r_num a
    have hp : (0 : Rat) < ((a.den : Int) : Rat) := Rat.intCast_pos.2 dn
    refine ⟨of_le (q_cancel hp ?_), of_le (q_cancel hp ?_)⟩
    · rw [hn, ← Rat.intCast_mul]; exact Rat.intCast_le_intCast.2 h1
    · rw [hn, ← Rat.intCast_mul]; exact Rat.intCast_le_intCast.2 (by omega)
  · obtain ⟨r1, r2⟩ := fl_root (a := a) (b := b) hc
    have dn := den_pos a
    have dq := den_pos (b * b * c)
    have hD0 : 0 < (a.den : Int) * ((b * b * c).den : Int) := Int.mul_pos dn dq
    have hDr : (0 : Rat) < (((a.den : Int) * ((b * b * c).den : Int) : Int) : Rat) := Rat.intCast_pos.2 hD0
    have eX : (((a.den : Int) * ((b * b * c).den : Int) : Int) : Rat) * a = ((a.num * ((b * b * c).den : Int) : Int) : Rat) := by
      have := r_num a
      simp only [Rat.intCast_mul]; grind
    have en := fun h2 => flR_n (a := a) (c := c) hb h2
    have ep := fun h2 => flR_p (a := a) (c := c) hb h2
    generalize hD : (a.den : Int) * ((b * b * c).den : Int) = D at *
    generalize flI a b c = I at *
    have key : ∀ r : Int, ∀ Y : Re, flR a b c = flN a b c r → Re.of a + Re.of b * Re.rt c = Re.of a + Y → leR (Re.of ((r : Int) : Rat)) (Re.of ((D : Int) : Rat) * Y) → leR (Re.of ((D : Int) : Rat) * Y) (Re.of (((r + 1 : Int)) : Rat)) →
        leR (Re.of ((flR a b c : Int) : Rat)) (Re.of a + Re.of b * Re.rt c) ∧ leR (Re.of a + Re.of b * Re.rt c) (Re.of (((flR a b c + 1 : Int)) : Rat)) := by
      intro r Y e1 e2 g1 g2
      rw [e2, e1]
      have e3 : flN a b c r = (a.num * ((b * b * c).den : Int) + r).fdiv D := by unfold flN; rw [hD]
      rw [e3]
      obtain ⟨f1, f2⟩ := fd_le (Z := a.num * ((b * b * c).den : Int) + r) hD0
      generalize (a.num * ((b * b * c).den : Int) + r).fdiv D = n at *
      generalize a.num * ((b * b * c).den : Int) = X at *
      refine ⟨leR_scale hDr ?_, leR_scale hDr ?_⟩
      · have a1 := leR_cast f1
        have a2 := sgR_nn (sub_nn a1) (sub_nn g1)
        refine nn_of (fun k => ?_) a2
        simp only [re_sub, re_add, re_mul, re_of, Rat.intCast_mul, Rat.intCast_add] at *
        grind
      · have a1 := leR_cast f2
        have a2 := sgR_nn (sub_nn a1) (sub_nn g2)
        refine nn_of (fun k => ?_) a2
        simp only [re_sub, re_add, re_mul, re_of, Rat.intCast_mul, Rat.intCast_add, Rat.intCast_one] at *
        grind
    by_cases hn : b < 0
    · rw [if_pos hn] at r1 r2
      refine key (-(I + 1)) (Re.of b * Re.rt c) (en hn) rfl ?_ ?_
      · refine nn_of (fun k => ?_) r2
        simp only [re_sub, re_mul, re_of, Rat.intCast_neg, Rat.intCast_add, Rat.intCast_one]; grind
      · refine nn_of (fun k => ?_) r1
        simp only [re_sub, re_mul, re_of, Rat.intCast_neg, Rat.intCast_add, Rat.intCast_one]; grind
    · rw [if_neg hn] at r1 r2
      exact key I (Re.of b * Re.rt c) (ep hn) rfl r1 r2
theorem flI_sz {k l m : Nat} (ha : Rz k a) (hb : Rz l b) (hc : Rz m c) : Sz (k + (l + l + m)) (flI a b c) := by
  have hs : Sz (k + k + ((l + l + m) + (l + l + m))) ((a.den : Int) * (a.den : Int) * ((b * b * c).num * ((b * b * c).den : Int))) := (ha.d.mul ha.d).mul ((((hb.mul hb).mul hc).n).mul (((hb.mul hb).mul hc).d))
  unfold flI
  generalize (a.den : Int) * (a.den : Int) * ((b * b * c).num * ((b * b * c).den : Int)) = N at *
  have h0 := isqI_nonneg N
  have e : pw (k + k + ((l + l + m) + (l + l + m))) = pw (k + (l + l + m)) * pw (k + (l + l + m)) := by
    unfold pw
    rw [← Int.pow_add]
    congr 1
    omega
  have hp := pw_pos (k + (l + l + m))
  refine ⟨?_, by omega⟩
  by_cases hN : 0 ≤ N
  · have h1 := isqI_le hN
    have h2 := hs.1
    rw [e] at h2
    exact sq_lt_imp (by omega) (Int.lt_of_le_of_lt h1 h2)
  · unfold isqI
    rw [if_pos (by omega)]; omega
theorem flR_sz {k l m : Nat} (ha : Rz k a) (hb : Rz l b) (hc : Rz m c) : Sz (k + (l + l + m) + 2) (flR a b c) := by
  have hi := flI_sz ha hb hc
  have hx : Sz (k + (l + l + m)) (a.num * ((b * b * c).den : Int)) := ha.n.mul ((hb.mul hb).mul hc).d
  have h1 : Sz (k + (l + l + m) + 1) (flI a b c + 1) := hi.add (by
    by_cases h : 1 ≤ k + (l + l + m)
    · exact Sz.one h
    · exfalso
      have : k + (l + l + m) = 0 := by omega
      have hk : k = 0 := by omega
      subst hk
      have h5 := ha.d.1
      have h6 := den_pos a
      rw [pw_zero] at h5
      omega)
  unfold flR
  split
  · exact (ha.n.fdiv).mono (by omega)
  · split
    · unfold flN
      exact (((hx.mono (by omega)).add h1.neg).fdiv).mono (by omega)
    · unfold flN
      exact ((hx.add hi).fdiv).mono (by omega)
end
theorem sgnP_signQ (A B C D M N : Rat) : sgnP A B C D M N = signQ A B C D M N := by
  by_cases h : M < 0 ∨ N < 0
  · rw [sgnP_n h, signQ_n h]
  · have hM : 0 ≤ M := by grind
    have hN : 0 ≤ N := by grind
    rw [sgnP_eq hM hN, signQ_sg hM hN]
theorem xSignQ_ok {A B C D M N : Rat} (hA : Rz 8 A) (hB : Rz 8 B) (hC : Rz 8 C) (hD : Rz 8 D) (hM : Rz 8 M) (hN : Rz 8 N) :
    Ok Tryz.prog 24 [.a (cR A ++ cR B ++ cR C ++ cR D ++ cR M ++ cR N)] [.c (.i .i64 (signQ A B C D M N))] := rcasti (xSign_ok hA hB hC hD hM hN) (sgnP_signQ _ _ _ _ _ _)
theorem xCmpQL_ok {a b c d e f : Rat} (ha : Rz 20000 a) (hb : Rz 1600 b) (hc : Rz 1600 c) (hd : Rz 20000 d) (he : Rz 1600 e) (hf : Rz 1600 f) (h1 : Rz 1600 (a - d)) (c0 : 0 ≤ c) (f0 : 0 ≤ f) :
    Ok Tryz.prog 28 [.a (cR a ++ cR b ++ cR c), .a (cR d ++ cR e ++ cR f)] [.c (.i .i64 (signQ (a - d) b (-e) 0 c f))] := rcasti (xCmpL_ok ha hb hc hd he hf h1) ((cmpP_eq c0 f0).trans (signQ_val c0 f0).symm)
theorem xCmpQ_ok {a b c d e f : Rat} (ha : Rz 100 a) (hb : Rz 8 b) (hc : Rz 8 c) (hd : Rz 100 d) (he : Rz 8 e) (hf : Rz 8 f) (h1 : Rz 8 (a - d)) (c0 : 0 ≤ c) (f0 : 0 ≤ f) :
    Ok Tryz.prog 28 [.a (cR a ++ cR b ++ cR c), .a (cR d ++ cR e ++ cR f)] [.c (.i .i64 (signQ (a - d) b (-e) 0 c f))] := xCmpQL_ok (ha.mono (by decide)) (hb.mono (by decide)) (hc.mono (by decide)) (hd.mono (by decide)) (he.mono (by decide)) (hf.mono (by decide)) (h1.mono (by decide)) c0 f0
theorem rcast1l {P : Program} {f : FuncId} {ds rs : List D0} {x x' : Rat} (h : Ok P f ds (dR x :: rs)) (e : x = x') : Ok P f ds (dR x' :: rs) := by subst e; exact h
theorem icast1 {P : Program} {f : FuncId} {ds : List D0} {x x' : Int} (h : Ok P f ds [dI x]) (e : x = x') : Ok P f ds [dI x'] := by subst e; exact h
section
variable {P : Program} {f : FuncId} {ds rs : List D0} {x y z x' y' z' : Rat}
end
def invN (a b c : Rat) : Rat := 1 / (a * a - b * b * c)
def rtSg (a b c : Rat) : Int := if cmpR b 0 = 0 ∨ cmpR a 0 = cmpR b 0 then cmpR a 0 else if cmpR a 0 = 0 then cmpR b 0 else cmpR a 0 * cmpR (a * a - b * b * c) 0
section
variable {a b c : Rat}
theorem rtSg_0 (h : (cmpR b 0 == 0) = true) : rtSg a b c = cmpR a 0 := by unfold rtSg; rw [if_pos (.inl (by simpa using h))]
theorem rtSg_e (h : (cmpR a 0 == cmpR b 0) = true) : rtSg a b c = cmpR a 0 := by unfold rtSg; rw [if_pos (.inr (by simpa using h))]
theorem rtSg_z (h : (cmpR b 0 == 0) = false) (h2 : (cmpR a 0 == cmpR b 0) = false) (h3 : (cmpR a 0 == 0) = true) : rtSg a b c = cmpR b 0 := by
  unfold rtSg; rw [if_neg (fun e => e.elim (by simpa using h) (by simpa using h2)), if_pos (by simpa using h3)]
theorem rtSg_n (h : (cmpR b 0 == 0) = false) (h2 : (cmpR a 0 == cmpR b 0) = false) (h3 : (cmpR a 0 == 0) = false) : rtSg a b c = cmpR a 0 * cmpR (a * a - b * b * c) 0 := by
  unfold rtSg; rw [if_neg (fun e => e.elim (by simpa using h) (by simpa using h2)), if_neg (by simpa using h3)]
end
theorem lim_le {k : Nat} {x : Int} (h : Sz k x) : (lim x.natAbs).length ≤ k := lim_len h
theorem len2 {k : Nat} {x : Int} (h : Sz k x) (m : Int) (hk : (k : Int) ≤ m) : decide (((lim x.natAbs).length : Int) > m) = false := decide_eq_false (by have := lim_le h; omega)
theorem leR_mul_r {X Y U : Re} (hX : 0 ≤ sgR X) (h : leR Y U) : leR (X * Y) (X * U) := by
  unfold leR at *
  rw [show X * U - X * Y = X * (U - Y) from Re.ext fun k => by simp only [re_sub, re_mul]; grind, sgR_mul]
  exact Int.mul_nonneg hX h
theorem leR_same_r {x y z : Re} (h : sgR (y - z) = 0) (g : leR x y) : leR x z := by
  unfold leR at *
  rw [← sgR_same (x := y - x) (y := z - x) (by rw [show y - x - (z - x) = y - z from Re.ext fun k => by simp only [re_sub]; grind]; exact h)]
  exact g
theorem leR_neg {x y : Re} (h : leR x y) : leR (-y) (-x) := by
  unfold leR at *
  rw [show -x - -y = y - x from Re.ext fun k => by simp only [re_sub, re_neg]; grind]; exact h
theorem leR_refl (x : Re) : leR x x := by
  unfold leR
  have h : sgR (Re.of 0) = 0 := by rw [sgR_of]; decide
  rw [show x - x = Re.of 0 from Re.ext fun k => by simp only [re_sub, re_of]; grind, h]; exact Int.le_refl _
theorem sep_mul {X Y W : Re} {e U : Rat} (hX : sgR X = 1) (hw : sgR (X * Y - W) = 0) (hU1 : leR Y (Re.of U)) (hU2 : leR (-Y) (Re.of U)) (he : leR (Re.of e) W ∨ leR (Re.of e) (-W)) : leR (Re.of e) (Re.of U * X) := by
  have hc : Re.of U * X = X * Re.of U := Re.ext fun k => by simp only [re_mul]; grind
  rw [hc]
  rcases he with he | he
  · have h1 : sgR (W - X * Y) = 0 := by rw [show W - X * Y = -(X * Y - W) from Re.ext fun k => by simp only [re_sub, re_neg]; grind, sgR_neg, hw]; rfl
    exact le_tr (leR_same_r h1 he) (leR_mul_r (by omega) hU1)
  · have h1 : sgR (-W - X * -Y) = 0 := by rw [show -W - X * -Y = X * Y - W from Re.ext fun k => by simp only [re_sub, re_neg, re_mul]; grind]; exact hw
    exact le_tr (leR_same_r h1 he) (leR_mul_r (by omega) hU2)
theorem rz_low {k : Nat} {x : Rat} (h : Rz k x) (hx : 0 < x) : 1 / ((pw k : Int) : Rat) ≤ x := by
  have hp := pw_pos k
  have hpr : (0 : Rat) < ((pw k : Int) : Rat) := Rat.intCast_lt_intCast.2 hp
  apply Classical.byContradiction
  intro hn
  have h1 := Rat.mul_lt_mul_of_pos_right (show x < 1 / ((pw k : Int) : Rat) by grind) hpr
  rw [Rat.div_mul_cancel (by grind)] at h1
  have hd := den_pos x
  have hdr : (0 : Rat) < ((x.den : Int) : Rat) := Rat.intCast_lt_intCast.2 hd
  have h2 : ((x.den : Int) : Rat) ≤ ((pw k : Int) : Rat) := Rat.intCast_le_intCast.2 (by obtain ⟨g1, g2⟩ := h.d; omega)
  have h3 := Rat.mul_le_mul_of_nonneg_left h2 (show 0 ≤ x by grind)
  rw [r_num] at h3
  have h0 : 0 < x.num := by
    have := Rat.mul_pos hx hdr
    rw [r_num] at this
    exact Rat.intCast_lt_intCast.1 (show ((0 : Int) : Rat) < ((x.num : Int) : Rat) from this)
  have h4 : ((1 : Int) : Rat) ≤ ((x.num : Int) : Rat) := Rat.intCast_le_intCast.2 (by omega)
  have h5 : ((1 : Int) : Rat) = 1 := rfl
  grind
theorem rz_high {k : Nat} {x : Rat} (h : Rz k x) : x ≤ ((pw k : Int) : Rat) ∧ -((pw k : Int) : Rat) ≤ x := by
  have hd := den_pos x
  have hp := pw_pos k
  have hdr : ((1 : Int) : Rat) ≤ ((x.den : Int) : Rat) := Rat.intCast_le_intCast.2 (by omega)
  have h5 : ((1 : Int) : Rat) = 1 := rfl
  have hn1 : ((x.num : Int) : Rat) ≤ ((pw k : Int) : Rat) := Rat.intCast_le_intCast.2 (by obtain ⟨g1, g2⟩ := h.n; omega)
  have hn2 : ((-(pw k) : Int) : Rat) ≤ ((x.num : Int) : Rat) := Rat.intCast_le_intCast.2 (by obtain ⟨g1, g2⟩ := h.n; omega)
  rw [Rat.intCast_neg] at hn2
  have e := r_num x
  have hpr : (0 : Rat) ≤ ((pw k : Int) : Rat) := by
    have : ((0 : Int) : Rat) ≤ ((pw k : Int) : Rat) := Rat.intCast_le_intCast.2 (by omega)
    exact this
  constructor
  · apply Classical.byContradiction
    intro hn
    have h1 := Rat.mul_le_mul_of_nonneg_left hdr (show 0 ≤ x by grind)
    grind
  · apply Classical.byContradiction
    intro hn
    have h1 := Rat.mul_le_mul_of_nonneg_left hdr (show 0 ≤ -x by grind)
    grind
theorem rt_up {M : Rat} (h : 0 ≤ M) : leR (Re.rt M) (Re.of (M + 1)) := by
  refine sq_le_re (rt_nn M) (by rw [sgR_of]; exact cmpR_geI (by grind)) ?_
  have e : sgR (Re.of (M + 1) * Re.of (M + 1) - Re.rt M * Re.rt M) = sgR (Re.of ((M + 1) * (M + 1) - M)) := sgR_same (by
    rw [show Re.of (M + 1) * Re.of (M + 1) - Re.rt M * Re.rt M - Re.of ((M + 1) * (M + 1) - M) = -(Re.rt M * Re.rt M - Re.of M) from Re.ext fun k => by simp only [re_sub, re_mul, re_of, re_neg]; grind, sgR_neg, rt_sq h]; rfl)
  rw [e, sgR_of]
  exact cmpR_geI (by have := Rat.mul_nonneg h h; grind)
theorem brt_up {b M : Rat} (h : 0 ≤ M) {V : Rat} (h1 : b * (M + 1) ≤ V) (h0 : 0 ≤ V) : leR (Re.of b * Re.rt M) (Re.of V) := by
  by_cases hb : 0 ≤ b
  · have := leR_mul_r (X := Re.of b) (by rw [sgR_of]; exact cmpR_geI hb) (rt_up h)
    exact le_tr this (by rw [of_mul]; exact of_le h1)
  · have h2 : leR (Re.of b * Re.rt M) (Re.of 0) := by
      unfold leR
      rw [show Re.of 0 - Re.of b * Re.rt M = Re.of (-b) * Re.rt M from Re.ext fun k => by simp only [re_sub, re_mul, re_of]; grind, sgR_mul]
      exact Int.mul_nonneg (by rw [sgR_of]; exact cmpR_geI (by grind)) (rt_nn M)
    exact le_tr h2 (of_le h0)
theorem val3_up {a b M U : Rat} (h : 0 ≤ M) (h1 : b * (M + 1) ≤ U - a) (h0 : a ≤ U) : leR (val3 a b M) (Re.of U) := by
  have := brt_up (b := b) h h1 (by grind)
  have h2 := sgR_add_le (leR_refl (Re.of a)) this
  unfold val3
  refine le_tr h2 ?_
  rw [show Re.of a + Re.of (U - a) = Re.of U from Re.ext fun k => by simp only [re_add, re_of]; grind]
  exact leR_refl _
theorem val3_conj {a b M : Rat} (h : 0 ≤ M) : sgR (val3 a b M * val3 a (-b) M - Re.of (a * a - b * b * M)) = 0 := by
  rw [show val3 a b M * val3 a (-b) M - Re.of (a * a - b * b * M) = Re.of (-(b * b)) * (Re.rt M * Re.rt M - Re.of M) from Re.ext fun k => by simp only [val3, re_sub, re_mul, re_of, re_add]; grind, sgR_mul, rt_sq h, Int.mul_zero]
theorem val3_neg (a b M : Rat) : val3 (-a) (-b) M = -(val3 a b M) := Re.ext fun k => by simp only [val3, re_add, re_mul, re_of, re_neg]; grind
theorem pw_mul (a b : Nat) : ((pw (a + b) : Int) : Rat) = ((pw a : Int) : Rat) * ((pw b : Int) : Rat) := by rw [← Rat.intCast_mul, pw_add]
theorem pwr_pos (k : Nat) : (0 : Rat) < ((pw k : Int) : Rat) := Rat.intCast_lt_intCast.2 (pw_pos k)
theorem pwr_one (k : Nat) : (1 : Rat) ≤ ((pw k : Int) : Rat) := by
  have h : ((1 : Int) : Rat) ≤ ((pw k : Int) : Rat) := Rat.intCast_le_intCast.2 (by have := pw_pos k; omega)
  exact h
theorem mul_up {b c B C : Rat} (h1 : b ≤ B) (h2 : -B ≤ b) (c0 : 0 ≤ c) (c1 : c ≤ C) : b * c ≤ B * C ∧ -(B * C) ≤ b * c := by
  have g1 : b * c ≤ B * c := Rat.mul_le_mul_of_nonneg_right h1 c0
  have g2 : B * c ≤ B * C := Rat.mul_le_mul_of_nonneg_left c1 (by grind)
  have g3 : -B * c ≤ b * c := Rat.mul_le_mul_of_nonneg_right h2 c0
  constructor <;> grind
theorem val3_bd {ka kb km : Nat} {a b M : Rat} (ha : Rz ka a) (hb : Rz kb b) (hm : Rz km M) (h0 : 0 ≤ M) {U : Rat} (hU : ((pw ka : Int) : Rat) + ((pw kb : Int) : Rat) * (((pw km : Int) : Rat) + 1) ≤ U) : leR (val3 a b M) (Re.of U) ∧ leR (-(val3 a b M)) (Re.of U) := by
  obtain ⟨a1, a2⟩ := rz_high ha
  obtain ⟨b1, b2⟩ := rz_high hb
  obtain ⟨m1, _⟩ := rz_high hm
  obtain ⟨g1, g2⟩ := mul_up (c := M + 1) (C := ((pw km : Int) : Rat) + 1) b1 b2 (by grind) (by grind)
  have hp := Rat.mul_nonneg (show 0 ≤ ((pw kb : Int) : Rat) by have := pwr_pos kb; grind) (show 0 ≤ ((pw km : Int) : Rat) + 1 by have := pwr_pos km; grind)
  refine ⟨val3_up h0 (by grind) (by grind), ?_⟩
  rw [← val3_neg]
  exact val3_up h0 (by grind) (by grind)
theorem inv_le {x y : Rat} (hx : 0 < x) (h : x ≤ y) : 1 / y ≤ 1 / x := by
  have hy : 0 < y := by grind
  have e1 : 1 / x * x = 1 := Rat.div_mul_cancel (by grind)
  have e2 : 1 / y * y = 1 := Rat.div_mul_cancel (by grind)
  apply Classical.byContradiction
  intro hn
  have h0 : 0 < 1 / y := by
    apply Classical.byContradiction
    intro hc
    have := Rat.mul_le_mul_of_nonneg_right (show 1 / y ≤ 0 by grind) (show 0 ≤ y by grind)
    grind
  have h1 := Rat.mul_lt_mul_of_pos_right (show 1 / x < 1 / y by grind) hx
  have h2 := Rat.mul_le_mul_of_nonneg_left h (show 0 ≤ 1 / y by grind)
  grind
theorem le_two {a : Rat} (h : 0 < a) : a ≤ 2 * a := by grind
theorem neg_pos2 {x : Rat} (h : x < 0) : 0 < -x := by grind
theorem pos_of2 {a : Rat} (h : 0 < 2 * a) : 0 < a := by grind
theorem nn_add1 {c : Rat} (h : 0 ≤ c) : 0 ≤ c + 1 := by grind
theorem le_add1 {c d : Rat} (h : c ≤ d) : c + 1 ≤ d + 1 := by grind
theorem neg_le2 {x y : Rat} (h : -y ≤ x) : -x ≤ y := by grind
theorem cmp_one {x : Rat} (h : cmpR x 0 = 1) : 0 < x := by
  unfold cmpR at h
  split at h
  · cases h
  · split at h
    · assumption
    · cases h
theorem nn_of_pos {x : Rat} (h : 0 < x) : 0 ≤ x := by grind
theorem rat_ne {x : Rat} (h : x ≠ 0) : x < 0 ∨ 0 < x := by grind
theorem sg_null {u v : Re} (h : sgR u = 0) (g : sgR v = 0) : sgR (u + v) = 0 := by
  rw [sgR_same (x := u + v) (y := v) (by rw [show u + v - v = u from Re.ext fun k => by simp only [re_sub, re_add]; grind]; exact h)]
  exact g
theorem frac_pw (a b : Nat) : 1 / ((pw (a + b) : Int) : Rat) * ((pw b : Int) : Rat) = 1 / ((pw a : Int) : Rat) := by
  have h1 := pwr_pos a
  have h2 := pwr_pos b
  rw [pw_mul]
  generalize ((pw a : Int) : Rat) = x at *
  generalize ((pw b : Int) : Rat) = y at *
  have e1 : 1 / (x * y) * (x * y) = 1 := Rat.div_mul_cancel (by have := Rat.mul_pos h1 h2; grind)
  have e2 : 1 / x * x = 1 := Rat.div_mul_cancel (by grind)
  generalize 1 / (x * y) = t at *
  generalize 1 / x = u at *
  have h4 : (t * y - u) * x = 0 := by grind
  rcases Rat.mul_eq_zero.1 h4 with h | h
  · grind
  · grind
theorem sep_div {X : Re} {a b : Nat} (h : leR (Re.of (1 / ((pw a : Int) : Rat))) (Re.of ((pw b : Int) : Rat) * X)) : leR (Re.of (1 / ((pw (a + b) : Int) : Rat))) X := by
  refine leR_scale (pwr_pos b) ?_
  rw [of_mul, Rat.mul_comm, frac_pw]
  exact h
theorem pw_inv {a b : Nat} (h : a ≤ b) : 1 / ((pw b : Int) : Rat) ≤ 1 / ((pw a : Int) : Rat) := inv_le (pwr_pos a) (Rat.intCast_le_intCast.2 (pw_le h))
theorem pw1 : ((pw 1 : Int) : Rat) = 1000000000 := by
  have : pw 1 = 1000000000 := by decide +kernel
  rw [this]; rfl
theorem sum_pw (ka kb km : Nat) : ((pw ka : Int) : Rat) + ((pw kb : Int) : Rat) * (((pw km : Int) : Rat) + 1) ≤ ((pw (ka + kb + km + 1) : Int) : Rat) := by
  rw [pw_mul, pw_mul, pw_mul, pw1]
  have a := pwr_one ka
  have b := pwr_one kb
  have m := pwr_one km
  generalize ((pw ka : Int) : Rat) = x at *
  generalize ((pw kb : Int) : Rat) = y at *
  generalize ((pw km : Int) : Rat) = z at *
  have h1 := Rat.mul_le_mul_of_nonneg_left b (show 0 ≤ x by grind)
  have h2 := Rat.mul_le_mul_of_nonneg_left m (show 0 ≤ x * y by grind)
  have h3 := Rat.mul_le_mul_of_nonneg_right a (show 0 ≤ y by grind)
  have h4 := Rat.mul_le_mul_of_nonneg_right h3 (show 0 ≤ z by grind)
  have h5 := Rat.mul_le_mul_of_nonneg_left m (show 0 ≤ y by grind)
  grind
def K2 (ka kb km : Nat) : Nat := (ka + ka + (kb + kb + km) + 1) + (ka + kb + km + 1)
theorem sep2p {ka kb km : Nat} {a b M : Rat} (ha : Rz ka a) (hb : Rz kb b) (hm : Rz km M) (h0 : 0 ≤ M) (hX : sgR (val3 a b M) = 1) : leR (Re.of (1 / ((pw (K2 ka kb km) : Int) : Rat))) (val3 a b M) := by
  have hr : Rz (ka + ka + (kb + kb + km) + 1) (a * a - b * b * M) := (ha.mul ha).sub ((hb.mul hb).mul hm)
  obtain ⟨u1, u2⟩ := val3_bd ha hb.neg hm h0 (sum_pw ka kb km)
  have hc := val3_conj (a := a) (b := b) h0
  by_cases hz : a * a - b * b * M = 0
  · -- the conjugate is 0
    have hY : sgR (val3 a (-b) M) = 0 := by
      have h1 : sgR (val3 a b M * val3 a (-b) M) = 0 := by
        rw [sgR_same hc, sgR_of, hz]; decide
      rw [sgR_mul, hX, Int.one_mul] at h1
      exact h1
    have h2 : sgR (val3 a b M - Re.of (2 * a)) = 0 := by
      rw [show val3 a b M - Re.of (2 * a) = -(val3 a (-b) M) from Re.ext fun k => by simp only [val3, re_sub, re_add, re_mul, re_of, re_neg]; grind, sgR_neg, hY]; rfl
    have h3 : sgR (Re.of (2 * a)) = 1 := by rw [← sgR_same h2]; exact hX
    have ha0 : 0 < a := pos_of2 (cmp_one (by rw [← sgR_of]; exact h3))
    have h4 := rz_low ha ha0
    have h5 := pw_inv (a := ka) (b := K2 ka kb km) (by unfold K2; omega)
    have h6 : leR (Re.of (1 / ((pw (K2 ka kb km) : Int) : Rat))) (Re.of (2 * a)) := of_le (Rat.le_trans h5 (Rat.le_trans h4 (le_two ha0)))
    refine leR_same_r ?_ h6
    rw [show Re.of (2 * a) - val3 a b M = -(val3 a b M - Re.of (2 * a)) from Re.ext fun k => by simp only [re_sub, re_neg]; grind, sgR_neg, h2]; rfl
  · refine sep_div (sep_mul hX hc u1 u2 ?_)
    rcases rat_ne hz with h | h
    · right
      rw [show -Re.of (a * a - b * b * M) = Re.of (-(a * a - b * b * M)) from Re.ext fun k => by simp only [re_neg, re_of]]
      exact of_le (rz_low hr.neg (neg_pos2 h))
    · left
      exact of_le (rz_low hr h)
theorem sep2 {ka kb km : Nat} {a b M : Rat} (ha : Rz ka a) (hb : Rz kb b) (hm : Rz km M) (h0 : 0 ≤ M) (hX : sgR (val3 a b M) ≠ 0) : leR (Re.of (1 / ((pw (K2 ka kb km) : Int) : Rat))) (val3 a b M) ∨ leR (Re.of (1 / ((pw (K2 ka kb km) : Int) : Rat))) (-(val3 a b M)) := by
  rcases sgR_cases (val3 a b M) with h | h | h
  · exact .inl (sep2p ha hb hm h0 h)
  · exact absurd h hX
  · right
    rw [← val3_neg]
    exact sep2p ha.neg hb.neg hm h0 (by rw [val3_neg, sgR_neg, h]; rfl)
def K4 (kA kB kC kM kN : Nat) : Nat := K2 (kA + kA + (kB + kB + kM) + 1 + (kC + kC + kN) + 1) (1 + (kA + kB)) kM + (kA + kB + kM + 1 + kC + kN + 1)
theorem sum_pw2 (kA kB kC kM kN : Nat) : ((pw (kA + kB + kM + 1) : Int) : Rat) + ((pw kC : Int) : Rat) * (((pw kN : Int) : Rat) + 1) ≤ ((pw (kA + kB + kM + 1 + kC + kN + 1) : Int) : Rat) := sum_pw _ kC kN
theorem sep4 {kA kB kC kM kN : Nat} {A B C M N : Rat} (hA : Rz kA A) (hB : Rz kB B) (hC : Rz kC C) (hM : Rz kM M) (hN : Rz kN N) (m0 : 0 ≤ M) (n0 : 0 ≤ N) (hX : sgR (val6 A B C 0 M N) = 1) : leR (Re.of (1 / ((pw (K4 kA kB kC kM kN) : Int) : Rat))) (val6 A B C 0 M N) := by
  have two : Rz 1 (2 : Rat) := rz_l (by decide +kernel)
  have hw1 : Rz (kA + kA + (kB + kB + kM) + 1 + (kC + kC + kN) + 1) (A * A + B * B * M - C * C * N) := ((hA.mul hA).add ((hB.mul hB).mul hM)).sub ((hC.mul hC).mul hN)
  have hw2 : Rz (1 + (kA + kB)) (2 * (A * B)) := two.mul (hA.mul hB)
  have hconj : sgR (val6 A B C 0 M N * val6 A B (-C) 0 M N - val3 (A * A + B * B * M - C * C * N) (2 * (A * B)) M) = 0 := by
    rw [show val6 A B C 0 M N * val6 A B (-C) 0 M N - val3 (A * A + B * B * M - C * C * N) (2 * (A * B)) M = Re.of (B * B) * (Re.rt M * Re.rt M - Re.of M) + Re.of (-(C * C)) * (Re.rt N * Re.rt N - Re.of N) from Re.ext fun k => by simp only [val6, val3, re_sub, re_mul, re_of, re_add]; grind]
    refine sg_null ?_ ?_
    · rw [sgR_mul, rt_sq m0, Int.mul_zero]
    · rw [sgR_mul, rt_sq n0, Int.mul_zero]
  have hP := sum_pw kA kB kM
  obtain ⟨u1, u2⟩ := val3_bd hA hB hM m0 hP
  obtain ⟨c1, c2⟩ := rz_high hC
  obtain ⟨k1, _⟩ := rz_high hN
  obtain ⟨g1, g2⟩ := mul_up (c := N + 1) (C := ((pw kN : Int) : Rat) + 1) c1 c2 (nn_add1 n0) (le_add1 k1)
  have hQ0 := Rat.mul_nonneg (nn_of_pos (pwr_pos kC)) (nn_add1 (nn_of_pos (pwr_pos kN)))
  have v1 : leR (Re.of C * Re.rt N) (Re.of (((pw kC : Int) : Rat) * (((pw kN : Int) : Rat) + 1))) := brt_up n0 g1 hQ0
  have v2 : leR (Re.of (-C) * Re.rt N) (Re.of (((pw kC : Int) : Rat) * (((pw kN : Int) : Rat) + 1))) := brt_up n0 (by rw [Rat.neg_mul]; exact neg_le2 g2) hQ0
  have hS := of_le (sum_pw2 kA kB kC kM kN)
  have up1 : leR (val6 A B (-C) 0 M N) (Re.of ((pw (kA + kB + kM + 1 + kC + kN + 1) : Int) : Rat)) := by
    refine le_tr ?_ hS
    have := sgR_add_le u1 v2
    rw [show val6 A B (-C) 0 M N = val3 A B M + Re.of (-C) * Re.rt N from Re.ext fun k => by simp only [val6, val3, re_mul, re_of, re_add]; grind,
      show Re.of (((pw (kA + kB + kM + 1) : Int) : Rat) + ((pw kC : Int) : Rat) * (((pw kN : Int) : Rat) + 1)) = Re.of ((pw (kA + kB + kM + 1) : Int) : Rat) + Re.of (((pw kC : Int) : Rat) * (((pw kN : Int) : Rat) + 1)) from Re.ext fun k => by simp only [re_of, re_add]]
    exact this
  have up2 : leR (-(val6 A B (-C) 0 M N)) (Re.of ((pw (kA + kB + kM + 1 + kC + kN + 1) : Int) : Rat)) := by
    refine le_tr ?_ hS
    have := sgR_add_le u2 v1
    rw [show -(val6 A B (-C) 0 M N) = -(val3 A B M) + Re.of C * Re.rt N from Re.ext fun k => by simp only [val6, val3, re_mul, re_of, re_add, re_neg]; grind,
      show Re.of (((pw (kA + kB + kM + 1) : Int) : Rat) + ((pw kC : Int) : Rat) * (((pw kN : Int) : Rat) + 1)) = Re.of ((pw (kA + kB + kM + 1) : Int) : Rat) + Re.of (((pw kC : Int) : Rat) * (((pw kN : Int) : Rat) + 1)) from Re.ext fun k => by simp only [re_of, re_add]]
    exact this
  by_cases hz : sgR (val3 (A * A + B * B * M - C * C * N) (2 * (A * B)) M) = 0
  · have hY : sgR (val6 A B (-C) 0 M N) = 0 := by
      have h1 : sgR (val6 A B C 0 M N * val6 A B (-C) 0 M N) = 0 := by rw [sgR_same hconj]; exact hz
      rw [sgR_mul, hX, Int.one_mul] at h1
      exact h1
    have h2 : sgR (val6 A B C 0 M N - Re.of 2 * val3 A B M) = 0 := by
      rw [show val6 A B C 0 M N - Re.of 2 * val3 A B M = -(val6 A B (-C) 0 M N) from Re.ext fun k => by simp only [val6, val3, re_sub, re_add, re_mul, re_of, re_neg]; grind, sgR_neg, hY]; rfl
    have h3 : sgR (val3 A B M) = 1 := by
      have h4 := sgR_same h2
      rw [hX, sgR_mul, sgR_of, show cmpR 2 0 = 1 from by decide, Int.one_mul] at h4
      exact h4.symm
    have h4 := sep2p hA hB hM m0 h3
    have h5 : leR (val3 A B M) (Re.of 2 * val3 A B M) := by
      unfold leR
      rw [show Re.of 2 * val3 A B M - val3 A B M = val3 A B M from Re.ext fun k => by simp only [re_sub, re_mul, re_of]; grind, h3]; decide
    have h6 : leR (Re.of (1 / ((pw (K4 kA kB kC kM kN) : Int) : Rat))) (val3 A B M) := le_tr (of_le (pw_inv (by unfold K4 K2; omega))) h4
    refine leR_same_r ?_ (le_tr h6 h5)
    rw [show Re.of 2 * val3 A B M - val6 A B C 0 M N = -(val6 A B C 0 M N - Re.of 2 * val3 A B M) from Re.ext fun k => by simp only [re_sub, re_neg]; grind, sgR_neg, h2]; rfl
  · exact sep_div (sep_mul hX hconj up1 up2 (sep2 hw1 hw2 hM m0 hz))
end Go.Proofs.YthlnndkgpgfbnaaGreat
