/- swarfref03.Of. -/
import Derived.Test.YthpalcfhhicmgaaGreatMkM
import Derived.Test.YthpalcfhhicmgaaGreatRows
import Derived.Deep.Slices
import Derived.ProofKit
import Derived.OpenShut
import Derived.Carry
namespace Go.Proofs.YthpalcfhhicmgaaGreat
open Go Go.RowKit
theorem rrOf_sq {A B C D E F : Int} (a0 : -32768 ≤ A) (a1 : A ≤ 32767) (b0 : -32768 ≤ B) (b1 : B ≤ 32767) (c0 : 0 ≤ C) (c1 : C ≤ 65535) (d0 : 0 ≤ D) (d1 : D ≤ 255) (e0 : 0 ≤ E) (e1 : E ≤ 255) (f0 : 0 ≤ F) (f1 : F ≤ 255) (hs : sqR (Rat.divInt C (F + 1)) = true) : Ok Tryz.prog 86 [.a ([.i .i16 A] ++ [.i .i16 B] ++ [.i .u16 C] ++ [.i .u8 D] ++ [.i .u8 E] ++ [.i .u8 F])] [.a (cR (Rat.divInt A (D + 1) + Rat.divInt B (E + 1) * rt (Rat.divInt C (F + 1))) ++ cR 0 ++ cR 0)] := by
  have k1 : Rz 50 (Rat.divInt A (D + 1)) := Rz.of (Sz.small (by decide) (by omega) (by omega)) (Sz.small (by decide) (by omega) (by omega)) (by omega)
  have k2 : Rz 50 (Rat.divInt B (E + 1)) := Rz.of (Sz.small (by decide) (by omega) (by omega)) (Sz.small (by decide) (by omega) (by omega)) (by omega)
  have k3 : Rz 50 (Rat.divInt C (F + 1)) := Rz.of (Sz.small (by decide) (by omega) (by omega)) (Sz.small (by decide) (by omega) (by omega)) (by omega)
  have hnn : ¬ Rat.divInt C (F + 1) < 0 := Rat.not_lt.2 (Rat.divInt_nonneg c0 (by omega))
  refine Ok.of (by kernel_rfl) Tryz.func86 rfl rfl ?_
  rw [show Tryz.f86.ntmps = 38 from rfl, show Tryz.f86.results.toList = [.cell 2 28] from rfl]
  refine dw_seq ?_
  -- region 0
  refine dw_region (by kernel_rfl) ?_
  refine dl_new (sem_box_a rfl rfl) rfl ?_
  refine dl_new (sem_alloc zc28 rfl) rfl ?_
  refine dl_end ?_
  refine dw_seq ?_
  -- region 1
  refine dw_region (by kernel_rfl) ?_
  refine dl_r (sem_field fd105_0 rfl rfl) ?_
  refine dl_r (sem_load1 ty50 rfl rfl rfl rfl) ?_
  refine dl_r (sem_conv' (r := A) und50 und2 rfl (nw64 (by omega) (by omega)) rfl) ?_
  refine dl_r (sem_field fd105_3 rfl rfl) ?_
  refine dl_r (sem_load1 ty5 rfl rfl rfl rfl) ?_
  refine dl_r (sem_conv' (r := D) und5 und2 rfl (nw64 (by omega) (by omega)) rfl) ?_
  refine dl_r (sem_ari (r := D + 1) rfl rfl (ari_i64_add (by omega) (by omega)) rfl) ?_
  refine dl_r (sem_call rfl rfl (sFrac_ok (by omega) (by omega) (by omega) (by omega) (by omega)) rfl) ?_
  refine dl_new (sem_alloc zc26 rfl) rfl ?_
  refine dl_st (sem_store_a ty26 rfl rfl rfl rfl rfl rfl) ?_
  refine dl_end ?_
  refine dw_seq ?_
  -- region 2
  refine dw_region (by kernel_rfl) ?_
  refine dl_r (sem_field fd105_1 rfl rfl) ?_
  refine dl_r (sem_load1 ty50 rfl rfl rfl rfl) ?_
  refine dl_r (sem_conv' (r := B) und50 und2 rfl (nw64 (by omega) (by omega)) rfl) ?_
  refine dl_r (sem_field fd105_4 rfl rfl) ?_
  refine dl_r (sem_load1 ty5 rfl rfl rfl rfl) ?_
  refine dl_r (sem_conv' (r := E) und5 und2 rfl (nw64 (by omega) (by omega)) rfl) ?_
  refine dl_r (sem_ari (r := E + 1) rfl rfl (ari_i64_add (by omega) (by omega)) rfl) ?_
  refine dl_r (sem_call rfl rfl (sFrac_ok (by omega) (by omega) (by omega) (by omega) (by omega)) rfl) ?_
  refine dl_new (sem_alloc zc26 rfl) rfl ?_
  refine dl_st (sem_store_a ty26 rfl rfl rfl rfl rfl rfl) ?_
  refine dl_end ?_
  refine dw_seq ?_
  -- region 3
  refine dw_draw 17 [5] follows_mixed (by kernel_rfl) rfl rfl ?_
  refine dq_r (sem_load (us := cR (Rat.divInt A (D + 1))) ty26 rfl rfl rfl rfl rfl) ?_
  refine dq_r (sem_load (us := cR (Rat.divInt B (E + 1))) ty26 rfl rfl rfl rfl rfl) ?_
  refine dq_r (sem_field fd105_2 rfl rfl) ?_
  refine dq_r (sem_load1 ty51 rfl rfl rfl rfl) ?_
  refine dq_r (sem_conv' (r := C) und51 und2 rfl (nw64 (by omega) (by omega)) rfl) ?_
  refine dq_r (sem_field fd105_5 rfl rfl) ?_
  refine dq_r (sem_load1 ty5 rfl rfl rfl rfl) ?_
  refine dq_r (sem_conv' (r := F) und5 und2 rfl (nw64 (by omega) (by omega)) rfl) ?_
  refine dq_r (sem_ari (r := F + 1) rfl rfl (ari_i64_add (by omega) (by omega)) rfl) ?_
  refine dq_r (sem_call rfl rfl (sFrac_ok (by omega) (by omega) (by omega) (by omega) (by omega)) rfl) ?_
  refine dq_r (sem_call rfl rfl (rrMake_sq k1 k2 k3 hnn hs) rfl) ?_
  refine dq_r (sem_move rfl rfl) ?_
  refine dq_r (sem_extract rfl rfl rfl) ?_
  refine dq_r (sem_extract rfl rfl rfl) ?_
  refine dq_new (sem_alloc zc28 rfl) rfl ?_
  refine dq_sn (sem_store_a ty28 rfl rfl rfl rfl rfl rfl) rfl rfl rfl ?_
  refine dq_r (sem_assign rfl rfl) ?_
  refine dq_end ?_
  refine dl_start2 ?_
  refine dl_end ?_
  refine dw_seq ?_
  -- region 4
  refine dw_region (by kernel_rfl) ?_
  refine dl_r (sem_load (us := (cR (Rat.divInt A (D + 1) + Rat.divInt B (E + 1) * rt (Rat.divInt C (F + 1))) ++ cR 0 ++ cR 0)) ty28 rfl rfl rfl rfl rfl) ?_
  refine dl_st (sem_store_a ty28 rfl rfl rfl rfl rfl rfl) ?_
  refine dl_end ?_
  refine dw_ret ?_
  exact ⟨.inr rfl, (resL_cell (us := (cR (Rat.divInt A (D + 1) + Rat.divInt B (E + 1) * rt (Rat.divInt C (F + 1))) ++ cR 0 ++ cR 0)) ty28 rfl rfl rfl rfl resL_nil)⟩
theorem rrOf_ns {A B C D E F : Int} (a0 : -32768 ≤ A) (a1 : A ≤ 32767) (b0 : -32768 ≤ B) (b1 : B ≤ 32767) (c0 : 0 ≤ C) (c1 : C ≤ 65535) (d0 : 0 ≤ D) (d1 : D ≤ 255) (e0 : 0 ≤ E) (e1 : E ≤ 255) (f0 : 0 ≤ F) (f1 : F ≤ 255) (hs : sqR (Rat.divInt C (F + 1)) = false) : Ok Tryz.prog 86 [.a ([.i .i16 A] ++ [.i .i16 B] ++ [.i .u16 C] ++ [.i .u8 D] ++ [.i .u8 E] ++ [.i .u8 F])] [.a (cR (Rat.divInt A (D + 1)) ++ cR (rB (Rat.divInt B (E + 1)) (Rat.divInt C (F + 1))) ++ cR (rC (Rat.divInt B (E + 1)) (Rat.divInt C (F + 1))))] := by
  have k1 : Rz 50 (Rat.divInt A (D + 1)) := Rz.of (Sz.small (by decide) (by omega) (by omega)) (Sz.small (by decide) (by omega) (by omega)) (by omega)
  have k2 : Rz 50 (Rat.divInt B (E + 1)) := Rz.of (Sz.small (by decide) (by omega) (by omega)) (Sz.small (by decide) (by omega) (by omega)) (by omega)
  have k3 : Rz 50 (Rat.divInt C (F + 1)) := Rz.of (Sz.small (by decide) (by omega) (by omega)) (Sz.small (by decide) (by omega) (by omega)) (by omega)
  have hnn : ¬ Rat.divInt C (F + 1) < 0 := Rat.not_lt.2 (Rat.divInt_nonneg c0 (by omega))
  refine Ok.of (by kernel_rfl) Tryz.func86 rfl rfl ?_
  rw [show Tryz.f86.ntmps = 38 from rfl, show Tryz.f86.results.toList = [.cell 2 28] from rfl]
  refine dw_seq ?_
  -- region 0
  refine dw_region (by kernel_rfl) ?_
  refine dl_new (sem_box_a rfl rfl) rfl ?_
  refine dl_new (sem_alloc zc28 rfl) rfl ?_
  refine dl_end ?_
  refine dw_seq ?_
  -- region 1
  refine dw_region (by kernel_rfl) ?_
  refine dl_r (sem_field fd105_0 rfl rfl) ?_
  refine dl_r (sem_load1 ty50 rfl rfl rfl rfl) ?_
  refine dl_r (sem_conv' (r := A) und50 und2 rfl (nw64 (by omega) (by omega)) rfl) ?_
  refine dl_r (sem_field fd105_3 rfl rfl) ?_
  refine dl_r (sem_load1 ty5 rfl rfl rfl rfl) ?_
  refine dl_r (sem_conv' (r := D) und5 und2 rfl (nw64 (by omega) (by omega)) rfl) ?_
  refine dl_r (sem_ari (r := D + 1) rfl rfl (ari_i64_add (by omega) (by omega)) rfl) ?_
  refine dl_r (sem_call rfl rfl (sFrac_ok (by omega) (by omega) (by omega) (by omega) (by omega)) rfl) ?_
  refine dl_new (sem_alloc zc26 rfl) rfl ?_
  refine dl_st (sem_store_a ty26 rfl rfl rfl rfl rfl rfl) ?_
  refine dl_end ?_
  refine dw_seq ?_
  -- region 2
  refine dw_region (by kernel_rfl) ?_
  refine dl_r (sem_field fd105_1 rfl rfl) ?_
  refine dl_r (sem_load1 ty50 rfl rfl rfl rfl) ?_
  refine dl_r (sem_conv' (r := B) und50 und2 rfl (nw64 (by omega) (by omega)) rfl) ?_
  refine dl_r (sem_field fd105_4 rfl rfl) ?_
  refine dl_r (sem_load1 ty5 rfl rfl rfl rfl) ?_
  refine dl_r (sem_conv' (r := E) und5 und2 rfl (nw64 (by omega) (by omega)) rfl) ?_
  refine dl_r (sem_ari (r := E + 1) rfl rfl (ari_i64_add (by omega) (by omega)) rfl) ?_
  refine dl_r (sem_call rfl rfl (sFrac_ok (by omega) (by omega) (by omega) (by omega) (by omega)) rfl) ?_
  refine dl_new (sem_alloc zc26 rfl) rfl ?_
  refine dl_st (sem_store_a ty26 rfl rfl rfl rfl rfl rfl) ?_
  refine dl_end ?_
  refine dw_seq ?_
  -- region 3
  refine dw_draw 17 [5] follows_mixed (by kernel_rfl) rfl rfl ?_
  refine dq_r (sem_load (us := cR (Rat.divInt A (D + 1))) ty26 rfl rfl rfl rfl rfl) ?_
  refine dq_r (sem_load (us := cR (Rat.divInt B (E + 1))) ty26 rfl rfl rfl rfl rfl) ?_
  refine dq_r (sem_field fd105_2 rfl rfl) ?_
  refine dq_r (sem_load1 ty51 rfl rfl rfl rfl) ?_
  refine dq_r (sem_conv' (r := C) und51 und2 rfl (nw64 (by omega) (by omega)) rfl) ?_
  refine dq_r (sem_field fd105_5 rfl rfl) ?_
  refine dq_r (sem_load1 ty5 rfl rfl rfl rfl) ?_
  refine dq_r (sem_conv' (r := F) und5 und2 rfl (nw64 (by omega) (by omega)) rfl) ?_
  refine dq_r (sem_ari (r := F + 1) rfl rfl (ari_i64_add (by omega) (by omega)) rfl) ?_
  refine dq_r (sem_call rfl rfl (sFrac_ok (by omega) (by omega) (by omega) (by omega) (by omega)) rfl) ?_
  refine dq_r (sem_call rfl rfl (rrMake_ns k1 k2 k3 hnn hs) rfl) ?_
  refine dq_r (sem_move rfl rfl) ?_
  refine dq_r (sem_extract rfl rfl rfl) ?_
  refine dq_r (sem_extract rfl rfl rfl) ?_
  refine dq_new (sem_alloc zc28 rfl) rfl ?_
  refine dq_sn (sem_store_a ty28 rfl rfl rfl rfl rfl rfl) rfl rfl rfl ?_
  refine dq_r (sem_assign rfl rfl) ?_
  refine dq_end ?_
  refine dl_start2 ?_
  refine dl_end ?_
  refine dw_seq ?_
  -- region 4
  refine dw_region (by kernel_rfl) ?_
  refine dl_r (sem_load (us := (cR (Rat.divInt A (D + 1)) ++ cR (rB (Rat.divInt B (E + 1)) (Rat.divInt C (F + 1))) ++ cR (rC (Rat.divInt B (E + 1)) (Rat.divInt C (F + 1))))) ty28 rfl rfl rfl rfl rfl) ?_
  refine dl_st (sem_store_a ty28 rfl rfl rfl rfl rfl rfl) ?_
  refine dl_end ?_
  refine dw_ret ?_
  exact ⟨.inr rfl, (resL_cell (us := (cR (Rat.divInt A (D + 1)) ++ cR (rB (Rat.divInt B (E + 1)) (Rat.divInt C (F + 1))) ++ cR (rC (Rat.divInt B (E + 1)) (Rat.divInt C (F + 1))))) ty28 rfl rfl rfl rfl resL_nil)⟩
end Go.Proofs.YthpalcfhhicmgaaGreat
/- Points: Make. -/
namespace Go.Proofs.YthpalcfhhicmgaaGreat
open Go Go.RowKit
theorem ptMake_bad {a1 b1 c1 a2 b2 c2 : Rat} (hc1 : Rz 300 c1) (hc2 : Rz 300 c2) (hbad : bad b1 c1 b2 c2) : Ok Tryz.prog 13 [.a (cR a1 ++ cR b1 ++ cR c1), .a (cR a2 ++ cR b2 ++ cR c2)] [.a (zP), .c (.i .i64 1)] := by
  refine Ok.of (by kernel_rfl) Tryz.func13 rfl rfl ?_
  rw [show Tryz.f13.ntmps = 39 from rfl, show Tryz.f13.results.toList = [.cell 4 32, .tmp 5] from rfl]
  refine dw_seq ?_
  -- region 0
  refine dw_region (by kernel_rfl) ?_
  refine dl_new (sem_box_a rfl rfl) rfl ?_
  refine dl_new (sem_box_a rfl rfl) rfl ?_
  refine dl_new (sem_alloc zc32 rfl) rfl ?_
  refine dl_r (sem_assign rfl rfl) ?_
  refine dl_end ?_
  refine dw_seq ?_
  -- region 1
  refine dw_region (by kernel_rfl) ?_
  refine dl_r (sem_field fd28_2 rfl rfl) ?_
  refine dl_r (sem_load (us := cR c1) ty26 rfl rfl rfl rfl rfl) ?_
  refine dl_new (sem_alloc zc26 rfl) rfl ?_
  refine dl_st (sem_store_a ty26 rfl rfl rfl rfl rfl rfl) ?_
  refine dl_end ?_
  refine dw_seq ?_
  refine dw_seq ?_
  -- region 2
  refine dw_region (by kernel_rfl) ?_
  refine dl_r (sem_field fd28_1 rfl rfl) ?_
  refine dl_r (sem_load (us := cR b1) ty26 rfl rfl rfl rfl rfl) ?_
  refine dl_r (sem_call rfl rfl (pSign_ok) rfl) ?_
  refine dl_r (sem_cmp rfl rfl rfl rfl) ?_
  refine dl_end ?_
  refine dw_cond rfl (fun hc1 => ?_) (fun hc1 => ?_)
  · exact absurd (r_eq hc1) hbad.1
  · refine dw_seq ?_
    -- region 4
    refine dw_region (by kernel_rfl) ?_
    refine dl_r (sem_field fd28_1 rfl rfl) ?_
    refine dl_r (sem_load (us := cR b2) ty26 rfl rfl rfl rfl rfl) ?_
    refine dl_r (sem_call rfl rfl (pSign_ok) rfl) ?_
    refine dl_r (sem_cmp rfl rfl rfl rfl) ?_
    refine dl_rb (sem_move rfl rfl) (fun c2 hb2 => ?_)
    cases c2
    · exact absurd (r_eq' hb2) hbad.2.1
    · refine dl_r (sem_field fd28_2 rfl rfl) ?_
      refine dl_r (sem_load (us := cR c1) ty26 rfl rfl rfl rfl rfl) ?_
      refine dl_r (sem_field fd28_2 rfl rfl) ?_
      refine dl_r (sem_load (us := cR c2) ty26 rfl rfl rfl rfl rfl) ?_
      refine dl_r (sem_call rfl rfl (pCmp_ok (by first | assumption | exact Rz.mono hc1 (by decide)) (by first | assumption | exact Rz.mono hc2 (by decide))) rfl) ?_
      refine dl_r (sem_cmp rfl rfl rfl rfl) ?_
      refine dl_r (sem_pick rfl rfl rfl rfl) ?_
      refine dl_end ?_
      refine dw_cond rfl (fun hc3 => ?_) (fun hc3 => ?_)
      · refine dw_seq ?_
        -- region 5
        refine dw_region (by kernel_rfl) ?_
        refine dl_r (sem_build (us := ((([.b false] ++ [.s 0 []]) ++ ([.b false] ++ [.s 0 []])) ++ (([.b false] ++ [.s 0 []]) ++ ([.b false] ++ [.s 0 []])) ++ (([.b false] ++ [.s 0 []]) ++ ([.b false] ++ [.s 0 []])) ++ (([.b false] ++ [.s 0 []]) ++ ([.b false] ++ [.s 0 []])) ++ (([.b false] ++ [.s 0 []]) ++ ([.b false] ++ [.s 0 []])))) fs32 zc32 rfl rfl rfl) ?_
        refine dl_st (sem_store_a ty32 rfl rfl rfl rfl rfl rfl) ?_
        refine dl_r (sem_assign rfl rfl) ?_
        refine dl_end ?_
        refine dw_ret ?_
        exact ⟨.inr rfl, resL_cell (us := zP) ty32 rfl rfl rfl rfl (resL_tmp rfl resL_nil)⟩
      · exact absurd (r_eq' hc3) hbad.2.2
theorem ptMake_ok {a1 b1 c1 a2 b2 c2 : Rat} (hc1 : Rz 300 c1) (hc2 : Rz 300 c2) (hbad : ¬ bad b1 c1 b2 c2) : Ok Tryz.prog 13 [.a (cR a1 ++ cR b1 ++ cR c1), .a (cR a2 ++ cR b2 ++ cR c2)] [.a (cR a1 ++ cR b1 ++ cR a2 ++ cR b2 ++ cR (zcp b1 b2 (cc b1 c1 c2))), .c (.i .i64 0)] := by
  refine Ok.of (by kernel_rfl) Tryz.func13 rfl rfl ?_
  rw [show Tryz.f13.ntmps = 39 from rfl, show Tryz.f13.results.toList = [.cell 4 32, .tmp 5] from rfl]
  refine dw_seq ?_
  -- region 0
  refine dw_region (by kernel_rfl) ?_
  refine dl_new (sem_box_a rfl rfl) rfl ?_
  refine dl_new (sem_box_a rfl rfl) rfl ?_
  refine dl_new (sem_alloc zc32 rfl) rfl ?_
  refine dl_r (sem_assign rfl rfl) ?_
  refine dl_end ?_
  refine dw_seq ?_
  -- region 1
  refine dw_region (by kernel_rfl) ?_
  refine dl_r (sem_field fd28_2 rfl rfl) ?_
  refine dl_r (sem_load (us := cR c1) ty26 rfl rfl rfl rfl rfl) ?_
  refine dl_new (sem_alloc zc26 rfl) rfl ?_
  refine dl_st (sem_store_a ty26 rfl rfl rfl rfl rfl rfl) ?_
  refine dl_end ?_
  refine dw_seq ?_
  refine dw_seq ?_
  -- region 2
  refine dw_region (by kernel_rfl) ?_
  refine dl_r (sem_field fd28_1 rfl rfl) ?_
  refine dl_r (sem_load (us := cR b1) ty26 rfl rfl rfl rfl rfl) ?_
  refine dl_r (sem_call rfl rfl (pSign_ok) rfl) ?_
  refine dl_r (sem_cmp rfl rfl rfl rfl) ?_
  refine dl_end ?_
  refine dw_cond rfl (fun hc1 => ?_) (fun hc1 => ?_)
  · -- region 3
    refine dw_region (by kernel_rfl) ?_
    refine dl_r (sem_field fd28_2 rfl rfl) ?_
    refine dl_r (sem_load (us := cR c2) ty26 rfl rfl rfl rfl rfl) ?_
    refine dl_st (sem_store_a ty26 rfl rfl rfl rfl rfl rfl) ?_
    refine dl_end ?_
    refine dw_seq ?_
    -- region 6
    refine dw_region (by kernel_rfl) ?_
    refine dl_r (sem_field fd28_0 rfl rfl) ?_
    refine dl_r (sem_load (us := cR a1) ty26 rfl rfl rfl rfl rfl) ?_
    refine dl_r (sem_field fd28_1 rfl rfl) ?_
    refine dl_r (sem_load (us := cR b1) ty26 rfl rfl rfl rfl rfl) ?_
    refine dl_r (sem_field fd28_0 rfl rfl) ?_
    refine dl_r (sem_load (us := cR a2) ty26 rfl rfl rfl rfl rfl) ?_
    refine dl_r (sem_field fd28_1 rfl rfl) ?_
    refine dl_r (sem_load (us := cR b2) ty26 rfl rfl rfl rfl rfl) ?_
    refine dl_r (sem_load (us := cR c2) ty26 rfl rfl rfl rfl rfl) ?_
    refine dl_r (sem_build (us := (cR a1 ++ cR b1 ++ cR a2 ++ cR b2 ++ cR c2)) fs32 zc32 rfl rfl rfl) ?_
    refine dl_r (sem_call rfl rfl (ptReduced_ok) rfl) ?_
    refine dl_st (sem_store_a ty32 rfl rfl rfl rfl rfl rfl) ?_
    refine dl_r (sem_assign rfl rfl) ?_
    refine dl_end ?_
    refine dw_ret ?_
    rw [cc_t (r_eq hc1)]
    exact ⟨.inr rfl, (resL_cell (us := (cR a1 ++ cR b1 ++ cR a2 ++ cR b2 ++ cR (zcp b1 b2 c2))) ty32 rfl rfl rfl rfl (resL_tmp rfl resL_nil))⟩
  · refine dw_seq ?_
    -- region 4
    refine dw_region (by kernel_rfl) ?_
    refine dl_r (sem_field fd28_1 rfl rfl) ?_
    refine dl_r (sem_load (us := cR b2) ty26 rfl rfl rfl rfl rfl) ?_
    refine dl_r (sem_call rfl rfl (pSign_ok) rfl) ?_
    refine dl_r (sem_cmp rfl rfl rfl rfl) ?_
    refine dl_rb (sem_move rfl rfl) (fun c2 hb2 => ?_)
    cases c2
    · refine dl_skip (sem_skip rfl) ?_
      refine dl_skip (sem_skip rfl) ?_
      refine dl_skip (sem_skip rfl) ?_
      refine dl_skip (sem_skip rfl) ?_
      refine dl_skip (sem_skip rfl) ?_
      refine dl_skip (sem_skip rfl) ?_
      refine dl_r (sem_pick rfl rfl rfl rfl) ?_
      refine dl_end ?_
      refine dw_false rfl ?_
      refine dw_skip ?_
      refine dw_seq ?_
      -- region 6
      refine dw_region (by kernel_rfl) ?_
      refine dl_r (sem_field fd28_0 rfl rfl) ?_
      refine dl_r (sem_load (us := cR a1) ty26 rfl rfl rfl rfl rfl) ?_
      refine dl_r (sem_field fd28_1 rfl rfl) ?_
      refine dl_r (sem_load (us := cR b1) ty26 rfl rfl rfl rfl rfl) ?_
      refine dl_r (sem_field fd28_0 rfl rfl) ?_
      refine dl_r (sem_load (us := cR a2) ty26 rfl rfl rfl rfl rfl) ?_
      refine dl_r (sem_field fd28_1 rfl rfl) ?_
      refine dl_r (sem_load (us := cR b2) ty26 rfl rfl rfl rfl rfl) ?_
      refine dl_r (sem_load (us := cR c1) ty26 rfl rfl rfl rfl rfl) ?_
      refine dl_r (sem_build (us := (cR a1 ++ cR b1 ++ cR a2 ++ cR b2 ++ cR c1)) fs32 zc32 rfl rfl rfl) ?_
      refine dl_r (sem_call rfl rfl (ptReduced_ok) rfl) ?_
      refine dl_st (sem_store_a ty32 rfl rfl rfl rfl rfl rfl) ?_
      refine dl_r (sem_assign rfl rfl) ?_
      refine dl_end ?_
      refine dw_ret ?_
      rw [cc_f (r_ne hc1)]
      exact ⟨.inr rfl, (resL_cell (us := (cR a1 ++ cR b1 ++ cR a2 ++ cR b2 ++ cR (zcp b1 b2 c1))) ty32 rfl rfl rfl rfl (resL_tmp rfl resL_nil))⟩
    · refine dl_r (sem_field fd28_2 rfl rfl) ?_
      refine dl_r (sem_load (us := cR c1) ty26 rfl rfl rfl rfl rfl) ?_
      refine dl_r (sem_field fd28_2 rfl rfl) ?_
      refine dl_r (sem_load (us := cR c2) ty26 rfl rfl rfl rfl rfl) ?_
      refine dl_r (sem_call rfl rfl (pCmp_ok (by first | assumption | exact Rz.mono hc1 (by decide)) (by first | assumption | exact Rz.mono hc2 (by decide))) rfl) ?_
      refine dl_r (sem_cmp rfl rfl rfl rfl) ?_
      refine dl_r (sem_pick rfl rfl rfl rfl) ?_
      refine dl_end ?_
      refine dw_cond rfl (fun hc3 => ?_) (fun hc3 => ?_)
      · exact absurd ⟨r_ne hc1, r_ne' hb2, r_ne' hc3⟩ hbad
      · refine dw_skip ?_
        refine dw_seq ?_
        -- region 6
        refine dw_region (by kernel_rfl) ?_
        refine dl_r (sem_field fd28_0 rfl rfl) ?_
        refine dl_r (sem_load (us := cR a1) ty26 rfl rfl rfl rfl rfl) ?_
        refine dl_r (sem_field fd28_1 rfl rfl) ?_
        refine dl_r (sem_load (us := cR b1) ty26 rfl rfl rfl rfl rfl) ?_
        refine dl_r (sem_field fd28_0 rfl rfl) ?_
        refine dl_r (sem_load (us := cR a2) ty26 rfl rfl rfl rfl rfl) ?_
        refine dl_r (sem_field fd28_1 rfl rfl) ?_
        refine dl_r (sem_load (us := cR b2) ty26 rfl rfl rfl rfl rfl) ?_
        refine dl_r (sem_load (us := cR c1) ty26 rfl rfl rfl rfl rfl) ?_
        refine dl_r (sem_build (us := (cR a1 ++ cR b1 ++ cR a2 ++ cR b2 ++ cR c1)) fs32 zc32 rfl rfl rfl) ?_
        refine dl_r (sem_call rfl rfl (ptReduced_ok) rfl) ?_
        refine dl_st (sem_store_a ty32 rfl rfl rfl rfl rfl rfl) ?_
        refine dl_r (sem_assign rfl rfl) ?_
        refine dl_end ?_
        refine dw_ret ?_
        rw [cc_f (r_ne hc1)]
        exact ⟨.inr rfl, (resL_cell (us := (cR a1 ++ cR b1 ++ cR a2 ++ cR b2 ++ cR (zcp b1 b2 c1))) ty32 rfl rfl rfl rfl (resL_tmp rfl resL_nil))⟩
theorem rpMake_bad {a1 b1 c1 a2 b2 c2 : Rat} (hc1 : Rz 300 c1) (hc2 : Rz 300 c2) (hbad : bad b1 c1 b2 c2) : Ok Tryz.prog 14 [.a (cR a1 ++ cR b1 ++ cR c1), .a (cR a2 ++ cR b2 ++ cR c2)] [.a (zP), .c (.i .i64 1)] := by
  refine Ok.of (by kernel_rfl) Tryz.func14 rfl rfl ?_
  rw [show Tryz.f14.ntmps = 44 from rfl, show Tryz.f14.results.toList = [.cell 4 32, .tmp 5] from rfl]
  refine dw_seq ?_
  -- region 0
  refine dw_region (by kernel_rfl) ?_
  refine dl_new (sem_box_a rfl rfl) rfl ?_
  refine dl_new (sem_box_a rfl rfl) rfl ?_
  refine dl_new (sem_alloc zc32 rfl) rfl ?_
  refine dl_r (sem_assign rfl rfl) ?_
  refine dl_end ?_
  refine dw_seq ?_
  refine dw_seq ?_
  -- region 1
  refine dw_region (by kernel_rfl) ?_
  refine dl_r (sem_field fd28_1 rfl rfl) ?_
  refine dl_r (sem_load (us := cR b1) ty26 rfl rfl rfl rfl rfl) ?_
  refine dl_r (sem_call rfl rfl (sSign_ok) rfl) ?_
  refine dl_r (sem_cmp rfl rfl rfl rfl) ?_
  refine dl_rb (sem_move rfl rfl) (fun c1 hb1 => ?_)
  cases c1
  · exact absurd (r_eq' hb1) hbad.1
  · refine dl_r (sem_field fd28_1 rfl rfl) ?_
    refine dl_r (sem_load (us := cR b2) ty26 rfl rfl rfl rfl rfl) ?_
    refine dl_r (sem_call rfl rfl (sSign_ok) rfl) ?_
    refine dl_r (sem_cmp rfl rfl rfl rfl) ?_
    refine dl_r (sem_pick rfl rfl rfl rfl) ?_
    refine dl_rb (sem_move rfl rfl) (fun c2 hb2 => ?_)
    cases c2
    · exact absurd (r_eq' hb2) hbad.2.1
    · refine dl_r (sem_field fd28_2 rfl rfl) ?_
      refine dl_r (sem_load (us := cR c1) ty26 rfl rfl rfl rfl rfl) ?_
      refine dl_r (sem_field fd28_2 rfl rfl) ?_
      refine dl_r (sem_load (us := cR c2) ty26 rfl rfl rfl rfl rfl) ?_
      refine dl_r (sem_call rfl rfl (sCmp_ok (by first | assumption | exact Rz.mono hc1 (by decide)) (by first | assumption | exact Rz.mono hc2 (by decide))) rfl) ?_
      refine dl_r (sem_cmp rfl rfl rfl rfl) ?_
      refine dl_r (sem_pick rfl rfl rfl rfl) ?_
      refine dl_end ?_
      refine dw_cond rfl (fun hc3 => ?_) (fun hc3 => ?_)
      · refine dw_seq ?_
        -- region 2
        refine dw_region (by kernel_rfl) ?_
        refine dl_r (sem_build (us := ((([.b false] ++ [.s 0 []]) ++ ([.b false] ++ [.s 0 []])) ++ (([.b false] ++ [.s 0 []]) ++ ([.b false] ++ [.s 0 []])) ++ (([.b false] ++ [.s 0 []]) ++ ([.b false] ++ [.s 0 []])) ++ (([.b false] ++ [.s 0 []]) ++ ([.b false] ++ [.s 0 []])) ++ (([.b false] ++ [.s 0 []]) ++ ([.b false] ++ [.s 0 []])))) fs32 zc32 rfl rfl rfl) ?_
        refine dl_st (sem_store_a ty32 rfl rfl rfl rfl rfl rfl) ?_
        refine dl_r (sem_assign rfl rfl) ?_
        refine dl_end ?_
        refine dw_ret ?_
        exact ⟨.inr rfl, resL_cell (us := zP) ty32 rfl rfl rfl rfl (resL_tmp rfl resL_nil)⟩
      · exact absurd (r_eq' hc3) hbad.2.2
theorem rpMake_ok {a1 b1 c1 a2 b2 c2 : Rat} (hc1 : Rz 300 c1) (hc2 : Rz 300 c2) (hbad : ¬ bad b1 c1 b2 c2) : Ok Tryz.prog 14 [.a (cR a1 ++ cR b1 ++ cR c1), .a (cR a2 ++ cR b2 ++ cR c2)] [.a (cR a1 ++ cR b1 ++ cR a2 ++ cR b2 ++ cR (zcp b1 b2 (cc b1 c1 c2))), .c (.i .i64 0)] := by
  refine Ok.of (by kernel_rfl) Tryz.func14 rfl rfl ?_
  rw [show Tryz.f14.ntmps = 44 from rfl, show Tryz.f14.results.toList = [.cell 4 32, .tmp 5] from rfl]
  refine dw_seq ?_
  -- region 0
  refine dw_region (by kernel_rfl) ?_
  refine dl_new (sem_box_a rfl rfl) rfl ?_
  refine dl_new (sem_box_a rfl rfl) rfl ?_
  refine dl_new (sem_alloc zc32 rfl) rfl ?_
  refine dl_r (sem_assign rfl rfl) ?_
  refine dl_end ?_
  refine dw_seq ?_
  refine dw_seq ?_
  -- region 1
  refine dw_region (by kernel_rfl) ?_
  refine dl_r (sem_field fd28_1 rfl rfl) ?_
  refine dl_r (sem_load (us := cR b1) ty26 rfl rfl rfl rfl rfl) ?_
  refine dl_r (sem_call rfl rfl (sSign_ok) rfl) ?_
  refine dl_r (sem_cmp rfl rfl rfl rfl) ?_
  refine dl_rb (sem_move rfl rfl) (fun c1 hb1 => ?_)
  cases c1
  · refine dl_skip (sem_skip rfl) ?_
    refine dl_skip (sem_skip rfl) ?_
    refine dl_skip (sem_skip rfl) ?_
    refine dl_skip (sem_skip rfl) ?_
    refine dl_r (sem_pick rfl rfl rfl rfl) ?_
    refine dl_r (sem_move rfl rfl) ?_
    refine dl_skip (sem_skip rfl) ?_
    refine dl_skip (sem_skip rfl) ?_
    refine dl_skip (sem_skip rfl) ?_
    refine dl_skip (sem_skip rfl) ?_
    refine dl_skip (sem_skip rfl) ?_
    refine dl_skip (sem_skip rfl) ?_
    refine dl_r (sem_pick rfl rfl rfl rfl) ?_
    refine dl_end ?_
    refine dw_false rfl ?_
    refine dw_skip ?_
    refine dw_seq ?_
    -- region 3
    refine dw_region (by kernel_rfl) ?_
    refine dl_r (sem_field fd28_2 rfl rfl) ?_
    refine dl_r (sem_load (us := cR c1) ty26 rfl rfl rfl rfl rfl) ?_
    refine dl_new (sem_alloc zc26 rfl) rfl ?_
    refine dl_st (sem_store_a ty26 rfl rfl rfl rfl rfl rfl) ?_
    refine dl_end ?_
    refine dw_seq ?_
    refine dw_seq ?_
    -- region 4
    refine dw_region (by kernel_rfl) ?_
    refine dl_r (sem_field fd28_1 rfl rfl) ?_
    refine dl_r (sem_load (us := cR b1) ty26 rfl rfl rfl rfl rfl) ?_
    refine dl_r (sem_call rfl rfl (sSign_ok) rfl) ?_
    refine dl_r (sem_cmp rfl rfl rfl rfl) ?_
    refine dl_end ?_
    refine dw_cond rfl (fun hc2 => ?_) (fun hc2 => ?_)
    · -- region 5
      refine dw_region (by kernel_rfl) ?_
      refine dl_r (sem_field fd28_2 rfl rfl) ?_
      refine dl_r (sem_load (us := cR c2) ty26 rfl rfl rfl rfl rfl) ?_
      refine dl_st (sem_store_a ty26 rfl rfl rfl rfl rfl rfl) ?_
      refine dl_end ?_
      refine dw_seq ?_
      -- region 6
      refine dw_region (by kernel_rfl) ?_
      refine dl_r (sem_field fd28_0 rfl rfl) ?_
      refine dl_r (sem_load (us := cR a1) ty26 rfl rfl rfl rfl rfl) ?_
      refine dl_r (sem_field fd28_1 rfl rfl) ?_
      refine dl_r (sem_load (us := cR b1) ty26 rfl rfl rfl rfl rfl) ?_
      refine dl_r (sem_field fd28_0 rfl rfl) ?_
      refine dl_r (sem_load (us := cR a2) ty26 rfl rfl rfl rfl rfl) ?_
      refine dl_r (sem_field fd28_1 rfl rfl) ?_
      refine dl_r (sem_load (us := cR b2) ty26 rfl rfl rfl rfl rfl) ?_
      refine dl_r (sem_load (us := cR c2) ty26 rfl rfl rfl rfl rfl) ?_
      refine dl_r (sem_call rfl rfl (rpReduced_ok) rfl) ?_
      refine dl_st (sem_store_a ty32 rfl rfl rfl rfl rfl rfl) ?_
      refine dl_r (sem_assign rfl rfl) ?_
      refine dl_end ?_
      refine dw_ret ?_
      rw [cc_t (r_eq hc2)]
      exact ⟨.inr rfl, (resL_cell (us := (cR a1 ++ cR b1 ++ cR a2 ++ cR b2 ++ cR (zcp b1 b2 c2))) ty32 rfl rfl rfl rfl (resL_tmp rfl resL_nil))⟩
    · refine dw_skip ?_
      refine dw_seq ?_
      -- region 6
      refine dw_region (by kernel_rfl) ?_
      refine dl_r (sem_field fd28_0 rfl rfl) ?_
      refine dl_r (sem_load (us := cR a1) ty26 rfl rfl rfl rfl rfl) ?_
      refine dl_r (sem_field fd28_1 rfl rfl) ?_
      refine dl_r (sem_load (us := cR b1) ty26 rfl rfl rfl rfl rfl) ?_
      refine dl_r (sem_field fd28_0 rfl rfl) ?_
      refine dl_r (sem_load (us := cR a2) ty26 rfl rfl rfl rfl rfl) ?_
      refine dl_r (sem_field fd28_1 rfl rfl) ?_
      refine dl_r (sem_load (us := cR b2) ty26 rfl rfl rfl rfl rfl) ?_
      refine dl_r (sem_load (us := cR c1) ty26 rfl rfl rfl rfl rfl) ?_
      refine dl_r (sem_call rfl rfl (rpReduced_ok) rfl) ?_
      refine dl_st (sem_store_a ty32 rfl rfl rfl rfl rfl rfl) ?_
      refine dl_r (sem_assign rfl rfl) ?_
      refine dl_end ?_
      refine dw_ret ?_
      rw [cc_f (r_ne hc2)]
      exact ⟨.inr rfl, (resL_cell (us := (cR a1 ++ cR b1 ++ cR a2 ++ cR b2 ++ cR (zcp b1 b2 c1))) ty32 rfl rfl rfl rfl (resL_tmp rfl resL_nil))⟩
  · refine dl_r (sem_field fd28_1 rfl rfl) ?_
    refine dl_r (sem_load (us := cR b2) ty26 rfl rfl rfl rfl rfl) ?_
    refine dl_r (sem_call rfl rfl (sSign_ok) rfl) ?_
    refine dl_r (sem_cmp rfl rfl rfl rfl) ?_
    refine dl_r (sem_pick rfl rfl rfl rfl) ?_
    refine dl_rb (sem_move rfl rfl) (fun c3 hb3 => ?_)
    cases c3
    · refine dl_skip (sem_skip rfl) ?_
      refine dl_skip (sem_skip rfl) ?_
      refine dl_skip (sem_skip rfl) ?_
      refine dl_skip (sem_skip rfl) ?_
      refine dl_skip (sem_skip rfl) ?_
      refine dl_skip (sem_skip rfl) ?_
      refine dl_r (sem_pick rfl rfl rfl rfl) ?_
      refine dl_end ?_
      refine dw_false rfl ?_
      refine dw_skip ?_
      refine dw_seq ?_
      -- region 3
      refine dw_region (by kernel_rfl) ?_
      refine dl_r (sem_field fd28_2 rfl rfl) ?_
      refine dl_r (sem_load (us := cR c1) ty26 rfl rfl rfl rfl rfl) ?_
      refine dl_new (sem_alloc zc26 rfl) rfl ?_
      refine dl_st (sem_store_a ty26 rfl rfl rfl rfl rfl rfl) ?_
      refine dl_end ?_
      refine dw_seq ?_
      refine dw_seq ?_
      -- region 4
      refine dw_region (by kernel_rfl) ?_
      refine dl_r (sem_field fd28_1 rfl rfl) ?_
      refine dl_r (sem_load (us := cR b1) ty26 rfl rfl rfl rfl rfl) ?_
      refine dl_r (sem_call rfl rfl (sSign_ok) rfl) ?_
      refine dl_r (sem_cmp rfl rfl rfl rfl) ?_
      refine dl_end ?_
      refine dw_cond rfl (fun hc4 => ?_) (fun hc4 => ?_)
      · -- region 5
        refine dw_region (by kernel_rfl) ?_
        refine dl_r (sem_field fd28_2 rfl rfl) ?_
        refine dl_r (sem_load (us := cR c2) ty26 rfl rfl rfl rfl rfl) ?_
        refine dl_st (sem_store_a ty26 rfl rfl rfl rfl rfl rfl) ?_
        refine dl_end ?_
        refine dw_seq ?_
        -- region 6
        refine dw_region (by kernel_rfl) ?_
        refine dl_r (sem_field fd28_0 rfl rfl) ?_
        refine dl_r (sem_load (us := cR a1) ty26 rfl rfl rfl rfl rfl) ?_
        refine dl_r (sem_field fd28_1 rfl rfl) ?_
        refine dl_r (sem_load (us := cR b1) ty26 rfl rfl rfl rfl rfl) ?_
        refine dl_r (sem_field fd28_0 rfl rfl) ?_
        refine dl_r (sem_load (us := cR a2) ty26 rfl rfl rfl rfl rfl) ?_
        refine dl_r (sem_field fd28_1 rfl rfl) ?_
        refine dl_r (sem_load (us := cR b2) ty26 rfl rfl rfl rfl rfl) ?_
        refine dl_r (sem_load (us := cR c2) ty26 rfl rfl rfl rfl rfl) ?_
        refine dl_r (sem_call rfl rfl (rpReduced_ok) rfl) ?_
        refine dl_st (sem_store_a ty32 rfl rfl rfl rfl rfl rfl) ?_
        refine dl_r (sem_assign rfl rfl) ?_
        refine dl_end ?_
        refine dw_ret ?_
        rw [cc_t (r_eq hc4)]
        exact ⟨.inr rfl, (resL_cell (us := (cR a1 ++ cR b1 ++ cR a2 ++ cR b2 ++ cR (zcp b1 b2 c2))) ty32 rfl rfl rfl rfl (resL_tmp rfl resL_nil))⟩
      · refine dw_skip ?_
        refine dw_seq ?_
        -- region 6
        refine dw_region (by kernel_rfl) ?_
        refine dl_r (sem_field fd28_0 rfl rfl) ?_
        refine dl_r (sem_load (us := cR a1) ty26 rfl rfl rfl rfl rfl) ?_
        refine dl_r (sem_field fd28_1 rfl rfl) ?_
        refine dl_r (sem_load (us := cR b1) ty26 rfl rfl rfl rfl rfl) ?_
        refine dl_r (sem_field fd28_0 rfl rfl) ?_
        refine dl_r (sem_load (us := cR a2) ty26 rfl rfl rfl rfl rfl) ?_
        refine dl_r (sem_field fd28_1 rfl rfl) ?_
        refine dl_r (sem_load (us := cR b2) ty26 rfl rfl rfl rfl rfl) ?_
        refine dl_r (sem_load (us := cR c1) ty26 rfl rfl rfl rfl rfl) ?_
        refine dl_r (sem_call rfl rfl (rpReduced_ok) rfl) ?_
        refine dl_st (sem_store_a ty32 rfl rfl rfl rfl rfl rfl) ?_
        refine dl_r (sem_assign rfl rfl) ?_
        refine dl_end ?_
        refine dw_ret ?_
        rw [cc_f (r_ne hc4)]
        exact ⟨.inr rfl, (resL_cell (us := (cR a1 ++ cR b1 ++ cR a2 ++ cR b2 ++ cR (zcp b1 b2 c1))) ty32 rfl rfl rfl rfl (resL_tmp rfl resL_nil))⟩
    · refine dl_r (sem_field fd28_2 rfl rfl) ?_
      refine dl_r (sem_load (us := cR c1) ty26 rfl rfl rfl rfl rfl) ?_
      refine dl_r (sem_field fd28_2 rfl rfl) ?_
      refine dl_r (sem_load (us := cR c2) ty26 rfl rfl rfl rfl rfl) ?_
      refine dl_r (sem_call rfl rfl (sCmp_ok (by first | assumption | exact Rz.mono hc1 (by decide)) (by first | assumption | exact Rz.mono hc2 (by decide))) rfl) ?_
      refine dl_r (sem_cmp rfl rfl rfl rfl) ?_
      refine dl_r (sem_pick rfl rfl rfl rfl) ?_
      refine dl_end ?_
      refine dw_cond rfl (fun hc5 => ?_) (fun hc5 => ?_)
      · exact absurd ⟨r_ne' hb1, r_ne' hb3, r_ne' hc5⟩ hbad
      · refine dw_skip ?_
        refine dw_seq ?_
        -- region 3
        refine dw_region (by kernel_rfl) ?_
        refine dl_r (sem_field fd28_2 rfl rfl) ?_
        refine dl_r (sem_load (us := cR c1) ty26 rfl rfl rfl rfl rfl) ?_
        refine dl_new (sem_alloc zc26 rfl) rfl ?_
        refine dl_st (sem_store_a ty26 rfl rfl rfl rfl rfl rfl) ?_
        refine dl_end ?_
        refine dw_seq ?_
        refine dw_seq ?_
        -- region 4
        refine dw_region (by kernel_rfl) ?_
        refine dl_r (sem_field fd28_1 rfl rfl) ?_
        refine dl_r (sem_load (us := cR b1) ty26 rfl rfl rfl rfl rfl) ?_
        refine dl_r (sem_call rfl rfl (sSign_ok) rfl) ?_
        refine dl_r (sem_cmp rfl rfl rfl rfl) ?_
        refine dl_end ?_
        refine dw_cond rfl (fun hc6 => ?_) (fun hc6 => ?_)
        · -- region 5
          refine dw_region (by kernel_rfl) ?_
          refine dl_r (sem_field fd28_2 rfl rfl) ?_
          refine dl_r (sem_load (us := cR c2) ty26 rfl rfl rfl rfl rfl) ?_
          refine dl_st (sem_store_a ty26 rfl rfl rfl rfl rfl rfl) ?_
          refine dl_end ?_
          refine dw_seq ?_
          -- region 6
          refine dw_region (by kernel_rfl) ?_
          refine dl_r (sem_field fd28_0 rfl rfl) ?_
          refine dl_r (sem_load (us := cR a1) ty26 rfl rfl rfl rfl rfl) ?_
          refine dl_r (sem_field fd28_1 rfl rfl) ?_
          refine dl_r (sem_load (us := cR b1) ty26 rfl rfl rfl rfl rfl) ?_
          refine dl_r (sem_field fd28_0 rfl rfl) ?_
          refine dl_r (sem_load (us := cR a2) ty26 rfl rfl rfl rfl rfl) ?_
          refine dl_r (sem_field fd28_1 rfl rfl) ?_
          refine dl_r (sem_load (us := cR b2) ty26 rfl rfl rfl rfl rfl) ?_
          refine dl_r (sem_load (us := cR c2) ty26 rfl rfl rfl rfl rfl) ?_
          refine dl_r (sem_call rfl rfl (rpReduced_ok) rfl) ?_
          refine dl_st (sem_store_a ty32 rfl rfl rfl rfl rfl rfl) ?_
          refine dl_r (sem_assign rfl rfl) ?_
          refine dl_end ?_
          refine dw_ret ?_
          rw [cc_t (r_eq hc6)]
          exact ⟨.inr rfl, (resL_cell (us := (cR a1 ++ cR b1 ++ cR a2 ++ cR b2 ++ cR (zcp b1 b2 c2))) ty32 rfl rfl rfl rfl (resL_tmp rfl resL_nil))⟩
        · refine dw_skip ?_
          refine dw_seq ?_
          -- region 6
          refine dw_region (by kernel_rfl) ?_
          refine dl_r (sem_field fd28_0 rfl rfl) ?_
          refine dl_r (sem_load (us := cR a1) ty26 rfl rfl rfl rfl rfl) ?_
          refine dl_r (sem_field fd28_1 rfl rfl) ?_
          refine dl_r (sem_load (us := cR b1) ty26 rfl rfl rfl rfl rfl) ?_
          refine dl_r (sem_field fd28_0 rfl rfl) ?_
          refine dl_r (sem_load (us := cR a2) ty26 rfl rfl rfl rfl rfl) ?_
          refine dl_r (sem_field fd28_1 rfl rfl) ?_
          refine dl_r (sem_load (us := cR b2) ty26 rfl rfl rfl rfl rfl) ?_
          refine dl_r (sem_load (us := cR c1) ty26 rfl rfl rfl rfl rfl) ?_
          refine dl_r (sem_call rfl rfl (rpReduced_ok) rfl) ?_
          refine dl_st (sem_store_a ty32 rfl rfl rfl rfl rfl rfl) ?_
          refine dl_r (sem_assign rfl rfl) ?_
          refine dl_end ?_
          refine dw_ret ?_
          rw [cc_f (r_ne hc6)]
          exact ⟨.inr rfl, (resL_cell (us := (cR a1 ++ cR b1 ++ cR a2 ++ cR b2 ++ cR (zcp b1 b2 c1))) ty32 rfl rfl rfl rfl (resL_tmp rfl resL_nil))⟩
end Go.Proofs.YthpalcfhhicmgaaGreat
/- Plain: the chapter's examples of points at their numbers. -/
namespace Go.Proofs.YthpalcfhhicmgaaGreat
open Go Go.RowKit
theorem rz_l {k : Nat} {x : Rat} (h : (decide (-1000000000 < x.num) && (decide (x.num < 1000000000) && (decide ((x.den : Int) < 1000000000) && decide (1 ≤ k)))) = true) : Rz k x := by
  simp only [Bool.and_eq_true, decide_eq_true_eq] at h
  have h1 := pw_le h.2.2.2
  have e : pw 1 = 1000000000 := by decide +kernel
  have hp := den_pos x
  exact ⟨⟨by omega, by omega⟩, ⟨by omega, by omega⟩⟩
section
variable {P : Program} {f : FuncId} {ds rs : List D0} {x y z u v x' y' z' u' v' : Rat}
theorem rcast2 (h : Ok P f ds [.a (cR x ++ cR y)]) (e1 : x = x') (e2 : y = y') : Ok P f ds [.a (cR x' ++ cR y')] := by subst e1 e2; exact h
theorem rcast3 (h : Ok P f ds [.a (cR x ++ cR y ++ cR z)]) (e1 : x = x') (e2 : y = y') (e3 : z = z') : Ok P f ds [.a (cR x' ++ cR y' ++ cR z')] := by subst e1 e2 e3; exact h
theorem rcast5 {rs : List D0} (h : Ok P f ds (.a (cR x ++ cR y ++ cR z ++ cR u ++ cR v) :: rs)) (e1 : x = x') (e2 : y = y') (e3 : z = z') (e4 : u = u') (e5 : v = v') : Ok P f ds (.a (cR x' ++ cR y' ++ cR z' ++ cR u' ++ cR v') :: rs) := by subst e1 e2 e3 e4 e5; exact h
theorem rcast5a (h : Ok P f ds [.a (cR x ++ cR y ++ cR z ++ cR u ++ cR v)]) (e1 : x = x') (e2 : y = y') (e3 : z = z') (e4 : u = u') (e5 : v = v') : Ok P f ds [.a (cR x' ++ cR y' ++ cR z' ++ cR u' ++ cR v')] := rcast5 h e1 e2 e3 e4 e5
theorem rcastb {b c : Bool} (h : Ok P f ds [.c (.b b)]) (e : b = c) : Ok P f ds [.c (.b c)] := by subst e; exact h
theorem rcasti {b c : Int} (h : Ok P f ds [.c (.i .i64 b)]) (e : b = c) : Ok P f ds [.c (.i .i64 c)] := by subst e; exact h
end
theorem aw_q8 : sqLo (frLo 8) = 185363 := isqI_unique (x := max (frLo 8) 0 * 65536) (by decide +kernel) (by decide) (by decide +kernel) (by decide +kernel)
theorem aw_h8 : isqI (frHi 8 * 65536) = 185363 := isqI_unique (by decide +kernel) (by decide) (by decide +kernel) (by decide +kernel)
theorem aw_q8h : sqHi (frHi 8) = 185364 := by unfold sqHi sqI; rw [aw_h8]; decide +kernel
theorem aw_q2 : sqLo (frLo 2) = 92681 := isqI_unique (x := max (frLo 2) 0 * 65536) (by decide +kernel) (by decide) (by decide +kernel) (by decide +kernel)
theorem aw_h2 : isqI (frHi 2 * 65536) = 92681 := isqI_unique (by decide +kernel) (by decide) (by decide +kernel) (by decide +kernel)
theorem aw_q2h : sqHi (frHi 2) = 92682 := by unfold sqHi sqI; rw [aw_h2]; decide +kernel
theorem aw_rt8 : rtOk 0 1 8 = true ∧ rtLo 0 1 8 = 185363 ∧ rtHi 0 1 8 = 185364 := by
  unfold rtLo rtHi rtOk rtX rtMo rtMl rtMh
  rw [aw_q8, aw_q8h]
  decide +kernel
theorem aw_rt2 : rtOk 0 2 2 = true ∧ rtLo 0 2 2 = 185362 ∧ rtHi 0 2 2 = 185364 := by
  unfold rtLo rtHi rtOk rtX rtMo rtMl rtMh
  rw [aw_q2, aw_q2h]
  decide +kernel
theorem aw_rt3 : rtOk 3 0 0 = true ∧ rtLo 3 0 0 = 196608 ∧ rtHi 3 0 0 = 196608 := by
  have e : rtOk 3 0 0 = true := by unfold rtOk; rw [show (cmpR 0 0 == 0) = true from by decide +kernel]; decide +kernel
  unfold rtLo rtHi
  rw [e]
  decide +kernel
theorem aw_k : qkK 0 1 (-2) 0 8 2 = false := by
  have g8 : gL 8 = frLo 8 ∧ gH 8 = frHi 8 := by decide +kernel
  have g2 : gL 2 = frLo 2 ∧ gH 2 = frHi 2 := by decide +kernel
  unfold qkK qsL qsH qabL qabH qcdL qcdH qbL qbH qdL qdH qmnL qmnH
  rw [g8.1, g8.2, g2.1, g2.2, aw_q8, aw_q8h, aw_q2, aw_q2h]
  rw [show skI (aL (aL (gL 0) (gH 0) (pL (gL 1) (gH 1) 185363 185364) (pH (gL 1) (gH 1) 185363 185364)) (aH (gL 0) (gH 0) (pL (gL 1) (gH 1) 185363 185364) (pH (gL 1) (gH 1) 185363 185364))
    (aL (pL (gL (-2)) (gH (-2)) 92681 92682) (pH (gL (-2)) (gH (-2)) 92681 92682) (pL (gL 0) (gH 0) (pL 185363 185364 92681 92682) (pH 185363 185364 92681 92682)) (pH (gL 0) (gH 0) (pL 185363 185364 92681 92682) (pH 185363 185364 92681 92682)))
    (aH (pL (gL (-2)) (gH (-2)) 92681 92682) (pH (gL (-2)) (gH (-2)) 92681 92682) (pL (gL 0) (gH 0) (pL 185363 185364 92681 92682) (pH 185363 185364 92681 92682)) (pH (gL 0) (gH 0) (pL 185363 185364 92681 92682) (pH 185363 185364 92681 92682))))
    (aH (aL (gL 0) (gH 0) (pL (gL 1) (gH 1) 185363 185364) (pH (gL 1) (gH 1) 185363 185364)) (aH (gL 0) (gH 0) (pL (gL 1) (gH 1) 185363 185364) (pH (gL 1) (gH 1) 185363 185364))
    (aL (pL (gL (-2)) (gH (-2)) 92681 92682) (pH (gL (-2)) (gH (-2)) 92681 92682) (pL (gL 0) (gH 0) (pL 185363 185364 92681 92682) (pH 185363 185364 92681 92682)) (pH (gL 0) (gH 0) (pL 185363 185364 92681 92682) (pH 185363 185364 92681 92682)))
    (aH (pL (gL (-2)) (gH (-2)) 92681 92682) (pH (gL (-2)) (gH (-2)) 92681 92682) (pL (gL 0) (gH 0) (pL 185363 185364 92681 92682) (pH 185363 185364 92681 92682)) (pH (gL 0) (gH 0) (pL 185363 185364 92681 92682) (pH 185363 185364 92681 92682)))) = false from by decide +kernel, Bool.and_false]
theorem aw_c1 : cmpPP 0 1 0 0 8 0 2 0 0 2 = 0 := by
  unfold cmpPP
  rw [show zc 1 8 = 8 from by decide +kernel, show zc 2 2 = 2 from by decide +kernel, show zc 0 8 = 0 from by decide +kernel, show zc 0 2 = 0 from by decide +kernel]
  have e1 : cmpP 0 1 8 0 2 2 = 0 := by
    rw [cmpP_s (nb_l (by decide +kernel)) (by rw [aw_rt8.1, aw_rt8.2.1, aw_rt8.2.2, aw_rt2.1, aw_rt2.2.1, aw_rt2.2.2]; decide +kernel) (by decide +kernel)]
    rw [show (0 : Rat) - 0 = 0 from by decide +kernel]
    unfold sgnP
    rw [aw_k]
    decide +kernel
  rw [e1, if_neg (by decide), cmpP_r (by decide +kernel) (by decide +kernel)]
  decide +kernel
theorem aw_c2 : cmpPP 0 1 0 0 8 3 0 (-1) 0 0 = -1 := by
  have e1 : cmpP 0 1 (zc 1 8) 3 0 (zc 0 0) = -1 := by
    rw [show zc 1 8 = 8 from by decide +kernel, show zc 0 0 = 0 from by decide +kernel]
    have hk : apK (rtOk 0 1 8) (rtOk 3 0 0) (rtLo 0 1 8) (rtHi 0 1 8) (rtLo 3 0 0) (rtHi 3 0 0) = true := by rw [aw_rt8.1, aw_rt8.2.1, aw_rt8.2.2, aw_rt3.1, aw_rt3.2.1, aw_rt3.2.2]; decide +kernel
    rw [cmpP_a (nb_l (by decide +kernel)) hk, aw_rt8.1, aw_rt8.2.1, aw_rt8.2.2, aw_rt3.1, aw_rt3.2.1, aw_rt3.2.2]
    decide +kernel
  unfold cmpPP
  rw [e1, if_pos (by decide)]
end Go.Proofs.YthpalcfhhicmgaaGreat
/- The examples of the chapter on points. -/
namespace Go.Proofs.YthpalcfhhicmgaaGreat
open Go Go.RowKit
theorem lwRoot_sq {A B C : Int} (h0 : -32768 ≤ A) (h1 : A ≤ 32767) (h2 : -32768 ≤ B) (h3 : B ≤ 32767) (h4 : 0 ≤ C) (h5 : C ≤ 65535) (hs : sqR (Rat.divInt C (0 + 1)) = true) : Ok Tryz.prog 48 [.c (.i .i16 A), .c (.i .i16 B), .c (.i .u16 C)] [.a (cR (Rat.divInt A (0 + 1) + Rat.divInt B (0 + 1) * rt (Rat.divInt C (0 + 1))) ++ cR 0 ++ cR 0)] := by
  refine Ok.of (by kernel_rfl) Tryz.func48 rfl rfl ?_
  rw [show Tryz.f48.ntmps = 12 from rfl, show Tryz.f48.results.toList = [.cell 6 28] from rfl]
  refine dw_seq ?_
  -- region 0
  refine dw_region (by kernel_rfl) ?_
  refine dl_new (sem_alloc zc28 rfl) rfl ?_
  refine dl_end ?_
  refine dw_seq ?_
  -- region 1
  refine dw_region (by kernel_rfl) ?_
  refine dl_r (sem_move rfl rfl) ?_
  refine dl_r (sem_move rfl rfl) ?_
  refine dl_r (sem_move rfl rfl) ?_
  refine dl_r (sem_build (us := ([.i .i16 A] ++ [.i .i16 B] ++ [.i .u16 C] ++ [.i .u8 0] ++ [.i .u8 0] ++ [.i .u8 0])) fs105 zc105 rfl rfl rfl) ?_
  refine dl_r (sem_call rfl rfl (rrOf_sq h0 h1 h2 h3 h4 h5 (by decide) (by decide) (by decide) (by decide) (by decide) (by decide) hs) rfl) ?_
  refine dl_st (sem_store_a ty28 rfl rfl rfl rfl rfl rfl) ?_
  refine dl_end ?_
  refine dw_ret ?_
  -- path 
  exact ⟨.inr rfl, (resL_cell (us := (cR (Rat.divInt A (0 + 1) + Rat.divInt B (0 + 1) * rt (Rat.divInt C (0 + 1))) ++ cR 0 ++ cR 0)) ty28 rfl rfl rfl rfl resL_nil)⟩
theorem lwRoot_ns {A B C : Int} (h0 : -32768 ≤ A) (h1 : A ≤ 32767) (h2 : -32768 ≤ B) (h3 : B ≤ 32767) (h4 : 0 ≤ C) (h5 : C ≤ 65535) (hs : sqR (Rat.divInt C (0 + 1)) = false) : Ok Tryz.prog 48 [.c (.i .i16 A), .c (.i .i16 B), .c (.i .u16 C)] [.a (cR (Rat.divInt A (0 + 1)) ++ cR (rB (Rat.divInt B (0 + 1)) (Rat.divInt C (0 + 1))) ++ cR (rC (Rat.divInt B (0 + 1)) (Rat.divInt C (0 + 1))))] := by
  refine Ok.of (by kernel_rfl) Tryz.func48 rfl rfl ?_
  rw [show Tryz.f48.ntmps = 12 from rfl, show Tryz.f48.results.toList = [.cell 6 28] from rfl]
  refine dw_seq ?_
  -- region 0
  refine dw_region (by kernel_rfl) ?_
  refine dl_new (sem_alloc zc28 rfl) rfl ?_
  refine dl_end ?_
  refine dw_seq ?_
  -- region 1
  refine dw_region (by kernel_rfl) ?_
  refine dl_r (sem_move rfl rfl) ?_
  refine dl_r (sem_move rfl rfl) ?_
  refine dl_r (sem_move rfl rfl) ?_
  refine dl_r (sem_build (us := ([.i .i16 A] ++ [.i .i16 B] ++ [.i .u16 C] ++ [.i .u8 0] ++ [.i .u8 0] ++ [.i .u8 0])) fs105 zc105 rfl rfl rfl) ?_
  refine dl_r (sem_call rfl rfl (rrOf_ns h0 h1 h2 h3 h4 h5 (by decide) (by decide) (by decide) (by decide) (by decide) (by decide) hs) rfl) ?_
  refine dl_st (sem_store_a ty28 rfl rfl rfl rfl rfl rfl) ?_
  refine dl_end ?_
  refine dw_ret ?_
  -- path 
  exact ⟨.inr rfl, (resL_cell (us := (cR (Rat.divInt A (0 + 1)) ++ cR (rB (Rat.divInt B (0 + 1)) (Rat.divInt C (0 + 1))) ++ cR (rC (Rat.divInt B (0 + 1)) (Rat.divInt C (0 + 1))))) ty28 rfl rfl rfl rfl resL_nil)⟩
theorem aw_r_1_1_2 : Ok Tryz.prog 48 [.c (.i .i16 1), .c (.i .i16 1), .c (.i .u16 2)] [.a (cR 1 ++ cR 1 ++ cR 2)] := rcast3 (lwRoot_ns (A := 1) (B := 1) (C := 2) (by decide) (by decide) (by decide) (by decide) (by decide) (by decide) (by decide +kernel)) (by decide +kernel) (by decide +kernel) (by decide +kernel)
theorem aw_r_3_0_0 : Ok Tryz.prog 48 [.c (.i .i16 3), .c (.i .i16 0), .c (.i .u16 0)] [.a (cR 3 ++ cR 0 ++ cR 0)] := rcast3 (lwRoot_sq (A := 3) (B := 0) (C := 0) (by decide) (by decide) (by decide) (by decide) (by decide) (by decide) (by decide +kernel)) (by decide +kernel) (by decide +kernel) (by decide +kernel)
theorem aw_r_0_1_8 : Ok Tryz.prog 48 [.c (.i .i16 0), .c (.i .i16 1), .c (.i .u16 8)] [.a (cR 0 ++ cR 1 ++ cR 8)] := rcast3 (lwRoot_ns (A := 0) (B := 1) (C := 8) (by decide) (by decide) (by decide) (by decide) (by decide) (by decide) (by decide +kernel)) (by decide +kernel) (by decide +kernel) (by decide +kernel)
theorem aw_r_0_0_0 : Ok Tryz.prog 48 [.c (.i .i16 0), .c (.i .i16 0), .c (.i .u16 0)] [.a (cR 0 ++ cR 0 ++ cR 0)] := rcast3 (lwRoot_sq (A := 0) (B := 0) (C := 0) (by decide) (by decide) (by decide) (by decide) (by decide) (by decide) (by decide +kernel)) (by decide +kernel) (by decide +kernel) (by decide +kernel)
theorem aw_r_0_2_2 : Ok Tryz.prog 48 [.c (.i .i16 0), .c (.i .i16 2), .c (.i .u16 2)] [.a (cR 0 ++ cR 2 ++ cR 2)] := rcast3 (lwRoot_ns (A := 0) (B := 2) (C := 2) (by decide) (by decide) (by decide) (by decide) (by decide) (by decide) (by decide +kernel)) (by decide +kernel) (by decide +kernel) (by decide +kernel)
theorem aw_r_0_1_2 : Ok Tryz.prog 48 [.c (.i .i16 0), .c (.i .i16 1), .c (.i .u16 2)] [.a (cR 0 ++ cR 1 ++ cR 2)] := rcast3 (lwRoot_ns (A := 0) (B := 1) (C := 2) (by decide) (by decide) (by decide) (by decide) (by decide) (by decide) (by decide +kernel)) (by decide +kernel) (by decide +kernel) (by decide +kernel)
theorem aw_r_0_1_3 : Ok Tryz.prog 48 [.c (.i .i16 0), .c (.i .i16 1), .c (.i .u16 3)] [.a (cR 0 ++ cR 1 ++ cR 3)] := rcast3 (lwRoot_ns (A := 0) (B := 1) (C := 3) (by decide) (by decide) (by decide) (by decide) (by decide) (by decide) (by decide +kernel)) (by decide +kernel) (by decide +kernel) (by decide +kernel)
theorem aw_r_5_m2_2 : Ok Tryz.prog 48 [.c (.i .i16 5), .c (.i .i16 (-2)), .c (.i .u16 2)] [.a (cR 5 ++ cR (-2) ++ cR 2)] := rcast3 (lwRoot_ns (A := 5) (B := -2) (C := 2) (by decide) (by decide) (by decide) (by decide) (by decide) (by decide) (by decide +kernel)) (by decide +kernel) (by decide +kernel) (by decide +kernel)
theorem aw_m_1_1_2_3_0_0 : Ok Tryz.prog 13 [.a (cR 1 ++ cR 1 ++ cR 2), .a (cR 3 ++ cR 0 ++ cR 0)] [.a (cR 1 ++ cR 1 ++ cR 3 ++ cR 0 ++ cR 2), .c (.i .i64 0)] := rcast5 (ptMake_ok (rz_l (by decide +kernel)) (rz_l (by decide +kernel)) (by unfold bad; decide +kernel)) rfl rfl rfl rfl (by decide +kernel)
theorem aw_X_1_1_3_0_2 : Ok Tryz.prog 17 [.a (cR 1 ++ cR 1 ++ cR 3 ++ cR 0 ++ cR 2)] [.a (cR 1 ++ cR 1 ++ cR 2)] := rcast3 ptX_ok rfl rfl (by decide +kernel)
theorem aw_Y_1_1_3_0_2 : Ok Tryz.prog 18 [.a (cR 1 ++ cR 1 ++ cR 3 ++ cR 0 ++ cR 2)] [.a (cR 3 ++ cR 0 ++ cR 0)] := rcast3 ptY_ok rfl rfl (by decide +kernel)
theorem aw_m_0_1_8_0_0_0 : Ok Tryz.prog 13 [.a (cR 0 ++ cR 1 ++ cR 8), .a (cR 0 ++ cR 0 ++ cR 0)] [.a (cR 0 ++ cR 1 ++ cR 0 ++ cR 0 ++ cR 8), .c (.i .i64 0)] := rcast5 (ptMake_ok (rz_l (by decide +kernel)) (rz_l (by decide +kernel)) (by unfold bad; decide +kernel)) rfl rfl rfl rfl (by decide +kernel)
theorem aw_X_0_1_0_0_8 : Ok Tryz.prog 17 [.a (cR 0 ++ cR 1 ++ cR 0 ++ cR 0 ++ cR 8)] [.a (cR 0 ++ cR 1 ++ cR 8)] := rcast3 ptX_ok rfl rfl (by decide +kernel)
theorem aw_Y_0_1_0_0_8 : Ok Tryz.prog 18 [.a (cR 0 ++ cR 1 ++ cR 0 ++ cR 0 ++ cR 8)] [.a (cR 0 ++ cR 0 ++ cR 0)] := rcast3 ptY_ok rfl rfl (by decide +kernel)
theorem aw_m_0_2_2_0_0_0 : Ok Tryz.prog 13 [.a (cR 0 ++ cR 2 ++ cR 2), .a (cR 0 ++ cR 0 ++ cR 0)] [.a (cR 0 ++ cR 2 ++ cR 0 ++ cR 0 ++ cR 2), .c (.i .i64 0)] := rcast5 (ptMake_ok (rz_l (by decide +kernel)) (rz_l (by decide +kernel)) (by unfold bad; decide +kernel)) rfl rfl rfl rfl (by decide +kernel)
theorem aw_X_0_2_0_0_2 : Ok Tryz.prog 17 [.a (cR 0 ++ cR 2 ++ cR 0 ++ cR 0 ++ cR 2)] [.a (cR 0 ++ cR 2 ++ cR 2)] := rcast3 ptX_ok rfl rfl (by decide +kernel)
theorem aw_Y_0_2_0_0_2 : Ok Tryz.prog 18 [.a (cR 0 ++ cR 2 ++ cR 0 ++ cR 0 ++ cR 2)] [.a (cR 0 ++ cR 0 ++ cR 0)] := rcast3 ptY_ok rfl rfl (by decide +kernel)
theorem aw_m_0_1_2_0_1_2 : Ok Tryz.prog 13 [.a (cR 0 ++ cR 1 ++ cR 2), .a (cR 0 ++ cR 1 ++ cR 2)] [.a (cR 0 ++ cR 1 ++ cR 0 ++ cR 1 ++ cR 2), .c (.i .i64 0)] := rcast5 (ptMake_ok (rz_l (by decide +kernel)) (rz_l (by decide +kernel)) (by unfold bad; decide +kernel)) rfl rfl rfl rfl (by decide +kernel)
theorem aw_X_0_1_0_1_2 : Ok Tryz.prog 17 [.a (cR 0 ++ cR 1 ++ cR 0 ++ cR 1 ++ cR 2)] [.a (cR 0 ++ cR 1 ++ cR 2)] := rcast3 ptX_ok rfl rfl (by decide +kernel)
theorem aw_Y_0_1_0_1_2 : Ok Tryz.prog 18 [.a (cR 0 ++ cR 1 ++ cR 0 ++ cR 1 ++ cR 2)] [.a (cR 0 ++ cR 1 ++ cR 2)] := rcast3 ptY_ok rfl rfl (by decide +kernel)
theorem aw_bad : Ok Tryz.prog 13 [.a (cR 0 ++ cR 1 ++ cR 2), .a (cR 0 ++ cR 1 ++ cR 3)] [.a (zP), .c (.i .i64 1)] := ptMake_bad (rz_l (by decide +kernel)) (rz_l (by decide +kernel)) (by unfold bad; decide +kernel)
theorem aw_grid : Ok Tryz.prog 35 [.a ([.i .i64 3] ++ [.i .i64 (-1)])] [.a (cR 3 ++ cR 0 ++ cR (-1) ++ cR 0 ++ cR 0)] := rcast5a (ptOfGrid_ok (x := 3) (y := -1) (by decide) (by decide) (by decide) (by decide)) (by decide +kernel) rfl (by decide +kernel) rfl rfl
theorem aw_vec : Ok Tryz.prog 49 [.c (.i .i64 1), .c (.i .i64 0)] [.a (cR 1 ++ cR 0)] := rcast2 (rpVec_ok (x := 1) (y := 0) (by decide) (by decide) (by decide) (by decide)) (by decide +kernel) (by decide +kernel)
theorem aw_eq : Ok Tryz.prog 22 [.a (cR 0 ++ cR 1 ++ cR 0 ++ cR 0 ++ cR 8), .a (cR 0 ++ cR 2 ++ cR 0 ++ cR 0 ++ cR 2)] [.c (.b true)] := rcastb (ptEqual_ok (rz_l (by decide +kernel)) (rz_l (by decide +kernel)) (rz_l (by decide +kernel)) (rz_l (by decide +kernel)) (rz_l (by decide +kernel)) (rz_l (by decide +kernel)) (rz_l (by decide +kernel)) (rz_l (by decide +kernel)) (rz_l (by decide +kernel)) (rz_l (by decide +kernel)) (rz_l (by decide +kernel)) (rz_l (by decide +kernel))) (by rw [aw_c1]; rfl)
theorem aw_cmp : Ok Tryz.prog 20 [.a (cR 0 ++ cR 1 ++ cR 0 ++ cR 0 ++ cR 8), .a (cR 3 ++ cR 0 ++ cR (-1) ++ cR 0 ++ cR 0)] [.c (.i .i64 (-1))] := rcasti (ptCompare_ok (rz_l (by decide +kernel)) (rz_l (by decide +kernel)) (rz_l (by decide +kernel)) (rz_l (by decide +kernel)) (rz_l (by decide +kernel)) (rz_l (by decide +kernel)) (rz_l (by decide +kernel)) (rz_l (by decide +kernel)) (rz_l (by decide +kernel)) (rz_l (by decide +kernel)) (rz_l (by decide +kernel)) (rz_l (by decide +kernel))) aw_c2
theorem aw_sq : Ok Tryz.prog 24 [.a (cR 0 ++ cR 1 ++ cR 0 ++ cR 1 ++ cR 2), .a (cR 1 ++ cR 0)] [.a (cR 5 ++ cR (-2) ++ cR 2)] := rcast3 (ptSquare_ok (rz_l (by decide +kernel)) (rz_l (by decide +kernel)) (rz_l (by decide +kernel)) (rz_l (by decide +kernel)) (rz_l (by decide +kernel)) (rz_l (by decide +kernel)) (rz_l (by decide +kernel))) (by decide +kernel) (by decide +kernel) (by decide +kernel)
theorem aw_s_1_1_2 : Ok Tryz.prog 16 [.a (cR 1 ++ cR 1 ++ cR 2), .a (cR 1 ++ cR 1 ++ cR 2)] [.c (.b true)] := rcastb (rrSame_ok (rz_l (by decide +kernel)) (rz_l (by decide +kernel)) (rz_l (by decide +kernel)) (rz_l (by decide +kernel)) (rz_l (by decide +kernel)) (rz_l (by decide +kernel))) (by decide +kernel)
theorem aw_s_3_0_0 : Ok Tryz.prog 16 [.a (cR 3 ++ cR 0 ++ cR 0), .a (cR 3 ++ cR 0 ++ cR 0)] [.c (.b true)] := rcastb (rrSame_ok (rz_l (by decide +kernel)) (rz_l (by decide +kernel)) (rz_l (by decide +kernel)) (rz_l (by decide +kernel)) (rz_l (by decide +kernel)) (rz_l (by decide +kernel))) (by decide +kernel)
theorem aw_s_5_m2_2 : Ok Tryz.prog 16 [.a (cR 5 ++ cR (-2) ++ cR 2), .a (cR 5 ++ cR (-2) ++ cR 2)] [.c (.b true)] := rcastb (rrSame_ok (rz_l (by decide +kernel)) (rz_l (by decide +kernel)) (rz_l (by decide +kernel)) (rz_l (by decide +kernel)) (rz_l (by decide +kernel)) (rz_l (by decide +kernel))) (by decide +kernel)
theorem awake_ok  : Ok Tryz.prog 11 [] [.c (.b true)] := by
  refine Ok.of (by kernel_rfl) Tryz.func11 rfl rfl ?_
  rw [show Tryz.f11.ntmps = 90 from rfl, show Tryz.f11.results.toList = [.tmp 0] from rfl]
  refine dw_seq ?_
  -- region 0
  refine dw_region (by kernel_rfl) ?_
  refine dl_r (sem_assign rfl rfl) ?_
  refine dl_end ?_
  refine dw_seq ?_
  -- region 1
  refine dw_region (by kernel_rfl) ?_
  refine dl_r (sem_call rfl rfl (aw_r_1_1_2) rfl) ?_
  refine dl_r (sem_call rfl rfl (aw_r_3_0_0) rfl) ?_
  refine dl_r (sem_call rfl rfl (aw_m_1_1_2_3_0_0) rfl) ?_
  refine dl_r (sem_move rfl rfl) ?_
  refine dl_r (sem_extract rfl rfl rfl) ?_
  refine dl_r (sem_extract rfl rfl rfl) ?_
  refine dl_new (sem_alloc zc32 rfl) rfl ?_
  refine dl_st (sem_store_a ty32 rfl rfl rfl rfl rfl rfl) ?_
  refine dl_r (sem_assign rfl rfl) ?_
  refine dl_end ?_
  refine dw_seq ?_
  -- region 2
  refine dw_region (by kernel_rfl) ?_
  refine dl_r (sem_call rfl rfl (aw_r_0_1_8) rfl) ?_
  refine dl_r (sem_call rfl rfl (aw_r_0_0_0) rfl) ?_
  refine dl_r (sem_call rfl rfl (aw_m_0_1_8_0_0_0) rfl) ?_
  refine dl_r (sem_move rfl rfl) ?_
  refine dl_r (sem_extract rfl rfl rfl) ?_
  refine dl_r (sem_extract rfl rfl rfl) ?_
  refine dl_new (sem_alloc zc32 rfl) rfl ?_
  refine dl_st (sem_store_a ty32 rfl rfl rfl rfl rfl rfl) ?_
  refine dl_r (sem_assign rfl rfl) ?_
  refine dl_end ?_
  refine dw_seq ?_
  -- region 3
  refine dw_region (by kernel_rfl) ?_
  refine dl_r (sem_call rfl rfl (aw_r_0_2_2) rfl) ?_
  refine dl_r (sem_call rfl rfl (aw_r_0_0_0) rfl) ?_
  refine dl_r (sem_call rfl rfl (aw_m_0_2_2_0_0_0) rfl) ?_
  refine dl_r (sem_move rfl rfl) ?_
  refine dl_r (sem_extract rfl rfl rfl) ?_
  refine dl_r (sem_extract rfl rfl rfl) ?_
  refine dl_new (sem_alloc zc32 rfl) rfl ?_
  refine dl_st (sem_store_a ty32 rfl rfl rfl rfl rfl rfl) ?_
  refine dl_r (sem_assign rfl rfl) ?_
  refine dl_end ?_
  refine dw_seq ?_
  -- region 4
  refine dw_region (by kernel_rfl) ?_
  refine dl_r (sem_call rfl rfl (aw_r_0_1_2) rfl) ?_
  refine dl_r (sem_call rfl rfl (aw_r_0_1_2) rfl) ?_
  refine dl_r (sem_call rfl rfl (aw_m_0_1_2_0_1_2) rfl) ?_
  refine dl_r (sem_move rfl rfl) ?_
  refine dl_r (sem_extract rfl rfl rfl) ?_
  refine dl_r (sem_extract rfl rfl rfl) ?_
  refine dl_new (sem_alloc zc32 rfl) rfl ?_
  refine dl_st (sem_store_a ty32 rfl rfl rfl rfl rfl rfl) ?_
  refine dl_r (sem_assign rfl rfl) ?_
  refine dl_end ?_
  refine dw_seq ?_
  -- region 5
  refine dw_region (by kernel_rfl) ?_
  refine dl_r (sem_call rfl rfl (aw_r_0_1_2) rfl) ?_
  refine dl_r (sem_call rfl rfl (aw_r_0_1_3) rfl) ?_
  refine dl_r (sem_call rfl rfl (aw_bad) rfl) ?_
  refine dl_r (sem_move rfl rfl) ?_
  refine dl_r (sem_extract rfl rfl rfl) ?_
  refine dl_r (sem_extract rfl rfl rfl) ?_
  refine dl_new (sem_alloc zc32 rfl) rfl ?_
  refine dl_st (sem_store_a ty32 rfl rfl rfl rfl rfl rfl) ?_
  refine dl_r (sem_assign rfl rfl) ?_
  refine dl_end ?_
  refine dw_seq ?_
  refine dw_seq ?_
  -- region 6
  refine dw_region (by kernel_rfl) ?_
  refine dl_r (sem_move rfl rfl) ?_
  refine dl_r (sem_cmp rfl rfl rfl rfl) ?_
  refine dl_r (sem_move rfl rfl) ?_
  refine dl_r (sem_move rfl rfl) ?_
  refine dl_r (sem_cmp rfl rfl rfl rfl) ?_
  refine dl_r (sem_pick rfl rfl rfl rfl) ?_
  refine dl_r (sem_move rfl rfl) ?_
  refine dl_r (sem_move rfl rfl) ?_
  refine dl_r (sem_cmp rfl rfl rfl rfl) ?_
  refine dl_r (sem_pick rfl rfl rfl rfl) ?_
  refine dl_r (sem_move rfl rfl) ?_
  refine dl_r (sem_move rfl rfl) ?_
  refine dl_r (sem_cmp rfl rfl rfl rfl) ?_
  refine dl_r (sem_pick rfl rfl rfl rfl) ?_
  refine dl_r (sem_move rfl rfl) ?_
  refine dl_r (sem_move rfl rfl) ?_
  refine dl_r (sem_cmp rfl rfl rfl rfl) ?_
  refine dl_r (sem_pick rfl rfl rfl rfl) ?_
  refine dl_end ?_
  refine dw_false rfl ?_
  refine dw_skip ?_
  refine dw_seq ?_
  -- region 8
  refine dw_region (by kernel_rfl) ?_
  refine dl_r (sem_build (us := ([.i .i64 3] ++ [.i .i64 (-1)])) fs60 zc60 rfl rfl rfl) ?_
  refine dl_r (sem_call rfl rfl (aw_grid) rfl) ?_
  refine dl_new (sem_alloc zc32 rfl) rfl ?_
  refine dl_st (sem_store_a ty32 rfl rfl rfl rfl rfl rfl) ?_
  refine dl_end ?_
  refine dw_seq ?_
  -- region 9
  refine dw_draw 29 [] follows_mixed (by kernel_rfl) rfl rfl ?_
  refine dq_r (sem_load (us := (cR 1 ++ cR 1 ++ cR 3 ++ cR 0 ++ cR 2)) ty32 rfl rfl rfl rfl rfl) ?_
  refine dq_r (sem_call rfl rfl (aw_X_1_1_3_0_2) rfl) ?_
  refine dq_r (sem_call rfl rfl (aw_r_1_1_2) rfl) ?_
  refine dq_r (sem_call rfl rfl (aw_s_1_1_2) rfl) ?_
  refine dq_r (sem_move rfl rfl) ?_
  refine dq_r (sem_load (us := (cR 1 ++ cR 1 ++ cR 3 ++ cR 0 ++ cR 2)) ty32 rfl rfl rfl rfl rfl) ?_
  refine dq_r (sem_call rfl rfl (aw_Y_1_1_3_0_2) rfl) ?_
  refine dq_r (sem_call rfl rfl (aw_r_3_0_0) rfl) ?_
  refine dq_r (sem_call rfl rfl (aw_s_3_0_0) rfl) ?_
  refine dq_r (sem_pick rfl rfl rfl rfl) ?_
  refine dq_r (sem_move rfl rfl) ?_
  refine dq_r (sem_load (us := (cR 0 ++ cR 1 ++ cR 0 ++ cR 0 ++ cR 8)) ty32 rfl rfl rfl rfl rfl) ?_
  refine dq_r (sem_load (us := (cR 0 ++ cR 2 ++ cR 0 ++ cR 0 ++ cR 2)) ty32 rfl rfl rfl rfl rfl) ?_
  refine dq_r (sem_call rfl rfl (aw_eq) rfl) ?_
  refine dq_r (sem_pick rfl rfl rfl rfl) ?_
  refine dq_r (sem_move rfl rfl) ?_
  refine dq_r (sem_load (us := (cR 0 ++ cR 1 ++ cR 0 ++ cR 0 ++ cR 8)) ty32 rfl rfl rfl rfl rfl) ?_
  refine dq_r (sem_load (us := (cR 3 ++ cR 0 ++ cR (-1) ++ cR 0 ++ cR 0)) ty32 rfl rfl rfl rfl rfl) ?_
  refine dq_r (sem_call rfl rfl (aw_cmp) rfl) ?_
  refine dq_r (sem_cmp rfl rfl rfl rfl) ?_
  refine dq_r (sem_pick rfl rfl rfl rfl) ?_
  refine dq_r (sem_move rfl rfl) ?_
  refine dq_r (sem_load (us := (cR 0 ++ cR 1 ++ cR 0 ++ cR 1 ++ cR 2)) ty32 rfl rfl rfl rfl rfl) ?_
  refine dq_r (sem_call rfl rfl (aw_vec) rfl) ?_
  refine dq_r (sem_call rfl rfl (aw_sq) rfl) ?_
  refine dq_r (sem_call rfl rfl (aw_r_5_m2_2) rfl) ?_
  refine dq_r (sem_call rfl rfl (aw_s_5_m2_2) rfl) ?_
  refine dq_r (sem_pick rfl rfl rfl rfl) ?_
  refine dq_r (sem_assign rfl rfl) ?_
  refine dq_end ?_
  refine dl_start0 ?_
  refine dl_end ?_
  refine dw_ret ?_
  -- path 
  exact ⟨.inr rfl, (resL_tmp rfl resL_nil)⟩
end Go.Proofs.YthpalcfhhicmgaaGreat
/- Plain: what the laws of points lean on. -/
namespace Go.Proofs.YthpalcfhhicmgaaGreat
open Go Go.RowKit
/-- A slice made of values, given out at once. -/
theorem sem_slit_D {P : Program} {ops : Array Oper} {T : TF} {B : BF} {dst : Option Nat} {U e : TypeId} {ps : Array (Nat × Operand)} {ty : TypeId} {pos : String} {af : Array Edge} {g : Option (Nat × Bool)} {n m by_ : Nat} {zs us : List CellD} {dps : List (Nat × D0)}
    (hU : elB P U = some (e, m, by_, zs)) (hp : partsD T ps.toList = some dps) (hf : fillD (fun i => some (i * m, m)) (List.replicate n zs).flatten dps = some us) (hl : us.length = n * m) (hn : n * m ≤ 16777216) (hm : 0 < n * m)
    (hg : gd ops ⟨dst, .buildSlice U n ps, ty, pos, af, g⟩ T = some true) : Sem P ops ⟨dst, .buildSlice U n ps, ty, pos, af, g⟩ T B (.r (.v (.c (.s n us)))) := by
  have h := sem_slit (B := B) hU hp hf hn hm hg
  refine ⟨nop rfl, fun V β a w hs => ?_⟩
  obtain ⟨hw, hg⟩ := h V β a w hs
  refine ⟨hw, hg.mono ?_⟩
  rintro v w' ⟨vs, rfl, rfl, hr⟩
  refine ⟨?_, (Below.refl _ w).alloc (Nat.le_refl _) _⟩
  have hkeep := Keep.below (av := V) ((Below.refl w.heap.size w).alloc (Nat.le_refl _) (.cells vs e))
  have hr2 := hr.keep hkeep
  have hvl : vs.size = n * m := by have := hr.1; rw [hl] at this; simpa using this
  have hn0 : 0 < n := by
    rcases Nat.eq_zero_or_pos n with h0 | h0
    · rw [h0, Nat.zero_mul] at hm; omega
    · exact h0
  have hm0 : 0 < m := by
    rcases Nat.eq_zero_or_pos m with h0 | h0
    · rw [h0, Nat.mul_zero] at hm; omega
    · exact h0
  have hnm : n ≤ n * m := Nat.le_mul_of_pos_right n hm0
  refine .s w.heap.size 0 n m n _ (fun j => vs.getD j undef) hn0 (Nat.le_refl _) (by omega) hl (by simp) (fun h => by have := hs.av _ h; omega) (fun j hj => ?_) (fun j u hj => ?_)
  · rw [Nat.zero_add, cells_of_box (heap_alloc_new w (.cells vs e))]
    have : j < vs.size := by omega
    simp [Array.getD, this]
  · have hlt : j < n * m := by have := (List.getElem?_eq_some_iff.1 hj).1; omega
    refine hr2.2 j _ u ?_ hj
    rw [Array.getElem?_toList]
    have : j < vs.size := by omega
    simp [Array.getD, this]
theorem cI_zero : cI 0 = [.b false, .s 0 []] := by
  unfold cI cL
  rw [show (0 : Int).natAbs = 0 from rfl, lim_zero]
  rfl
theorem vRoot_bc {b c : Rat} (h : vRoot b c = true) : (b = 0 ↔ c = 0) := by
  unfold vRoot at h
  split at h
  · have h2 := of_decide_eq_true h
    exact ⟨fun _ => h2.2, fun _ => h2.1⟩
  · rename_i hn
    exact ⟨fun e => absurd (.inl e) hn, fun e => absurd (.inr e) hn⟩
theorem lm_x {b1 c1 b2 c2 : Rat} (h : vRoot b1 c1 = true) : zc b1 (zcp b1 b2 (cc b1 c1 c2)) = c1 := by
  by_cases hb : b1 = 0
  · rw [zc_t hb, (vRoot_bc h).1 hb]
  · rw [zc_f hb, zcp_f1 hb, cc_f hb]
theorem lm_y {b1 c1 b2 c2 : Rat} (h : vRoot b2 c2 = true) (hb0 : ¬ bad b1 c1 b2 c2) : zc b2 (zcp b1 b2 (cc b1 c1 c2)) = c2 := by
  by_cases hb : b2 = 0
  · rw [zc_t hb, (vRoot_bc h).1 hb]
  · rw [zc_f hb, zcp_f2 hb]
    by_cases h1 : b1 = 0
    · rw [cc_t h1]
    · rw [cc_f h1]
      apply Classical.byContradiction
      intro hc
      exact hb0 ⟨h1, hb, hc⟩
theorem Rz.zcp {k : Nat} {b1 b2 c : Rat} (h : Rz k c) (hk : 1 ≤ k) : Rz k (zcp b1 b2 c) := by
  unfold Go.Proofs.YthpalcfhhicmgaaGreat.zcp
  split
  · exact Rz.zero hk
  · exact h
theorem Rz.cc {k : Nat} {b1 c1 c2 : Rat} (h : Rz k c1) (h2 : Rz k c2) : Rz k (cc b1 c1 c2) := by
  unfold Go.Proofs.YthpalcfhhicmgaaGreat.cc
  split
  · exact h2
  · exact h
theorem rsame_refl (a b c : Rat) : rsame a b c a b c = true := rsame_iff.2 ⟨rfl, rfl, rfl⟩
theorem psame_refl (a b c d e : Rat) : psame a b c d e a b c d e = true := psame_iff.2 ⟨rfl, rfl, rfl, rfl, rfl⟩
theorem vsame_refl (a b : Rat) : vsame a b a b = true := by unfold vsame; simp
theorem and3_s {a b c : Bool} (h : ¬ ((a && (b && c)) = true)) : (a && (b && c)) = false := by simpa using h
end Go.Proofs.YthpalcfhhicmgaaGreat
/- Zero points are the same. -/
namespace Go.Proofs.YthpalcfhhicmgaaGreat
open Go Go.RowKit
def zF4 : List CellD := [.b false, .s 0 [], .b false, .s 0 []]
theorem nSame0 : Ok Tryz.prog 92 [.a [.b false, .s 0 []], .a [.b false, .s 0 []]] [.c (.b true)] := by
  have h := nSame_ok (x := 0) (y := 0) (Sz.small (by decide) (by decide) (by decide)) (Sz.small (by decide) (by decide) (by decide))
  unfold dI at h
  rw [cI_zero] at h
  exact h
theorem sSame0  : Ok Tryz.prog 56 [.a (zF4), .a (zF4)] [.c (.b true)] := by
  refine Ok.of (by kernel_rfl) Tryz.func56 rfl rfl ?_
  rw [show Tryz.f56.ntmps = 17 from rfl, show Tryz.f56.results.toList = [.tmp 4] from rfl]
  refine dw_seq ?_
  -- region 0
  refine dw_region (by kernel_rfl) ?_
  refine dl_new (sem_box_a rfl rfl) rfl ?_
  refine dl_new (sem_box_a rfl rfl) rfl ?_
  refine dl_r (sem_assign rfl rfl) ?_
  refine dl_end ?_
  refine dw_seq ?_
  -- region 1
  refine dw_region (by kernel_rfl) ?_
  refine dl_r (sem_field fd26_0 rfl rfl) ?_
  refine dl_r (sem_load ty24 rfl rfl rfl rfl rfl) ?_
  refine dl_r (sem_field fd26_0 rfl rfl) ?_
  refine dl_r (sem_load ty24 rfl rfl rfl rfl rfl) ?_
  refine dl_r (sem_call rfl rfl (nSame0) rfl) ?_
  refine dl_r (sem_move rfl rfl) ?_
  refine dl_r (sem_field fd26_1 rfl rfl) ?_
  refine dl_r (sem_load ty24 rfl rfl rfl rfl rfl) ?_
  refine dl_r (sem_field fd26_1 rfl rfl) ?_
  refine dl_r (sem_load ty24 rfl rfl rfl rfl rfl) ?_
  refine dl_r (sem_call rfl rfl (nSame0) rfl) ?_
  refine dl_r (sem_pick rfl rfl rfl rfl) ?_
  refine dl_r (sem_assign rfl rfl) ?_
  refine dl_end ?_
  refine dw_ret ?_
  -- path 
  exact ⟨.inr rfl, (resL_tmp rfl resL_nil)⟩
theorem rpSame0  : Ok Tryz.prog 15 [.a (zP), .a (zP)] [.c (.b true)] := by
  refine Ok.of (by kernel_rfl) Tryz.func15 rfl rfl ?_
  rw [show Tryz.f15.ntmps = 38 from rfl, show Tryz.f15.results.toList = [.tmp 4] from rfl]
  refine dw_seq ?_
  -- region 0
  refine dw_region (by kernel_rfl) ?_
  refine dl_new (sem_box_a rfl rfl) rfl ?_
  refine dl_new (sem_box_a rfl rfl) rfl ?_
  refine dl_r (sem_assign rfl rfl) ?_
  refine dl_end ?_
  refine dw_seq ?_
  -- region 1
  refine dw_region (by kernel_rfl) ?_
  refine dl_r (sem_field fd32_0 rfl rfl) ?_
  refine dl_r (sem_load ty26 rfl rfl rfl rfl rfl) ?_
  refine dl_r (sem_field fd32_0 rfl rfl) ?_
  refine dl_r (sem_load ty26 rfl rfl rfl rfl rfl) ?_
  refine dl_r (sem_call rfl rfl (sSame0) rfl) ?_
  refine dl_r (sem_move rfl rfl) ?_
  refine dl_r (sem_field fd32_1 rfl rfl) ?_
  refine dl_r (sem_load ty26 rfl rfl rfl rfl rfl) ?_
  refine dl_r (sem_field fd32_1 rfl rfl) ?_
  refine dl_r (sem_load ty26 rfl rfl rfl rfl rfl) ?_
  refine dl_r (sem_call rfl rfl (sSame0) rfl) ?_
  refine dl_r (sem_pick rfl rfl rfl rfl) ?_
  refine dl_r (sem_move rfl rfl) ?_
  refine dl_r (sem_field fd32_2 rfl rfl) ?_
  refine dl_r (sem_load ty26 rfl rfl rfl rfl rfl) ?_
  refine dl_r (sem_field fd32_2 rfl rfl) ?_
  refine dl_r (sem_load ty26 rfl rfl rfl rfl rfl) ?_
  refine dl_r (sem_call rfl rfl (sSame0) rfl) ?_
  refine dl_r (sem_pick rfl rfl rfl rfl) ?_
  refine dl_r (sem_move rfl rfl) ?_
  refine dl_r (sem_field fd32_3 rfl rfl) ?_
  refine dl_r (sem_load ty26 rfl rfl rfl rfl rfl) ?_
  refine dl_r (sem_field fd32_3 rfl rfl) ?_
  refine dl_r (sem_load ty26 rfl rfl rfl rfl rfl) ?_
  refine dl_r (sem_call rfl rfl (sSame0) rfl) ?_
  refine dl_r (sem_pick rfl rfl rfl rfl) ?_
  refine dl_r (sem_move rfl rfl) ?_
  refine dl_r (sem_field fd32_4 rfl rfl) ?_
  refine dl_r (sem_load ty26 rfl rfl rfl rfl rfl) ?_
  refine dl_r (sem_field fd32_4 rfl rfl) ?_
  refine dl_r (sem_load ty26 rfl rfl rfl rfl rfl) ?_
  refine dl_r (sem_call rfl rfl (sSame0) rfl) ?_
  refine dl_r (sem_pick rfl rfl rfl rfl) ?_
  refine dl_r (sem_assign rfl rfl) ?_
  refine dl_end ?_
  refine dw_ret ?_
  -- path 
  exact ⟨.inr rfl, (resL_tmp rfl resL_nil)⟩
theorem rpSameVec0  : Ok Tryz.prog 39 [.a (zV), .a (zV)] [.c (.b true)] := by
  refine Ok.of (by kernel_rfl) Tryz.func39 rfl rfl ?_
  rw [show Tryz.f39.ntmps = 17 from rfl, show Tryz.f39.results.toList = [.tmp 4] from rfl]
  refine dw_seq ?_
  -- region 0
  refine dw_region (by kernel_rfl) ?_
  refine dl_new (sem_box_a rfl rfl) rfl ?_
  refine dl_new (sem_box_a rfl rfl) rfl ?_
  refine dl_r (sem_assign rfl rfl) ?_
  refine dl_end ?_
  refine dw_seq ?_
  -- region 1
  refine dw_region (by kernel_rfl) ?_
  refine dl_r (sem_field fd42_0 rfl rfl) ?_
  refine dl_r (sem_load ty26 rfl rfl rfl rfl rfl) ?_
  refine dl_r (sem_field fd42_0 rfl rfl) ?_
  refine dl_r (sem_load ty26 rfl rfl rfl rfl rfl) ?_
  refine dl_r (sem_call rfl rfl (sSame0) rfl) ?_
  refine dl_r (sem_move rfl rfl) ?_
  refine dl_r (sem_field fd42_1 rfl rfl) ?_
  refine dl_r (sem_load ty26 rfl rfl rfl rfl rfl) ?_
  refine dl_r (sem_field fd42_1 rfl rfl) ?_
  refine dl_r (sem_load ty26 rfl rfl rfl rfl rfl) ?_
  refine dl_r (sem_call rfl rfl (sSame0) rfl) ?_
  refine dl_r (sem_pick rfl rfl rfl rfl) ?_
  refine dl_r (sem_assign rfl rfl) ?_
  refine dl_end ?_
  refine dw_ret ?_
  -- path 
  exact ⟨.inr rfl, (resL_tmp rfl resL_nil)⟩
end Go.Proofs.YthpalcfhhicmgaaGreat
/- PointMake: the law at all readings. -/
namespace Go.Proofs.YthpalcfhhicmgaaGreat
open Go Go.RowKit
theorem lwMake_A {x y z u v t : RN} (wx : x.Wf) (wy : y.Wf) (wz : z.Wf) (hv : (x.s 3 && (y.s 3 && z.s 3)) = false) : Ok Tryz.prog 3 [.a (cN x ++ cN y ++ cN z), .a (cN u ++ cN v ++ cN t)] [.c (.b true)] := by
  refine Ok.of (by kernel_rfl) Tryz.func3 rfl rfl ?_
  rw [show Tryz.f3.ntmps = 57 from rfl, show Tryz.f3.results.toList = [.tmp 4] from rfl]
  refine dw_seq ?_
  -- region 0
  refine dw_region (by kernel_rfl) ?_
  refine dl_new (sem_box_a rfl rfl) rfl ?_
  refine dl_new (sem_box_a rfl rfl) rfl ?_
  refine dl_r (sem_assign rfl rfl) ?_
  refine dl_end ?_
  refine dw_seq ?_
  refine dw_seq ?_
  -- region 1
  refine dw_region (by kernel_rfl) ?_
  refine dl_r (sem_call rfl rfl (awake_ok) rfl) ?_
  refine dl_r (sem_not rfl rfl) ?_
  refine dl_r (sem_move rfl rfl) ?_
  refine dl_r (sem_load (us := (cN x ++ cN y ++ cN z)) ty28 rfl rfl rfl rfl rfl) ?_
  refine dl_r (sem_call rfl rfl (rrSmallA (by assumption) (by assumption) (by assumption) (by decide) hv) rfl) ?_
  refine dl_r (sem_not rfl rfl) ?_
  refine dl_r (sem_pick rfl rfl rfl rfl) ?_
  refine dl_r (sem_move rfl rfl) ?_
  refine dl_skip (sem_skip rfl) ?_
  refine dl_skip (sem_skip rfl) ?_
  refine dl_skip (sem_skip rfl) ?_
  refine dl_r (sem_pick rfl rfl rfl rfl) ?_
  refine dl_end ?_
  refine dw_true rfl ?_
  refine dw_seq ?_
  -- region 2
  refine dw_region (by kernel_rfl) ?_
  refine dl_r (sem_call rfl rfl (awake_ok) rfl) ?_
  refine dl_r (sem_assign rfl rfl) ?_
  refine dl_end ?_
  refine dw_ret ?_
  -- path 
  exact ⟨.inr rfl, (resL_tmp rfl resL_nil)⟩
theorem lwMake_B {u v t : RN} {a1 b1 c1 : Rat} (ha1 : Rz 3 a1) (hb1 : Rz 3 b1) (hc1 : Rz 3 c1) (v1 : vRoot b1 c1 = false) : Ok Tryz.prog 3 [.a (cR a1 ++ cR b1 ++ cR c1), .a (cN u ++ cN v ++ cN t)] [.c (.b true)] := by
  refine Ok.of (by kernel_rfl) Tryz.func3 rfl rfl ?_
  rw [show Tryz.f3.ntmps = 57 from rfl, show Tryz.f3.results.toList = [.tmp 4] from rfl]
  refine dw_seq ?_
  -- region 0
  refine dw_region (by kernel_rfl) ?_
  refine dl_new (sem_box_a rfl rfl) rfl ?_
  refine dl_new (sem_box_a rfl rfl) rfl ?_
  refine dl_r (sem_assign rfl rfl) ?_
  refine dl_end ?_
  refine dw_seq ?_
  refine dw_seq ?_
  -- region 1
  refine dw_region (by kernel_rfl) ?_
  refine dl_r (sem_call rfl rfl (awake_ok) rfl) ?_
  refine dl_r (sem_not rfl rfl) ?_
  refine dl_r (sem_move rfl rfl) ?_
  refine dl_r (sem_load (us := (cR a1 ++ cR b1 ++ cR c1)) ty28 rfl rfl rfl rfl rfl) ?_
  refine dl_r (sem_call rfl rfl (rcastb (rrSmall_R (k := 3) (by decide) (by assumption) (by assumption) (by assumption)) v1) rfl) ?_
  refine dl_r (sem_not rfl rfl) ?_
  refine dl_r (sem_pick rfl rfl rfl rfl) ?_
  refine dl_r (sem_move rfl rfl) ?_
  refine dl_skip (sem_skip rfl) ?_
  refine dl_skip (sem_skip rfl) ?_
  refine dl_skip (sem_skip rfl) ?_
  refine dl_r (sem_pick rfl rfl rfl rfl) ?_
  refine dl_end ?_
  refine dw_true rfl ?_
  refine dw_seq ?_
  -- region 2
  refine dw_region (by kernel_rfl) ?_
  refine dl_r (sem_call rfl rfl (awake_ok) rfl) ?_
  refine dl_r (sem_assign rfl rfl) ?_
  refine dl_end ?_
  refine dw_ret ?_
  -- path 
  exact ⟨.inr rfl, (resL_tmp rfl resL_nil)⟩
theorem lwMake_C {u v t : RN} (wu : u.Wf) (wv : v.Wf) (wt : t.Wf) {a1 b1 c1 : Rat} (ha1 : Rz 3 a1) (hb1 : Rz 3 b1) (hc1 : Rz 3 c1) (v1 : vRoot b1 c1 = true) (hv : (u.s 3 && (v.s 3 && t.s 3)) = false) : Ok Tryz.prog 3 [.a (cR a1 ++ cR b1 ++ cR c1), .a (cN u ++ cN v ++ cN t)] [.c (.b true)] := by
  refine Ok.of (by kernel_rfl) Tryz.func3 rfl rfl ?_
  rw [show Tryz.f3.ntmps = 57 from rfl, show Tryz.f3.results.toList = [.tmp 4] from rfl]
  refine dw_seq ?_
  -- region 0
  refine dw_region (by kernel_rfl) ?_
  refine dl_new (sem_box_a rfl rfl) rfl ?_
  refine dl_new (sem_box_a rfl rfl) rfl ?_
  refine dl_r (sem_assign rfl rfl) ?_
  refine dl_end ?_
  refine dw_seq ?_
  refine dw_seq ?_
  -- region 1
  refine dw_region (by kernel_rfl) ?_
  refine dl_r (sem_call rfl rfl (awake_ok) rfl) ?_
  refine dl_r (sem_not rfl rfl) ?_
  refine dl_r (sem_move rfl rfl) ?_
  refine dl_r (sem_load (us := (cR a1 ++ cR b1 ++ cR c1)) ty28 rfl rfl rfl rfl rfl) ?_
  refine dl_r (sem_call rfl rfl (rcastb (rrSmall_R (k := 3) (by decide) (by assumption) (by assumption) (by assumption)) v1) rfl) ?_
  refine dl_r (sem_not rfl rfl) ?_
  refine dl_r (sem_pick rfl rfl rfl rfl) ?_
  refine dl_r (sem_move rfl rfl) ?_
  refine dl_r (sem_load (us := (cN u ++ cN v ++ cN t)) ty28 rfl rfl rfl rfl rfl) ?_
  refine dl_r (sem_call rfl rfl (rrSmallA (by assumption) (by assumption) (by assumption) (by decide) hv) rfl) ?_
  refine dl_r (sem_not rfl rfl) ?_
  refine dl_r (sem_pick rfl rfl rfl rfl) ?_
  refine dl_end ?_
  refine dw_true rfl ?_
  refine dw_seq ?_
  -- region 2
  refine dw_region (by kernel_rfl) ?_
  refine dl_r (sem_call rfl rfl (awake_ok) rfl) ?_
  refine dl_r (sem_assign rfl rfl) ?_
  refine dl_end ?_
  refine dw_ret ?_
  -- path 
  exact ⟨.inr rfl, (resL_tmp rfl resL_nil)⟩
theorem lwMake_D {a1 b1 c1 a2 b2 c2 : Rat} (ha1 : Rz 3 a1) (hb1 : Rz 3 b1) (hc1 : Rz 3 c1) (ha2 : Rz 3 a2) (hb2 : Rz 3 b2) (hc2 : Rz 3 c2) (v1 : vRoot b1 c1 = true) (v2 : vRoot b2 c2 = false) : Ok Tryz.prog 3 [.a (cR a1 ++ cR b1 ++ cR c1), .a (cR a2 ++ cR b2 ++ cR c2)] [.c (.b true)] := by
  refine Ok.of (by kernel_rfl) Tryz.func3 rfl rfl ?_
  rw [show Tryz.f3.ntmps = 57 from rfl, show Tryz.f3.results.toList = [.tmp 4] from rfl]
  refine dw_seq ?_
  -- region 0
  refine dw_region (by kernel_rfl) ?_
  refine dl_new (sem_box_a rfl rfl) rfl ?_
  refine dl_new (sem_box_a rfl rfl) rfl ?_
  refine dl_r (sem_assign rfl rfl) ?_
  refine dl_end ?_
  refine dw_seq ?_
  refine dw_seq ?_
  -- region 1
  refine dw_region (by kernel_rfl) ?_
  refine dl_r (sem_call rfl rfl (awake_ok) rfl) ?_
  refine dl_r (sem_not rfl rfl) ?_
  refine dl_r (sem_move rfl rfl) ?_
  refine dl_r (sem_load (us := (cR a1 ++ cR b1 ++ cR c1)) ty28 rfl rfl rfl rfl rfl) ?_
  refine dl_r (sem_call rfl rfl (rcastb (rrSmall_R (k := 3) (by decide) (by assumption) (by assumption) (by assumption)) v1) rfl) ?_
  refine dl_r (sem_not rfl rfl) ?_
  refine dl_r (sem_pick rfl rfl rfl rfl) ?_
  refine dl_r (sem_move rfl rfl) ?_
  refine dl_r (sem_load (us := (cR a2 ++ cR b2 ++ cR c2)) ty28 rfl rfl rfl rfl rfl) ?_
  refine dl_r (sem_call rfl rfl (rcastb (rrSmall_R (k := 3) (by decide) (by assumption) (by assumption) (by assumption)) v2) rfl) ?_
  refine dl_r (sem_not rfl rfl) ?_
  refine dl_r (sem_pick rfl rfl rfl rfl) ?_
  refine dl_end ?_
  refine dw_true rfl ?_
  refine dw_seq ?_
  -- region 2
  refine dw_region (by kernel_rfl) ?_
  refine dl_r (sem_call rfl rfl (awake_ok) rfl) ?_
  refine dl_r (sem_assign rfl rfl) ?_
  refine dl_end ?_
  refine dw_ret ?_
  -- path 
  exact ⟨.inr rfl, (resL_tmp rfl resL_nil)⟩
theorem lwMake_E {a1 b1 c1 a2 b2 c2 : Rat} (ha1 : Rz 3 a1) (hb1 : Rz 3 b1) (hc1 : Rz 3 c1) (ha2 : Rz 3 a2) (hb2 : Rz 3 b2) (hc2 : Rz 3 c2) (v1 : vRoot b1 c1 = true) (v2 : vRoot b2 c2 = true) (hbad : bad b1 c1 b2 c2) : Ok Tryz.prog 3 [.a (cR a1 ++ cR b1 ++ cR c1), .a (cR a2 ++ cR b2 ++ cR c2)] [.c (.b true)] := by
  have ka1 : Rz 300 a1 := ha1.mono (by decide)
  have kb1 : Rz 300 b1 := hb1.mono (by decide)
  have kc1 : Rz 300 c1 := hc1.mono (by decide)
  have ka2 : Rz 300 a2 := ha2.mono (by decide)
  have kb2 : Rz 300 b2 := hb2.mono (by decide)
  have kc2 : Rz 300 c2 := hc2.mono (by decide)
  refine Ok.of (by kernel_rfl) Tryz.func3 rfl rfl ?_
  rw [show Tryz.f3.ntmps = 57 from rfl, show Tryz.f3.results.toList = [.tmp 4] from rfl]
  refine dw_seq ?_
  -- region 0
  refine dw_region (by kernel_rfl) ?_
  refine dl_new (sem_box_a rfl rfl) rfl ?_
  refine dl_new (sem_box_a rfl rfl) rfl ?_
  refine dl_r (sem_assign rfl rfl) ?_
  refine dl_end ?_
  refine dw_seq ?_
  refine dw_seq ?_
  -- region 1
  refine dw_region (by kernel_rfl) ?_
  refine dl_r (sem_call rfl rfl (awake_ok) rfl) ?_
  refine dl_r (sem_not rfl rfl) ?_
  refine dl_r (sem_move rfl rfl) ?_
  refine dl_r (sem_load (us := (cR a1 ++ cR b1 ++ cR c1)) ty28 rfl rfl rfl rfl rfl) ?_
  refine dl_r (sem_call rfl rfl (rcastb (rrSmall_R (k := 3) (by decide) (by assumption) (by assumption) (by assumption)) v1) rfl) ?_
  refine dl_r (sem_not rfl rfl) ?_
  refine dl_r (sem_pick rfl rfl rfl rfl) ?_
  refine dl_r (sem_move rfl rfl) ?_
  refine dl_r (sem_load (us := (cR a2 ++ cR b2 ++ cR c2)) ty28 rfl rfl rfl rfl rfl) ?_
  refine dl_r (sem_call rfl rfl (rcastb (rrSmall_R (k := 3) (by decide) (by assumption) (by assumption) (by assumption)) v2) rfl) ?_
  refine dl_r (sem_not rfl rfl) ?_
  refine dl_r (sem_pick rfl rfl rfl rfl) ?_
  refine dl_end ?_
  refine dw_false rfl ?_
  refine dw_skip ?_
  refine dw_seq ?_
  -- region 3
  refine dw_region (by kernel_rfl) ?_
  refine dl_r (sem_load (us := (cR a1 ++ cR b1 ++ cR c1)) ty28 rfl rfl rfl rfl rfl) ?_
  refine dl_r (sem_load (us := (cR a2 ++ cR b2 ++ cR c2)) ty28 rfl rfl rfl rfl rfl) ?_
  refine dl_r (sem_call rfl rfl (ptMake_bad (by assumption) (by assumption) hbad) rfl) ?_
  refine dl_r (sem_move rfl rfl) ?_
  refine dl_r (sem_extract rfl rfl rfl) ?_
  refine dl_r (sem_extract rfl rfl rfl) ?_
  refine dl_new (sem_alloc zc32 rfl) rfl ?_
  refine dl_st (sem_store_a ty32 rfl rfl rfl rfl rfl rfl) ?_
  refine dl_r (sem_assign rfl rfl) ?_
  refine dl_end ?_
  refine dw_seq ?_
  -- region 4
  refine dw_region (by kernel_rfl) ?_
  refine dl_r (sem_load (us := (cR a1 ++ cR b1 ++ cR c1)) ty28 rfl rfl rfl rfl rfl) ?_
  refine dl_r (sem_load (us := (cR a2 ++ cR b2 ++ cR c2)) ty28 rfl rfl rfl rfl rfl) ?_
  refine dl_r (sem_call rfl rfl (rpMake_bad (by assumption) (by assumption) hbad) rfl) ?_
  refine dl_r (sem_move rfl rfl) ?_
  refine dl_r (sem_extract rfl rfl rfl) ?_
  refine dl_r (sem_extract rfl rfl rfl) ?_
  refine dl_new (sem_alloc zc32 rfl) rfl ?_
  refine dl_st (sem_store_a ty32 rfl rfl rfl rfl rfl rfl) ?_
  refine dl_r (sem_assign rfl rfl) ?_
  refine dl_end ?_
  refine dw_seq ?_
  refine dw_seq ?_
  -- region 5
  refine dw_region (by kernel_rfl) ?_
  refine dl_r (sem_move rfl rfl) ?_
  refine dl_r (sem_move rfl rfl) ?_
  refine dl_r (sem_cmp rfl rfl rfl rfl) ?_
  refine dl_r (sem_move rfl rfl) ?_
  refine dl_r (sem_load (us := zP) ty32 rfl rfl rfl rfl rfl) ?_
  refine dl_r (sem_load (us := zP) ty32 rfl rfl rfl rfl rfl) ?_
  refine dl_r (sem_call rfl rfl (rpSame0) rfl) ?_
  refine dl_r (sem_not rfl rfl) ?_
  refine dl_r (sem_pick rfl rfl rfl rfl) ?_
  refine dl_end ?_
  refine dw_false rfl ?_
  refine dw_skip ?_
  refine dw_seq ?_
  -- region 7
  refine dw_draw 15 [] follows_mixed (by kernel_rfl) rfl rfl ?_
  refine dq_r (sem_move rfl rfl) ?_
  refine dq_r (sem_cmp rfl rfl rfl rfl) ?_
  refine dq_r (sem_move rfl rfl) ?_
  refine dq_skip (sem_skip rfl) ?_
  refine dq_skip (sem_skip rfl) ?_
  refine dq_skip (sem_skip rfl) ?_
  refine dq_skip (sem_skip rfl) ?_
  refine dq_skip (sem_skip rfl) ?_
  refine dq_skip (sem_skip rfl) ?_
  refine dq_skip (sem_skip rfl) ?_
  refine dq_skip (sem_skip rfl) ?_
  refine dq_skip (sem_skip rfl) ?_
  refine dq_skip (sem_skip rfl) ?_
  refine dq_r (sem_pick rfl rfl rfl rfl) ?_
  refine dq_r (sem_assign rfl rfl) ?_
  refine dq_end ?_
  refine dl_start0 ?_
  refine dl_end ?_
  refine dw_ret ?_
  -- path 
  exact ⟨.inr rfl, (resL_tmp rfl resL_nil)⟩
theorem lwMake_F {a1 b1 c1 a2 b2 c2 : Rat} (ha1 : Rz 3 a1) (hb1 : Rz 3 b1) (hc1 : Rz 3 c1) (ha2 : Rz 3 a2) (hb2 : Rz 3 b2) (hc2 : Rz 3 c2) (v1 : vRoot b1 c1 = true) (v2 : vRoot b2 c2 = true) (hbad : ¬ bad b1 c1 b2 c2) : Ok Tryz.prog 3 [.a (cR a1 ++ cR b1 ++ cR c1), .a (cR a2 ++ cR b2 ++ cR c2)] [.c (.b true)] := by
  have ka1 : Rz 300 a1 := ha1.mono (by decide)
  have kb1 : Rz 300 b1 := hb1.mono (by decide)
  have kc1 : Rz 300 c1 := hc1.mono (by decide)
  have ka2 : Rz 300 a2 := ha2.mono (by decide)
  have kb2 : Rz 300 b2 := hb2.mono (by decide)
  have kc2 : Rz 300 c2 := hc2.mono (by decide)
  have kz : Rz 300 (zcp b1 b2 (cc b1 c1 c2)) := Rz.zcp (Rz.cc kc1 kc2) (by decide)
  refine Ok.of (by kernel_rfl) Tryz.func3 rfl rfl ?_
  rw [show Tryz.f3.ntmps = 57 from rfl, show Tryz.f3.results.toList = [.tmp 4] from rfl]
  refine dw_seq ?_
  -- region 0
  refine dw_region (by kernel_rfl) ?_
  refine dl_new (sem_box_a rfl rfl) rfl ?_
  refine dl_new (sem_box_a rfl rfl) rfl ?_
  refine dl_r (sem_assign rfl rfl) ?_
  refine dl_end ?_
  refine dw_seq ?_
  refine dw_seq ?_
  -- region 1
  refine dw_region (by kernel_rfl) ?_
  refine dl_r (sem_call rfl rfl (awake_ok) rfl) ?_
  refine dl_r (sem_not rfl rfl) ?_
  refine dl_r (sem_move rfl rfl) ?_
  refine dl_r (sem_load (us := (cR a1 ++ cR b1 ++ cR c1)) ty28 rfl rfl rfl rfl rfl) ?_
  refine dl_r (sem_call rfl rfl (rcastb (rrSmall_R (k := 3) (by decide) (by assumption) (by assumption) (by assumption)) v1) rfl) ?_
  refine dl_r (sem_not rfl rfl) ?_
  refine dl_r (sem_pick rfl rfl rfl rfl) ?_
  refine dl_r (sem_move rfl rfl) ?_
  refine dl_r (sem_load (us := (cR a2 ++ cR b2 ++ cR c2)) ty28 rfl rfl rfl rfl rfl) ?_
  refine dl_r (sem_call rfl rfl (rcastb (rrSmall_R (k := 3) (by decide) (by assumption) (by assumption) (by assumption)) v2) rfl) ?_
  refine dl_r (sem_not rfl rfl) ?_
  refine dl_r (sem_pick rfl rfl rfl rfl) ?_
  refine dl_end ?_
  refine dw_false rfl ?_
  refine dw_skip ?_
  refine dw_seq ?_
  -- region 3
  refine dw_region (by kernel_rfl) ?_
  refine dl_r (sem_load (us := (cR a1 ++ cR b1 ++ cR c1)) ty28 rfl rfl rfl rfl rfl) ?_
  refine dl_r (sem_load (us := (cR a2 ++ cR b2 ++ cR c2)) ty28 rfl rfl rfl rfl rfl) ?_
  refine dl_r (sem_call rfl rfl (ptMake_ok (by assumption) (by assumption) hbad) rfl) ?_
  refine dl_r (sem_move rfl rfl) ?_
  refine dl_r (sem_extract rfl rfl rfl) ?_
  refine dl_r (sem_extract rfl rfl rfl) ?_
  refine dl_new (sem_alloc zc32 rfl) rfl ?_
  refine dl_st (sem_store_a ty32 rfl rfl rfl rfl rfl rfl) ?_
  refine dl_r (sem_assign rfl rfl) ?_
  refine dl_end ?_
  refine dw_seq ?_
  -- region 4
  refine dw_region (by kernel_rfl) ?_
  refine dl_r (sem_load (us := (cR a1 ++ cR b1 ++ cR c1)) ty28 rfl rfl rfl rfl rfl) ?_
  refine dl_r (sem_load (us := (cR a2 ++ cR b2 ++ cR c2)) ty28 rfl rfl rfl rfl rfl) ?_
  refine dl_r (sem_call rfl rfl (rpMake_ok (by assumption) (by assumption) hbad) rfl) ?_
  refine dl_r (sem_move rfl rfl) ?_
  refine dl_r (sem_extract rfl rfl rfl) ?_
  refine dl_r (sem_extract rfl rfl rfl) ?_
  refine dl_new (sem_alloc zc32 rfl) rfl ?_
  refine dl_st (sem_store_a ty32 rfl rfl rfl rfl rfl rfl) ?_
  refine dl_r (sem_assign rfl rfl) ?_
  refine dl_end ?_
  refine dw_seq ?_
  refine dw_seq ?_
  -- region 5
  refine dw_region (by kernel_rfl) ?_
  refine dl_r (sem_move rfl rfl) ?_
  refine dl_r (sem_move rfl rfl) ?_
  refine dl_r (sem_cmp rfl rfl rfl rfl) ?_
  refine dl_r (sem_move rfl rfl) ?_
  refine dl_r (sem_load (us := (cR a1 ++ cR b1 ++ cR a2 ++ cR b2 ++ cR (zcp b1 b2 (cc b1 c1 c2)))) ty32 rfl rfl rfl rfl rfl) ?_
  refine dl_r (sem_load (us := (cR a1 ++ cR b1 ++ cR a2 ++ cR b2 ++ cR (zcp b1 b2 (cc b1 c1 c2)))) ty32 rfl rfl rfl rfl rfl) ?_
  refine dl_r (sem_call rfl rfl (rcastb (rpSame_ok (by assumption) (by assumption) (by assumption) (by assumption) (by assumption) (by assumption) (by assumption) (by assumption) (by assumption) (by assumption)) (psame_refl _ _ _ _ _)) rfl) ?_
  refine dl_r (sem_not rfl rfl) ?_
  refine dl_r (sem_pick rfl rfl rfl rfl) ?_
  refine dl_end ?_
  refine dw_false rfl ?_
  refine dw_skip ?_
  refine dw_seq ?_
  -- region 7
  refine dw_draw 15 [] follows_mixed (by kernel_rfl) rfl rfl ?_
  refine dq_r (sem_move rfl rfl) ?_
  refine dq_r (sem_cmp rfl rfl rfl rfl) ?_
  refine dq_r (sem_move rfl rfl) ?_
  refine dq_r (sem_load (us := (cR a1 ++ cR b1 ++ cR a2 ++ cR b2 ++ cR (zcp b1 b2 (cc b1 c1 c2)))) ty32 rfl rfl rfl rfl rfl) ?_
  refine dq_r (sem_call rfl rfl (rcast3 ptX_ok rfl rfl (lm_x v1)) rfl) ?_
  refine dq_r (sem_load (us := (cR a1 ++ cR b1 ++ cR c1)) ty28 rfl rfl rfl rfl rfl) ?_
  refine dq_r (sem_call rfl rfl (rcastb (rrSame_ok (by assumption) (by assumption) (by assumption) (by assumption) (by assumption) (by assumption)) (rsame_refl _ _ _)) rfl) ?_
  refine dq_r (sem_move rfl rfl) ?_
  refine dq_r (sem_load (us := (cR a1 ++ cR b1 ++ cR a2 ++ cR b2 ++ cR (zcp b1 b2 (cc b1 c1 c2)))) ty32 rfl rfl rfl rfl rfl) ?_
  refine dq_r (sem_call rfl rfl (rcast3 ptY_ok rfl rfl (lm_y v2 hbad)) rfl) ?_
  refine dq_r (sem_load (us := (cR a2 ++ cR b2 ++ cR c2)) ty28 rfl rfl rfl rfl rfl) ?_
  refine dq_r (sem_call rfl rfl (rcastb (rrSame_ok (by assumption) (by assumption) (by assumption) (by assumption) (by assumption) (by assumption)) (rsame_refl _ _ _)) rfl) ?_
  refine dq_r (sem_pick rfl rfl rfl rfl) ?_
  refine dq_r (sem_pick rfl rfl rfl rfl) ?_
  refine dq_r (sem_assign rfl rfl) ?_
  refine dq_end ?_
  refine dl_start0 ?_
  refine dl_end ?_
  refine dw_ret ?_
  -- path 
  exact ⟨.inr rfl, (resL_tmp rfl resL_nil)⟩
end Go.Proofs.YthpalcfhhicmgaaGreat
/- Arguments opened: what the row's readings give as data: fractions, roots, points, vectors. No condition. -/
namespace Go.Proofs.YthpalcfhhicmgaaGreat
open Go.ChangeShapes Go.WideShapes Go.ChangeAt Go.RowKit Go.Deep
theorem own : ownKnob Tryz.prog.godebug = none := by kernel_rfl
theorem laidOut : laidOutB Tryz.prog = true := by kernel_rfl
def NoB : Nat → Prop := fun _ => False
section
variable {H : Type} {enc : TypeId × Value → H} {w : World} {base : Nat} {spare : Nat → Bool} {held : Bool}
theorem olist_of {α : Type} {p : Nat → α → Prop} : ∀ (n : Nat), (∀ i, i < n → ∃ a, p i a) → ∃ l : List α, l.length = n ∧ ∀ i a, l[i]? = some a → p i a
  | 0, _ => ⟨[], rfl, fun i a h => by simp at h⟩
  | n + 1, h => by
    obtain ⟨l, hl, hp⟩ := olist_of n (fun i hi => h i (by omega))
    obtain ⟨a, ha⟩ := h n (by omega)
    refine ⟨l ++ [a], by simp [hl], fun i b hb => ?_⟩
    rcases Nat.lt_or_ge i n with h1 | h1
    · rw [List.getElem?_append_left (by omega)] at hb; exact hp i b hb
    · rw [List.getElem?_append_right (by omega)] at hb
      have : i = n := by
        rcases Nat.lt_or_ge (i - l.length) 1 with h2 | h2
        · omega
        · rw [List.getElem?_eq_none (by simpa using h2)] at hb; cases hb
      subst this
      rw [hl] at hb; simp at hb; subst hb; exact ha
theorem oadd_at (a : Addr) (k : Nat) (v : Value) (h : w.cell? (a.add k) = some v) : w.cell? ⟨a.block, a.off + k, none⟩ = some v := by
  obtain ⟨b, off, spot⟩ := a
  by_cases hk : k = 0
  · subst hk
    have hs : spot = none := by simpa [Addr.add] using World.cell?_spot h
    subst hs
    simpa [Addr.add] using h
  · simpa [Addr.add, hk] using h
theorem ospot_of (a : Addr) (v : Value) (h : w.cell? (a.add 0) = some v) : a = ⟨a.block, a.off, none⟩ := by
  obtain ⟨b, off, spot⟩ := a
  have hs : spot = none := by simpa [Addr.add] using World.cell?_spot h
  subst hs; rfl
theorem olt_of (b off : Nat) (v : Value) (h : w.cell? ⟨b, off, none⟩ = some v) : b < w.heap.size := World.block_lt_of_cell? w _ h
theorem limbs_of {fuel : Nat} {v : Value} {x : DataW H × List MemPlace} (h : DataW.trod enc Tryz.prog w base spare held fuel 22 [v] = some x) : ∃ xs, U32s xs ∧ RdC NoB w v (cM xs) := by
  rcases open_slice1 (P := Tryz.prog) Tryz.underlying22 (by kernel_rfl) h with ⟨hcs, _⟩ | ⟨a, len, cap, m, n, V, D, Pl, hcs, _, hl, hm, hmm, _, hi⟩
  · simp at hcs; subst hcs
    exact ⟨[], fun x hx => (by cases hx), .s0 none 0 (by omega)⟩
  · simp at hcs; subst hcs
    unfold maxLen at hm
    have key : ∀ i, i < len → ∃ z : Int, w.cell? (a.add i) = some (.int .u32 z) ∧ 0 ≤ z ∧ z < 4294967296 := by
      intro i hil
      obtain ⟨hc, ht⟩ := hi i (by rw [hmm]; split <;> omega)
      obtain ⟨z, e, _, hw⟩ := DataW.trod_int (P := Tryz.prog) Tryz.underlying142 ht
      simp at e
      simp [Lit.wf, IntKind.min, IntKind.max, IntKind.signed, IntKind.bits] at hw
      exact ⟨z, by rw [hc, e], by omega, by omega⟩
    obtain ⟨xs, hxl, hxs⟩ := olist_of len key
    refine ⟨xs, fun z hz => ?_, ?_⟩
    · obtain ⟨i, hi', rfl⟩ := List.mem_iff_getElem.1 hz
      have := hxs i _ (List.getElem?_eq_getElem hi')
      omega
    · unfold cM
      rw [hxl]
      refine rdc_of_rdi (xs := xs) ⟨by simp [hxl], fun h0 => ?_⟩ hl (by omega) (fun _ _ _ h => h)
      have h00 := (hxs 0 _ (List.getElem?_eq_getElem (by omega))).1
      have ea := ospot_of a _ h00
      refine ⟨a.block, a.off, by rw [← ea], olt_of _ _ _ (oadd_at a 0 _ h00), fun j u hu => ?_⟩
      rw [List.getElem?_map] at hu
      cases hj : xs[j]? with
      | none => rw [hj] at hu; cases hu
      | some z =>
        rw [hj] at hu
        simp at hu
        subst hu
        exact oadd_at a j _ (hxs j z hj).1
set_option maxRecDepth 100000 in
theorem int_of {fuel : Nat} {cs : List Value} {x : DataW H × List MemPlace} (h : DataW.trod enc Tryz.prog w base spare held fuel 24 cs = some x) : ∃ neg xs, U32s xs ∧ RdCs NoB w cs ([.b neg] ++ [cM xs]) := by
  obtain ⟨xs, n, _, _, hcl, hxl, hf⟩ := DataW.trod_struct (P := Tryz.prog) Tryz.underlying24 h
  have hcl : cs.length = 2 := hcl.trans (by kernel_rfl)
  have hxl : xs.length = 2 := hxl.trans (by kernel_rfl)
  match cs, hcl with
  | [c0, c1], _ =>
    have h0 : DataW.trod enc Tryz.prog w base spare held n 4 [c0] = xs[0]? := hf 0 _ rfl
    have h1 : DataW.trod enc Tryz.prog w base spare held n 22 [c1] = xs[1]? := hf 1 _ rfl
    rw [List.getElem?_eq_getElem (by omega)] at h0 h1
    obtain ⟨b, e, _⟩ := DataW.trod_bool (P := Tryz.prog) Tryz.underlying4 h0
    obtain ⟨zs, hz, hr⟩ := limbs_of h1
    simp at e
    subst e
    exact ⟨b, zs, hz, RdCs.cons (.b b) (RdCs.cons hr RdCs.nil)⟩
set_option maxRecDepth 100000 in
theorem rat_of {fuel : Nat} {cs : List Value} {x : DataW H × List MemPlace} (h : DataW.trod enc Tryz.prog w base spare held fuel 26 cs = some x) : ∃ r : RN, r.Wf ∧ RdCs NoB w cs (cN r) := by
  obtain ⟨xs, n, _, _, hcl, hxl, hf⟩ := DataW.trod_struct (P := Tryz.prog) Tryz.underlying26 h
  have hcl : cs.length = 4 := hcl.trans (by kernel_rfl)
  have hxl : xs.length = 2 := hxl.trans (by kernel_rfl)
  match cs, hcl with
  | [c0, c1, c2, c3], _ =>
    have h0 : DataW.trod enc Tryz.prog w base spare held n 24 [c0, c1] = xs[0]? := hf 0 _ rfl
    have h1 : DataW.trod enc Tryz.prog w base spare held n 24 [c2, c3] = xs[1]? := hf 1 _ rfl
    rw [List.getElem?_eq_getElem (by omega)] at h0 h1
    obtain ⟨b, zs, hz, hr⟩ := int_of h0
    obtain ⟨b', zs', hz', hr'⟩ := int_of h1
    exact ⟨⟨b, zs, b', zs'⟩, ⟨hz, hz'⟩, RdCs.append hr hr'⟩
set_option maxRecDepth 100000 in
theorem vec_of {fuel : Nat} {cs : List Value} {x : DataW H × List MemPlace} (h : DataW.trod enc Tryz.prog w base spare held fuel 42 cs = some x) : ∃ r s : RN, r.Wf ∧ s.Wf ∧ RdCs NoB w cs (cN r ++ cN s) := by
  obtain ⟨xs, n, _, _, hcl, hxl, hf⟩ := DataW.trod_struct (P := Tryz.prog) Tryz.underlying42 h
  have hcl : cs.length = 8 := hcl.trans (by kernel_rfl)
  have hxl : xs.length = 2 := hxl.trans (by kernel_rfl)
  match cs, hcl with
  | [c0, c1, c2, c3, c4, c5, c6, c7], _ =>
    have h0 : DataW.trod enc Tryz.prog w base spare held n 26 [c0, c1, c2, c3] = xs[0]? := hf 0 _ rfl
    have h1 : DataW.trod enc Tryz.prog w base spare held n 26 [c4, c5, c6, c7] = xs[1]? := hf 1 _ rfl
    rw [List.getElem?_eq_getElem (by omega)] at h0 h1
    obtain ⟨r, hz, hr⟩ := rat_of h0
    obtain ⟨s, hz', hr'⟩ := rat_of h1
    exact ⟨r, s, hz, hz', RdCs.append hr hr'⟩
set_option maxRecDepth 100000 in
theorem root_of {fuel : Nat} {cs : List Value} {x : DataW H × List MemPlace} (h : DataW.trod enc Tryz.prog w base spare held fuel 28 cs = some x) : ∃ r s t : RN, r.Wf ∧ s.Wf ∧ t.Wf ∧ RdCs NoB w cs (cN r ++ cN s ++ cN t) := by
  obtain ⟨xs, n, _, _, hcl, hxl, hf⟩ := DataW.trod_struct (P := Tryz.prog) Tryz.underlying28 h
  have hcl : cs.length = 12 := hcl.trans (by kernel_rfl)
  have hxl : xs.length = 3 := hxl.trans (by kernel_rfl)
  match cs, hcl with
  | [c0, c1, c2, c3, c4, c5, c6, c7, c8, c9, c10, c11], _ =>
    have h0 : DataW.trod enc Tryz.prog w base spare held n 26 [c0, c1, c2, c3] = xs[0]? := hf 0 _ rfl
    have h1 : DataW.trod enc Tryz.prog w base spare held n 26 [c4, c5, c6, c7] = xs[1]? := hf 1 _ rfl
    have h2 : DataW.trod enc Tryz.prog w base spare held n 26 [c8, c9, c10, c11] = xs[2]? := hf 2 _ rfl
    rw [List.getElem?_eq_getElem (by omega)] at h0 h1 h2
    obtain ⟨r, hz, hr⟩ := rat_of h0
    obtain ⟨s, hz', hr'⟩ := rat_of h1
    obtain ⟨t, hz2, hr2⟩ := rat_of h2
    exact ⟨r, s, t, hz, hz', hz2, RdCs.append (RdCs.append hr hr') hr2⟩
set_option maxRecDepth 100000 in
theorem point_of {fuel : Nat} {cs : List Value} {x : DataW H × List MemPlace} (h : DataW.trod enc Tryz.prog w base spare held fuel 32 cs = some x) :
    ∃ r s t u v : RN, r.Wf ∧ s.Wf ∧ t.Wf ∧ u.Wf ∧ v.Wf ∧ RdCs NoB w cs (cN r ++ cN s ++ cN t ++ cN u ++ cN v) := by
  obtain ⟨xs, n, _, _, hcl, hxl, hf⟩ := DataW.trod_struct (P := Tryz.prog) Tryz.underlying32 h
  have hcl : cs.length = 20 := hcl.trans (by kernel_rfl)
  have hxl : xs.length = 5 := hxl.trans (by kernel_rfl)
  match cs, hcl with
  | [c0, c1, c2, c3, c4, c5, c6, c7, c8, c9, c10, c11, d0, d1, d2, d3, d4, d5, d6, d7], _ =>
    have h0 : DataW.trod enc Tryz.prog w base spare held n 26 [c0, c1, c2, c3] = xs[0]? := hf 0 _ rfl
    have h1 : DataW.trod enc Tryz.prog w base spare held n 26 [c4, c5, c6, c7] = xs[1]? := hf 1 _ rfl
    have h2 : DataW.trod enc Tryz.prog w base spare held n 26 [c8, c9, c10, c11] = xs[2]? := hf 2 _ rfl
    have h3 : DataW.trod enc Tryz.prog w base spare held n 26 [d0, d1, d2, d3] = xs[3]? := hf 3 _ rfl
    have h4 : DataW.trod enc Tryz.prog w base spare held n 26 [d4, d5, d6, d7] = xs[4]? := hf 4 _ rfl
    rw [List.getElem?_eq_getElem (by omega)] at h0 h1 h2 h3 h4
    obtain ⟨r, hz, hr⟩ := rat_of h0
    obtain ⟨s, hz', hr'⟩ := rat_of h1
    obtain ⟨t, hz2, hr2⟩ := rat_of h2
    obtain ⟨u, hz3, hr3⟩ := rat_of h3
    obtain ⟨v, hz4, hr4⟩ := rat_of h4
    exact ⟨r, s, t, u, v, hz, hz', hz2, hz3, hz4, RdCs.append (RdCs.append (RdCs.append (RdCs.append hr hr') hr2) hr3) hr4⟩
set_option maxRecDepth 100000 in
theorem grid_of {fuel : Nat} {cs : List Value} {x : DataW H × List MemPlace} (h : DataW.trod enc Tryz.prog w base spare held fuel 60 cs = some x) :
    ∃ x y : Int, -9223372036854775808 ≤ x ∧ x ≤ 9223372036854775807 ∧ -9223372036854775808 ≤ y ∧ y ≤ 9223372036854775807 ∧ RdCs NoB w cs ([.i .i64 x] ++ [.i .i64 y]) := by
  obtain ⟨xs, n, _, _, hcl, hxl, hf⟩ := DataW.trod_struct (P := Tryz.prog) Tryz.underlying60 h
  have hcl : cs.length = 2 := hcl.trans (by kernel_rfl)
  have hxl : xs.length = 2 := hxl.trans (by kernel_rfl)
  match cs, hcl with
  | [c0, c1], _ =>
    have h0 : DataW.trod enc Tryz.prog w base spare held n 2 [c0] = xs[0]? := hf 0 _ rfl
    have h1 : DataW.trod enc Tryz.prog w base spare held n 2 [c1] = xs[1]? := hf 1 _ rfl
    rw [List.getElem?_eq_getElem (by omega)] at h0 h1
    obtain ⟨x, e, _, hx⟩ := DataW.trod_int (P := Tryz.prog) Tryz.underlying2 h0
    obtain ⟨y, e', _, hy⟩ := DataW.trod_int (P := Tryz.prog) Tryz.underlying2 h1
    simp at e e'
    subst e e'
    simp [Lit.wf, IntKind.min, IntKind.max, IntKind.signed, IntKind.bits] at hx hy
    exact ⟨x, y, by omega, by omega, by omega, by omega, RdCs.cons (.i _ _) (RdCs.cons (.i _ _) RdCs.nil)⟩
/-- What a contract gives a row. -/
theorem law_of {f : FuncId} {ds : List D0} {vs : Array Value} {W : World} (h : Ok Tryz.prog f ds [.c (.b true)]) (hr : RdL NoB W vs.toList ds) : Calls Tryz.prog f vs W fun e W' => e = .returned (.bool true) ∧ Below W.heap.size W W' :=
  (h.run NoB vs W (fun _ h => h.elim) hr).mono fun e w' ⟨v, e1, h1, h2⟩ => by
    have := RdC.bool_eq h1
    subst this
    exact ⟨e1, h2⟩
end
end Go.Proofs.YthpalcfhhicmgaaGreat
/- PointMake: for every input the law returns true, and each argument reads behind the call as it read before. No condition. -/
namespace Go.Proofs.YthpalcfhhicmgaaGreat
open Go.ChangeShapes Go.WideShapes Go.ChangeAt Go.RowKit
theorem s3_of {r : RN} (w : r.Wf) (h : r.s 3 = true) : ∃ x : Rat, Rz 3 x ∧ cN r = cR x := s_data (k := 3) w h
theorem law_pointMake {x y z u v t : RN} (wx : x.Wf) (wy : y.Wf) (wz : z.Wf) (wu : u.Wf) (wv : v.Wf) (wt : t.Wf) :
    Ok Tryz.prog 3 [.a (cN x ++ cN y ++ cN z), .a (cN u ++ cN v ++ cN t)] [.c (.b true)] := by
  cases h : (x.s 3 && (y.s 3 && z.s 3)) with
  | false => exact lwMake_A wx wy wz h
  | true =>
    simp only [Bool.and_eq_true] at h
    obtain ⟨a1, ha1, e1⟩ := s3_of wx h.1
    obtain ⟨b1, hb1, e2⟩ := s3_of wy h.2.1
    obtain ⟨c1, hc1, e3⟩ := s3_of wz h.2.2
    rw [e1, e2, e3]
    cases v1 : vRoot b1 c1 with
    | false => exact lwMake_B ha1 hb1 hc1 v1
    | true =>
      cases h' : (u.s 3 && (v.s 3 && t.s 3)) with
      | false => exact lwMake_C wu wv wt ha1 hb1 hc1 v1 h'
      | true =>
        simp only [Bool.and_eq_true] at h'
        obtain ⟨a2, ha2, g1⟩ := s3_of wu h'.1
        obtain ⟨b2, hb2, g2⟩ := s3_of wv h'.2.1
        obtain ⟨c2, hc2, g3⟩ := s3_of wt h'.2.2
        rw [g1, g2, g3]
        cases v2 : vRoot b2 c2 with
        | false => exact lwMake_D ha1 hb1 hc1 ha2 hb2 hc2 v1 v2
        | true =>
          by_cases hbad : bad b1 c1 b2 c2
          · exact lwMake_E ha1 hb1 hc1 ha2 hb2 hc2 v1 v2 hbad
          · exact lwMake_F ha1 hb1 hc1 ha2 hb2 hc2 v1 v2 hbad
set_option maxRecDepth 100000 in
theorem make_lifted (os : Os) (started : os.Started) (H : Type) (enc : TypeId × Value → H) :
    ReturnsInHanded {} Tryz.checked os 3 .any (Rows.pointMakeSpec.pre6 enc Tryz.prog Tryz.f3 Rows.pointMakeRow.domain false) (Rows.pointMakeSpec.post enc Tryz.prog Tryz.f3 false true false false) := by
  refine returnsInHanded_of_change (C := Tryz.checked) own started (by kernel_rfl) Tryz.func3
    (ChangeSpec.witness6 (enc := enc) (C := Tryz.checked) false ⟨#[], #[.agg (Array.replicate 6 #[Value.bool false, .slice none 0 0]).flatten, .agg (Array.replicate 6 #[Value.bool false, .slice none 0 0]).flatten], []⟩ 8 (by kernel_rfl) (by kernel_rfl) (by kernel_rfl) (by kernel_rfl)) ?_
  intro W base args ds gs before hval0 hW hcnd _
  have hval : ∀ (j : Nat) t v, Tryz.f3.params[j]? = some t → args[j]? = some v → Value.okWide Tryz.prog W .any base t v := hval0
  have hW' := hW
  obtain ⟨p, q, hA0, hV, rfl, hfz, hnd⟩ := hW
  have hA : DataW.TrodAll enc Tryz.prog W 0 (fun _ => true) true Tryz.f3.params.toList args.toList ds p := hA0
  rw [Tryz.params3] at hA hval
  obtain ⟨v0, vs0, d0, ds0, p0, q0, hargs, rfl, rfl, h0, r0⟩ := trodAll_cons hA
  obtain ⟨v1, vs1, d1, ds1, p1, q1, rfl, rfl, rfl, h1, r1⟩ := trodAll_cons r0
  obtain ⟨rfl, rfl, rfl⟩ := trodAll_nil r1
  obtain rfl : args = #[v0, v1] := by cases args; simp_all
  obtain ⟨rfl, rfl⟩ := trodVars_none hV
  obtain ⟨a0, rfl, _⟩ := okWide_struct Tryz.underlying28 (hval 0 28 v0 rfl rfl)
  obtain ⟨a1, rfl, _⟩ := okWide_struct Tryz.underlying28 (hval 1 28 v1 rfl rfl)
  have k0 := h0
  have k1 := h1
  have lt0 : ∀ x ∈ p0, x.block < W.heap.size := by obtain ⟨m, hm⟩ := k0; exact DataW.trod_lt m _ _ _ hm
  have lt1 : ∀ x ∈ p1, x.block < W.heap.size := by obtain ⟨m, hm⟩ := k1; exact DataW.trod_lt m _ _ _ hm
  obtain ⟨x, y, z, wx, wy, wz, hx⟩ := root_of (show DataW.trod enc Tryz.prog W 0 _ _ h0.choose 28 a0.toList = some _ from h0.choose_spec)
  obtain ⟨u, v, t, wu, wv, wt, hu⟩ := root_of (show DataW.trod enc Tryz.prog W 0 _ _ h1.choose 28 a1.toList = some _ from h1.choose_spec)
  clear hA0 hval0
  refine (law_of (law_pointMake wx wy wz wu wv wt) (RdL.cons ⟨a0, rfl, hx⟩ (RdL.cons ⟨a1, rfl, hu⟩ RdL.nil))).mono fun e W' ⟨he, bel⟩ => ?_
  subst he
  exact ⟨_, rfl, _, _, _, [], _, [], hW', trodAll_mk1 (shut_bool Tryz.underlying4 _), (trodAll_cons_mk (Below.trod laidOut (by kernel_rfl) (of_decide_eq_true (by kernel_rfl)) k0 bel lt0) (trodAll_cons_mk (Below.trod laidOut (by kernel_rfl) (of_decide_eq_true (by kernel_rfl)) k1 bel lt1) trodAll_mk0)), rfl, bel.frame _, fun h => by cases h⟩
theorem make_proved : Rows.PointMakeSaid :=
  OpenClaim.holds_of_wide 3 Tryz.f3 rfl rfl rfl rfl rfl rfl rfl ⟨rfl, rfl, rfl, rfl, rfl⟩ rfl rfl rfl rfl rfl (by kernel_rfl) Tryz.func3 (by kernel_rfl)
    (of_decide_eq_true (by kernel_rfl)) (by unfold Func.isWrapper; first | (rw [if_pos (by decide +kernel)]; kernel_rfl) | (rw [if_neg (by decide +kernel)]; exact ⟨rfl, rfl⟩))
    (fun os started H enc _ => make_lifted os started H enc)
end Go.Proofs.YthpalcfhhicmgaaGreat
