/- The examples of the chapter on radicals. -/
import Derived.Test.YtcbjmiddangfoaaGreatRaL
import Derived.Test.YtcbjmiddangfoaaGreatRows
import Derived.Deep.Slices
import Derived.ProofKit
import Derived.OpenShut
import Derived.Carry
namespace Go.Proofs.YtcbjmiddangfoaaGreat
open Go Go.RowKit
theorem rtInv_ok {a b c : Rat} (ha : Rz 20 a) (hb : Rz 20 b) (hc : Rz 20 c) (h1 : rtSg a b c ≠ 0) (h2 : a * a - b * b * c ≠ 0) : Ok Tryz.prog 83 [.a (cR a ++ cR b ++ cR c)] [.a (cR (a * invN a b c) ++ cR (-b * invN a b c) ++ cR (zc (-b * invN a b c) c)), .c (.i .i64 0)] := by
  have o1 : Rz 300 (1 : Rat) := rz_l (by decide +kernel)
  have n1 : Rz 101 (a * a - b * b * c) := ((ha.mul ha).sub ((hb.mul hb).mul hc)).mono (by decide)
  have n2 : Rz 300 (a * a - b * b * c) := n1.mono (by decide)
  have i1 : Rz 300 (invN a b c) := (Rz.div (k := 1) (rz_l (by decide +kernel)) n1 h2).mono (by decide)
  have ka : Rz 300 a := ha.mono (by decide)
  have kb : Rz 300 (-b) := (hb.mono (by decide)).neg
  have wa : Rz 50 a := ha.mono (by decide)
  have wb : Rz 50 b := hb.mono (by decide)
  have wc : Rz 50 c := hc.mono (by decide)
  refine Ok.of (by kernel_rfl) Tryz.func83 rfl rfl ?_
  rw [show Tryz.f83.ntmps = 31 from rfl, show Tryz.f83.results.toList = [.cell 2 39, .tmp 3] from rfl]
  refine dw_seq ?_
  -- region 0
  refine dw_region (by kernel_rfl) ?_
  refine dl_new (sem_box_a rfl rfl) rfl ?_
  refine dl_new (sem_alloc zc39 rfl) rfl ?_
  refine dl_r (sem_assign rfl rfl) ?_
  refine dl_end ?_
  refine dw_seq ?_
  refine dw_seq ?_
  -- region 1
  refine dw_region (by kernel_rfl) ?_
  refine dl_r (sem_load (us := (cR a ++ cR b ++ cR c)) ty39 rfl rfl rfl rfl rfl) ?_
  refine dl_r (sem_call rfl rfl (rtSign_ok wa wb wc) rfl) ?_
  refine dl_r (sem_cmp rfl rfl rfl rfl) ?_
  refine dl_end ?_
  refine dw_cond rfl (fun hc1 => ?_) (fun hc1 => ?_)
  · exact absurd (by simpa using hc1) h1
  · refine dw_skip ?_
    refine dw_seq ?_
    -- region 3
    refine dw_draw 10 [4] follows_mixed (by kernel_rfl) rfl rfl ?_
    refine dq_r (sem_call rfl rfl ((show Ok Tryz.prog 45 [.c (.i .i64 1)] [dR 1] from pFrom_ok (by omega) (by omega))) rfl) ?_
    refine dq_r (sem_load (us := (cR a ++ cR b ++ cR c)) ty39 rfl rfl rfl rfl rfl) ?_
    refine dq_r (sem_call rfl rfl (rtNorm_ok wa wb wc) rfl) ?_
    refine dq_r (sem_call rfl rfl (pDiv_ok o1 n2 h2) rfl) ?_
    refine dq_r (sem_move rfl rfl) ?_
    refine dq_r (sem_extract rfl rfl rfl) ?_
    refine dq_r (sem_extract rfl rfl rfl) ?_
    refine dq_new (sem_alloc zc26 rfl) rfl ?_
    refine dq_sn (sem_store_a ty26 rfl rfl rfl rfl rfl rfl) rfl rfl rfl ?_
    refine dq_r (sem_assign rfl rfl) ?_
    refine dq_end ?_
    refine dl_start2 ?_
    refine dl_end ?_
    refine dw_seq ?_
    refine dw_seq ?_
    -- region 4
    refine dw_region (by kernel_rfl) ?_
    refine dl_r (sem_move rfl rfl) ?_
    refine dl_r (sem_cmp rfl rfl rfl rfl) ?_
    refine dl_end ?_
    refine dw_false rfl ?_
    refine dw_skip ?_
    refine dw_seq ?_
    -- region 6
    refine dw_draw 10 [] follows_mixed (by kernel_rfl) rfl rfl ?_
    refine dq_r (sem_field fd39_0 rfl rfl) ?_
    refine dq_r (sem_load (us := cR a) ty26 rfl rfl rfl rfl rfl) ?_
    refine dq_r (sem_field fd39_1 rfl rfl) ?_
    refine dq_r (sem_load (us := cR b) ty26 rfl rfl rfl rfl rfl) ?_
    refine dq_r (sem_call rfl rfl (pNeg_ok (by first | assumption | exact Rz.mono hb (by decide))) rfl) ?_
    refine dq_r (sem_field fd39_2 rfl rfl) ?_
    refine dq_r (sem_load (us := cR c) ty26 rfl rfl rfl rfl rfl) ?_
    refine dq_r (sem_build (us := (cR a ++ cR (-b) ++ cR c)) fs39 zc39 rfl rfl rfl) ?_
    refine dq_r (sem_load (us := cR (invN a b c)) ty26 rfl rfl rfl rfl rfl) ?_
    refine dq_r (sem_call rfl rfl (rtScale_ok ka kb i1) rfl) ?_
    refine dq_end ?_
    refine dl_start0 ?_
    refine dl_st (sem_store_a ty39 rfl rfl rfl rfl rfl rfl) ?_
    refine dl_r (sem_assign rfl rfl) ?_
    refine dl_end ?_
    refine dw_ret ?_
    -- path F
    exact ⟨.inr rfl, (resL_cell (us := (cR (a * invN a b c) ++ cR (-b * invN a b c) ++ cR (zc (-b * invN a b c) c))) ty39 rfl rfl rfl rfl (resL_tmp rfl resL_nil))⟩
theorem lwNum_ok {n : Int} (h0 : -9223372036854775808 ≤ n) (h1 : n ≤ 9223372036854775807) : Ok Tryz.prog 11 [.c (.i .i64 n)] [dR (((n : Int) : Rat))] := by
  refine Ok.of (by kernel_rfl) Tryz.func11 rfl rfl ?_
  rw [show Tryz.f11.ntmps = 5 from rfl, show Tryz.f11.results.toList = [.cell 2 26] from rfl]
  refine dw_seq ?_
  -- region 0
  refine dw_region (by kernel_rfl) ?_
  refine dl_new (sem_alloc zc26 rfl) rfl ?_
  refine dl_end ?_
  refine dw_seq ?_
  -- region 1
  refine dw_region (by kernel_rfl) ?_
  refine dl_r (sem_move rfl rfl) ?_
  refine dl_r (sem_call rfl rfl (sFrom_ok h0 h1) rfl) ?_
  refine dl_st (sem_store_a ty26 rfl rfl rfl rfl rfl rfl) ?_
  refine dl_end ?_
  refine dw_ret ?_
  -- path 
  exact ⟨.inr rfl, (resL_cell (us := cR (((n : Int) : Rat))) ty26 rfl rfl rfl rfl resL_nil)⟩
theorem lwRt5_1_2  : Ok Tryz.prog 21 [.c (.i .i64 1), .c (.i .i64 2)] [.a (cR 0 ++ cR 1 ++ cR 2)] := by
  refine Ok.of (by kernel_rfl) Tryz.func21 rfl rfl ?_
  rw [show Tryz.f21.ntmps = 11 from rfl, show Tryz.f21.results.toList = [.cell 4 39] from rfl]
  refine dw_seq ?_
  -- region 0
  refine dw_region (by kernel_rfl) ?_
  refine dl_new (sem_alloc zc39 rfl) rfl ?_
  refine dl_end ?_
  refine dw_seq ?_
  -- region 1
  refine dw_region (by kernel_rfl) ?_
  refine dl_r (sem_call rfl rfl (rcast1 (x' := 0) (lwNum_ok (by decide) (by decide)) (by decide +kernel)) rfl) ?_
  refine dl_r (sem_move rfl rfl) ?_
  refine dl_r (sem_call rfl rfl (rcast1 (x' := 1) (lwNum_ok (by decide) (by decide)) (by decide +kernel)) rfl) ?_
  refine dl_r (sem_move rfl rfl) ?_
  refine dl_r (sem_call rfl rfl (rcast1 (x' := 2) (lwNum_ok (by decide) (by decide)) (by decide +kernel)) rfl) ?_
  refine dl_r (sem_build (us := (cR 0 ++ cR 1 ++ cR 2)) fs39 zc39 rfl rfl rfl) ?_
  refine dl_st (sem_store_a ty39 rfl rfl rfl rfl rfl rfl) ?_
  refine dl_end ?_
  refine dw_ret ?_
  -- path 
  exact ⟨.inr rfl, (resL_cell (us := (cR 0 ++ cR 1 ++ cR 2)) ty39 rfl rfl rfl rfl resL_nil)⟩
theorem lwRt5_1_3  : Ok Tryz.prog 21 [.c (.i .i64 1), .c (.i .i64 3)] [.a (cR 0 ++ cR 1 ++ cR 3)] := by
  refine Ok.of (by kernel_rfl) Tryz.func21 rfl rfl ?_
  rw [show Tryz.f21.ntmps = 11 from rfl, show Tryz.f21.results.toList = [.cell 4 39] from rfl]
  refine dw_seq ?_
  -- region 0
  refine dw_region (by kernel_rfl) ?_
  refine dl_new (sem_alloc zc39 rfl) rfl ?_
  refine dl_end ?_
  refine dw_seq ?_
  -- region 1
  refine dw_region (by kernel_rfl) ?_
  refine dl_r (sem_call rfl rfl (rcast1 (x' := 0) (lwNum_ok (by decide) (by decide)) (by decide +kernel)) rfl) ?_
  refine dl_r (sem_move rfl rfl) ?_
  refine dl_r (sem_call rfl rfl (rcast1 (x' := 1) (lwNum_ok (by decide) (by decide)) (by decide +kernel)) rfl) ?_
  refine dl_r (sem_move rfl rfl) ?_
  refine dl_r (sem_call rfl rfl (rcast1 (x' := 3) (lwNum_ok (by decide) (by decide)) (by decide +kernel)) rfl) ?_
  refine dl_r (sem_build (us := (cR 0 ++ cR 1 ++ cR 3)) fs39 zc39 rfl rfl rfl) ?_
  refine dl_st (sem_store_a ty39 rfl rfl rfl rfl rfl rfl) ?_
  refine dl_end ?_
  refine dw_ret ?_
  -- path 
  exact ⟨.inr rfl, (resL_cell (us := (cR 0 ++ cR 1 ++ cR 3)) ty39 rfl rfl rfl rfl resL_nil)⟩
theorem lwRt5_1_8  : Ok Tryz.prog 21 [.c (.i .i64 1), .c (.i .i64 8)] [.a (cR 0 ++ cR 1 ++ cR 8)] := by
  refine Ok.of (by kernel_rfl) Tryz.func21 rfl rfl ?_
  rw [show Tryz.f21.ntmps = 11 from rfl, show Tryz.f21.results.toList = [.cell 4 39] from rfl]
  refine dw_seq ?_
  -- region 0
  refine dw_region (by kernel_rfl) ?_
  refine dl_new (sem_alloc zc39 rfl) rfl ?_
  refine dl_end ?_
  refine dw_seq ?_
  -- region 1
  refine dw_region (by kernel_rfl) ?_
  refine dl_r (sem_call rfl rfl (rcast1 (x' := 0) (lwNum_ok (by decide) (by decide)) (by decide +kernel)) rfl) ?_
  refine dl_r (sem_move rfl rfl) ?_
  refine dl_r (sem_call rfl rfl (rcast1 (x' := 1) (lwNum_ok (by decide) (by decide)) (by decide +kernel)) rfl) ?_
  refine dl_r (sem_move rfl rfl) ?_
  refine dl_r (sem_call rfl rfl (rcast1 (x' := 8) (lwNum_ok (by decide) (by decide)) (by decide +kernel)) rfl) ?_
  refine dl_r (sem_build (us := (cR 0 ++ cR 1 ++ cR 8)) fs39 zc39 rfl rfl rfl) ?_
  refine dl_st (sem_store_a ty39 rfl rfl rfl rfl rfl rfl) ?_
  refine dl_end ?_
  refine dw_ret ?_
  -- path 
  exact ⟨.inr rfl, (resL_cell (us := (cR 0 ++ cR 1 ++ cR 8)) ty39 rfl rfl rfl rfl resL_nil)⟩
theorem lwRt5_2_2  : Ok Tryz.prog 21 [.c (.i .i64 2), .c (.i .i64 2)] [.a (cR 0 ++ cR 2 ++ cR 2)] := by
  refine Ok.of (by kernel_rfl) Tryz.func21 rfl rfl ?_
  rw [show Tryz.f21.ntmps = 11 from rfl, show Tryz.f21.results.toList = [.cell 4 39] from rfl]
  refine dw_seq ?_
  -- region 0
  refine dw_region (by kernel_rfl) ?_
  refine dl_new (sem_alloc zc39 rfl) rfl ?_
  refine dl_end ?_
  refine dw_seq ?_
  -- region 1
  refine dw_region (by kernel_rfl) ?_
  refine dl_r (sem_call rfl rfl (rcast1 (x' := 0) (lwNum_ok (by decide) (by decide)) (by decide +kernel)) rfl) ?_
  refine dl_r (sem_move rfl rfl) ?_
  refine dl_r (sem_call rfl rfl (rcast1 (x' := 2) (lwNum_ok (by decide) (by decide)) (by decide +kernel)) rfl) ?_
  refine dl_r (sem_move rfl rfl) ?_
  refine dl_r (sem_call rfl rfl (rcast1 (x' := 2) (lwNum_ok (by decide) (by decide)) (by decide +kernel)) rfl) ?_
  refine dl_r (sem_build (us := (cR 0 ++ cR 2 ++ cR 2)) fs39 zc39 rfl rfl rfl) ?_
  refine dl_st (sem_store_a ty39 rfl rfl rfl rfl rfl rfl) ?_
  refine dl_end ?_
  refine dw_ret ?_
  -- path 
  exact ⟨.inr rfl, (resL_cell (us := (cR 0 ++ cR 2 ++ cR 2)) ty39 rfl rfl rfl rfl resL_nil)⟩
theorem cSum  : Ok Tryz.prog 18 [dR 25, dR 4, dR 1, dR 2] [.c (.i .i64 0), .c (.i .i64 0)] := by
  refine Ok.of (by kernel_rfl) Tryz.func18 rfl rfl ?_
  rw [show Tryz.f18.ntmps = 48 from rfl, show Tryz.f18.results.toList = [.tmp 8, .tmp 9] from rfl]
  refine dw_seq ?_
  -- region 0
  refine dw_region (by kernel_rfl) ?_
  refine dl_new (sem_box_a rfl rfl) rfl ?_
  refine dl_new (sem_box_a rfl rfl) rfl ?_
  refine dl_new (sem_box_a rfl rfl) rfl ?_
  refine dl_new (sem_box_a rfl rfl) rfl ?_
  refine dl_r (sem_assign rfl rfl) ?_
  refine dl_r (sem_assign rfl rfl) ?_
  refine dl_end ?_
  refine dw_seq ?_
  refine dw_seq ?_
  -- region 1
  refine dw_region (by kernel_rfl) ?_
  refine dl_r (sem_load (us := cR 25) ty26 rfl rfl rfl rfl rfl) ?_
  refine dl_r (sem_load (us := cR 4) ty26 rfl rfl rfl rfl rfl) ?_
  refine dl_r (sem_load (us := cR 1) ty26 rfl rfl rfl rfl rfl) ?_
  refine dl_r (sem_load (us := cR 2) ty26 rfl rfl rfl rfl rfl) ?_
  refine dl_r (sem_slit_D (n := 4) (us := cR 25 ++ cR 4 ++ cR 1 ++ cR 2) el55 rfl rfl rfl (by decide) (by decide) rfl) ?_
  refine dl_r (sem_len sl55 rfl rfl) ?_
  refine dl_r (sem_move rfl rfl) ?_
  refine dl_end ?_
  refine dw_block ?_
  refine dw_loop (ι := Nat) (fun i => match i with | 0 => ⟨48, [(4, .p 4 0), (5, .p 5 0), (6, .p 6 0), (7, .p 7 0), (8, .v (.c (.i .i64 0))), (9, .v (.c (.i .i64 0))), (18, .v (.c (.s 4 (cR 25 ++ cR 4 ++ cR 1 ++ cR 2)))), (19, .v (.c (.i .i64 4))), (20, .v (.c (.i .i64 0)))], [(4, 26, cR 25), (5, 26, cR 4), (6, 26, cR 1), (7, 26, cR 2)]⟩ | 1 => ⟨48, [(4, .p 4 0), (5, .p 5 0), (6, .p 6 0), (7, .p 7 0), (8, .v (.c (.i .i64 0))), (9, .v (.c (.i .i64 0))), (18, .v (.c (.s 4 (cR 25 ++ cR 4 ++ cR 1 ++ cR 2)))), (19, .v (.c (.i .i64 4))), (20, .v (.c (.i .i64 1)))], [(4, 26, cR 25), (5, 26, cR 4), (6, 26, cR 1), (7, 26, cR 2)]⟩ | 2 => ⟨48, [(4, .p 4 0), (5, .p 5 0), (6, .p 6 0), (7, .p 7 0), (8, .v (.c (.i .i64 0))), (9, .v (.c (.i .i64 0))), (18, .v (.c (.s 4 (cR 25 ++ cR 4 ++ cR 1 ++ cR 2)))), (19, .v (.c (.i .i64 4))), (20, .v (.c (.i .i64 2)))], [(4, 26, cR 25), (5, 26, cR 4), (6, 26, cR 1), (7, 26, cR 2)]⟩ | 3 => ⟨48, [(4, .p 4 0), (5, .p 5 0), (6, .p 6 0), (7, .p 7 0), (8, .v (.c (.i .i64 0))), (9, .v (.c (.i .i64 0))), (18, .v (.c (.s 4 (cR 25 ++ cR 4 ++ cR 1 ++ cR 2)))), (19, .v (.c (.i .i64 4))), (20, .v (.c (.i .i64 3)))], [(4, 26, cR 25), (5, 26, cR 4), (6, 26, cR 1), (7, 26, cR 2)]⟩ | _ + 4 => ⟨48, [(4, .p 4 0), (5, .p 5 0), (6, .p 6 0), (7, .p 7 0), (8, .v (.c (.i .i64 0))), (9, .v (.c (.i .i64 0))), (18, .v (.c (.s 4 (cR 25 ++ cR 4 ++ cR 1 ++ cR 2)))), (19, .v (.c (.i .i64 4))), (20, .v (.c (.i .i64 4)))], [(4, 26, cR 25), (5, 26, cR 4), (6, 26, cR 1), (7, 26, cR 2)]⟩) (fun i => 4 - i) 0 (sub_of ⟨rfl, rfl, rfl, rfl, rfl, rfl, rfl, rfl, rfl, trivial⟩ ⟨rfl, rfl, rfl, rfl, trivial⟩ rfl) ?_
  intro i
  match i with
  | 0 =>
    show Dw _ _ ⟨48, [(4, .p 4 0), (5, .p 5 0), (6, .p 6 0), (7, .p 7 0), (8, .v (.c (.i .i64 0))), (9, .v (.c (.i .i64 0))), (18, .v (.c (.s 4 (cR 25 ++ cR 4 ++ cR 1 ++ cR 2)))), (19, .v (.c (.i .i64 4))), (20, .v (.c (.i .i64 0)))], [(4, 26, cR 25), (5, 26, cR 4), (6, 26, cR 1), (7, 26, cR 2)]⟩ _
    refine dw_seq ?_
    -- region 2
    refine dw_region (by kernel_rfl) ?_
    refine dl_r (sem_cmp rfl rfl rfl rfl) ?_
    refine dl_end ?_
    refine dw_seq ?_
    refine dw_true rfl ?_
    refine dw_skip ?_
    refine dw_seq ?_
    refine dw_block ?_
    refine dw_seq ?_
    -- region 3
    refine dw_region (by kernel_rfl) ?_
    refine dl_r (sem_index sl55 rfl rfl (by decide) rfl rfl rfl) ?_
    refine dl_r (sem_loadq (us := cR 25) ty26 rfl rfl rfl rfl) ?_
    refine dl_new (sem_alloc zc26 rfl) rfl ?_
    refine dl_st (sem_store_a ty26 rfl rfl rfl rfl rfl rfl) ?_
    refine dl_end ?_
    refine dw_seq ?_
    -- region 4
    refine dw_region (by kernel_rfl) ?_
    refine dl_r (sem_load (us := cR 25) ty26 rfl rfl rfl rfl rfl) ?_
    refine dl_r (sem_call rfl rfl (rcasti (c := 1) pSign_ok (by decide +kernel)) rfl) ?_
    refine dl_r (sem_cmp rfl rfl rfl rfl) ?_
    refine dl_end ?_
    refine dw_false rfl ?_
    refine dw_skip ?_
    -- region 6
    refine dw_region (by kernel_rfl) ?_
    refine dl_r (sem_ari (r := 1) rfl rfl rfl rfl) ?_
    refine dl_r (sem_move rfl rfl) ?_
    refine dl_end ?_
    exact ⟨1, sub_of ⟨rfl, rfl, rfl, rfl, rfl, rfl, rfl, rfl, rfl, trivial⟩ ⟨rfl, rfl, rfl, rfl, trivial⟩ rfl, by show 4 - 1 < 4 - 0; decide⟩
  | 1 =>
    show Dw _ _ ⟨48, [(4, .p 4 0), (5, .p 5 0), (6, .p 6 0), (7, .p 7 0), (8, .v (.c (.i .i64 0))), (9, .v (.c (.i .i64 0))), (18, .v (.c (.s 4 (cR 25 ++ cR 4 ++ cR 1 ++ cR 2)))), (19, .v (.c (.i .i64 4))), (20, .v (.c (.i .i64 1)))], [(4, 26, cR 25), (5, 26, cR 4), (6, 26, cR 1), (7, 26, cR 2)]⟩ _
    refine dw_seq ?_
    -- region 2
    refine dw_region (by kernel_rfl) ?_
    refine dl_r (sem_cmp rfl rfl rfl rfl) ?_
    refine dl_end ?_
    refine dw_seq ?_
    refine dw_true rfl ?_
    refine dw_skip ?_
    refine dw_seq ?_
    refine dw_block ?_
    refine dw_seq ?_
    -- region 3
    refine dw_region (by kernel_rfl) ?_
    refine dl_r (sem_index sl55 rfl rfl (by decide) rfl rfl rfl) ?_
    refine dl_r (sem_loadq (us := cR 4) ty26 rfl rfl rfl rfl) ?_
    refine dl_new (sem_alloc zc26 rfl) rfl ?_
    refine dl_st (sem_store_a ty26 rfl rfl rfl rfl rfl rfl) ?_
    refine dl_end ?_
    refine dw_seq ?_
    -- region 4
    refine dw_region (by kernel_rfl) ?_
    refine dl_r (sem_load (us := cR 4) ty26 rfl rfl rfl rfl rfl) ?_
    refine dl_r (sem_call rfl rfl (rcasti (c := 1) pSign_ok (by decide +kernel)) rfl) ?_
    refine dl_r (sem_cmp rfl rfl rfl rfl) ?_
    refine dl_end ?_
    refine dw_false rfl ?_
    refine dw_skip ?_
    -- region 6
    refine dw_region (by kernel_rfl) ?_
    refine dl_r (sem_ari (r := 2) rfl rfl rfl rfl) ?_
    refine dl_r (sem_move rfl rfl) ?_
    refine dl_end ?_
    exact ⟨2, sub_of ⟨rfl, rfl, rfl, rfl, rfl, rfl, rfl, rfl, rfl, trivial⟩ ⟨rfl, rfl, rfl, rfl, trivial⟩ rfl, by show 4 - 2 < 4 - 1; decide⟩
  | 2 =>
    show Dw _ _ ⟨48, [(4, .p 4 0), (5, .p 5 0), (6, .p 6 0), (7, .p 7 0), (8, .v (.c (.i .i64 0))), (9, .v (.c (.i .i64 0))), (18, .v (.c (.s 4 (cR 25 ++ cR 4 ++ cR 1 ++ cR 2)))), (19, .v (.c (.i .i64 4))), (20, .v (.c (.i .i64 2)))], [(4, 26, cR 25), (5, 26, cR 4), (6, 26, cR 1), (7, 26, cR 2)]⟩ _
    refine dw_seq ?_
    -- region 2
    refine dw_region (by kernel_rfl) ?_
    refine dl_r (sem_cmp rfl rfl rfl rfl) ?_
    refine dl_end ?_
    refine dw_seq ?_
    refine dw_true rfl ?_
    refine dw_skip ?_
    refine dw_seq ?_
    refine dw_block ?_
    refine dw_seq ?_
    -- region 3
    refine dw_region (by kernel_rfl) ?_
    refine dl_r (sem_index sl55 rfl rfl (by decide) rfl rfl rfl) ?_
    refine dl_r (sem_loadq (us := cR 1) ty26 rfl rfl rfl rfl) ?_
    refine dl_new (sem_alloc zc26 rfl) rfl ?_
    refine dl_st (sem_store_a ty26 rfl rfl rfl rfl rfl rfl) ?_
    refine dl_end ?_
    refine dw_seq ?_
    -- region 4
    refine dw_region (by kernel_rfl) ?_
    refine dl_r (sem_load (us := cR 1) ty26 rfl rfl rfl rfl rfl) ?_
    refine dl_r (sem_call rfl rfl (rcasti (c := 1) pSign_ok (by decide +kernel)) rfl) ?_
    refine dl_r (sem_cmp rfl rfl rfl rfl) ?_
    refine dl_end ?_
    refine dw_false rfl ?_
    refine dw_skip ?_
    -- region 6
    refine dw_region (by kernel_rfl) ?_
    refine dl_r (sem_ari (r := 3) rfl rfl rfl rfl) ?_
    refine dl_r (sem_move rfl rfl) ?_
    refine dl_end ?_
    exact ⟨3, sub_of ⟨rfl, rfl, rfl, rfl, rfl, rfl, rfl, rfl, rfl, trivial⟩ ⟨rfl, rfl, rfl, rfl, trivial⟩ rfl, by show 4 - 3 < 4 - 2; decide⟩
  | 3 =>
    show Dw _ _ ⟨48, [(4, .p 4 0), (5, .p 5 0), (6, .p 6 0), (7, .p 7 0), (8, .v (.c (.i .i64 0))), (9, .v (.c (.i .i64 0))), (18, .v (.c (.s 4 (cR 25 ++ cR 4 ++ cR 1 ++ cR 2)))), (19, .v (.c (.i .i64 4))), (20, .v (.c (.i .i64 3)))], [(4, 26, cR 25), (5, 26, cR 4), (6, 26, cR 1), (7, 26, cR 2)]⟩ _
    refine dw_seq ?_
    -- region 2
    refine dw_region (by kernel_rfl) ?_
    refine dl_r (sem_cmp rfl rfl rfl rfl) ?_
    refine dl_end ?_
    refine dw_seq ?_
    refine dw_true rfl ?_
    refine dw_skip ?_
    refine dw_seq ?_
    refine dw_block ?_
    refine dw_seq ?_
    -- region 3
    refine dw_region (by kernel_rfl) ?_
    refine dl_r (sem_index sl55 rfl rfl (by decide) rfl rfl rfl) ?_
    refine dl_r (sem_loadq (us := cR 2) ty26 rfl rfl rfl rfl) ?_
    refine dl_new (sem_alloc zc26 rfl) rfl ?_
    refine dl_st (sem_store_a ty26 rfl rfl rfl rfl rfl rfl) ?_
    refine dl_end ?_
    refine dw_seq ?_
    -- region 4
    refine dw_region (by kernel_rfl) ?_
    refine dl_r (sem_load (us := cR 2) ty26 rfl rfl rfl rfl rfl) ?_
    refine dl_r (sem_call rfl rfl (rcasti (c := 1) pSign_ok (by decide +kernel)) rfl) ?_
    refine dl_r (sem_cmp rfl rfl rfl rfl) ?_
    refine dl_end ?_
    refine dw_false rfl ?_
    refine dw_skip ?_
    -- region 6
    refine dw_region (by kernel_rfl) ?_
    refine dl_r (sem_ari (r := 4) rfl rfl rfl rfl) ?_
    refine dl_r (sem_move rfl rfl) ?_
    refine dl_end ?_
    exact ⟨4, sub_of ⟨rfl, rfl, rfl, rfl, rfl, rfl, rfl, rfl, rfl, trivial⟩ ⟨rfl, rfl, rfl, rfl, trivial⟩ rfl, by show 4 - 4 < 4 - 3; decide⟩
  | z + 4 =>
    show Dw _ _ ⟨48, [(4, .p 4 0), (5, .p 5 0), (6, .p 6 0), (7, .p 7 0), (8, .v (.c (.i .i64 0))), (9, .v (.c (.i .i64 0))), (18, .v (.c (.s 4 (cR 25 ++ cR 4 ++ cR 1 ++ cR 2)))), (19, .v (.c (.i .i64 4))), (20, .v (.c (.i .i64 4)))], [(4, 26, cR 25), (5, 26, cR 4), (6, 26, cR 1), (7, 26, cR 2)]⟩ _
    refine dw_seq ?_
    -- region 2
    refine dw_region (by kernel_rfl) ?_
    refine dl_r (sem_cmp rfl rfl rfl rfl) ?_
    refine dl_end ?_
    refine dw_seq ?_
    refine dw_false rfl ?_
    refine dw_exit ?_
    refine dw_seq ?_
    -- region 7
    refine dw_draw 10 [] follows_mixed (by kernel_rfl) rfl rfl ?_
    refine dq_r (sem_load (us := cR 25) ty26 rfl rfl rfl rfl rfl) ?_
    refine dq_r (sem_load (us := cR 4) ty26 rfl rfl rfl rfl rfl) ?_
    refine dq_r (sem_call rfl rfl (rcast1 (x' := 21) (pSub_ok (rz_l (by decide +kernel)) (rz_l (by decide +kernel))) (by decide +kernel)) rfl) ?_
    refine dq_r (sem_load (us := cR 1) ty26 rfl rfl rfl rfl rfl) ?_
    refine dq_r (sem_call rfl rfl (rcast1 (x' := 20) (pSub_ok (rz_l (by decide +kernel)) (rz_l (by decide +kernel))) (by decide +kernel)) rfl) ?_
    refine dq_r (sem_load (us := cR 2) ty26 rfl rfl rfl rfl rfl) ?_
    refine dq_r (sem_load (us := cR 2) ty26 rfl rfl rfl rfl rfl) ?_
    refine dq_r (sem_call rfl rfl (rcast1 (x' := 4) (pMul_ok (rz_l (by decide +kernel)) (rz_l (by decide +kernel))) (by decide +kernel)) rfl) ?_
    refine dq_r (sem_call rfl rfl (rcast1 (x' := 16) (pSub_ok (rz_l (by decide +kernel)) (rz_l (by decide +kernel))) (by decide +kernel)) rfl) ?_
    refine dq_new (sem_alloc zc26 rfl) rfl ?_
    refine dq_end ?_
    refine dl_start1 ?_
    refine dl_st (sem_store_a ty26 rfl rfl rfl rfl rfl rfl) ?_
    refine dl_end ?_
    refine dw_seq ?_
    -- region 8
    refine dw_draw 4 [] follows_mixed (by kernel_rfl) rfl rfl ?_
    refine dq_r (sem_call rfl rfl (rcast1 (x' := -2) (pFrom_ok (by decide) (by decide)) (by decide +kernel)) rfl) ?_
    refine dq_r (sem_load (us := cR 2) ty26 rfl rfl rfl rfl rfl) ?_
    refine dq_r (sem_call rfl rfl (rcast1 (x' := -4) (pMul_ok (rz_l (by decide +kernel)) (rz_l (by decide +kernel))) (by decide +kernel)) rfl) ?_
    refine dq_new (sem_alloc zc26 rfl) rfl ?_
    refine dq_end ?_
    refine dl_start1 ?_
    refine dl_st (sem_store_a ty26 rfl rfl rfl rfl rfl rfl) ?_
    refine dl_end ?_
    refine dw_seq ?_
    -- region 9
    refine dw_draw 10 [] follows_mixed (by kernel_rfl) rfl rfl ?_
    refine dq_r (sem_load (us := cR 16) ty26 rfl rfl rfl rfl rfl) ?_
    refine dq_r (sem_load (us := cR (-4)) ty26 rfl rfl rfl rfl rfl) ?_
    refine dq_r (sem_load (us := cR (-4)) ty26 rfl rfl rfl rfl rfl) ?_
    refine dq_r (sem_call rfl rfl (rcast1 (x' := -2) (pFrom_ok (by decide) (by decide)) (by decide +kernel)) rfl) ?_
    refine dq_r (sem_load (us := cR 4) ty26 rfl rfl rfl rfl rfl) ?_
    refine dq_r (sem_load (us := cR 1) ty26 rfl rfl rfl rfl rfl) ?_
    refine dq_r (sem_build (us := (cR 16 ++ cR (-4) ++ cR (-4) ++ cR (-2) ++ cR 4 ++ cR 1)) fs28 zc28 rfl rfl rfl) ?_
    refine dq_r (sem_call rfl rfl (rcasti (c := 0) (xSignQ_ok (rz_l (by decide +kernel)) (rz_l (by decide +kernel)) (rz_l (by decide +kernel)) (rz_l (by decide +kernel)) (rz_l (by decide +kernel)) (rz_l (by decide +kernel))) (by decide +kernel)) rfl) ?_
    refine dq_r (sem_assign rfl rfl) ?_
    refine dq_r (sem_assign rfl rfl) ?_
    refine dq_end ?_
    refine dl_start0 ?_
    refine dl_end ?_
    refine dw_ret ?_
    -- path L4
    exact ⟨.inr rfl, (resL_tmp rfl (resL_tmp rfl resL_nil))⟩
theorem cbt1  : Ok Tryz.prog 48 [.a (cR (1 / 2) ++ cR (1 / 2) ++ cR 3), .a (cR 1 ++ cR 1 ++ cR 2)] [dR 2] := by
  refine Ok.of (by kernel_rfl) Tryz.func48 rfl rfl ?_
  rw [show Tryz.f48.ntmps = 74 from rfl, show Tryz.f48.results.toList = [.cell 4 26] from rfl]
  refine dw_seq ?_
  -- region 0
  refine dw_region (by kernel_rfl) ?_
  refine dl_new (sem_box_a rfl rfl) rfl ?_
  refine dl_new (sem_box_a rfl rfl) rfl ?_
  refine dl_new (sem_alloc zc26 rfl) rfl ?_
  refine dl_end ?_
  refine dw_seq ?_
  -- region 1
  refine dw_region (by kernel_rfl) ?_
  refine dl_r (sem_call rfl rfl (rcast1 (x' := 1) (pFrom_ok (by decide) (by decide)) (by decide +kernel)) rfl) ?_
  refine dl_new (sem_alloc zc26 rfl) rfl ?_
  refine dl_st (sem_store_a ty26 rfl rfl rfl rfl rfl rfl) ?_
  refine dl_end ?_
  refine dw_seq ?_
  -- region 2
  refine dw_region (by kernel_rfl) ?_
  refine dl_r (sem_load (us := (cR (1 / 2) ++ cR (1 / 2) ++ cR 3)) ty39 rfl rfl rfl rfl rfl) ?_
  refine dl_r (sem_call rfl rfl (icast1 (x' := 1) (rtFloor_ok (rz_l (by decide +kernel)) (rz_l (by decide +kernel)) (rz_l (by decide +kernel))) (by decide +kernel)) rfl) ?_
  refine dl_r (sem_call rfl rfl ((show Ok Tryz.prog 78 [.c (.i .i64 1)] [dI 1] from iFrom_ok (by decide) (by decide))) rfl) ?_
  refine dl_r (sem_call rfl rfl (rcast1l (x' := 1) (pMake_ok (Sz.small (by decide) (by decide) (by decide)) (Sz.small (by decide) (by decide) (by decide)) (by decide)) (by decide +kernel)) rfl) ?_
  refine dl_r (sem_move rfl rfl) ?_
  refine dl_r (sem_extract rfl rfl rfl) ?_
  refine dl_r (sem_extract rfl rfl rfl) ?_
  refine dl_new (sem_alloc zc26 rfl) rfl ?_
  refine dl_st (sem_store_a ty26 rfl rfl rfl rfl rfl rfl) ?_
  refine dl_r (sem_assign rfl rfl) ?_
  refine dl_end ?_
  refine dw_seq ?_
  -- region 3
  refine dw_region (by kernel_rfl) ?_
  refine dl_r (sem_load (us := cR 1) ty26 rfl rfl rfl rfl rfl) ?_
  refine dl_r (sem_load (us := cR 1) ty26 rfl rfl rfl rfl rfl) ?_
  refine dl_r (sem_call rfl rfl (rcast1 (x' := 2) (pAdd_ok (rz_l (by decide +kernel)) (rz_l (by decide +kernel))) (by decide +kernel)) rfl) ?_
  refine dl_new (sem_alloc zc26 rfl) rfl ?_
  refine dl_st (sem_store_a ty26 rfl rfl rfl rfl rfl rfl) ?_
  refine dl_end ?_
  refine dw_seq ?_
  refine dw_seq ?_
  -- region 4
  refine dw_region (by kernel_rfl) ?_
  refine dl_r (sem_load (us := (cR 1 ++ cR 1 ++ cR 2)) ty39 rfl rfl rfl rfl rfl) ?_
  refine dl_r (sem_load (us := cR 2) ty26 rfl rfl rfl rfl rfl) ?_
  refine dl_r (sem_call rfl rfl (rcasti (c := 1) (xCmpRat_ok (rz_l (by decide +kernel)) (rz_l (by decide +kernel)) (rz_l (by decide +kernel)) (rz_l (by decide +kernel)) (rz_l (by decide +kernel)) (by decide +kernel)) (by decide +kernel)) rfl) ?_
  refine dl_r (sem_cmp rfl rfl rfl rfl) ?_
  refine dl_end ?_
  refine dw_true rfl ?_
  refine dw_seq ?_
  -- region 5
  refine dw_region (by kernel_rfl) ?_
  refine dl_r (sem_load (us := cR 2) ty26 rfl rfl rfl rfl rfl) ?_
  refine dl_st (sem_store_a ty26 rfl rfl rfl rfl rfl rfl) ?_
  refine dl_end ?_
  refine dw_ret ?_
  -- path 
  exact ⟨.inr rfl, (resL_cell (us := cR 2) ty26 rfl rfl rfl rfl resL_nil)⟩
theorem cbt2  : Ok Tryz.prog 48 [.a (cR 0 ++ cR 1 ++ cR 2), .a (cR 0 ++ cR 1 ++ cR 3)] [dR (3 / 2)] := by
  refine Ok.of (by kernel_rfl) Tryz.func48 rfl rfl ?_
  rw [show Tryz.f48.ntmps = 74 from rfl, show Tryz.f48.results.toList = [.cell 4 26] from rfl]
  refine dw_seq ?_
  -- region 0
  refine dw_region (by kernel_rfl) ?_
  refine dl_new (sem_box_a rfl rfl) rfl ?_
  refine dl_new (sem_box_a rfl rfl) rfl ?_
  refine dl_new (sem_alloc zc26 rfl) rfl ?_
  refine dl_end ?_
  refine dw_seq ?_
  -- region 1
  refine dw_region (by kernel_rfl) ?_
  refine dl_r (sem_call rfl rfl (rcast1 (x' := 1) (pFrom_ok (by decide) (by decide)) (by decide +kernel)) rfl) ?_
  refine dl_new (sem_alloc zc26 rfl) rfl ?_
  refine dl_st (sem_store_a ty26 rfl rfl rfl rfl rfl rfl) ?_
  refine dl_end ?_
  refine dw_seq ?_
  -- region 2
  refine dw_region (by kernel_rfl) ?_
  refine dl_r (sem_load (us := (cR 0 ++ cR 1 ++ cR 2)) ty39 rfl rfl rfl rfl rfl) ?_
  refine dl_r (sem_call rfl rfl (icast1 (x' := 1) (rtFloor_ok (rz_l (by decide +kernel)) (rz_l (by decide +kernel)) (rz_l (by decide +kernel))) (by decide +kernel)) rfl) ?_
  refine dl_r (sem_call rfl rfl ((show Ok Tryz.prog 78 [.c (.i .i64 1)] [dI 1] from iFrom_ok (by decide) (by decide))) rfl) ?_
  refine dl_r (sem_call rfl rfl (rcast1l (x' := 1) (pMake_ok (Sz.small (by decide) (by decide) (by decide)) (Sz.small (by decide) (by decide) (by decide)) (by decide)) (by decide +kernel)) rfl) ?_
  refine dl_r (sem_move rfl rfl) ?_
  refine dl_r (sem_extract rfl rfl rfl) ?_
  refine dl_r (sem_extract rfl rfl rfl) ?_
  refine dl_new (sem_alloc zc26 rfl) rfl ?_
  refine dl_st (sem_store_a ty26 rfl rfl rfl rfl rfl rfl) ?_
  refine dl_r (sem_assign rfl rfl) ?_
  refine dl_end ?_
  refine dw_seq ?_
  -- region 3
  refine dw_region (by kernel_rfl) ?_
  refine dl_r (sem_load (us := cR 1) ty26 rfl rfl rfl rfl rfl) ?_
  refine dl_r (sem_load (us := cR 1) ty26 rfl rfl rfl rfl rfl) ?_
  refine dl_r (sem_call rfl rfl (rcast1 (x' := 2) (pAdd_ok (rz_l (by decide +kernel)) (rz_l (by decide +kernel))) (by decide +kernel)) rfl) ?_
  refine dl_new (sem_alloc zc26 rfl) rfl ?_
  refine dl_st (sem_store_a ty26 rfl rfl rfl rfl rfl rfl) ?_
  refine dl_end ?_
  refine dw_seq ?_
  refine dw_seq ?_
  -- region 4
  refine dw_region (by kernel_rfl) ?_
  refine dl_r (sem_load (us := (cR 0 ++ cR 1 ++ cR 3)) ty39 rfl rfl rfl rfl rfl) ?_
  refine dl_r (sem_load (us := cR 2) ty26 rfl rfl rfl rfl rfl) ?_
  refine dl_r (sem_call rfl rfl (rcasti (c := -1) (xCmpRat_ok (rz_l (by decide +kernel)) (rz_l (by decide +kernel)) (rz_l (by decide +kernel)) (rz_l (by decide +kernel)) (rz_l (by decide +kernel)) (by decide +kernel)) (by decide +kernel)) rfl) ?_
  refine dl_r (sem_cmp rfl rfl rfl rfl) ?_
  refine dl_end ?_
  refine dw_false rfl ?_
  refine dw_skip ?_
  refine dw_seq ?_
  -- region 6
  refine dw_region (by kernel_rfl) ?_
  refine dl_r (sem_load (us := (cR 0 ++ cR 1 ++ cR 3)) ty39 rfl rfl rfl rfl rfl) ?_
  refine dl_r (sem_load (us := cR 1) ty26 rfl rfl rfl rfl rfl) ?_
  refine dl_r (sem_call rfl rfl (rcast3 (x' := -1) (y' := 1) (z' := 3) (xLess_ok (rz_l (by decide +kernel)) (rz_l (by decide +kernel))) (by decide +kernel) rfl rfl) rfl) ?_
  refine dl_r (sem_call rfl rfl (rcast3l (x' := 1 / 2) (y' := 1 / 2) (z' := 3) (rtInv_ok (rz_l (by decide +kernel)) (rz_l (by decide +kernel)) (rz_l (by decide +kernel)) (by decide +kernel) (by decide +kernel)) (by decide +kernel) (by decide +kernel) (by decide +kernel)) rfl) ?_
  refine dl_r (sem_move rfl rfl) ?_
  refine dl_r (sem_extract rfl rfl rfl) ?_
  refine dl_r (sem_extract rfl rfl rfl) ?_
  refine dl_new (sem_alloc zc39 rfl) rfl ?_
  refine dl_st (sem_store_a ty39 rfl rfl rfl rfl rfl rfl) ?_
  refine dl_r (sem_assign rfl rfl) ?_
  refine dl_end ?_
  refine dw_seq ?_
  -- region 7
  refine dw_region (by kernel_rfl) ?_
  refine dl_new (sem_alloc zc26 rfl) rfl ?_
  refine dl_end ?_
  refine dw_seq ?_
  refine dw_seq ?_
  -- region 8
  refine dw_region (by kernel_rfl) ?_
  refine dl_r (sem_load (us := (cR 0 ++ cR 1 ++ cR 2)) ty39 rfl rfl rfl rfl rfl) ?_
  refine dl_r (sem_load (us := cR 1) ty26 rfl rfl rfl rfl rfl) ?_
  refine dl_r (sem_call rfl rfl (rcasti (c := 1) (xCmpRat_ok (rz_l (by decide +kernel)) (rz_l (by decide +kernel)) (rz_l (by decide +kernel)) (rz_l (by decide +kernel)) (rz_l (by decide +kernel)) (by decide +kernel)) (by decide +kernel)) rfl) ?_
  refine dl_r (sem_cmp rfl rfl rfl rfl) ?_
  refine dl_end ?_
  refine dw_false rfl ?_
  refine dw_seq ?_
  -- region 11
  refine dw_region (by kernel_rfl) ?_
  refine dl_r (sem_load (us := (cR 0 ++ cR 1 ++ cR 2)) ty39 rfl rfl rfl rfl rfl) ?_
  refine dl_r (sem_load (us := cR 1) ty26 rfl rfl rfl rfl rfl) ?_
  refine dl_r (sem_call rfl rfl (rcast3 (x' := -1) (y' := 1) (z' := 2) (xLess_ok (rz_l (by decide +kernel)) (rz_l (by decide +kernel))) (by decide +kernel) rfl rfl) rfl) ?_
  refine dl_r (sem_call rfl rfl (rcast3l (x' := 1) (y' := 1) (z' := 2) (rtInv_ok (rz_l (by decide +kernel)) (rz_l (by decide +kernel)) (rz_l (by decide +kernel)) (by decide +kernel) (by decide +kernel)) (by decide +kernel) (by decide +kernel) (by decide +kernel)) rfl) ?_
  refine dl_r (sem_move rfl rfl) ?_
  refine dl_r (sem_extract rfl rfl rfl) ?_
  refine dl_r (sem_extract rfl rfl rfl) ?_
  refine dl_new (sem_alloc zc39 rfl) rfl ?_
  refine dl_st (sem_store_a ty39 rfl rfl rfl rfl rfl rfl) ?_
  refine dl_r (sem_assign rfl rfl) ?_
  refine dl_end ?_
  -- region 12
  refine dw_region (by kernel_rfl) ?_
  refine dl_r (sem_load (us := (cR (1 / 2) ++ cR (1 / 2) ++ cR 3)) ty39 rfl rfl rfl rfl rfl) ?_
  refine dl_r (sem_load (us := (cR 1 ++ cR 1 ++ cR 2)) ty39 rfl rfl rfl rfl rfl) ?_
  refine dl_r (sem_call rfl rfl (cbt1) rfl) ?_
  refine dl_st (sem_store_a ty26 rfl rfl rfl rfl rfl rfl) ?_
  refine dl_end ?_
  refine dw_seq ?_
  -- region 13
  refine dw_region (by kernel_rfl) ?_
  refine dl_r (sem_load (us := cR 1) ty26 rfl rfl rfl rfl rfl) ?_
  refine dl_r (sem_load (us := cR 2) ty26 rfl rfl rfl rfl rfl) ?_
  refine dl_r (sem_call rfl rfl (rcast1l (x' := 1 / 2) (pDiv_ok (rz_l (by decide +kernel)) (rz_l (by decide +kernel)) (by decide +kernel)) (by decide +kernel)) rfl) ?_
  refine dl_r (sem_move rfl rfl) ?_
  refine dl_r (sem_extract rfl rfl rfl) ?_
  refine dl_r (sem_extract rfl rfl rfl) ?_
  refine dl_new (sem_alloc zc26 rfl) rfl ?_
  refine dl_st (sem_store_a ty26 rfl rfl rfl rfl rfl rfl) ?_
  refine dl_r (sem_assign rfl rfl) ?_
  refine dl_end ?_
  refine dw_seq ?_
  -- region 14
  refine dw_region (by kernel_rfl) ?_
  refine dl_r (sem_load (us := cR 1) ty26 rfl rfl rfl rfl rfl) ?_
  refine dl_r (sem_load (us := cR (1 / 2)) ty26 rfl rfl rfl rfl rfl) ?_
  refine dl_r (sem_call rfl rfl (rcast1 (x' := 3 / 2) (pAdd_ok (rz_l (by decide +kernel)) (rz_l (by decide +kernel))) (by decide +kernel)) rfl) ?_
  refine dl_st (sem_store_a ty26 rfl rfl rfl rfl rfl rfl) ?_
  refine dl_end ?_
  refine dw_ret ?_
  -- path 
  exact ⟨.inr rfl, (resL_cell (us := cR (3 / 2)) ty26 rfl rfl rfl rfl resL_nil)⟩
theorem cBt1  : Ok Tryz.prog 20 [.a (cR 0 ++ cR 1 ++ cR 2), .a (cR 0 ++ cR 1 ++ cR 3)] [dR (3 / 2), .c (.i .i64 0)] := by
  refine Ok.of (by kernel_rfl) Tryz.func20 rfl rfl ?_
  rw [show Tryz.f20.ntmps = 39 from rfl, show Tryz.f20.results.toList = [.cell 4 26, .tmp 5] from rfl]
  refine dw_seq ?_
  -- region 0
  refine dw_region (by kernel_rfl) ?_
  refine dl_new (sem_box_a rfl rfl) rfl ?_
  refine dl_new (sem_box_a rfl rfl) rfl ?_
  refine dl_new (sem_alloc zc26 rfl) rfl ?_
  refine dl_r (sem_assign rfl rfl) ?_
  refine dl_end ?_
  refine dw_seq ?_
  refine dw_seq ?_
  -- region 1
  refine dw_region (by kernel_rfl) ?_
  refine dl_r (sem_load (us := (cR 0 ++ cR 1 ++ cR 2)) ty39 rfl rfl rfl rfl rfl) ?_
  refine dl_r (sem_load (us := (cR 0 ++ cR 1 ++ cR 3)) ty39 rfl rfl rfl rfl rfl) ?_
  refine dl_r (sem_call rfl rfl (rcasti (c := -1) (xCmpQ_ok (rz_l (by decide +kernel)) (rz_l (by decide +kernel)) (rz_l (by decide +kernel)) (rz_l (by decide +kernel)) (rz_l (by decide +kernel)) (rz_l (by decide +kernel)) (rz_l (by decide +kernel)) (by decide +kernel) (by decide +kernel)) (by decide +kernel)) rfl) ?_
  refine dl_r (sem_cmp rfl rfl rfl rfl) ?_
  refine dl_end ?_
  refine dw_false rfl ?_
  refine dw_skip ?_
  refine dw_seq ?_
  -- region 3
  refine dw_region (by kernel_rfl) ?_
  refine dl_r (sem_call rfl rfl (rcast1 (x' := 0) (pFrom_ok (by decide) (by decide)) (by decide +kernel)) rfl) ?_
  refine dl_new (sem_alloc zc26 rfl) rfl ?_
  refine dl_st (sem_store_a ty26 rfl rfl rfl rfl rfl rfl) ?_
  refine dl_end ?_
  refine dw_seq ?_
  refine dw_block ?_
  refine dw_seq ?_
  -- region 4
  refine dw_region (by kernel_rfl) ?_
  refine dl_r (sem_load (us := (cR 0 ++ cR 1 ++ cR 2)) ty39 rfl rfl rfl rfl rfl) ?_
  refine dl_r (sem_load (us := cR 0) ty26 rfl rfl rfl rfl rfl) ?_
  refine dl_r (sem_call rfl rfl (rcasti (c := 1) (xCmpRat_ok (rz_l (by decide +kernel)) (rz_l (by decide +kernel)) (rz_l (by decide +kernel)) (rz_l (by decide +kernel)) (rz_l (by decide +kernel)) (by decide +kernel)) (by decide +kernel)) rfl) ?_
  refine dl_r (sem_cmp rfl rfl rfl rfl) ?_
  refine dl_r (sem_move rfl rfl) ?_
  refine dl_skip (sem_skip rfl) ?_
  refine dl_skip (sem_skip rfl) ?_
  refine dl_skip (sem_skip rfl) ?_
  refine dl_skip (sem_skip rfl) ?_
  refine dl_r (sem_pick rfl rfl rfl rfl) ?_
  refine dl_r (sem_assign rfl rfl) ?_
  refine dl_end ?_
  refine dw_false rfl ?_
  refine dw_seq ?_
  -- region 6
  refine dw_region (by kernel_rfl) ?_
  refine dl_r (sem_load (us := (cR 0 ++ cR 1 ++ cR 3)) ty39 rfl rfl rfl rfl rfl) ?_
  refine dl_r (sem_load (us := cR 0) ty26 rfl rfl rfl rfl rfl) ?_
  refine dl_r (sem_call rfl rfl (rcasti (c := 1) (xCmpRat_ok (rz_l (by decide +kernel)) (rz_l (by decide +kernel)) (rz_l (by decide +kernel)) (rz_l (by decide +kernel)) (rz_l (by decide +kernel)) (by decide +kernel)) (by decide +kernel)) rfl) ?_
  refine dl_r (sem_cmp rfl rfl rfl rfl) ?_
  refine dl_r (sem_assign rfl rfl) ?_
  refine dl_end ?_
  refine dw_false rfl ?_
  refine dw_skip ?_
  refine dw_seq ?_
  -- region 8
  refine dw_region (by kernel_rfl) ?_
  refine dl_r (sem_load (us := (cR 0 ++ cR 1 ++ cR 2)) ty39 rfl rfl rfl rfl rfl) ?_
  refine dl_r (sem_load (us := (cR 0 ++ cR 1 ++ cR 3)) ty39 rfl rfl rfl rfl rfl) ?_
  refine dl_r (sem_call rfl rfl (cbt2) rfl) ?_
  refine dl_st (sem_store_a ty26 rfl rfl rfl rfl rfl rfl) ?_
  refine dl_r (sem_assign rfl rfl) ?_
  refine dl_end ?_
  refine dw_ret ?_
  -- path 
  exact ⟨.inr rfl, (resL_cell (us := cR (3 / 2)) ty26 rfl rfl rfl rfl (resL_tmp rfl resL_nil))⟩
theorem cBt2  : Ok Tryz.prog 20 [.a (cR (-5 / 2) ++ cR 0 ++ cR 0), .a (cR 0 ++ cR 1 ++ cR 2)] [dR 0, .c (.i .i64 0)] := by
  refine Ok.of (by kernel_rfl) Tryz.func20 rfl rfl ?_
  rw [show Tryz.f20.ntmps = 39 from rfl, show Tryz.f20.results.toList = [.cell 4 26, .tmp 5] from rfl]
  refine dw_seq ?_
  -- region 0
  refine dw_region (by kernel_rfl) ?_
  refine dl_new (sem_box_a rfl rfl) rfl ?_
  refine dl_new (sem_box_a rfl rfl) rfl ?_
  refine dl_new (sem_alloc zc26 rfl) rfl ?_
  refine dl_r (sem_assign rfl rfl) ?_
  refine dl_end ?_
  refine dw_seq ?_
  refine dw_seq ?_
  -- region 1
  refine dw_region (by kernel_rfl) ?_
  refine dl_r (sem_load (us := (cR (-5 / 2) ++ cR 0 ++ cR 0)) ty39 rfl rfl rfl rfl rfl) ?_
  refine dl_r (sem_load (us := (cR 0 ++ cR 1 ++ cR 2)) ty39 rfl rfl rfl rfl rfl) ?_
  refine dl_r (sem_call rfl rfl (rcasti (c := -1) (xCmpQ_ok (rz_l (by decide +kernel)) (rz_l (by decide +kernel)) (rz_l (by decide +kernel)) (rz_l (by decide +kernel)) (rz_l (by decide +kernel)) (rz_l (by decide +kernel)) (rz_l (by decide +kernel)) (by decide +kernel) (by decide +kernel)) (by decide +kernel)) rfl) ?_
  refine dl_r (sem_cmp rfl rfl rfl rfl) ?_
  refine dl_end ?_
  refine dw_false rfl ?_
  refine dw_skip ?_
  refine dw_seq ?_
  -- region 3
  refine dw_region (by kernel_rfl) ?_
  refine dl_r (sem_call rfl rfl (rcast1 (x' := 0) (pFrom_ok (by decide) (by decide)) (by decide +kernel)) rfl) ?_
  refine dl_new (sem_alloc zc26 rfl) rfl ?_
  refine dl_st (sem_store_a ty26 rfl rfl rfl rfl rfl rfl) ?_
  refine dl_end ?_
  refine dw_seq ?_
  refine dw_block ?_
  refine dw_seq ?_
  -- region 4
  refine dw_region (by kernel_rfl) ?_
  refine dl_r (sem_load (us := (cR (-5 / 2) ++ cR 0 ++ cR 0)) ty39 rfl rfl rfl rfl rfl) ?_
  refine dl_r (sem_load (us := cR 0) ty26 rfl rfl rfl rfl rfl) ?_
  refine dl_r (sem_call rfl rfl (rcasti (c := -1) (xCmpRat_ok (rz_l (by decide +kernel)) (rz_l (by decide +kernel)) (rz_l (by decide +kernel)) (rz_l (by decide +kernel)) (rz_l (by decide +kernel)) (by decide +kernel)) (by decide +kernel)) rfl) ?_
  refine dl_r (sem_cmp rfl rfl rfl rfl) ?_
  refine dl_r (sem_move rfl rfl) ?_
  refine dl_r (sem_load (us := (cR 0 ++ cR 1 ++ cR 2)) ty39 rfl rfl rfl rfl rfl) ?_
  refine dl_r (sem_load (us := cR 0) ty26 rfl rfl rfl rfl rfl) ?_
  refine dl_r (sem_call rfl rfl (rcasti (c := 1) (xCmpRat_ok (rz_l (by decide +kernel)) (rz_l (by decide +kernel)) (rz_l (by decide +kernel)) (rz_l (by decide +kernel)) (rz_l (by decide +kernel)) (by decide +kernel)) (by decide +kernel)) rfl) ?_
  refine dl_r (sem_cmp rfl rfl rfl rfl) ?_
  refine dl_r (sem_pick rfl rfl rfl rfl) ?_
  refine dl_r (sem_assign rfl rfl) ?_
  refine dl_end ?_
  refine dw_true rfl ?_
  refine dw_seq ?_
  -- region 5
  refine dw_region (by kernel_rfl) ?_
  refine dl_r (sem_load (us := cR 0) ty26 rfl rfl rfl rfl rfl) ?_
  refine dl_st (sem_store_a ty26 rfl rfl rfl rfl rfl rfl) ?_
  refine dl_r (sem_assign rfl rfl) ?_
  refine dl_end ?_
  refine dw_ret ?_
  -- path 
  exact ⟨.inr rfl, (resL_cell (us := cR 0) ty26 rfl rfl rfl rfl (resL_tmp rfl resL_nil))⟩
theorem awake5_ok  : Ok Tryz.prog 7 [] [.c (.b true)] := by
  refine Ok.of (by kernel_rfl) Tryz.func7 rfl rfl ?_
  rw [show Tryz.f7.ntmps = 81 from rfl, show Tryz.f7.results.toList = [.tmp 0] from rfl]
  refine dw_seq ?_
  -- region 0
  refine dw_region (by kernel_rfl) ?_
  refine dl_r (sem_assign rfl rfl) ?_
  refine dl_end ?_
  refine dw_seq ?_
  -- region 1
  refine dw_region (by kernel_rfl) ?_
  refine dl_r (sem_call rfl rfl (rcast1 (x' := 25) (lwNum_ok (by decide) (by decide)) (by decide +kernel)) rfl) ?_
  refine dl_r (sem_call rfl rfl (rcast1 (x' := 4) (lwNum_ok (by decide) (by decide)) (by decide +kernel)) rfl) ?_
  refine dl_r (sem_call rfl rfl (rcast1 (x' := 1) (lwNum_ok (by decide) (by decide)) (by decide +kernel)) rfl) ?_
  refine dl_r (sem_call rfl rfl (rcast1 (x' := 2) (lwNum_ok (by decide) (by decide)) (by decide +kernel)) rfl) ?_
  refine dl_r (sem_call rfl rfl (cSum) rfl) ?_
  refine dl_r (sem_move rfl rfl) ?_
  refine dl_r (sem_extract rfl rfl rfl) ?_
  refine dl_r (sem_extract rfl rfl rfl) ?_
  refine dl_r (sem_assign rfl rfl) ?_
  refine dl_r (sem_assign rfl rfl) ?_
  refine dl_end ?_
  refine dw_seq ?_
  -- region 2
  refine dw_region (by kernel_rfl) ?_
  refine dl_r (sem_call rfl rfl (lwRt5_1_2) rfl) ?_
  refine dl_r (sem_call rfl rfl (lwRt5_1_3) rfl) ?_
  refine dl_r (sem_call rfl rfl (cBt1) rfl) ?_
  refine dl_r (sem_move rfl rfl) ?_
  refine dl_r (sem_extract rfl rfl rfl) ?_
  refine dl_r (sem_extract rfl rfl rfl) ?_
  refine dl_new (sem_alloc zc26 rfl) rfl ?_
  refine dl_st (sem_store_a ty26 rfl rfl rfl rfl rfl rfl) ?_
  refine dl_r (sem_assign rfl rfl) ?_
  refine dl_end ?_
  refine dw_seq ?_
  -- region 3
  refine dw_region (by kernel_rfl) ?_
  refine dl_r (sem_call rfl rfl (rcast1 (x' := -5 / 2) (sFrac_ok (by decide) (by decide) (by decide) (by decide) (by decide)) (by decide +kernel)) rfl) ?_
  refine dl_r (sem_call rfl rfl (rcast1 (x' := 0) (lwNum_ok (by decide) (by decide)) (by decide +kernel)) rfl) ?_
  refine dl_r (sem_call rfl rfl (rcast1 (x' := 0) (lwNum_ok (by decide) (by decide)) (by decide +kernel)) rfl) ?_
  refine dl_r (sem_build (us := (cR (-5 / 2) ++ cR 0 ++ cR 0)) fs39 zc39 rfl rfl rfl) ?_
  refine dl_r (sem_call rfl rfl (lwRt5_1_2) rfl) ?_
  refine dl_r (sem_call rfl rfl (cBt2) rfl) ?_
  refine dl_r (sem_move rfl rfl) ?_
  refine dl_r (sem_extract rfl rfl rfl) ?_
  refine dl_r (sem_extract rfl rfl rfl) ?_
  refine dl_new (sem_alloc zc26 rfl) rfl ?_
  refine dl_st (sem_store_a ty26 rfl rfl rfl rfl rfl rfl) ?_
  refine dl_r (sem_assign rfl rfl) ?_
  refine dl_end ?_
  refine dw_seq ?_
  -- region 4
  refine dw_draw 52 [] follows_mixed (by kernel_rfl) rfl rfl ?_
  refine dq_r (sem_call rfl rfl (rcast1 (x' := -3) (lwNum_ok (by decide) (by decide)) (by decide +kernel)) rfl) ?_
  refine dq_r (sem_call rfl rfl (rcast1 (x' := 1) (lwNum_ok (by decide) (by decide)) (by decide +kernel)) rfl) ?_
  refine dq_r (sem_call rfl rfl (rcast1 (x' := 1) (lwNum_ok (by decide) (by decide)) (by decide +kernel)) rfl) ?_
  refine dq_r (sem_call rfl rfl (rcast1 (x' := 0) (lwNum_ok (by decide) (by decide)) (by decide +kernel)) rfl) ?_
  refine dq_r (sem_call rfl rfl (rcast1 (x' := 2) (lwNum_ok (by decide) (by decide)) (by decide +kernel)) rfl) ?_
  refine dq_r (sem_call rfl rfl (rcast1 (x' := 3) (lwNum_ok (by decide) (by decide)) (by decide +kernel)) rfl) ?_
  refine dq_r (sem_build (us := (cR (-3) ++ cR 1 ++ cR 1 ++ cR 0 ++ cR 2 ++ cR 3)) fs28 zc28 rfl rfl rfl) ?_
  refine dq_r (sem_call rfl rfl (rcasti (c := 1) (xSignQ_ok (rz_l (by decide +kernel)) (rz_l (by decide +kernel)) (rz_l (by decide +kernel)) (rz_l (by decide +kernel)) (rz_l (by decide +kernel)) (rz_l (by decide +kernel))) (by decide +kernel)) rfl) ?_
  refine dq_r (sem_cmp rfl rfl rfl rfl) ?_
  refine dq_r (sem_move rfl rfl) ?_
  refine dq_r (sem_call rfl rfl (rcast1 (x' := 5) (lwNum_ok (by decide) (by decide)) (by decide +kernel)) rfl) ?_
  refine dq_r (sem_call rfl rfl (rcast1 (x' := 0) (lwNum_ok (by decide) (by decide)) (by decide +kernel)) rfl) ?_
  refine dq_r (sem_call rfl rfl (rcast1 (x' := 0) (lwNum_ok (by decide) (by decide)) (by decide +kernel)) rfl) ?_
  refine dq_r (sem_call rfl rfl (rcast1 (x' := -2) (lwNum_ok (by decide) (by decide)) (by decide +kernel)) rfl) ?_
  refine dq_r (sem_call rfl rfl (rcast1 (x' := 2) (lwNum_ok (by decide) (by decide)) (by decide +kernel)) rfl) ?_
  refine dq_r (sem_call rfl rfl (rcast1 (x' := 3) (lwNum_ok (by decide) (by decide)) (by decide +kernel)) rfl) ?_
  refine dq_r (sem_build (us := (cR 5 ++ cR 0 ++ cR 0 ++ cR (-2) ++ cR 2 ++ cR 3)) fs28 zc28 rfl rfl rfl) ?_
  refine dq_r (sem_call rfl rfl (rcasti (c := 1) (xSignQ_ok (rz_l (by decide +kernel)) (rz_l (by decide +kernel)) (rz_l (by decide +kernel)) (rz_l (by decide +kernel)) (rz_l (by decide +kernel)) (rz_l (by decide +kernel))) (by decide +kernel)) rfl) ?_
  refine dq_r (sem_cmp rfl rfl rfl rfl) ?_
  refine dq_r (sem_pick rfl rfl rfl rfl) ?_
  refine dq_r (sem_move rfl rfl) ?_
  refine dq_r (sem_call rfl rfl (lwRt5_1_8) rfl) ?_
  refine dq_r (sem_call rfl rfl (lwRt5_2_2) rfl) ?_
  refine dq_r (sem_call rfl rfl (rcastb (c := true) (xEqual_ok (rz_l (by decide +kernel)) (rz_l (by decide +kernel)) (rz_l (by decide +kernel)) (rz_l (by decide +kernel)) (rz_l (by decide +kernel)) (rz_l (by decide +kernel)) (rz_l (by decide +kernel)) (by decide +kernel) (by decide +kernel)) (by decide +kernel)) rfl) ?_
  refine dq_r (sem_pick rfl rfl rfl rfl) ?_
  refine dq_r (sem_move rfl rfl) ?_
  refine dq_r (sem_move rfl rfl) ?_
  refine dq_r (sem_cmp rfl rfl rfl rfl) ?_
  refine dq_r (sem_pick rfl rfl rfl rfl) ?_
  refine dq_r (sem_move rfl rfl) ?_
  refine dq_r (sem_move rfl rfl) ?_
  refine dq_r (sem_cmp rfl rfl rfl rfl) ?_
  refine dq_r (sem_pick rfl rfl rfl rfl) ?_
  refine dq_r (sem_move rfl rfl) ?_
  refine dq_r (sem_load (us := cR (3 / 2)) ty26 rfl rfl rfl rfl rfl) ?_
  refine dq_r (sem_call rfl rfl (rcast1 (x' := 3 / 2) (sFrac_ok (by decide) (by decide) (by decide) (by decide) (by decide)) (by decide +kernel)) rfl) ?_
  refine dq_r (sem_call rfl rfl (rcastb (c := true) (sSame_ok (rz_l (by decide +kernel)) (rz_l (by decide +kernel))) (by decide +kernel)) rfl) ?_
  refine dq_r (sem_pick rfl rfl rfl rfl) ?_
  refine dq_r (sem_move rfl rfl) ?_
  refine dq_r (sem_move rfl rfl) ?_
  refine dq_r (sem_cmp rfl rfl rfl rfl) ?_
  refine dq_r (sem_pick rfl rfl rfl rfl) ?_
  refine dq_r (sem_move rfl rfl) ?_
  refine dq_r (sem_load (us := cR 0) ty26 rfl rfl rfl rfl rfl) ?_
  refine dq_r (sem_call rfl rfl (rcast1 (x' := 0) (lwNum_ok (by decide) (by decide)) (by decide +kernel)) rfl) ?_
  refine dq_r (sem_call rfl rfl (rcastb (c := true) (sSame_ok (rz_l (by decide +kernel)) (rz_l (by decide +kernel))) (by decide +kernel)) rfl) ?_
  refine dq_r (sem_pick rfl rfl rfl rfl) ?_
  refine dq_r (sem_move rfl rfl) ?_
  refine dq_r (sem_move rfl rfl) ?_
  refine dq_r (sem_cmp rfl rfl rfl rfl) ?_
  refine dq_r (sem_pick rfl rfl rfl rfl) ?_
  refine dq_r (sem_assign rfl rfl) ?_
  refine dq_end ?_
  refine dl_start0 ?_
  refine dl_end ?_
  refine dw_ret ?_
  -- path 
  exact ⟨.inr rfl, (resL_tmp rfl resL_nil)⟩
theorem s2_of {r : RN} (w : r.Wf) (h : r.s 2 = true) : ∃ x : Rat, Rz 2 x ∧ cN r = cR x := s_data (k := 2) w h
end Go.Proofs.YtcbjmiddangfoaaGreat
/- Arguments opened: what the row's readings give as data: fractions, roots, points, vectors. No condition. -/
namespace Go.Proofs.YtcbjmiddangfoaaGreat
open Go.ChangeShapes Go.WideShapes Go.ChangeAt Go.RowKit Go.Deep
theorem own : ownKnob Tryz.prog.godebug = none := by kernel_rfl
theorem laidOut : laidOutB Tryz.prog = true := by kernel_rfl
def NoB : Nat → Prop := fun _ => False
section
variable {H : Type} {enc : TypeId × Value → H} {w : World} {base : Nat} {spare : Nat → Bool} {held : Bool}
theorem olist_of {α : Type} {p : Nat → α → Prop} : ∀ (n : Nat), (∀ i, i < n → ∃ a, p i a) → ∃ l : List α, l.length = n ∧ ∀ i a, l[i]? = some a → p i a
  | 0, _ => ⟨[], rfl, fun i a h => by simp at h⟩
  | n + 1, h => by
    obtain ⟨l, hl, hp⟩ := olist_of n (fun i hi => h i (by omega))
    obtain ⟨a, ha⟩ := h n (by omega)
    refine ⟨l ++ [a], by simp [hl], fun i b hb => ?_⟩
    rcases Nat.lt_or_ge i n with h1 | h1
    · rw [List.getElem?_append_left (by omega)] at hb; exact hp i b hb
    · rw [List.getElem?_append_right (by omega)] at hb
      have : i = n := by
        rcases Nat.lt_or_ge (i - l.length) 1 with h2 | h2
        · omega
        · rw [List.getElem?_eq_none (by simpa using h2)] at hb; cases hb
      subst this
      rw [hl] at hb; simp at hb; subst hb; exact ha
theorem oadd_at (a : Addr) (k : Nat) (v : Value) (h : w.cell? (a.add k) = some v) : w.cell? ⟨a.block, a.off + k, none⟩ = some v := by
  obtain ⟨b, off, spot⟩ := a
  by_cases hk : k = 0
  · subst hk
    have hs : spot = none := by simpa [Addr.add] using World.cell?_spot h
    subst hs
    simpa [Addr.add] using h
  · simpa [Addr.add, hk] using h
theorem ospot_of (a : Addr) (v : Value) (h : w.cell? (a.add 0) = some v) : a = ⟨a.block, a.off, none⟩ := by
  obtain ⟨b, off, spot⟩ := a
  have hs : spot = none := by simpa [Addr.add] using World.cell?_spot h
  subst hs; rfl
theorem olt_of (b off : Nat) (v : Value) (h : w.cell? ⟨b, off, none⟩ = some v) : b < w.heap.size := World.block_lt_of_cell? w _ h
theorem limbs_of {fuel : Nat} {v : Value} {x : DataW H × List MemPlace} (h : DataW.trod enc Tryz.prog w base spare held fuel 22 [v] = some x) : ∃ xs, U32s xs ∧ RdC NoB w v (cM xs) := by
  rcases open_slice1 (P := Tryz.prog) Tryz.underlying22 (by kernel_rfl) h with ⟨hcs, _⟩ | ⟨a, len, cap, m, n, V, D, Pl, hcs, _, hl, hm, hmm, _, hi⟩
  · simp at hcs; subst hcs
    exact ⟨[], fun x hx => (by cases hx), .s0 none 0 (by omega)⟩
  · simp at hcs; subst hcs
    unfold maxLen at hm
    have key : ∀ i, i < len → ∃ z : Int, w.cell? (a.add i) = some (.int .u32 z) ∧ 0 ≤ z ∧ z < 4294967296 := by
      intro i hil
      obtain ⟨hc, ht⟩ := hi i (by rw [hmm]; split <;> omega)
      obtain ⟨z, e, _, hw⟩ := DataW.trod_int (P := Tryz.prog) Tryz.underlying107 ht
      simp at e
      simp [Lit.wf, IntKind.min, IntKind.max, IntKind.signed, IntKind.bits] at hw
      exact ⟨z, by rw [hc, e], by omega, by omega⟩
    obtain ⟨xs, hxl, hxs⟩ := olist_of len key
    refine ⟨xs, fun z hz => ?_, ?_⟩
    · obtain ⟨i, hi', rfl⟩ := List.mem_iff_getElem.1 hz
      have := hxs i _ (List.getElem?_eq_getElem hi')
      omega
    · unfold cM
      rw [hxl]
      refine rdc_of_rdi (xs := xs) ⟨by simp [hxl], fun h0 => ?_⟩ hl (by omega) (fun _ _ _ h => h)
      have h00 := (hxs 0 _ (List.getElem?_eq_getElem (by omega))).1
      have ea := ospot_of a _ h00
      refine ⟨a.block, a.off, by rw [← ea], olt_of _ _ _ (oadd_at a 0 _ h00), fun j u hu => ?_⟩
      rw [List.getElem?_map] at hu
      cases hj : xs[j]? with
      | none => rw [hj] at hu; cases hu
      | some z =>
        rw [hj] at hu
        simp at hu
        subst hu
        exact oadd_at a j _ (hxs j z hj).1
set_option maxRecDepth 100000 in
theorem int_of {fuel : Nat} {cs : List Value} {x : DataW H × List MemPlace} (h : DataW.trod enc Tryz.prog w base spare held fuel 24 cs = some x) : ∃ neg xs, U32s xs ∧ RdCs NoB w cs ([.b neg] ++ [cM xs]) := by
  obtain ⟨xs, n, _, _, hcl, hxl, hf⟩ := DataW.trod_struct (P := Tryz.prog) Tryz.underlying24 h
  have hcl : cs.length = 2 := hcl.trans (by kernel_rfl)
  have hxl : xs.length = 2 := hxl.trans (by kernel_rfl)
  match cs, hcl with
  | [c0, c1], _ =>
    have h0 : DataW.trod enc Tryz.prog w base spare held n 4 [c0] = xs[0]? := hf 0 _ rfl
    have h1 : DataW.trod enc Tryz.prog w base spare held n 22 [c1] = xs[1]? := hf 1 _ rfl
    rw [List.getElem?_eq_getElem (by omega)] at h0 h1
    obtain ⟨b, e, _⟩ := DataW.trod_bool (P := Tryz.prog) Tryz.underlying4 h0
    obtain ⟨zs, hz, hr⟩ := limbs_of h1
    simp at e
    subst e
    exact ⟨b, zs, hz, RdCs.cons (.b b) (RdCs.cons hr RdCs.nil)⟩
set_option maxRecDepth 100000 in
theorem rat_of {fuel : Nat} {cs : List Value} {x : DataW H × List MemPlace} (h : DataW.trod enc Tryz.prog w base spare held fuel 26 cs = some x) : ∃ r : RN, r.Wf ∧ RdCs NoB w cs (cN r) := by
  obtain ⟨xs, n, _, _, hcl, hxl, hf⟩ := DataW.trod_struct (P := Tryz.prog) Tryz.underlying26 h
  have hcl : cs.length = 4 := hcl.trans (by kernel_rfl)
  have hxl : xs.length = 2 := hxl.trans (by kernel_rfl)
  match cs, hcl with
  | [c0, c1, c2, c3], _ =>
    have h0 : DataW.trod enc Tryz.prog w base spare held n 24 [c0, c1] = xs[0]? := hf 0 _ rfl
    have h1 : DataW.trod enc Tryz.prog w base spare held n 24 [c2, c3] = xs[1]? := hf 1 _ rfl
    rw [List.getElem?_eq_getElem (by omega)] at h0 h1
    obtain ⟨b, zs, hz, hr⟩ := int_of h0
    obtain ⟨b', zs', hz', hr'⟩ := int_of h1
    exact ⟨⟨b, zs, b', zs'⟩, ⟨hz, hz'⟩, RdCs.append hr hr'⟩
set_option maxRecDepth 100000 in
theorem root_of {fuel : Nat} {cs : List Value} {x : DataW H × List MemPlace} (h : DataW.trod enc Tryz.prog w base spare held fuel 39 cs = some x) : ∃ r s t : RN, r.Wf ∧ s.Wf ∧ t.Wf ∧ RdCs NoB w cs (cN r ++ cN s ++ cN t) := by
  obtain ⟨xs, n, _, _, hcl, hxl, hf⟩ := DataW.trod_struct (P := Tryz.prog) Tryz.underlying39 h
  have hcl : cs.length = 12 := hcl.trans (by kernel_rfl)
  have hxl : xs.length = 3 := hxl.trans (by kernel_rfl)
  match cs, hcl with
  | [c0, c1, c2, c3, c4, c5, c6, c7, c8, c9, c10, c11], _ =>
    have h0 : DataW.trod enc Tryz.prog w base spare held n 26 [c0, c1, c2, c3] = xs[0]? := hf 0 _ rfl
    have h1 : DataW.trod enc Tryz.prog w base spare held n 26 [c4, c5, c6, c7] = xs[1]? := hf 1 _ rfl
    have h2 : DataW.trod enc Tryz.prog w base spare held n 26 [c8, c9, c10, c11] = xs[2]? := hf 2 _ rfl
    rw [List.getElem?_eq_getElem (by omega)] at h0 h1 h2
    obtain ⟨r, hz, hr⟩ := rat_of h0
    obtain ⟨s, hz', hr'⟩ := rat_of h1
    obtain ⟨t, hz2, hr2⟩ := rat_of h2
    exact ⟨r, s, t, hz, hz', hz2, RdCs.append (RdCs.append hr hr') hr2⟩
/-- What a contract gives a row. -/
theorem law_of {f : FuncId} {ds : List D0} {vs : Array Value} {W : World} (h : Ok Tryz.prog f ds [.c (.b true)]) (hr : RdL NoB W vs.toList ds) : Calls Tryz.prog f vs W fun e W' => e = .returned (.bool true) ∧ Below W.heap.size W W' :=
  (h.run NoB vs W (fun _ h => h.elim) hr).mono fun e w' ⟨v, e1, h1, h2⟩ => by
    have := RdC.bool_eq h1
    subst this
    exact ⟨e1, h2⟩
end
end Go.Proofs.YtcbjmiddangfoaaGreat
/- Plain: small raw points and vectors are numbers. -/
namespace Go.Proofs.YtcbjmiddangfoaaGreat
open Go Go.RowKit
theorem s3_of {r : RN} (w : r.Wf) (h : r.s 3 = true) : ∃ x : Rat, Rz 3 x ∧ cN r = cR x := s_data (k := 3) w h
theorem p3_of {x1 x2 x3 x4 x5 : RN} (w1 : x1.Wf) (w2 : x2.Wf) (w3 : x3.Wf) (w4 : x4.Wf) (w5 : x5.Wf) (h : (x1.s 3 && (x2.s 3 && (x3.s 3 && (x4.s 3 && x5.s 3)))) = true) :
    ∃ a1 b1 a2 b2 c : Rat, Rz 3 a1 ∧ Rz 3 b1 ∧ Rz 3 a2 ∧ Rz 3 b2 ∧ Rz 3 c ∧ (cN x1 ++ cN x2 ++ cN x3 ++ cN x4 ++ cN x5) = (cR a1 ++ cR b1 ++ cR a2 ++ cR b2 ++ cR c) := by
  simp only [Bool.and_eq_true] at h
  obtain ⟨a1, h1, e1⟩ := s3_of w1 h.1
  obtain ⟨b1, h2, e2⟩ := s3_of w2 h.2.1
  obtain ⟨a2, h3, e3⟩ := s3_of w3 h.2.2.1
  obtain ⟨b2, h4, e4⟩ := s3_of w4 h.2.2.2.1
  obtain ⟨c, h5, e5⟩ := s3_of w5 h.2.2.2.2
  exact ⟨a1, b1, a2, b2, c, h1, h2, h3, h4, h5, by rw [e1, e2, e3, e4, e5]⟩
theorem v3_of {v w : RN} (wv : v.Wf) (ww : w.Wf) (h : (v.s 3 && w.s 3) = true) : ∃ d e : Rat, Rz 3 d ∧ Rz 3 e ∧ (cN v ++ cN w) = (cR d ++ cR e) := by
  simp only [Bool.and_eq_true] at h
  obtain ⟨d, h1, e1⟩ := s3_of wv h.1
  obtain ⟨e, h2, e2⟩ := s3_of ww h.2
  exact ⟨d, e, h1, h2, by rw [e1, e2]⟩
end Go.Proofs.YtcbjmiddangfoaaGreat
/- Arguments opened: quads, four fractions. No condition. -/
namespace Go.Proofs.YtcbjmiddangfoaaGreat
open Go.ChangeShapes Go.WideShapes Go.ChangeAt Go.RowKit Go.Deep
theorem okWide_arr {P : Program} {w : World} {r : Reach} {base : Nat} {t e : TypeId} {n : Nat} {v : Value} (ht : P.underlying t = some (.array n e)) (h : Value.okWide P w r base t v) : ∃ cs, v = .agg cs := by
  simp only [Value.okWide, ht] at h
  obtain ⟨cs, h1, _⟩ := h
  exact ⟨cs, h1⟩
section
variable {H : Type} {enc : TypeId × Value → H} {w : World} {base : Nat} {spare : Nat → Bool} {held : Bool}
set_option maxRecDepth 100000 in
theorem quad_of {fuel : Nat} {cs : List Value} {x : DataW H × List MemPlace} (h : DataW.trod enc Tryz.prog w base spare held fuel 28 cs = some x) :
    ∃ r s t u v y : RN, r.Wf ∧ s.Wf ∧ t.Wf ∧ u.Wf ∧ v.Wf ∧ y.Wf ∧ RdCs NoB w cs (cN r ++ cN s ++ cN t ++ cN u ++ cN v ++ cN y) := by
  obtain ⟨xs, n, _, _, hcl, hxl, hf⟩ := DataW.trod_struct (P := Tryz.prog) Tryz.underlying28 h
  have hcl : cs.length = 24 := hcl.trans (by kernel_rfl)
  have hxl : xs.length = 6 := hxl.trans (by kernel_rfl)
  match cs, hcl with
  | [c0, c1, c2, c3, c4, c5, c6, c7, c8, c9, c10, c11, d0, d1, d2, d3, d4, d5, d6, d7, e0, e1, e2, e3], _ =>
    have h0 : DataW.trod enc Tryz.prog w base spare held n 26 [c0, c1, c2, c3] = xs[0]? := hf 0 _ rfl
    have h1 : DataW.trod enc Tryz.prog w base spare held n 26 [c4, c5, c6, c7] = xs[1]? := hf 1 _ rfl
    have h2 : DataW.trod enc Tryz.prog w base spare held n 26 [c8, c9, c10, c11] = xs[2]? := hf 2 _ rfl
    have h3 : DataW.trod enc Tryz.prog w base spare held n 26 [d0, d1, d2, d3] = xs[3]? := hf 3 _ rfl
    have h4 : DataW.trod enc Tryz.prog w base spare held n 26 [d4, d5, d6, d7] = xs[4]? := hf 4 _ rfl
    have h5 : DataW.trod enc Tryz.prog w base spare held n 26 [e0, e1, e2, e3] = xs[5]? := hf 5 _ rfl
    rw [List.getElem?_eq_getElem (by omega)] at h0 h1 h2 h3 h4 h5
    obtain ⟨r, hz, hr⟩ := rat_of h0
    obtain ⟨s, hz', hr'⟩ := rat_of h1
    obtain ⟨t, hz2, hr2⟩ := rat_of h2
    obtain ⟨u, hz3, hr3⟩ := rat_of h3
    obtain ⟨v, hz4, hr4⟩ := rat_of h4
    obtain ⟨y, hz5, hr5⟩ := rat_of h5
    exact ⟨r, s, t, u, v, y, hz, hz', hz2, hz3, hz4, hz5, RdCs.append (RdCs.append (RdCs.append (RdCs.append (RdCs.append hr hr') hr2) hr3) hr4) hr5⟩
set_option maxRecDepth 100000 in
theorem rats4_of {fuel : Nat} {cs : List Value} {x : DataW H × List MemPlace} (h : DataW.trod enc Tryz.prog w base spare held fuel 44 cs = some x) : ∃ p q r s : RN, p.Wf ∧ q.Wf ∧ r.Wf ∧ s.Wf ∧ RdCs NoB w cs (cN p ++ cN q ++ cN r ++ cN s) := by
  obtain ⟨xs, n, _, _, hcl, hxl, hf⟩ := DataW.trod_array (P := Tryz.prog) Tryz.underlying44 h
  have hcl : cs.length = 16 := hcl.trans (by kernel_rfl)
  have hce : Tryz.prog.cellsOf 26 = 4 := by kernel_rfl
  rw [hce] at hf
  have h0 := hf 0 (by omega)
  have h1 := hf 1 (by omega)
  have h2 := hf 2 (by omega)
  have h3 := hf 3 (by omega)
  rw [List.getElem?_eq_getElem (by omega)] at h0 h1 h2 h3
  obtain ⟨p, wp, rp⟩ := rat_of h0
  obtain ⟨q, wq, rq⟩ := rat_of h1
  obtain ⟨s, ws, rs⟩ := rat_of h2
  obtain ⟨t, wt, rt⟩ := rat_of h3
  refine ⟨p, q, s, t, wp, wq, ws, wt, ?_⟩
  have e : cs = (cs.drop (0 * 4)).take 4 ++ (cs.drop (1 * 4)).take 4 ++ (cs.drop (2 * 4)).take 4 ++ (cs.drop (3 * 4)).take 4 := by
    match cs, hcl with
    | [c0, c1, c2, c3, c4, c5, d0, d1, d2, d3, d4, d5, f0, f1, f2, f3], _ => rfl
  rw [e]
  exact RdCs.append (RdCs.append (RdCs.append rp rq) rs) rt
end
end Go.Proofs.YtcbjmiddangfoaaGreat
