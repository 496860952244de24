/- Few of 3: fractions of at most two limbs. -/
import Derived.Test.YtcimbhjmjlfloaaGreatSaN
import Derived.Test.YtcimbhjmjlfloaaGreatRows
import Derived.Deep.Slices
import Derived.ProofKit
import Derived.OpenShut
import Derived.Carry
namespace Go.Proofs.YtcimbhjmjlfloaaGreat
open Go Go.RowKit
theorem few3_0 {r0 r1 r2 : RN} (wr0 : r0.Wf) (hk : r0.s 2 = false) : Ok Tryz.prog 16 [.c (.s 3 (cN r0 ++ cN r1 ++ cN r2))] [.c (.b false)] := by
  refine Ok.of (by kernel_rfl) Tryz.func16 rfl rfl ?_
  rw [show Tryz.f16.ntmps = 36 from rfl, show Tryz.f16.results.toList = [.tmp 2] from rfl]
  refine dw_seq ?_
  -- region 0
  refine dw_region (by kernel_rfl) ?_
  refine dl_r (sem_assign rfl rfl) ?_
  refine dl_end ?_
  refine dw_seq ?_
  refine dw_seq ?_
  -- region 1
  refine dw_region (by kernel_rfl) ?_
  refine dl_r (sem_assign rfl rfl) ?_
  refine dl_end ?_
  refine dw_block ?_
  refine dw_loop (ι := Nat) (fun i => match i with | _ => ⟨36, [(0, .v (.c (.s 3 (cN r0 ++ cN r1 ++ cN r2)))), (2, .v (.c (.b false))), (3, .v (.c (.i .i64 0)))], []⟩) (fun i => 0 - i) 0 (sub_of ⟨rfl, rfl, rfl, trivial⟩ trivial rfl) ?_
  intro i
  match i with
  | _ =>
    show Dw _ _ ⟨36, [(0, .v (.c (.s 3 (cN r0 ++ cN r1 ++ cN r2)))), (2, .v (.c (.b false))), (3, .v (.c (.i .i64 0)))], []⟩ _
    refine dw_seq ?_
    refine dw_seq ?_
    -- region 2
    refine dw_region (by kernel_rfl) ?_
    refine dl_r (sem_move rfl rfl) ?_
    refine dl_r (sem_move rfl rfl) ?_
    refine dl_r (sem_len sl55 rfl rfl) ?_
    refine dl_r (sem_cmp rfl rfl rfl rfl) ?_
    refine dl_end ?_
    refine dw_true rfl ?_
    refine dw_skip ?_
    refine dw_seq ?_
    refine dw_block ?_
    refine dw_seq ?_
    -- region 4
    refine dw_region (by kernel_rfl) ?_
    refine dl_r (sem_move rfl rfl) ?_
    refine dl_r (sem_move rfl rfl) ?_
    refine dl_r (sem_index sl55 rfl rfl (by decide) rfl rfl rfl) ?_
    refine dl_r (sem_fieldq fd28_0 rfl rfl rfl) ?_
    refine dl_r (sem_fieldq fd26_1 rfl rfl rfl) ?_
    refine dl_r (sem_loadq1 ty24 rfl rfl rfl) ?_
    refine dl_r (sem_len sl24 rfl rfl) ?_
    refine dl_r (sem_cmp rfl rfl rfl rfl) ?_
    refine dl_rb (sem_move rfl rfl) (fun c1 hb1 => ?_)
    cases c1
    · refine dl_r (sem_move rfl rfl) ?_
      refine dl_r (sem_move rfl rfl) ?_
      refine dl_r (sem_index sl55 rfl rfl (by decide) rfl rfl rfl) ?_
      refine dl_r (sem_fieldq fd28_1 rfl rfl rfl) ?_
      refine dl_r (sem_fieldq fd26_1 rfl rfl rfl) ?_
      refine dl_r (sem_loadq1 ty24 rfl rfl rfl) ?_
      refine dl_r (sem_len sl24 rfl rfl) ?_
      refine dl_r (sem_cmp rfl rfl rfl rfl) ?_
      refine dl_r (sem_pick rfl rfl rfl rfl) ?_
      refine dl_rb (sem_move rfl rfl) (fun c2 hb2 => ?_)
      cases c2
      · have q1 := dec_f hb1
        have q2 := dec_f hb2
        refine dl_r (sem_move rfl rfl) ?_
        refine dl_r (sem_move rfl rfl) ?_
        refine dl_r (sem_index sl55 rfl rfl (by decide) rfl rfl rfl) ?_
        refine dl_r (sem_loadq (us := cN r0) ty28 rfl rfl rfl rfl) ?_
        refine dl_r (sem_call rfl rfl (sValid_ok (by assumption) (by omega) (by omega)) rfl) ?_
        refine dl_r (sem_not rfl rfl) ?_
        refine dl_r (sem_pick rfl rfl rfl rfl) ?_
        refine dl_end ?_
        refine dw_cond rfl (fun hc3 => ?_) (fun hc3 => ?_)
        · refine dw_seq ?_
          -- region 5
          refine dw_region (by kernel_rfl) ?_
          refine dl_r (sem_assign rfl rfl) ?_
          refine dl_end ?_
          refine dw_ret ?_
          -- path L0ffT
          exact ⟨.inr rfl, (resL_tmp rfl resL_nil)⟩
        · exact absurd hk (by unfold RN.s; rw [not_f hc3, decide_eq_true (show (r0.x1.length : Int) ≤ 2 by omega), decide_eq_true (show (r0.x2.length : Int) ≤ 2 by omega)]; decide)
      · refine dl_skip (sem_skip rfl) ?_
        refine dl_skip (sem_skip rfl) ?_
        refine dl_skip (sem_skip rfl) ?_
        refine dl_skip (sem_skip rfl) ?_
        refine dl_skip (sem_skip rfl) ?_
        refine dl_skip (sem_skip rfl) ?_
        refine dl_r (sem_pick rfl rfl rfl rfl) ?_
        refine dl_end ?_
        refine dw_true rfl ?_
        refine dw_seq ?_
        -- region 5
        refine dw_region (by kernel_rfl) ?_
        refine dl_r (sem_assign rfl rfl) ?_
        refine dl_end ?_
        refine dw_ret ?_
        -- path L0ft
        exact ⟨.inr rfl, (resL_tmp rfl resL_nil)⟩
    · refine dl_skip (sem_skip rfl) ?_
      refine dl_skip (sem_skip rfl) ?_
      refine dl_skip (sem_skip rfl) ?_
      refine dl_skip (sem_skip rfl) ?_
      refine dl_skip (sem_skip rfl) ?_
      refine dl_skip (sem_skip rfl) ?_
      refine dl_skip (sem_skip rfl) ?_
      refine dl_skip (sem_skip rfl) ?_
      refine dl_r (sem_pick rfl rfl rfl rfl) ?_
      refine dl_r (sem_move rfl rfl) ?_
      refine dl_skip (sem_skip rfl) ?_
      refine dl_skip (sem_skip rfl) ?_
      refine dl_skip (sem_skip rfl) ?_
      refine dl_skip (sem_skip rfl) ?_
      refine dl_skip (sem_skip rfl) ?_
      refine dl_skip (sem_skip rfl) ?_
      refine dl_r (sem_pick rfl rfl rfl rfl) ?_
      refine dl_end ?_
      refine dw_true rfl ?_
      refine dw_seq ?_
      -- region 5
      refine dw_region (by kernel_rfl) ?_
      refine dl_r (sem_assign rfl rfl) ?_
      refine dl_end ?_
      refine dw_ret ?_
      -- path L0t
      exact ⟨.inr rfl, (resL_tmp rfl resL_nil)⟩
theorem few3_1 {f0 : Rat} (hf0 : Rz 2 f0) {r1 r2 : RN} (wr1 : r1.Wf) (hk : r1.s 2 = false) : Ok Tryz.prog 16 [.c (.s 3 (cR f0 ++ cN r1 ++ cN r2))] [.c (.b false)] := by
  refine Ok.of (by kernel_rfl) Tryz.func16 rfl rfl ?_
  rw [show Tryz.f16.ntmps = 36 from rfl, show Tryz.f16.results.toList = [.tmp 2] from rfl]
  refine dw_seq ?_
  -- region 0
  refine dw_region (by kernel_rfl) ?_
  refine dl_r (sem_assign rfl rfl) ?_
  refine dl_end ?_
  refine dw_seq ?_
  refine dw_seq ?_
  -- region 1
  refine dw_region (by kernel_rfl) ?_
  refine dl_r (sem_assign rfl rfl) ?_
  refine dl_end ?_
  refine dw_block ?_
  refine dw_loop (ι := Nat) (fun i => match i with | 0 => ⟨36, [(0, .v (.c (.s 3 (cR f0 ++ cN r1 ++ cN r2)))), (2, .v (.c (.b false))), (3, .v (.c (.i .i64 0)))], []⟩ | _ + 1 => ⟨36, [(0, .v (.c (.s 3 (cR f0 ++ cN r1 ++ cN r2)))), (2, .v (.c (.b false))), (3, .v (.c (.i .i64 1)))], []⟩) (fun i => 1 - i) 0 (sub_of ⟨rfl, rfl, rfl, trivial⟩ trivial rfl) ?_
  intro i
  match i with
  | 0 =>
    show Dw _ _ ⟨36, [(0, .v (.c (.s 3 (cR f0 ++ cN r1 ++ cN r2)))), (2, .v (.c (.b false))), (3, .v (.c (.i .i64 0)))], []⟩ _
    refine dw_seq ?_
    refine dw_seq ?_
    -- region 2
    refine dw_region (by kernel_rfl) ?_
    refine dl_r (sem_move rfl rfl) ?_
    refine dl_r (sem_move rfl rfl) ?_
    refine dl_r (sem_len sl55 rfl rfl) ?_
    refine dl_r (sem_cmp rfl rfl rfl rfl) ?_
    refine dl_end ?_
    refine dw_true rfl ?_
    refine dw_skip ?_
    refine dw_seq ?_
    refine dw_block ?_
    refine dw_seq ?_
    -- region 4
    refine dw_region (by kernel_rfl) ?_
    refine dl_r (sem_move rfl rfl) ?_
    refine dl_r (sem_move rfl rfl) ?_
    refine dl_r (sem_index sl55 rfl rfl (by decide) rfl rfl rfl) ?_
    refine dl_r (sem_fieldq fd28_0 rfl rfl rfl) ?_
    refine dl_r (sem_fieldq fd26_1 rfl rfl rfl) ?_
    refine dl_r (sem_loadq1 ty24 rfl rfl rfl) ?_
    refine dl_r (sem_len sl24 rfl rfl) ?_
    refine dl_r (sem_castb (sem_cmp rfl rfl rfl rfl) (len2 hf0.n 2 (by decide))) ?_
    refine dl_r (sem_move rfl rfl) ?_
    refine dl_r (sem_move rfl rfl) ?_
    refine dl_r (sem_move rfl rfl) ?_
    refine dl_r (sem_index sl55 rfl rfl (by decide) rfl rfl rfl) ?_
    refine dl_r (sem_fieldq fd28_1 rfl rfl rfl) ?_
    refine dl_r (sem_fieldq fd26_1 rfl rfl rfl) ?_
    refine dl_r (sem_loadq1 ty24 rfl rfl rfl) ?_
    refine dl_r (sem_len sl24 rfl rfl) ?_
    refine dl_r (sem_castb (sem_cmp rfl rfl rfl rfl) (len2 hf0.d 2 (by decide))) ?_
    refine dl_r (sem_pick rfl rfl rfl rfl) ?_
    refine dl_r (sem_move rfl rfl) ?_
    refine dl_r (sem_move rfl rfl) ?_
    refine dl_r (sem_move rfl rfl) ?_
    refine dl_r (sem_index sl55 rfl rfl (by decide) rfl rfl rfl) ?_
    refine dl_r (sem_loadq (us := cR f0) ty28 rfl rfl rfl rfl) ?_
    refine dl_r (sem_call rfl rfl (sValid_R (hf0.mono (by decide))) rfl) ?_
    refine dl_r (sem_not rfl rfl) ?_
    refine dl_r (sem_pick rfl rfl rfl rfl) ?_
    refine dl_end ?_
    refine dw_false rfl ?_
    refine dw_skip ?_
    -- region 3
    refine dw_region (by kernel_rfl) ?_
    refine dl_r (sem_move rfl rfl) ?_
    refine dl_r (sem_ari (r := 1) rfl rfl rfl rfl) ?_
    refine dl_r (sem_assign rfl rfl) ?_
    refine dl_end ?_
    exact ⟨1, sub_of ⟨rfl, rfl, rfl, trivial⟩ trivial rfl, by show 1 - 1 < 1 - 0; decide⟩
  | z + 1 =>
    show Dw _ _ ⟨36, [(0, .v (.c (.s 3 (cR f0 ++ cN r1 ++ cN r2)))), (2, .v (.c (.b false))), (3, .v (.c (.i .i64 1)))], []⟩ _
    refine dw_seq ?_
    refine dw_seq ?_
    -- region 2
    refine dw_region (by kernel_rfl) ?_
    refine dl_r (sem_move rfl rfl) ?_
    refine dl_r (sem_move rfl rfl) ?_
    refine dl_r (sem_len sl55 rfl rfl) ?_
    refine dl_r (sem_cmp rfl rfl rfl rfl) ?_
    refine dl_end ?_
    refine dw_true rfl ?_
    refine dw_skip ?_
    refine dw_seq ?_
    refine dw_block ?_
    refine dw_seq ?_
    -- region 4
    refine dw_region (by kernel_rfl) ?_
    refine dl_r (sem_move rfl rfl) ?_
    refine dl_r (sem_move rfl rfl) ?_
    refine dl_r (sem_index sl55 rfl rfl (by decide) rfl rfl rfl) ?_
    refine dl_r (sem_fieldq fd28_0 rfl rfl rfl) ?_
    refine dl_r (sem_fieldq fd26_1 rfl rfl rfl) ?_
    refine dl_r (sem_loadq1 ty24 rfl rfl rfl) ?_
    refine dl_r (sem_len sl24 rfl rfl) ?_
    refine dl_r (sem_cmp rfl rfl rfl rfl) ?_
    refine dl_rb (sem_move rfl rfl) (fun c1 hb1 => ?_)
    cases c1
    · refine dl_r (sem_move rfl rfl) ?_
      refine dl_r (sem_move rfl rfl) ?_
      refine dl_r (sem_index sl55 rfl rfl (by decide) rfl rfl rfl) ?_
      refine dl_r (sem_fieldq fd28_1 rfl rfl rfl) ?_
      refine dl_r (sem_fieldq fd26_1 rfl rfl rfl) ?_
      refine dl_r (sem_loadq1 ty24 rfl rfl rfl) ?_
      refine dl_r (sem_len sl24 rfl rfl) ?_
      refine dl_r (sem_cmp rfl rfl rfl rfl) ?_
      refine dl_r (sem_pick rfl rfl rfl rfl) ?_
      refine dl_rb (sem_move rfl rfl) (fun c2 hb2 => ?_)
      cases c2
      · have q1 := dec_f hb1
        have q2 := dec_f hb2
        refine dl_r (sem_move rfl rfl) ?_
        refine dl_r (sem_move rfl rfl) ?_
        refine dl_r (sem_index sl55 rfl rfl (by decide) rfl rfl rfl) ?_
        refine dl_r (sem_loadq (us := cN r1) ty28 rfl rfl rfl rfl) ?_
        refine dl_r (sem_call rfl rfl (sValid_ok (by assumption) (by omega) (by omega)) rfl) ?_
        refine dl_r (sem_not rfl rfl) ?_
        refine dl_r (sem_pick rfl rfl rfl rfl) ?_
        refine dl_end ?_
        refine dw_cond rfl (fun hc3 => ?_) (fun hc3 => ?_)
        · refine dw_seq ?_
          -- region 5
          refine dw_region (by kernel_rfl) ?_
          refine dl_r (sem_assign rfl rfl) ?_
          refine dl_end ?_
          refine dw_ret ?_
          -- path L1ffT
          exact ⟨.inr rfl, (resL_tmp rfl resL_nil)⟩
        · exact absurd hk (by unfold RN.s; rw [not_f hc3, decide_eq_true (show (r1.x1.length : Int) ≤ 2 by omega), decide_eq_true (show (r1.x2.length : Int) ≤ 2 by omega)]; decide)
      · refine dl_skip (sem_skip rfl) ?_
        refine dl_skip (sem_skip rfl) ?_
        refine dl_skip (sem_skip rfl) ?_
        refine dl_skip (sem_skip rfl) ?_
        refine dl_skip (sem_skip rfl) ?_
        refine dl_skip (sem_skip rfl) ?_
        refine dl_r (sem_pick rfl rfl rfl rfl) ?_
        refine dl_end ?_
        refine dw_true rfl ?_
        refine dw_seq ?_
        -- region 5
        refine dw_region (by kernel_rfl) ?_
        refine dl_r (sem_assign rfl rfl) ?_
        refine dl_end ?_
        refine dw_ret ?_
        -- path L1ft
        exact ⟨.inr rfl, (resL_tmp rfl resL_nil)⟩
    · refine dl_skip (sem_skip rfl) ?_
      refine dl_skip (sem_skip rfl) ?_
      refine dl_skip (sem_skip rfl) ?_
      refine dl_skip (sem_skip rfl) ?_
      refine dl_skip (sem_skip rfl) ?_
      refine dl_skip (sem_skip rfl) ?_
      refine dl_skip (sem_skip rfl) ?_
      refine dl_skip (sem_skip rfl) ?_
      refine dl_r (sem_pick rfl rfl rfl rfl) ?_
      refine dl_r (sem_move rfl rfl) ?_
      refine dl_skip (sem_skip rfl) ?_
      refine dl_skip (sem_skip rfl) ?_
      refine dl_skip (sem_skip rfl) ?_
      refine dl_skip (sem_skip rfl) ?_
      refine dl_skip (sem_skip rfl) ?_
      refine dl_skip (sem_skip rfl) ?_
      refine dl_r (sem_pick rfl rfl rfl rfl) ?_
      refine dl_end ?_
      refine dw_true rfl ?_
      refine dw_seq ?_
      -- region 5
      refine dw_region (by kernel_rfl) ?_
      refine dl_r (sem_assign rfl rfl) ?_
      refine dl_end ?_
      refine dw_ret ?_
      -- path L1t
      exact ⟨.inr rfl, (resL_tmp rfl resL_nil)⟩
theorem few3_2 {f0 f1 : Rat} (hf0 : Rz 2 f0) (hf1 : Rz 2 f1) {r2 : RN} (wr2 : r2.Wf) (hk : r2.s 2 = false) : Ok Tryz.prog 16 [.c (.s 3 (cR f0 ++ cR f1 ++ cN r2))] [.c (.b false)] := by
  refine Ok.of (by kernel_rfl) Tryz.func16 rfl rfl ?_
  rw [show Tryz.f16.ntmps = 36 from rfl, show Tryz.f16.results.toList = [.tmp 2] from rfl]
  refine dw_seq ?_
  -- region 0
  refine dw_region (by kernel_rfl) ?_
  refine dl_r (sem_assign rfl rfl) ?_
  refine dl_end ?_
  refine dw_seq ?_
  refine dw_seq ?_
  -- region 1
  refine dw_region (by kernel_rfl) ?_
  refine dl_r (sem_assign rfl rfl) ?_
  refine dl_end ?_
  refine dw_block ?_
  refine dw_loop (ι := Nat) (fun i => match i with | 0 => ⟨36, [(0, .v (.c (.s 3 (cR f0 ++ cR f1 ++ cN r2)))), (2, .v (.c (.b false))), (3, .v (.c (.i .i64 0)))], []⟩ | 1 => ⟨36, [(0, .v (.c (.s 3 (cR f0 ++ cR f1 ++ cN r2)))), (2, .v (.c (.b false))), (3, .v (.c (.i .i64 1)))], []⟩ | _ + 2 => ⟨36, [(0, .v (.c (.s 3 (cR f0 ++ cR f1 ++ cN r2)))), (2, .v (.c (.b false))), (3, .v (.c (.i .i64 2)))], []⟩) (fun i => 2 - i) 0 (sub_of ⟨rfl, rfl, rfl, trivial⟩ trivial rfl) ?_
  intro i
  match i with
  | 0 =>
    show Dw _ _ ⟨36, [(0, .v (.c (.s 3 (cR f0 ++ cR f1 ++ cN r2)))), (2, .v (.c (.b false))), (3, .v (.c (.i .i64 0)))], []⟩ _
    refine dw_seq ?_
    refine dw_seq ?_
    -- region 2
    refine dw_region (by kernel_rfl) ?_
    refine dl_r (sem_move rfl rfl) ?_
    refine dl_r (sem_move rfl rfl) ?_
    refine dl_r (sem_len sl55 rfl rfl) ?_
    refine dl_r (sem_cmp rfl rfl rfl rfl) ?_
    refine dl_end ?_
    refine dw_true rfl ?_
    refine dw_skip ?_
    refine dw_seq ?_
    refine dw_block ?_
    refine dw_seq ?_
    -- region 4
    refine dw_region (by kernel_rfl) ?_
    refine dl_r (sem_move rfl rfl) ?_
    refine dl_r (sem_move rfl rfl) ?_
    refine dl_r (sem_index sl55 rfl rfl (by decide) rfl rfl rfl) ?_
    refine dl_r (sem_fieldq fd28_0 rfl rfl rfl) ?_
    refine dl_r (sem_fieldq fd26_1 rfl rfl rfl) ?_
    refine dl_r (sem_loadq1 ty24 rfl rfl rfl) ?_
    refine dl_r (sem_len sl24 rfl rfl) ?_
    refine dl_r (sem_castb (sem_cmp rfl rfl rfl rfl) (len2 hf0.n 2 (by decide))) ?_
    refine dl_r (sem_move rfl rfl) ?_
    refine dl_r (sem_move rfl rfl) ?_
    refine dl_r (sem_move rfl rfl) ?_
    refine dl_r (sem_index sl55 rfl rfl (by decide) rfl rfl rfl) ?_
    refine dl_r (sem_fieldq fd28_1 rfl rfl rfl) ?_
    refine dl_r (sem_fieldq fd26_1 rfl rfl rfl) ?_
    refine dl_r (sem_loadq1 ty24 rfl rfl rfl) ?_
    refine dl_r (sem_len sl24 rfl rfl) ?_
    refine dl_r (sem_castb (sem_cmp rfl rfl rfl rfl) (len2 hf0.d 2 (by decide))) ?_
    refine dl_r (sem_pick rfl rfl rfl rfl) ?_
    refine dl_r (sem_move rfl rfl) ?_
    refine dl_r (sem_move rfl rfl) ?_
    refine dl_r (sem_move rfl rfl) ?_
    refine dl_r (sem_index sl55 rfl rfl (by decide) rfl rfl rfl) ?_
    refine dl_r (sem_loadq (us := cR f0) ty28 rfl rfl rfl rfl) ?_
    refine dl_r (sem_call rfl rfl (sValid_R (hf0.mono (by decide))) rfl) ?_
    refine dl_r (sem_not rfl rfl) ?_
    refine dl_r (sem_pick rfl rfl rfl rfl) ?_
    refine dl_end ?_
    refine dw_false rfl ?_
    refine dw_skip ?_
    -- region 3
    refine dw_region (by kernel_rfl) ?_
    refine dl_r (sem_move rfl rfl) ?_
    refine dl_r (sem_ari (r := 1) rfl rfl rfl rfl) ?_
    refine dl_r (sem_assign rfl rfl) ?_
    refine dl_end ?_
    exact ⟨1, sub_of ⟨rfl, rfl, rfl, trivial⟩ trivial rfl, by show 2 - 1 < 2 - 0; decide⟩
  | 1 =>
    show Dw _ _ ⟨36, [(0, .v (.c (.s 3 (cR f0 ++ cR f1 ++ cN r2)))), (2, .v (.c (.b false))), (3, .v (.c (.i .i64 1)))], []⟩ _
    refine dw_seq ?_
    refine dw_seq ?_
    -- region 2
    refine dw_region (by kernel_rfl) ?_
    refine dl_r (sem_move rfl rfl) ?_
    refine dl_r (sem_move rfl rfl) ?_
    refine dl_r (sem_len sl55 rfl rfl) ?_
    refine dl_r (sem_cmp rfl rfl rfl rfl) ?_
    refine dl_end ?_
    refine dw_true rfl ?_
    refine dw_skip ?_
    refine dw_seq ?_
    refine dw_block ?_
    refine dw_seq ?_
    -- region 4
    refine dw_region (by kernel_rfl) ?_
    refine dl_r (sem_move rfl rfl) ?_
    refine dl_r (sem_move rfl rfl) ?_
    refine dl_r (sem_index sl55 rfl rfl (by decide) rfl rfl rfl) ?_
    refine dl_r (sem_fieldq fd28_0 rfl rfl rfl) ?_
    refine dl_r (sem_fieldq fd26_1 rfl rfl rfl) ?_
    refine dl_r (sem_loadq1 ty24 rfl rfl rfl) ?_
    refine dl_r (sem_len sl24 rfl rfl) ?_
    refine dl_r (sem_castb (sem_cmp rfl rfl rfl rfl) (len2 hf1.n 2 (by decide))) ?_
    refine dl_r (sem_move rfl rfl) ?_
    refine dl_r (sem_move rfl rfl) ?_
    refine dl_r (sem_move rfl rfl) ?_
    refine dl_r (sem_index sl55 rfl rfl (by decide) rfl rfl rfl) ?_
    refine dl_r (sem_fieldq fd28_1 rfl rfl rfl) ?_
    refine dl_r (sem_fieldq fd26_1 rfl rfl rfl) ?_
    refine dl_r (sem_loadq1 ty24 rfl rfl rfl) ?_
    refine dl_r (sem_len sl24 rfl rfl) ?_
    refine dl_r (sem_castb (sem_cmp rfl rfl rfl rfl) (len2 hf1.d 2 (by decide))) ?_
    refine dl_r (sem_pick rfl rfl rfl rfl) ?_
    refine dl_r (sem_move rfl rfl) ?_
    refine dl_r (sem_move rfl rfl) ?_
    refine dl_r (sem_move rfl rfl) ?_
    refine dl_r (sem_index sl55 rfl rfl (by decide) rfl rfl rfl) ?_
    refine dl_r (sem_loadq (us := cR f1) ty28 rfl rfl rfl rfl) ?_
    refine dl_r (sem_call rfl rfl (sValid_R (hf1.mono (by decide))) rfl) ?_
    refine dl_r (sem_not rfl rfl) ?_
    refine dl_r (sem_pick rfl rfl rfl rfl) ?_
    refine dl_end ?_
    refine dw_false rfl ?_
    refine dw_skip ?_
    -- region 3
    refine dw_region (by kernel_rfl) ?_
    refine dl_r (sem_move rfl rfl) ?_
    refine dl_r (sem_ari (r := 2) rfl rfl rfl rfl) ?_
    refine dl_r (sem_assign rfl rfl) ?_
    refine dl_end ?_
    exact ⟨2, sub_of ⟨rfl, rfl, rfl, trivial⟩ trivial rfl, by show 2 - 2 < 2 - 1; decide⟩
  | z + 2 =>
    show Dw _ _ ⟨36, [(0, .v (.c (.s 3 (cR f0 ++ cR f1 ++ cN r2)))), (2, .v (.c (.b false))), (3, .v (.c (.i .i64 2)))], []⟩ _
    refine dw_seq ?_
    refine dw_seq ?_
    -- region 2
    refine dw_region (by kernel_rfl) ?_
    refine dl_r (sem_move rfl rfl) ?_
    refine dl_r (sem_move rfl rfl) ?_
    refine dl_r (sem_len sl55 rfl rfl) ?_
    refine dl_r (sem_cmp rfl rfl rfl rfl) ?_
    refine dl_end ?_
    refine dw_true rfl ?_
    refine dw_skip ?_
    refine dw_seq ?_
    refine dw_block ?_
    refine dw_seq ?_
    -- region 4
    refine dw_region (by kernel_rfl) ?_
    refine dl_r (sem_move rfl rfl) ?_
    refine dl_r (sem_move rfl rfl) ?_
    refine dl_r (sem_index sl55 rfl rfl (by decide) rfl rfl rfl) ?_
    refine dl_r (sem_fieldq fd28_0 rfl rfl rfl) ?_
    refine dl_r (sem_fieldq fd26_1 rfl rfl rfl) ?_
    refine dl_r (sem_loadq1 ty24 rfl rfl rfl) ?_
    refine dl_r (sem_len sl24 rfl rfl) ?_
    refine dl_r (sem_cmp rfl rfl rfl rfl) ?_
    refine dl_rb (sem_move rfl rfl) (fun c1 hb1 => ?_)
    cases c1
    · refine dl_r (sem_move rfl rfl) ?_
      refine dl_r (sem_move rfl rfl) ?_
      refine dl_r (sem_index sl55 rfl rfl (by decide) rfl rfl rfl) ?_
      refine dl_r (sem_fieldq fd28_1 rfl rfl rfl) ?_
      refine dl_r (sem_fieldq fd26_1 rfl rfl rfl) ?_
      refine dl_r (sem_loadq1 ty24 rfl rfl rfl) ?_
      refine dl_r (sem_len sl24 rfl rfl) ?_
      refine dl_r (sem_cmp rfl rfl rfl rfl) ?_
      refine dl_r (sem_pick rfl rfl rfl rfl) ?_
      refine dl_rb (sem_move rfl rfl) (fun c2 hb2 => ?_)
      cases c2
      · have q1 := dec_f hb1
        have q2 := dec_f hb2
        refine dl_r (sem_move rfl rfl) ?_
        refine dl_r (sem_move rfl rfl) ?_
        refine dl_r (sem_index sl55 rfl rfl (by decide) rfl rfl rfl) ?_
        refine dl_r (sem_loadq (us := cN r2) ty28 rfl rfl rfl rfl) ?_
        refine dl_r (sem_call rfl rfl (sValid_ok (by assumption) (by omega) (by omega)) rfl) ?_
        refine dl_r (sem_not rfl rfl) ?_
        refine dl_r (sem_pick rfl rfl rfl rfl) ?_
        refine dl_end ?_
        refine dw_cond rfl (fun hc3 => ?_) (fun hc3 => ?_)
        · refine dw_seq ?_
          -- region 5
          refine dw_region (by kernel_rfl) ?_
          refine dl_r (sem_assign rfl rfl) ?_
          refine dl_end ?_
          refine dw_ret ?_
          -- path L2ffT
          exact ⟨.inr rfl, (resL_tmp rfl resL_nil)⟩
        · exact absurd hk (by unfold RN.s; rw [not_f hc3, decide_eq_true (show (r2.x1.length : Int) ≤ 2 by omega), decide_eq_true (show (r2.x2.length : Int) ≤ 2 by omega)]; decide)
      · refine dl_skip (sem_skip rfl) ?_
        refine dl_skip (sem_skip rfl) ?_
        refine dl_skip (sem_skip rfl) ?_
        refine dl_skip (sem_skip rfl) ?_
        refine dl_skip (sem_skip rfl) ?_
        refine dl_skip (sem_skip rfl) ?_
        refine dl_r (sem_pick rfl rfl rfl rfl) ?_
        refine dl_end ?_
        refine dw_true rfl ?_
        refine dw_seq ?_
        -- region 5
        refine dw_region (by kernel_rfl) ?_
        refine dl_r (sem_assign rfl rfl) ?_
        refine dl_end ?_
        refine dw_ret ?_
        -- path L2ft
        exact ⟨.inr rfl, (resL_tmp rfl resL_nil)⟩
    · refine dl_skip (sem_skip rfl) ?_
      refine dl_skip (sem_skip rfl) ?_
      refine dl_skip (sem_skip rfl) ?_
      refine dl_skip (sem_skip rfl) ?_
      refine dl_skip (sem_skip rfl) ?_
      refine dl_skip (sem_skip rfl) ?_
      refine dl_skip (sem_skip rfl) ?_
      refine dl_skip (sem_skip rfl) ?_
      refine dl_r (sem_pick rfl rfl rfl rfl) ?_
      refine dl_r (sem_move rfl rfl) ?_
      refine dl_skip (sem_skip rfl) ?_
      refine dl_skip (sem_skip rfl) ?_
      refine dl_skip (sem_skip rfl) ?_
      refine dl_skip (sem_skip rfl) ?_
      refine dl_skip (sem_skip rfl) ?_
      refine dl_skip (sem_skip rfl) ?_
      refine dl_r (sem_pick rfl rfl rfl rfl) ?_
      refine dl_end ?_
      refine dw_true rfl ?_
      refine dw_seq ?_
      -- region 5
      refine dw_region (by kernel_rfl) ?_
      refine dl_r (sem_assign rfl rfl) ?_
      refine dl_end ?_
      refine dw_ret ?_
      -- path L2t
      exact ⟨.inr rfl, (resL_tmp rfl resL_nil)⟩
theorem few3_all {f0 f1 f2 : Rat} (hf0 : Rz 2 f0) (hf1 : Rz 2 f1) (hf2 : Rz 2 f2)  : Ok Tryz.prog 16 [.c (.s 3 (cR f0 ++ cR f1 ++ cR f2))] [.c (.b true)] := by
  refine Ok.of (by kernel_rfl) Tryz.func16 rfl rfl ?_
  rw [show Tryz.f16.ntmps = 36 from rfl, show Tryz.f16.results.toList = [.tmp 2] from rfl]
  refine dw_seq ?_
  -- region 0
  refine dw_region (by kernel_rfl) ?_
  refine dl_r (sem_assign rfl rfl) ?_
  refine dl_end ?_
  refine dw_seq ?_
  refine dw_seq ?_
  -- region 1
  refine dw_region (by kernel_rfl) ?_
  refine dl_r (sem_assign rfl rfl) ?_
  refine dl_end ?_
  refine dw_block ?_
  refine dw_loop (ι := Nat) (fun i => match i with | 0 => ⟨36, [(0, .v (.c (.s 3 (cR f0 ++ cR f1 ++ cR f2)))), (2, .v (.c (.b false))), (3, .v (.c (.i .i64 0)))], []⟩ | 1 => ⟨36, [(0, .v (.c (.s 3 (cR f0 ++ cR f1 ++ cR f2)))), (2, .v (.c (.b false))), (3, .v (.c (.i .i64 1)))], []⟩ | 2 => ⟨36, [(0, .v (.c (.s 3 (cR f0 ++ cR f1 ++ cR f2)))), (2, .v (.c (.b false))), (3, .v (.c (.i .i64 2)))], []⟩ | _ + 3 => ⟨36, [(0, .v (.c (.s 3 (cR f0 ++ cR f1 ++ cR f2)))), (2, .v (.c (.b false))), (3, .v (.c (.i .i64 3)))], []⟩) (fun i => 3 - i) 0 (sub_of ⟨rfl, rfl, rfl, trivial⟩ trivial rfl) ?_
  intro i
  match i with
  | 0 =>
    show Dw _ _ ⟨36, [(0, .v (.c (.s 3 (cR f0 ++ cR f1 ++ cR f2)))), (2, .v (.c (.b false))), (3, .v (.c (.i .i64 0)))], []⟩ _
    refine dw_seq ?_
    refine dw_seq ?_
    -- region 2
    refine dw_region (by kernel_rfl) ?_
    refine dl_r (sem_move rfl rfl) ?_
    refine dl_r (sem_move rfl rfl) ?_
    refine dl_r (sem_len sl55 rfl rfl) ?_
    refine dl_r (sem_cmp rfl rfl rfl rfl) ?_
    refine dl_end ?_
    refine dw_true rfl ?_
    refine dw_skip ?_
    refine dw_seq ?_
    refine dw_block ?_
    refine dw_seq ?_
    -- region 4
    refine dw_region (by kernel_rfl) ?_
    refine dl_r (sem_move rfl rfl) ?_
    refine dl_r (sem_move rfl rfl) ?_
    refine dl_r (sem_index sl55 rfl rfl (by decide) rfl rfl rfl) ?_
    refine dl_r (sem_fieldq fd28_0 rfl rfl rfl) ?_
    refine dl_r (sem_fieldq fd26_1 rfl rfl rfl) ?_
    refine dl_r (sem_loadq1 ty24 rfl rfl rfl) ?_
    refine dl_r (sem_len sl24 rfl rfl) ?_
    refine dl_r (sem_castb (sem_cmp rfl rfl rfl rfl) (len2 hf0.n 2 (by decide))) ?_
    refine dl_r (sem_move rfl rfl) ?_
    refine dl_r (sem_move rfl rfl) ?_
    refine dl_r (sem_move rfl rfl) ?_
    refine dl_r (sem_index sl55 rfl rfl (by decide) rfl rfl rfl) ?_
    refine dl_r (sem_fieldq fd28_1 rfl rfl rfl) ?_
    refine dl_r (sem_fieldq fd26_1 rfl rfl rfl) ?_
    refine dl_r (sem_loadq1 ty24 rfl rfl rfl) ?_
    refine dl_r (sem_len sl24 rfl rfl) ?_
    refine dl_r (sem_castb (sem_cmp rfl rfl rfl rfl) (len2 hf0.d 2 (by decide))) ?_
    refine dl_r (sem_pick rfl rfl rfl rfl) ?_
    refine dl_r (sem_move rfl rfl) ?_
    refine dl_r (sem_move rfl rfl) ?_
    refine dl_r (sem_move rfl rfl) ?_
    refine dl_r (sem_index sl55 rfl rfl (by decide) rfl rfl rfl) ?_
    refine dl_r (sem_loadq (us := cR f0) ty28 rfl rfl rfl rfl) ?_
    refine dl_r (sem_call rfl rfl (sValid_R (hf0.mono (by decide))) rfl) ?_
    refine dl_r (sem_not rfl rfl) ?_
    refine dl_r (sem_pick rfl rfl rfl rfl) ?_
    refine dl_end ?_
    refine dw_false rfl ?_
    refine dw_skip ?_
    -- region 3
    refine dw_region (by kernel_rfl) ?_
    refine dl_r (sem_move rfl rfl) ?_
    refine dl_r (sem_ari (r := 1) rfl rfl rfl rfl) ?_
    refine dl_r (sem_assign rfl rfl) ?_
    refine dl_end ?_
    exact ⟨1, sub_of ⟨rfl, rfl, rfl, trivial⟩ trivial rfl, by show 3 - 1 < 3 - 0; decide⟩
  | 1 =>
    show Dw _ _ ⟨36, [(0, .v (.c (.s 3 (cR f0 ++ cR f1 ++ cR f2)))), (2, .v (.c (.b false))), (3, .v (.c (.i .i64 1)))], []⟩ _
    refine dw_seq ?_
    refine dw_seq ?_
    -- region 2
    refine dw_region (by kernel_rfl) ?_
    refine dl_r (sem_move rfl rfl) ?_
    refine dl_r (sem_move rfl rfl) ?_
    refine dl_r (sem_len sl55 rfl rfl) ?_
    refine dl_r (sem_cmp rfl rfl rfl rfl) ?_
    refine dl_end ?_
    refine dw_true rfl ?_
    refine dw_skip ?_
    refine dw_seq ?_
    refine dw_block ?_
    refine dw_seq ?_
    -- region 4
    refine dw_region (by kernel_rfl) ?_
    refine dl_r (sem_move rfl rfl) ?_
    refine dl_r (sem_move rfl rfl) ?_
    refine dl_r (sem_index sl55 rfl rfl (by decide) rfl rfl rfl) ?_
    refine dl_r (sem_fieldq fd28_0 rfl rfl rfl) ?_
    refine dl_r (sem_fieldq fd26_1 rfl rfl rfl) ?_
    refine dl_r (sem_loadq1 ty24 rfl rfl rfl) ?_
    refine dl_r (sem_len sl24 rfl rfl) ?_
    refine dl_r (sem_castb (sem_cmp rfl rfl rfl rfl) (len2 hf1.n 2 (by decide))) ?_
    refine dl_r (sem_move rfl rfl) ?_
    refine dl_r (sem_move rfl rfl) ?_
    refine dl_r (sem_move rfl rfl) ?_
    refine dl_r (sem_index sl55 rfl rfl (by decide) rfl rfl rfl) ?_
    refine dl_r (sem_fieldq fd28_1 rfl rfl rfl) ?_
    refine dl_r (sem_fieldq fd26_1 rfl rfl rfl) ?_
    refine dl_r (sem_loadq1 ty24 rfl rfl rfl) ?_
    refine dl_r (sem_len sl24 rfl rfl) ?_
    refine dl_r (sem_castb (sem_cmp rfl rfl rfl rfl) (len2 hf1.d 2 (by decide))) ?_
    refine dl_r (sem_pick rfl rfl rfl rfl) ?_
    refine dl_r (sem_move rfl rfl) ?_
    refine dl_r (sem_move rfl rfl) ?_
    refine dl_r (sem_move rfl rfl) ?_
    refine dl_r (sem_index sl55 rfl rfl (by decide) rfl rfl rfl) ?_
    refine dl_r (sem_loadq (us := cR f1) ty28 rfl rfl rfl rfl) ?_
    refine dl_r (sem_call rfl rfl (sValid_R (hf1.mono (by decide))) rfl) ?_
    refine dl_r (sem_not rfl rfl) ?_
    refine dl_r (sem_pick rfl rfl rfl rfl) ?_
    refine dl_end ?_
    refine dw_false rfl ?_
    refine dw_skip ?_
    -- region 3
    refine dw_region (by kernel_rfl) ?_
    refine dl_r (sem_move rfl rfl) ?_
    refine dl_r (sem_ari (r := 2) rfl rfl rfl rfl) ?_
    refine dl_r (sem_assign rfl rfl) ?_
    refine dl_end ?_
    exact ⟨2, sub_of ⟨rfl, rfl, rfl, trivial⟩ trivial rfl, by show 3 - 2 < 3 - 1; decide⟩
  | 2 =>
    show Dw _ _ ⟨36, [(0, .v (.c (.s 3 (cR f0 ++ cR f1 ++ cR f2)))), (2, .v (.c (.b false))), (3, .v (.c (.i .i64 2)))], []⟩ _
    refine dw_seq ?_
    refine dw_seq ?_
    -- region 2
    refine dw_region (by kernel_rfl) ?_
    refine dl_r (sem_move rfl rfl) ?_
    refine dl_r (sem_move rfl rfl) ?_
    refine dl_r (sem_len sl55 rfl rfl) ?_
    refine dl_r (sem_cmp rfl rfl rfl rfl) ?_
    refine dl_end ?_
    refine dw_true rfl ?_
    refine dw_skip ?_
    refine dw_seq ?_
    refine dw_block ?_
    refine dw_seq ?_
    -- region 4
    refine dw_region (by kernel_rfl) ?_
    refine dl_r (sem_move rfl rfl) ?_
    refine dl_r (sem_move rfl rfl) ?_
    refine dl_r (sem_index sl55 rfl rfl (by decide) rfl rfl rfl) ?_
    refine dl_r (sem_fieldq fd28_0 rfl rfl rfl) ?_
    refine dl_r (sem_fieldq fd26_1 rfl rfl rfl) ?_
    refine dl_r (sem_loadq1 ty24 rfl rfl rfl) ?_
    refine dl_r (sem_len sl24 rfl rfl) ?_
    refine dl_r (sem_castb (sem_cmp rfl rfl rfl rfl) (len2 hf2.n 2 (by decide))) ?_
    refine dl_r (sem_move rfl rfl) ?_
    refine dl_r (sem_move rfl rfl) ?_
    refine dl_r (sem_move rfl rfl) ?_
    refine dl_r (sem_index sl55 rfl rfl (by decide) rfl rfl rfl) ?_
    refine dl_r (sem_fieldq fd28_1 rfl rfl rfl) ?_
    refine dl_r (sem_fieldq fd26_1 rfl rfl rfl) ?_
    refine dl_r (sem_loadq1 ty24 rfl rfl rfl) ?_
    refine dl_r (sem_len sl24 rfl rfl) ?_
    refine dl_r (sem_castb (sem_cmp rfl rfl rfl rfl) (len2 hf2.d 2 (by decide))) ?_
    refine dl_r (sem_pick rfl rfl rfl rfl) ?_
    refine dl_r (sem_move rfl rfl) ?_
    refine dl_r (sem_move rfl rfl) ?_
    refine dl_r (sem_move rfl rfl) ?_
    refine dl_r (sem_index sl55 rfl rfl (by decide) rfl rfl rfl) ?_
    refine dl_r (sem_loadq (us := cR f2) ty28 rfl rfl rfl rfl) ?_
    refine dl_r (sem_call rfl rfl (sValid_R (hf2.mono (by decide))) rfl) ?_
    refine dl_r (sem_not rfl rfl) ?_
    refine dl_r (sem_pick rfl rfl rfl rfl) ?_
    refine dl_end ?_
    refine dw_false rfl ?_
    refine dw_skip ?_
    -- region 3
    refine dw_region (by kernel_rfl) ?_
    refine dl_r (sem_move rfl rfl) ?_
    refine dl_r (sem_ari (r := 3) rfl rfl rfl rfl) ?_
    refine dl_r (sem_assign rfl rfl) ?_
    refine dl_end ?_
    exact ⟨3, sub_of ⟨rfl, rfl, rfl, trivial⟩ trivial rfl, by show 3 - 3 < 3 - 2; decide⟩
  | z + 3 =>
    show Dw _ _ ⟨36, [(0, .v (.c (.s 3 (cR f0 ++ cR f1 ++ cR f2)))), (2, .v (.c (.b false))), (3, .v (.c (.i .i64 3)))], []⟩ _
    refine dw_seq ?_
    refine dw_seq ?_
    -- region 2
    refine dw_region (by kernel_rfl) ?_
    refine dl_r (sem_move rfl rfl) ?_
    refine dl_r (sem_move rfl rfl) ?_
    refine dl_r (sem_len sl55 rfl rfl) ?_
    refine dl_r (sem_cmp rfl rfl rfl rfl) ?_
    refine dl_end ?_
    refine dw_false rfl ?_
    refine dw_exit ?_
    refine dw_seq ?_
    -- region 6
    refine dw_region (by kernel_rfl) ?_
    refine dl_r (sem_assign rfl rfl) ?_
    refine dl_end ?_
    refine dw_ret ?_
    -- path L3
    exact ⟨.inr rfl, (resL_tmp rfl resL_nil)⟩
theorem few3 {r0 r1 r2 : RN} (wr0 : r0.Wf) (wr1 : r1.Wf) (wr2 : r2.Wf) : Ok Tryz.prog 16 [.c (.s 3 (cN r0 ++ cN r1 ++ cN r2))] [.c (.b false)] ∨ ∃ f0 f1 f2 : Rat, Rz 2 f0 ∧ Rz 2 f1 ∧ Rz 2 f2 ∧ cN r0 = cR f0 ∧ cN r1 = cR f1 ∧ cN r2 = cR f2 ∧ Ok Tryz.prog 16 [.c (.s 3 (cR f0 ++ cR f1 ++ cR f2))] [.c (.b true)] := by
  cases h0 : r0.s 2 with
  | false => exact .inl (by exact few3_0  wr0 h0)
  | true =>
  obtain ⟨f0, g0, e0⟩ := s2_of wr0 h0
  cases h1 : r1.s 2 with
  | false => exact .inl (by rw [e0]; exact few3_1 g0 wr1 h1)
  | true =>
  obtain ⟨f1, g1, e1⟩ := s2_of wr1 h1
  cases h2 : r2.s 2 with
  | false => exact .inl (by rw [e0, e1]; exact few3_2 g0 g1 wr2 h2)
  | true =>
  obtain ⟨f2, g2, e2⟩ := s2_of wr2 h2
  exact .inr ⟨f0, f1, f2, g0, g1, g2, e0, e1, e2, few3_all g0 g1 g2⟩
end Go.Proofs.YtcimbhjmjlfloaaGreat
/- Data: an array's elements. -/
namespace Go.Proofs.YtcimbhjmjlfloaaGreat
open Go Go.RowKit
/-- an array's elements -/
def arB (P : Program) (U : TypeId) : Option (Nat × Nat) :=
  match P.underlying U with
  | some (.array n e) => (P.info? e).map fun i => (n, i.size)
  | _ => none
theorem sem_index_a {P : Program} {ops : Array Oper} {T : TF} {B : BF} {dst : Option Nat} {x i : Operand} {U : TypeId} {ty : TypeId} {pos : String} {af : Array Edge} {g : Option (Nat × Bool)} {n m k off : Nat} {kd : IntKind} {j : Int}
    (hU : arB P U = some (n, m)) (hx : opd T x = some (.p k off)) (hi : opd T i = some (.v (.c (.i kd j)))) (hj : 0 ≤ j ∧ j < n) (hg : gd ops ⟨dst, .indexAddr U x i, ty, pos, af, g⟩ T = some true) :
    Sem P ops ⟨dst, .indexAddr U x i, ty, pos, af, g⟩ T B (.r (.p k (off + j.toNat * m))) :=
  sem_pure hg (fun l e => opd_ptr (ops := ops) (o := ⟨dst, .indexAddr U x i, ty, pos, af, g⟩) (by simp [Op.operands]) hx e) (fun V β a w hs => by
    have h1 : a.eval x = .pointer (some ⟨β k, off, none⟩) := opd_reads hs (x := x) (by simp [Op.operands]) hx
    have h2 := RdC.int_eq (opd_reads hs (x := i) (by simp [Op.operands]) hi)
    unfold arB at hU
    split at hU
    case h_2 => cases hU
    rename_i n' el hul
    cases hinf : P.info? el with
    | none => rw [hinf] at hU; cases hU
    | some inf =>
      rw [hinf] at hU
      simp at hU
      obtain ⟨rfl, rfl⟩ := hU
      have hso : ∀ w, (sizeOf el).run P w = .ok inf.size w := fun w => by unfold sizeOf typeInfo; simp [program, Sem.run, hinf]
      refine ⟨.pointer (some ⟨β k, off + j.toNat * inf.size, none⟩), ?_, rfl⟩
      simp [execOp, Instr.indexAt, h1, h2, asIntOf, run_underlying hul, Instr.sureAddr, hj.1, hj.2, hso, addr_add])
end Go.Proofs.YtcimbhjmjlfloaaGreat
/- Plain: an array's elements; places and their points; the order of points is transitive. -/
namespace Go.Proofs.YtcimbhjmjlfloaaGreat
open Go Go.RowKit
theorem rt_int {C : Int} (_h0 : 0 ≤ C) (_hs : sqR (C : Rat) = true) : rt (C : Rat) = Rat.divInt (isqI C) 1 := by
  unfold rt
  rw [Rat.num_intCast, Rat.den_intCast]
  rw [show isqI ((1 : Nat) : Int) = 1 from isqI_unique (by decide) (by decide) (by decide) (by decide)]
theorem isq_small {C : Int} (h0 : 0 ≤ C) (h1 : C ≤ 65535) : 0 ≤ isqI C ∧ isqI C ≤ 255 := by
  have a := isqI_nonneg C
  have b := isqI_le h0
  refine ⟨a, ?_⟩
  apply Classical.byContradiction
  intro hn
  have : 256 * 256 ≤ isqI C * isqI C := Int.mul_le_mul (by omega) (by omega) (by decide) a
  omega
theorem sq_frac {A B n r : Int} (_hn : 0 < n) : Rat.divInt A n + Rat.divInt B n * Rat.divInt r 1 = Rat.divInt (A + B * r) n := by
  rw [Rat.divInt_mul_divInt, Int.mul_one, Rat.divInt_eq_div, Rat.divInt_eq_div, Rat.divInt_eq_div, Rat.intCast_add]
  grind
/-- transitivity -/
theorem cmpPt_trans {a1 b1 a2 b2 c p1 q1 p2 q2 r x1 y1 x2 y2 z : Rat} (hc : 0 ≤ c) (hr : 0 ≤ r) (hz : 0 ≤ z) (h1 : cmpPt a1 b1 a2 b2 c p1 q1 p2 q2 r ≤ 0) (h2 : cmpPt p1 q1 p2 q2 r x1 y1 x2 y2 z ≤ 0) :
    cmpPt a1 b1 a2 b2 c x1 y1 x2 y2 z ≤ 0 ∧ (cmpPt a1 b1 a2 b2 c p1 q1 p2 q2 r < 0 ∨ cmpPt p1 q1 p2 q2 r x1 y1 x2 y2 z < 0 → cmpPt a1 b1 a2 b2 c x1 y1 x2 y2 z < 0) := by
  unfold cmpPt at *
  rw [cmpC_v hc hr, cmpC_v hc hr] at *
  rw [cmpC_v hr hz, cmpC_v hr hz] at *
  rw [cmpC_v hc hz, cmpC_v hc hz]
  generalize vco a1 b1 c = A at *
  generalize vco a2 b2 c = A' at *
  generalize vco p1 q1 r = B at *
  generalize vco p2 q2 r = B' at *
  generalize vco x1 y1 z = C at *
  generalize vco x2 y2 z = C' at *
  have key : ∀ X Y Z : Re, sgR (X - Y) ≤ 0 → sgR (Y - Z) ≤ 0 → sgR (X - Z) ≤ 0 ∧ (sgR (X - Y) < 0 ∨ sgR (Y - Z) < 0 → sgR (X - Z) < 0) := by
    intro X Y Z g1 g2
    have e : sgR (Z - X) = sgR ((Y - X) + (Z - Y)) := congrArg sgR (Re.ext fun k => by simp only [re_sub, re_add]; grind)
    have s1 := sgR_sw Y X
    have s2 := sgR_sw Z Y
    have s3 := sgR_sw Z X
    have n1 := sgR_nn (x := Y - X) (y := Z - Y) (by omega) (by omega)
    refine ⟨by omega, ?_⟩
    rintro (h | h)
    · have := sgR_pn (x := Y - X) (y := Z - Y) (by omega) (by omega)
      omega
    · have h4 := sgR_pn (x := Z - Y) (y := Y - X) (by omega) (by omega)
      rw [re_addc (Z - Y) (Y - X)] at h4
      omega
  have k1 := key A B C
  have k2 := key A' B' C'
  have i1 : ∀ (x y z : Int), x = 0 → (if x ≠ 0 then y else z) = z := fun x y z h => if_neg (by omega)
  have i2 : ∀ (x y z : Int), x ≠ 0 → (if x ≠ 0 then y else z) = y := fun x y z h => if_pos h
  by_cases e1 : sgR (A - B) = 0
  · rw [i1 _ _ _ e1] at h1 ⊢
    by_cases e2 : sgR (B - C) = 0
    · rw [i1 _ _ _ e2] at h2 ⊢
      have k3 := key C B A
      have s1 := sgR_sw B A
      have s2 := sgR_sw C B
      have s3 := sgR_sw C A
      have e3 : sgR (A - C) = 0 := by
        have := (k1 (by omega) (by omega)).1
        have := (k3 (by omega) (by omega)).1
        omega
      rw [i1 _ _ _ e3]
      exact k2 h1 h2
    · rw [i2 _ _ _ e2] at h2 ⊢
      have := (k1 (by omega) h2).2 (.inr (by omega))
      rw [i2 (sgR (A - C)) _ _ (by omega)]
      exact ⟨by omega, fun _ => this⟩
  · rw [i2 _ _ _ e1] at h1 ⊢
    have hB : sgR (B - C) ≤ 0 := by
      by_cases e2 : sgR (B - C) = 0
      · omega
      · rw [i2 _ _ _ e2] at h2; exact h2
    have := (k1 h1 hB).2 (.inl (by omega))
    rw [i2 (sgR (A - C)) _ _ (by omega)]
    exact ⟨by omega, fun _ => this⟩
/-- moved by a vector -/
theorem cmpPt_move {a1 b1 a2 b2 c p1 q1 p2 q2 r v w : Rat} (hc : 0 ≤ c) (hr : 0 ≤ r) : cmpPt (a1 + v) b1 (a2 + w) b2 c (p1 + v) q1 (p2 + w) q2 r = cmpPt a1 b1 a2 b2 c p1 q1 p2 q2 r := by
  have e : ∀ a p v : Rat, ∀ b q : Rat, vco (a + v) b c - vco (p + v) q r = vco a b c - vco p q r := by
    intro a p v b q
    rw [vco_eq, vco_eq, vco_eq, vco_eq]
    exact Re.ext fun k => by simp only [re_sub, re_add, re_mul, re_of]; grind
  unfold cmpPt
  rw [cmpC_v hc hr, cmpC_v hc hr, cmpC_v hc hr, cmpC_v hc hr, e, e]
theorem sub_mv (a p v : Rat) : a + v - (p + v) = a - p := by grind
end Go.Proofs.YtcimbhjmjlfloaaGreat
/- Plain: the order of roots: moved, scaled, transitive; signs of products of square roots. -/
namespace Go.Proofs.YtcimbhjmjlfloaaGreat
open Go Go.RowKit
section
variable {a b c d e f k : Rat}
theorem rd_mv : sgR (val3 (a + k) b c - val3 (d + k) e f) = sgR (val3 a b c - val3 d e f) := congrArg sgR (Re.ext fun j => by unfold val3; simp only [re_sub, re_add, re_mul, re_of]; grind)
theorem rd_sc : sgR (val3 (a * k) (b * k) c - val3 (d * k) (e * k) f) = sgR (val3 a b c - val3 d e f) * cmpR k 0 := by
  rw [← sgR_of, ← sgR_mul]
  exact congrArg sgR (Re.ext fun j => by unfold val3; simp only [re_sub, re_add, re_mul, re_of]; grind)
end
theorem rd_tr (X Y Z : Re) (g1 : 0 ≤ sgR (X - Y)) (g2 : 0 ≤ sgR (Y - Z)) : max (sgR (X - Y)) (sgR (Y - Z)) ≤ sgR (X - Z) := by
  have e : sgR (X - Z) = sgR ((X - Y) + (Y - Z)) := congrArg sgR (Re.ext fun k => by simp only [re_sub, re_add]; grind)
  have n1 := sgR_nn g1 g2
  have a1 := sgR_cases (X - Y)
  have a2 := sgR_cases (Y - Z)
  have a3 := sgR_cases (X - Z)
  by_cases h : 0 < sgR (X - Y)
  · have := sgR_pn h g2
    omega
  · by_cases h2 : 0 < sgR (Y - Z)
    · have h4 := sgR_pn h2 g1
      rw [re_addc (Y - Z) (X - Y)] at h4
      omega
    · omega
theorem rd_tr2 (X Y Z : Re) (g1 : sgR (X - Y) ≤ 0) (g2 : sgR (Y - Z) ≤ 0) : sgR (X - Z) ≤ min (sgR (X - Y)) (sgR (Y - Z)) := by
  have h := rd_tr Z Y X (by rw [sgR_sw]; omega) (by rw [sgR_sw]; omega)
  rw [sgR_sw X Z, sgR_sw Y Z, sgR_sw X Y] at h
  omega
theorem cmpR_mul0 (x y : Rat) : cmpR (x * y) 0 = cmpR x 0 * cmpR y 0 := by rw [← sgR_of, ← sgR_of, ← sgR_of, ← of_mul, sgR_mul]
theorem cmpR_neg0 (x : Rat) : cmpR (-x) 0 = -cmpR x 0 := by rw [← sgR_of, ← sgR_of, ← of_neg, sgR_neg]
theorem comb_z (t c : Int) : comb 0 t c = t := comb_s0 rfl
theorem comb_r (s c : Int) : comb s 0 c = s := comb_t0 rfl
theorem z_mul (a X Y : Rat) (hX : 0 ≤ X) (hY : 0 ≤ Y) : signQ 0 a 0 0 (X * Y) 0 = cmpR a 0 * (cmpR X 0 * cmpR Y 0) := by
  rw [signQ_p (by have := Rat.mul_nonneg hX hY; grind) (by decide +kernel), show cmpR 0 0 = 0 from by decide +kernel, Int.mul_zero, comb_r]
  unfold plainS
  rw [show cmpR 0 0 = 0 from by decide +kernel, comb_z, cmpR_mul0]
theorem z_both (a X Y : Rat) (hX : 0 ≤ X) (hY : 0 ≤ Y) : signQ 0 0 0 (-a) X Y = -(cmpR a 0 * (cmpR X 0 * cmpR Y 0)) := by
  rw [signQ_p (by grind) (by grind)]
  have e : plainS 0 0 X = 0 := by unfold plainS; rw [show cmpR 0 0 = 0 from by decide +kernel, Int.zero_mul, comb_r]
  have e2 : plainS 0 (-a) X = -cmpR a 0 * cmpR X 0 := by unfold plainS; rw [show cmpR 0 0 = 0 from by decide +kernel, comb_z, cmpR_neg0]
  rw [e, comb_z, e2]
  grind
theorem re_same {p q : Re} (hp : 0 ≤ sgR p) (hq : 0 ≤ sgR q) (h : sgR (q * q - p * p) = 0) : sgR (q - p) = 0 := by
  have h1 := sq_le_re hp hq (by omega)
  have h2 := sq_le_re hq hp (by rw [sgR_sw]; omega)
  unfold leR at h1 h2
  rw [sgR_sw q p] at h2
  omega
theorem z_double (a X : Rat) (hX : 0 ≤ X) : signQ 0 a (-2 * a) 0 (4 * X) X = 0 := by
  have h4 : 0 ≤ 4 * X := Rat.mul_nonneg (by decide +kernel) hX
  rw [signQ_sg h4 hX]
  have e : val6 0 a (-2 * a) 0 (4 * X) X = Re.of a * (Re.rt (4 * X) - Re.of 2 * Re.rt X) := Re.ext fun k => by
    unfold val6 val3; simp only [re_sub, re_add, re_mul, re_of]; grind
  have hq : 0 ≤ sgR (Re.of 2 * Re.rt X) := by
    have := rt_nn X
    rw [sgR_mul, sgR_of, show cmpR 2 0 = 1 from by decide +kernel]; omega
  have hs : sgR (Re.rt (4 * X) * Re.rt (4 * X) - Re.of 2 * Re.rt X * (Re.of 2 * Re.rt X)) = 0 := by
    have e1 : Re.rt (4 * X) * Re.rt (4 * X) - Re.of 2 * Re.rt X * (Re.of 2 * Re.rt X) = (Re.rt (4 * X) * Re.rt (4 * X) - Re.of (4 * X)) + -(Re.of 4 * (Re.rt X * Re.rt X - Re.of X)) := Re.ext fun k => by
      simp only [re_sub, re_add, re_mul, re_of, re_neg]; grind
    rw [e1, sgR_addz _ (by rw [sgR_neg, sgR_mul, rt_sq hX, Int.mul_zero]; rfl), rt_sq h4]
  rw [e, sgR_mul, re_same hq (rt_nn _) hs, Int.mul_zero]
end Go.Proofs.YtcimbhjmjlfloaaGreat
/- Small; RadicalOrder: the law at all readings. -/
namespace Go.Proofs.YtcimbhjmjlfloaaGreat
open Go Go.RowKit
theorem ySmall5_A {x y z : RN} (oF : Ok Tryz.prog 16 [.c (.s 3 (cN x ++ cN y ++ cN z))] [.c (.b false)]) : Ok Tryz.prog 5 [.a (cN x ++ cN y ++ cN z)] [.c (.b false)] := by
  refine Ok.of (by kernel_rfl) Tryz.func5 rfl rfl ?_
  rw [show Tryz.f5.ntmps = 48 from rfl, show Tryz.f5.results.toList = [.tmp 2] from rfl]
  refine dw_seq ?_
  -- region 0
  refine dw_region (by kernel_rfl) ?_
  refine dl_new (sem_box_a rfl rfl) rfl ?_
  refine dl_r (sem_assign rfl rfl) ?_
  refine dl_end ?_
  refine dw_seq ?_
  refine dw_seq ?_
  -- region 1
  refine dw_region (by kernel_rfl) ?_
  refine dl_r (sem_field fd30_0 rfl rfl) ?_
  refine dl_r (sem_load (us := cN x) ty28 rfl rfl rfl rfl rfl) ?_
  refine dl_r (sem_field fd30_1 rfl rfl) ?_
  refine dl_r (sem_load (us := cN y) ty28 rfl rfl rfl rfl rfl) ?_
  refine dl_r (sem_field fd30_2 rfl rfl) ?_
  refine dl_r (sem_load (us := cN z) ty28 rfl rfl rfl rfl rfl) ?_
  refine dl_r (sem_slit_D (n := 3) (us := cN x ++ cN y ++ cN z) el55 rfl rfl rfl (by decide) (by decide) rfl) ?_
  refine dl_r (sem_call rfl rfl (oF) rfl) ?_
  refine dl_r (sem_not rfl rfl) ?_
  refine dl_end ?_
  refine dw_true rfl ?_
  refine dw_seq ?_
  -- region 2
  refine dw_region (by kernel_rfl) ?_
  refine dl_r (sem_assign rfl rfl) ?_
  refine dl_end ?_
  refine dw_ret ?_
  -- path 
  exact ⟨.inr rfl, (resL_tmp rfl resL_nil)⟩
theorem ySmall5_R {a b c : Rat} (_ha : Rz 2 a) (hb : Rz 2 b) (hc : Rz 2 c) (oF : Ok Tryz.prog 16 [.c (.s 3 (cR a ++ cR b ++ cR c))] [.c (.b true)]) : Ok Tryz.prog 5 [.a (cR a ++ cR b ++ cR c)] [.c (.b (vRoot b c))] := by
  have kb : Rz 300 b := hb.mono (by decide)
  have kc : Rz 300 c := hc.mono (by decide)
  refine Ok.of (by kernel_rfl) Tryz.func5 rfl rfl ?_
  rw [show Tryz.f5.ntmps = 48 from rfl, show Tryz.f5.results.toList = [.tmp 2] from rfl]
  refine dw_seq ?_
  -- region 0
  refine dw_region (by kernel_rfl) ?_
  refine dl_new (sem_box_a rfl rfl) rfl ?_
  refine dl_r (sem_assign rfl rfl) ?_
  refine dl_end ?_
  refine dw_seq ?_
  refine dw_seq ?_
  -- region 1
  refine dw_region (by kernel_rfl) ?_
  refine dl_r (sem_field fd30_0 rfl rfl) ?_
  refine dl_r (sem_load (us := cR a) ty28 rfl rfl rfl rfl rfl) ?_
  refine dl_r (sem_field fd30_1 rfl rfl) ?_
  refine dl_r (sem_load (us := cR b) ty28 rfl rfl rfl rfl rfl) ?_
  refine dl_r (sem_field fd30_2 rfl rfl) ?_
  refine dl_r (sem_load (us := cR c) ty28 rfl rfl rfl rfl rfl) ?_
  refine dl_r (sem_slit_D (n := 3) (us := cR a ++ cR b ++ cR c) el55 rfl rfl rfl (by decide) (by decide) rfl) ?_
  refine dl_r (sem_call rfl rfl (oF) rfl) ?_
  refine dl_r (sem_not rfl rfl) ?_
  refine dl_end ?_
  refine dw_false rfl ?_
  refine dw_skip ?_
  refine dw_seq ?_
  refine dw_seq ?_
  -- region 3
  refine dw_region (by kernel_rfl) ?_
  refine dl_r (sem_field fd30_1 rfl rfl) ?_
  refine dl_r (sem_load (us := cR b) ty28 rfl rfl rfl rfl rfl) ?_
  refine dl_r (sem_call rfl rfl (sSign_ok) rfl) ?_
  refine dl_r (sem_cmp rfl rfl rfl rfl) ?_
  refine dl_rb (sem_move rfl rfl) (fun c1 hb1 => ?_)
  cases c1
  · refine dl_r (sem_field fd30_2 rfl rfl) ?_
    refine dl_r (sem_load (us := cR c) ty28 rfl rfl rfl rfl rfl) ?_
    refine dl_r (sem_call rfl rfl (sSign_ok) rfl) ?_
    refine dl_r (sem_cmp rfl rfl rfl rfl) ?_
    refine dl_r (sem_pick rfl rfl rfl rfl) ?_
    refine dl_end ?_
    refine dw_cond rfl (fun hc2 => ?_) (fun hc2 => ?_)
    · refine dw_seq ?_
      -- region 4
      refine dw_region (by kernel_rfl) ?_
      refine dl_r (sem_field fd30_1 rfl rfl) ?_
      refine dl_r (sem_load (us := cR b) ty28 rfl rfl rfl rfl rfl) ?_
      refine dl_r (sem_call rfl rfl (sSign_ok) rfl) ?_
      refine dl_r (sem_cmp rfl rfl rfl rfl) ?_
      refine dl_rb (sem_move rfl rfl) (fun c3 hb3 => ?_)
      cases c3
      · refine dl_skip (sem_skip rfl) ?_
        refine dl_skip (sem_skip rfl) ?_
        refine dl_skip (sem_skip rfl) ?_
        refine dl_skip (sem_skip rfl) ?_
        refine dl_r (sem_pick rfl rfl rfl rfl) ?_
        refine dl_r (sem_assign rfl rfl) ?_
        refine dl_end ?_
        refine dw_ret ?_
        -- path fTf
        rw [vRoot_c hb1 hc2]
        exact ⟨.inr rfl, (resL_tmp rfl resL_nil)⟩
      · exact absurd hb3 (by rw [hb1]; decide)
    · refine dw_skip ?_
      refine dw_seq ?_
      -- region 5
      refine dw_region (by kernel_rfl) ?_
      refine dl_r (sem_field fd30_2 rfl rfl) ?_
      refine dl_r (sem_load (us := cR c) ty28 rfl rfl rfl rfl rfl) ?_
      refine dl_r (sem_call rfl rfl (sSqrt_ok (by first | assumption | exact Rz.mono hc (by decide))) rfl) ?_
      refine dl_r (sem_move rfl rfl) ?_
      refine dl_r (sem_extract rfl rfl rfl) ?_
      refine dl_r (sem_extract rfl rfl rfl) ?_
      refine dl_new (sem_alloc zc28 rfl) rfl ?_
      refine dl_st (sem_store_a ty28 rfl rfl rfl rfl rfl rfl) ?_
      refine dl_r (sem_assign rfl rfl) ?_
      refine dl_end ?_
      refine dw_seq ?_
      -- region 6
      refine dw_region (by kernel_rfl) ?_
      refine dl_r (sem_field fd30_2 rfl rfl) ?_
      refine dl_r (sem_load (us := cR c) ty28 rfl rfl rfl rfl rfl) ?_
      refine dl_r (sem_call rfl rfl (sSign_ok) rfl) ?_
      refine dl_r (sem_cmp rfl rfl rfl rfl) ?_
      refine dl_rb (sem_move rfl rfl) (fun c4 hb4 => ?_)
      cases c4
      · refine dl_skip (sem_skip rfl) ?_
        refine dl_skip (sem_skip rfl) ?_
        refine dl_r (sem_pick rfl rfl rfl rfl) ?_
        refine dl_r (sem_assign rfl rfl) ?_
        refine dl_end ?_
        refine dw_ret ?_
        -- path fFf
        rw [vRoot_n hb1 hc2, hb4, Bool.false_and]
        exact ⟨.inr rfl, (resL_tmp rfl resL_nil)⟩
      · refine dl_r (sem_move rfl rfl) ?_
        refine dl_r (sem_not rfl rfl) ?_
        refine dl_r (sem_pick rfl rfl rfl rfl) ?_
        refine dl_r (sem_assign rfl rfl) ?_
        refine dl_end ?_
        refine dw_ret ?_
        -- path fFt
        rw [vRoot_n hb1 hc2, hb4, Bool.true_and]
        exact ⟨.inr rfl, (resL_tmp rfl resL_nil)⟩
  · refine dl_skip (sem_skip rfl) ?_
    refine dl_skip (sem_skip rfl) ?_
    refine dl_skip (sem_skip rfl) ?_
    refine dl_skip (sem_skip rfl) ?_
    refine dl_r (sem_pick rfl rfl rfl rfl) ?_
    refine dl_end ?_
    refine dw_true rfl ?_
    refine dw_seq ?_
    -- region 4
    refine dw_region (by kernel_rfl) ?_
    refine dl_r (sem_field fd30_1 rfl rfl) ?_
    refine dl_r (sem_load (us := cR b) ty28 rfl rfl rfl rfl rfl) ?_
    refine dl_r (sem_call rfl rfl (sSign_ok) rfl) ?_
    refine dl_r (sem_cmp rfl rfl rfl rfl) ?_
    refine dl_rb (sem_move rfl rfl) (fun c5 hb5 => ?_)
    cases c5
    · exact absurd hb1 (by rw [hb5]; decide)
    · refine dl_r (sem_field fd30_2 rfl rfl) ?_
      refine dl_r (sem_load (us := cR c) ty28 rfl rfl rfl rfl rfl) ?_
      refine dl_r (sem_call rfl rfl (sSign_ok) rfl) ?_
      refine dl_r (sem_cmp rfl rfl rfl rfl) ?_
      refine dl_r (sem_pick rfl rfl rfl rfl) ?_
      refine dl_r (sem_assign rfl rfl) ?_
      refine dl_end ?_
      refine dw_ret ?_
      -- path tt
      rw [vRoot_b hb1]
      exact ⟨.inr rfl, (resL_tmp rfl resL_nil)⟩
theorem small5_ex {x y z : RN} (w1 : x.Wf) (w2 : y.Wf) (w3 : z.Wf) : Ok Tryz.prog 5 [.a (cN x ++ cN y ++ cN z)] [.c (.b false)] ∨
    (Ok Tryz.prog 5 [.a (cN x ++ cN y ++ cN z)] [.c (.b true)] ∧ ∃ a b c : Rat, Rz 2 a ∧ Rz 2 b ∧ Rz 2 c ∧ vRoot b c = true ∧ (cN x ++ cN y ++ cN z) = (cR a ++ cR b ++ cR c)) := by
  rcases few3 w1 w2 w3 with h | ⟨a, b, c, g1, g2, g3, e1, e2, e3, h⟩
  · exact .inl (ySmall5_A h)
  · have h1 := ySmall5_R g1 g2 g3 h
    cases hv : vRoot b c with
    | false => rw [hv] at h1; rw [e1, e2, e3]; exact .inl h1
    | true => rw [hv] at h1; rw [e1, e2, e3]; exact .inr ⟨h1, a, b, c, g1, g2, g3, hv, rfl⟩
-- no function swarf/swarflaw05.RadicalOrder in this seat
-- no function swarf/swarflaw05.RadicalOrder in this seat
-- no function swarf/swarflaw05.RadicalOrder in this seat
-- no function swarf/swarflaw05.RadicalOrder in this seat
end Go.Proofs.YtcimbhjmjlfloaaGreat
/- RadicalSort: the law at all readings. -/
namespace Go.Proofs.YtcimbhjmjlfloaaGreat
open Go Go.RowKit
theorem lSt_many {n : Nat} {us : List CellD} (hn : 12 < n)  : Ok Tryz.prog 3 [.c (.s n us)] [.c (.b true)] := by
  refine Ok.of (by kernel_rfl) Tryz.func3 rfl rfl ?_
  rw [show Tryz.f3.ntmps = 50 from rfl, show Tryz.f3.results.toList = [.tmp 2] from rfl]
  refine dw_seq ?_
  -- region 0
  refine dw_region (by kernel_rfl) ?_
  refine dl_r (sem_assign rfl rfl) ?_
  refine dl_end ?_
  refine dw_seq ?_
  refine dw_seq ?_
  -- region 1
  refine dw_region (by kernel_rfl) ?_
  refine dl_r (sem_call rfl rfl (awake5_ok) rfl) ?_
  refine dl_r (sem_not rfl rfl) ?_
  refine dl_r (sem_move rfl rfl) ?_
  refine dl_r (sem_move rfl rfl) ?_
  refine dl_r (sem_len sl22 rfl rfl) ?_
  refine dl_r (sem_castb (c := true) (sem_cmp rfl rfl rfl rfl) (decide_eq_true (by omega))) ?_
  refine dl_r (sem_pick rfl rfl rfl rfl) ?_
  refine dl_end ?_
  refine dw_true rfl ?_
  refine dw_seq ?_
  -- region 2
  refine dw_region (by kernel_rfl) ?_
  refine dl_r (sem_call rfl rfl (awake5_ok) rfl) ?_
  refine dl_r (sem_assign rfl rfl) ?_
  refine dl_end ?_
  refine dw_ret ?_
  -- path 
  exact ⟨.inr rfl, (resL_tmp rfl resL_nil)⟩
theorem lSt_bad {n : Nat} {us : List CellD} {φ : Nat → Bool} (hl : us.length = n * 12) (hn : n ≤ 12) (hS : ∀ j, j < n → Ok Tryz.prog 5 [.a (elt us 12 (j : Int))] [.c (.b (φ j))]) {m : Nat} (hmn : m < n) (hm : φ m = false) (_h0 : ∀ j, j < m → φ j = true)  : Ok Tryz.prog 3 [.c (.s n us)] [.c (.b true)] := by
  refine Ok.of (by kernel_rfl) Tryz.func3 rfl rfl ?_
  rw [show Tryz.f3.ntmps = 50 from rfl, show Tryz.f3.results.toList = [.tmp 2] from rfl]
  refine dw_seq ?_
  -- region 0
  refine dw_region (by kernel_rfl) ?_
  refine dl_r (sem_assign rfl rfl) ?_
  refine dl_end ?_
  refine dw_seq ?_
  refine dw_seq ?_
  -- region 1
  refine dw_region (by kernel_rfl) ?_
  refine dl_r (sem_call rfl rfl (awake5_ok) rfl) ?_
  refine dl_r (sem_not rfl rfl) ?_
  refine dl_r (sem_move rfl rfl) ?_
  refine dl_r (sem_move rfl rfl) ?_
  refine dl_r (sem_len sl22 rfl rfl) ?_
  refine dl_r (sem_castb (c := false) (sem_cmp rfl rfl rfl rfl) (decide_eq_false (by omega))) ?_
  refine dl_r (sem_pick rfl rfl rfl rfl) ?_
  refine dl_end ?_
  refine dw_false rfl ?_
  refine dw_skip ?_
  refine dw_seq ?_
  refine dw_seq ?_
  -- region 3
  refine dw_region (by kernel_rfl) ?_
  refine dl_r (sem_move rfl rfl) ?_
  refine dl_r (sem_len sl22 rfl rfl) ?_
  refine dl_r (sem_move rfl rfl) ?_
  refine dl_end ?_
  refine dw_block ?_
  refine dw_loop (ι := {j : Nat // j ≤ m}) (fun i => ⟨50, [(0, .v (.c (.s n us))), (16, .v (.c (.s n us))), (17, .v (.c (.i .i64 (n : Int)))), (18, .v (.c (.i .i64 (i.1 : Int))))], []⟩) (fun i => m - i.1) ⟨0, Nat.zero_le _⟩ (sub_of ⟨rfl, rfl, rfl, rfl, trivial⟩ trivial rfl) ?_
  rintro ⟨j, h2⟩
  replace h2 : j ≤ m := h2
  show Dw _ _ ⟨50, [(0, .v (.c (.s n us))), (16, .v (.c (.s n us))), (17, .v (.c (.i .i64 (n : Int)))), (18, .v (.c (.i .i64 (j : Int))))], []⟩ _
  refine dw_seq ?_
  -- region 4
  refine dw_region (by kernel_rfl) ?_
  refine dl_r (sem_cmp rfl rfl rfl rfl) ?_
  refine dl_end ?_
  refine dw_seq ?_
  refine dw_cond rfl (fun hc1 => ?_) (fun hc1 => ?_)
  · have g1 : j < n := by omega
    refine dw_skip ?_
    refine dw_seq ?_
    refine dw_block ?_
    refine dw_seq ?_
    -- region 5
    refine dw_region (by kernel_rfl) ?_
    refine dl_r (sem_index (us := us.drop ((j : Int).toNat * 12)) sl22 rfl rfl (by omega) (hl) (rfl) rfl) ?_
    refine dl_r (sem_loadq (us := elt us 12 (j : Int)) ty30 rfl rfl (elt_len hl (by omega) (by omega)) rfl) ?_
    refine dl_new (sem_alloc zc30 rfl) rfl ?_
    refine dl_st (sem_store_a ty30 rfl rfl rfl (elt_len hl (by omega) (by omega)) rfl rfl) ?_
    refine dl_end ?_
    refine dw_seq ?_
    -- region 6
    refine dw_region (by kernel_rfl) ?_
    refine dl_r (sem_load (us := elt us 12 (j : Int)) ty30 rfl rfl (by rw [List.drop_zero]; exact List.take_of_length_le (Nat.le_of_eq (elt_len hl (by omega) (by omega)))) (elt_len hl (by omega) (by omega)) rfl) ?_
    refine dl_r (sem_call rfl rfl (hS j g1) rfl) ?_
    refine dl_r (sem_not rfl rfl) ?_
    refine dl_end ?_
    refine dw_cond rfl (fun hc2 => ?_) (fun hc2 => ?_)
    · refine dw_seq ?_
      -- region 7
      refine dw_region (by kernel_rfl) ?_
      refine dl_r (sem_assign rfl rfl) ?_
      refine dl_end ?_
      refine dw_ret ?_
      -- path TT
      exact ⟨.inr rfl, (resL_tmp rfl resL_nil)⟩
    · have g2 : j + 1 ≤ m := by
        rcases Nat.lt_or_ge j m with h9 | h9
        · omega
        · have h8 := hc2; rw [show j = m by omega, hm] at h8; cases h8
      refine dw_skip ?_
      -- region 8
      refine dw_region (by kernel_rfl) ?_
      refine dl_r (sem_ari (r := ((j + 1 : Nat) : Int)) rfl rfl ((ari_i64_add (by omega) (by omega)).trans (congrArg some (by omega))) rfl) ?_
      refine dl_r (sem_move rfl rfl) ?_
      refine dl_end ?_
      exact ⟨⟨j + 1, g2⟩, sub_of ⟨rfl, rfl, rfl, rfl, trivial⟩ trivial rfl, by show m - (j + 1) < m - j; omega⟩
  · exact (of_decide_eq_false hc1 (by omega)).elim
theorem lSt_ok {n : Nat} {us : List CellD} {φ : Nat → Bool} (hl : us.length = n * 12) (hn : n ≤ 12) (hS : ∀ j, j < n → Ok Tryz.prog 5 [.a (elt us 12 (j : Int))] [.c (.b (φ j))]) (h0 : ∀ j, j < n → φ j = true) {L : List Int} (hL : L.length = n) (hP : Ok Tryz.prog 6 [.c (.s n us)] [.c (.s n (nI L))]) (hR : Ok Tryz.prog 7 [.c (.s n us)] [.c (.s n (nI L))])  : Ok Tryz.prog 3 [.c (.s n us)] [.c (.b true)] := by
  refine Ok.of (by kernel_rfl) Tryz.func3 rfl rfl ?_
  rw [show Tryz.f3.ntmps = 50 from rfl, show Tryz.f3.results.toList = [.tmp 2] from rfl]
  refine dw_seq ?_
  -- region 0
  refine dw_region (by kernel_rfl) ?_
  refine dl_r (sem_assign rfl rfl) ?_
  refine dl_end ?_
  refine dw_seq ?_
  refine dw_seq ?_
  -- region 1
  refine dw_region (by kernel_rfl) ?_
  refine dl_r (sem_call rfl rfl (awake5_ok) rfl) ?_
  refine dl_r (sem_not rfl rfl) ?_
  refine dl_r (sem_move rfl rfl) ?_
  refine dl_r (sem_move rfl rfl) ?_
  refine dl_r (sem_len sl22 rfl rfl) ?_
  refine dl_r (sem_castb (c := false) (sem_cmp rfl rfl rfl rfl) (decide_eq_false (by omega))) ?_
  refine dl_r (sem_pick rfl rfl rfl rfl) ?_
  refine dl_end ?_
  refine dw_false rfl ?_
  refine dw_skip ?_
  refine dw_seq ?_
  refine dw_seq ?_
  -- region 3
  refine dw_region (by kernel_rfl) ?_
  refine dl_r (sem_move rfl rfl) ?_
  refine dl_r (sem_len sl22 rfl rfl) ?_
  refine dl_r (sem_move rfl rfl) ?_
  refine dl_end ?_
  refine dw_block ?_
  refine dw_loop (ι := {j : Nat // j ≤ n}) (fun i => ⟨50, [(0, .v (.c (.s n us))), (16, .v (.c (.s n us))), (17, .v (.c (.i .i64 (n : Int)))), (18, .v (.c (.i .i64 (i.1 : Int))))], []⟩) (fun i => n - i.1) ⟨0, Nat.zero_le _⟩ (sub_of ⟨rfl, rfl, rfl, rfl, trivial⟩ trivial rfl) ?_
  rintro ⟨j, h2⟩
  replace h2 : j ≤ n := h2
  show Dw _ _ ⟨50, [(0, .v (.c (.s n us))), (16, .v (.c (.s n us))), (17, .v (.c (.i .i64 (n : Int)))), (18, .v (.c (.i .i64 (j : Int))))], []⟩ _
  refine dw_seq ?_
  -- region 4
  refine dw_region (by kernel_rfl) ?_
  refine dl_r (sem_cmp rfl rfl rfl rfl) ?_
  refine dl_end ?_
  refine dw_seq ?_
  refine dw_cond rfl (fun hc1 => ?_) (fun hc1 => ?_)
  · have g1 : j < n := by have := of_decide_eq_true hc1; omega
    have g2 : j + 1 ≤ n := g1
    refine dw_skip ?_
    refine dw_seq ?_
    refine dw_block ?_
    refine dw_seq ?_
    -- region 5
    refine dw_region (by kernel_rfl) ?_
    refine dl_r (sem_index (us := us.drop ((j : Int).toNat * 12)) sl22 rfl rfl (by omega) (hl) (rfl) rfl) ?_
    refine dl_r (sem_loadq (us := elt us 12 (j : Int)) ty30 rfl rfl (elt_len hl (by omega) (by omega)) rfl) ?_
    refine dl_new (sem_alloc zc30 rfl) rfl ?_
    refine dl_st (sem_store_a ty30 rfl rfl rfl (elt_len hl (by omega) (by omega)) rfl rfl) ?_
    refine dl_end ?_
    refine dw_seq ?_
    -- region 6
    refine dw_region (by kernel_rfl) ?_
    refine dl_r (sem_load (us := elt us 12 (j : Int)) ty30 rfl rfl (by rw [List.drop_zero]; exact List.take_of_length_le (Nat.le_of_eq (elt_len hl (by omega) (by omega)))) (elt_len hl (by omega) (by omega)) rfl) ?_
    refine dl_r (sem_call rfl rfl (hS j g1) rfl) ?_
    refine dl_r (sem_not rfl rfl) ?_
    refine dl_end ?_
    refine dw_cond rfl (fun hc2 => ?_) (fun hc2 => ?_)
    · have h8 := hc2; rw [h0 j g1] at h8; cases h8
    · refine dw_skip ?_
      -- region 8
      refine dw_region (by kernel_rfl) ?_
      refine dl_r (sem_ari (r := ((j + 1 : Nat) : Int)) rfl rfl ((ari_i64_add (by omega) (by omega)).trans (congrArg some (by omega))) rfl) ?_
      refine dl_r (sem_move rfl rfl) ?_
      refine dl_end ?_
      exact ⟨⟨j + 1, g2⟩, sub_of ⟨rfl, rfl, rfl, rfl, trivial⟩ trivial rfl, by show n - (j + 1) < n - j; omega⟩
  · refine dw_exit ?_
    refine dw_seq ?_
    -- region 9
    refine dw_region (by kernel_rfl) ?_
    refine dl_r (sem_move rfl rfl) ?_
    refine dl_r (sem_call rfl rfl (hP) rfl) ?_
    refine dl_r (sem_move rfl rfl) ?_
    refine dl_r (sem_call rfl rfl (hR) rfl) ?_
    refine dl_r (sem_assign rfl rfl) ?_
    refine dl_r (sem_assign rfl rfl) ?_
    refine dl_end ?_
    refine dw_seq ?_
    refine dw_seq ?_
    -- region 10
    refine dw_region (by kernel_rfl) ?_
    refine dl_r (sem_move rfl rfl) ?_
    refine dl_r (sem_len sl32 rfl rfl) ?_
    refine dl_r (sem_move rfl rfl) ?_
    refine dl_r (sem_len sl32 rfl rfl) ?_
    refine dl_r (sem_castb (c := false) (sem_cmp rfl rfl rfl rfl) (bne_self_eq_false _)) ?_
    refine dl_end ?_
    refine dw_false rfl ?_
    refine dw_skip ?_
    refine dw_seq ?_
    refine dw_seq ?_
    -- region 12
    refine dw_region (by kernel_rfl) ?_
    refine dl_r (sem_move rfl rfl) ?_
    refine dl_r (sem_len sl32 rfl rfl) ?_
    refine dl_r (sem_move rfl rfl) ?_
    refine dl_end ?_
    refine dw_block ?_
    refine dw_loop (ι := {k : Nat // k ≤ n}) (fun i => ⟨50, [(5, .v (.c (.s n (nI L)))), (6, .v (.c (.s n (nI L)))), (36, .v (.c (.i .i64 (n : Int)))), (37, .v (.c (.i .i64 (i.1 : Int))))], []⟩) (fun i => n - i.1) ⟨0, Nat.zero_le _⟩ (sub_of ⟨rfl, rfl, rfl, rfl, trivial⟩ trivial rfl) ?_
    rintro ⟨k, h2⟩
    replace h2 : k ≤ n := h2
    show Dw _ _ ⟨50, [(5, .v (.c (.s n (nI L)))), (6, .v (.c (.s n (nI L)))), (36, .v (.c (.i .i64 (n : Int)))), (37, .v (.c (.i .i64 (k : Int))))], []⟩ _
    refine dw_seq ?_
    -- region 13
    refine dw_region (by kernel_rfl) ?_
    refine dl_r (sem_cmp rfl rfl rfl rfl) ?_
    refine dl_end ?_
    refine dw_seq ?_
    refine dw_cond rfl (fun hc3 => ?_) (fun hc3 => ?_)
    · have g1 : k < n := by have := of_decide_eq_true hc3; omega
      have g2 : k + 1 ≤ n := g1
      refine dw_skip ?_
      refine dw_seq ?_
      refine dw_block ?_
      refine dw_seq ?_
      -- region 14
      refine dw_region (by kernel_rfl) ?_
      refine dl_r (sem_move rfl rfl) ?_
      refine dl_r (sem_assign rfl rfl) ?_
      refine dl_end ?_
      refine dw_seq ?_
      -- region 15
      refine dw_draw 9 [] follows_mixed (by kernel_rfl) rfl rfl ?_
      refine dq_r (sem_move rfl rfl) ?_
      refine dq_r (sem_move rfl rfl) ?_
      refine dq_r (sem_index (us := [.i .i64 (L.getD k 0)] ++ (nI L).drop (k + 1)) sl32 rfl rfl (by omega) (by rw [nI_len, hL, Nat.mul_one]) (nI_drop (by omega)) rfl) ?_
      refine dq_r (sem_loadq1 ty3 rfl rfl rfl) ?_
      refine dq_r (sem_move rfl rfl) ?_
      refine dq_r (sem_move rfl rfl) ?_
      refine dq_r (sem_index (us := [.i .i64 (L.getD k 0)] ++ (nI L).drop (k + 1)) sl32 rfl rfl (by omega) (by rw [nI_len, hL, Nat.mul_one]) (nI_drop (by omega)) rfl) ?_
      refine dq_r (sem_loadq1 ty3 rfl rfl rfl) ?_
      refine dq_r (sem_castb (c := false) (sem_cmp rfl rfl rfl rfl) (bne_self_eq_false _)) ?_
      refine dq_end ?_
      refine dl_start0 ?_
      refine dl_end ?_
      refine dw_false rfl ?_
      refine dw_skip ?_
      -- region 17
      refine dw_region (by kernel_rfl) ?_
      refine dl_r (sem_ari (r := ((k + 1 : Nat) : Int)) rfl rfl ((ari_i64_add (by omega) (by omega)).trans (congrArg some (by omega))) rfl) ?_
      refine dl_r (sem_move rfl rfl) ?_
      refine dl_end ?_
      exact ⟨⟨k + 1, g2⟩, sub_of ⟨rfl, rfl, rfl, rfl, trivial⟩ trivial rfl, by show n - (k + 1) < n - k; omega⟩
    · refine dw_exit ?_
      refine dw_seq ?_
      -- region 18
      refine dw_region (by kernel_rfl) ?_
      refine dl_r (sem_assign rfl rfl) ?_
      refine dl_end ?_
      refine dw_ret ?_
      -- path FF
      exact ⟨.inr rfl, (resL_tmp rfl resL_nil)⟩
end Go.Proofs.YtcimbhjmjlfloaaGreat
/- Arguments opened: what the row's readings give as data: fractions, roots, points, vectors. No condition. -/
namespace Go.Proofs.YtcimbhjmjlfloaaGreat
open Go.ChangeShapes Go.WideShapes Go.ChangeAt Go.RowKit Go.Deep
theorem own : ownKnob Tryz.prog.godebug = none := by kernel_rfl
theorem laidOut : laidOutB Tryz.prog = true := by kernel_rfl
def NoB : Nat → Prop := fun _ => False
section
variable {H : Type} {enc : TypeId × Value → H} {w : World} {base : Nat} {spare : Nat → Bool} {held : Bool}
theorem olist_of {α : Type} {p : Nat → α → Prop} : ∀ (n : Nat), (∀ i, i < n → ∃ a, p i a) → ∃ l : List α, l.length = n ∧ ∀ i a, l[i]? = some a → p i a
  | 0, _ => ⟨[], rfl, fun i a h => by simp at h⟩
  | n + 1, h => by
    obtain ⟨l, hl, hp⟩ := olist_of n (fun i hi => h i (by omega))
    obtain ⟨a, ha⟩ := h n (by omega)
    refine ⟨l ++ [a], by simp [hl], fun i b hb => ?_⟩
    rcases Nat.lt_or_ge i n with h1 | h1
    · rw [List.getElem?_append_left (by omega)] at hb; exact hp i b hb
    · rw [List.getElem?_append_right (by omega)] at hb
      have : i = n := by
        rcases Nat.lt_or_ge (i - l.length) 1 with h2 | h2
        · omega
        · rw [List.getElem?_eq_none (by simpa using h2)] at hb; cases hb
      subst this
      rw [hl] at hb; simp at hb; subst hb; exact ha
theorem oadd_at (a : Addr) (k : Nat) (v : Value) (h : w.cell? (a.add k) = some v) : w.cell? ⟨a.block, a.off + k, none⟩ = some v := by
  obtain ⟨b, off, spot⟩ := a
  by_cases hk : k = 0
  · subst hk
    have hs : spot = none := by simpa [Addr.add] using World.cell?_spot h
    subst hs
    simpa [Addr.add] using h
  · simpa [Addr.add, hk] using h
theorem ospot_of (a : Addr) (v : Value) (h : w.cell? (a.add 0) = some v) : a = ⟨a.block, a.off, none⟩ := by
  obtain ⟨b, off, spot⟩ := a
  have hs : spot = none := by simpa [Addr.add] using World.cell?_spot h
  subst hs; rfl
theorem olt_of (b off : Nat) (v : Value) (h : w.cell? ⟨b, off, none⟩ = some v) : b < w.heap.size := World.block_lt_of_cell? w _ h
theorem limbs_of {fuel : Nat} {v : Value} {x : DataW H × List MemPlace} (h : DataW.trod enc Tryz.prog w base spare held fuel 24 [v] = some x) : ∃ xs, U32s xs ∧ RdC NoB w v (cM xs) := by
  rcases open_slice1 (P := Tryz.prog) Tryz.underlying24 (by kernel_rfl) h with ⟨hcs, _⟩ | ⟨a, len, cap, m, n, V, D, Pl, hcs, _, hl, hm, hmm, _, hi⟩
  · simp at hcs; subst hcs
    exact ⟨[], fun x hx => (by cases hx), .s0 none 0 (by omega)⟩
  · simp at hcs; subst hcs
    unfold maxLen at hm
    have key : ∀ i, i < len → ∃ z : Int, w.cell? (a.add i) = some (.int .u32 z) ∧ 0 ≤ z ∧ z < 4294967296 := by
      intro i hil
      obtain ⟨hc, ht⟩ := hi i (by rw [hmm]; split <;> omega)
      obtain ⟨z, e, _, hw⟩ := DataW.trod_int (P := Tryz.prog) Tryz.underlying119 ht
      simp at e
      simp [Lit.wf, IntKind.min, IntKind.max, IntKind.signed, IntKind.bits] at hw
      exact ⟨z, by rw [hc, e], by omega, by omega⟩
    obtain ⟨xs, hxl, hxs⟩ := olist_of len key
    refine ⟨xs, fun z hz => ?_, ?_⟩
    · obtain ⟨i, hi', rfl⟩ := List.mem_iff_getElem.1 hz
      have := hxs i _ (List.getElem?_eq_getElem hi')
      omega
    · unfold cM
      rw [hxl]
      refine rdc_of_rdi (xs := xs) ⟨by simp [hxl], fun h0 => ?_⟩ hl (by omega) (fun _ _ _ h => h)
      have h00 := (hxs 0 _ (List.getElem?_eq_getElem (by omega))).1
      have ea := ospot_of a _ h00
      refine ⟨a.block, a.off, by rw [← ea], olt_of _ _ _ (oadd_at a 0 _ h00), fun j u hu => ?_⟩
      rw [List.getElem?_map] at hu
      cases hj : xs[j]? with
      | none => rw [hj] at hu; cases hu
      | some z =>
        rw [hj] at hu
        simp at hu
        subst hu
        exact oadd_at a j _ (hxs j z hj).1
set_option maxRecDepth 100000 in
theorem int_of {fuel : Nat} {cs : List Value} {x : DataW H × List MemPlace} (h : DataW.trod enc Tryz.prog w base spare held fuel 26 cs = some x) : ∃ neg xs, U32s xs ∧ RdCs NoB w cs ([.b neg] ++ [cM xs]) := by
  obtain ⟨xs, n, _, _, hcl, hxl, hf⟩ := DataW.trod_struct (P := Tryz.prog) Tryz.underlying26 h
  have hcl : cs.length = 2 := hcl.trans (by kernel_rfl)
  have hxl : xs.length = 2 := hxl.trans (by kernel_rfl)
  match cs, hcl with
  | [c0, c1], _ =>
    have h0 : DataW.trod enc Tryz.prog w base spare held n 4 [c0] = xs[0]? := hf 0 _ rfl
    have h1 : DataW.trod enc Tryz.prog w base spare held n 24 [c1] = xs[1]? := hf 1 _ rfl
    rw [List.getElem?_eq_getElem (by omega)] at h0 h1
    obtain ⟨b, e, _⟩ := DataW.trod_bool (P := Tryz.prog) Tryz.underlying4 h0
    obtain ⟨zs, hz, hr⟩ := limbs_of h1
    simp at e
    subst e
    exact ⟨b, zs, hz, RdCs.cons (.b b) (RdCs.cons hr RdCs.nil)⟩
set_option maxRecDepth 100000 in
theorem rat_of {fuel : Nat} {cs : List Value} {x : DataW H × List MemPlace} (h : DataW.trod enc Tryz.prog w base spare held fuel 28 cs = some x) : ∃ r : RN, r.Wf ∧ RdCs NoB w cs (cN r) := by
  obtain ⟨xs, n, _, _, hcl, hxl, hf⟩ := DataW.trod_struct (P := Tryz.prog) Tryz.underlying28 h
  have hcl : cs.length = 4 := hcl.trans (by kernel_rfl)
  have hxl : xs.length = 2 := hxl.trans (by kernel_rfl)
  match cs, hcl with
  | [c0, c1, c2, c3], _ =>
    have h0 : DataW.trod enc Tryz.prog w base spare held n 26 [c0, c1] = xs[0]? := hf 0 _ rfl
    have h1 : DataW.trod enc Tryz.prog w base spare held n 26 [c2, c3] = xs[1]? := hf 1 _ rfl
    rw [List.getElem?_eq_getElem (by omega)] at h0 h1
    obtain ⟨b, zs, hz, hr⟩ := int_of h0
    obtain ⟨b', zs', hz', hr'⟩ := int_of h1
    exact ⟨⟨b, zs, b', zs'⟩, ⟨hz, hz'⟩, RdCs.append hr hr'⟩
set_option maxRecDepth 100000 in
theorem root_of {fuel : Nat} {cs : List Value} {x : DataW H × List MemPlace} (h : DataW.trod enc Tryz.prog w base spare held fuel 30 cs = some x) : ∃ r s t : RN, r.Wf ∧ s.Wf ∧ t.Wf ∧ RdCs NoB w cs (cN r ++ cN s ++ cN t) := by
  obtain ⟨xs, n, _, _, hcl, hxl, hf⟩ := DataW.trod_struct (P := Tryz.prog) Tryz.underlying30 h
  have hcl : cs.length = 12 := hcl.trans (by kernel_rfl)
  have hxl : xs.length = 3 := hxl.trans (by kernel_rfl)
  match cs, hcl with
  | [c0, c1, c2, c3, c4, c5, c6, c7, c8, c9, c10, c11], _ =>
    have h0 : DataW.trod enc Tryz.prog w base spare held n 28 [c0, c1, c2, c3] = xs[0]? := hf 0 _ rfl
    have h1 : DataW.trod enc Tryz.prog w base spare held n 28 [c4, c5, c6, c7] = xs[1]? := hf 1 _ rfl
    have h2 : DataW.trod enc Tryz.prog w base spare held n 28 [c8, c9, c10, c11] = xs[2]? := hf 2 _ rfl
    rw [List.getElem?_eq_getElem (by omega)] at h0 h1 h2
    obtain ⟨r, hz, hr⟩ := rat_of h0
    obtain ⟨s, hz', hr'⟩ := rat_of h1
    obtain ⟨t, hz2, hr2⟩ := rat_of h2
    exact ⟨r, s, t, hz, hz', hz2, RdCs.append (RdCs.append hr hr') hr2⟩
/-- What a contract gives a row. -/
theorem law_of {f : FuncId} {ds : List D0} {vs : Array Value} {W : World} (h : Ok Tryz.prog f ds [.c (.b true)]) (hr : RdL NoB W vs.toList ds) : Calls Tryz.prog f vs W fun e W' => e = .returned (.bool true) ∧ Below W.heap.size W W' :=
  (h.run NoB vs W (fun _ h => h.elim) hr).mono fun e w' ⟨v, e1, h1, h2⟩ => by
    have := RdC.bool_eq h1
    subst this
    exact ⟨e1, h2⟩
end
end Go.Proofs.YtcimbhjmjlfloaaGreat
/- Plain: small raw points and vectors are numbers. -/
namespace Go.Proofs.YtcimbhjmjlfloaaGreat
open Go Go.RowKit
theorem s3_of {r : RN} (w : r.Wf) (h : r.s 3 = true) : ∃ x : Rat, Rz 3 x ∧ cN r = cR x := s_data (k := 3) w h
theorem p3_of {x1 x2 x3 x4 x5 : RN} (w1 : x1.Wf) (w2 : x2.Wf) (w3 : x3.Wf) (w4 : x4.Wf) (w5 : x5.Wf) (h : (x1.s 3 && (x2.s 3 && (x3.s 3 && (x4.s 3 && x5.s 3)))) = true) :
    ∃ a1 b1 a2 b2 c : Rat, Rz 3 a1 ∧ Rz 3 b1 ∧ Rz 3 a2 ∧ Rz 3 b2 ∧ Rz 3 c ∧ (cN x1 ++ cN x2 ++ cN x3 ++ cN x4 ++ cN x5) = (cR a1 ++ cR b1 ++ cR a2 ++ cR b2 ++ cR c) := by
  simp only [Bool.and_eq_true] at h
  obtain ⟨a1, h1, e1⟩ := s3_of w1 h.1
  obtain ⟨b1, h2, e2⟩ := s3_of w2 h.2.1
  obtain ⟨a2, h3, e3⟩ := s3_of w3 h.2.2.1
  obtain ⟨b2, h4, e4⟩ := s3_of w4 h.2.2.2.1
  obtain ⟨c, h5, e5⟩ := s3_of w5 h.2.2.2.2
  exact ⟨a1, b1, a2, b2, c, h1, h2, h3, h4, h5, by rw [e1, e2, e3, e4, e5]⟩
theorem v3_of {v w : RN} (wv : v.Wf) (ww : w.Wf) (h : (v.s 3 && w.s 3) = true) : ∃ d e : Rat, Rz 3 d ∧ Rz 3 e ∧ (cN v ++ cN w) = (cR d ++ cR e) := by
  simp only [Bool.and_eq_true] at h
  obtain ⟨d, h1, e1⟩ := s3_of wv h.1
  obtain ⟨e, h2, e2⟩ := s3_of ww h.2
  exact ⟨d, e, h1, h2, by rw [e1, e2]⟩
end Go.Proofs.YtcimbhjmjlfloaaGreat
/- Arguments opened: quads, four fractions. No condition. -/
namespace Go.Proofs.YtcimbhjmjlfloaaGreat
open Go.ChangeShapes Go.WideShapes Go.ChangeAt Go.RowKit Go.Deep
theorem okWide_arr {P : Program} {w : World} {r : Reach} {base : Nat} {t e : TypeId} {n : Nat} {v : Value} (ht : P.underlying t = some (.array n e)) (h : Value.okWide P w r base t v) : ∃ cs, v = .agg cs := by
  simp only [Value.okWide, ht] at h
  obtain ⟨cs, h1, _⟩ := h
  exact ⟨cs, h1⟩
section
variable {H : Type} {enc : TypeId × Value → H} {w : World} {base : Nat} {spare : Nat → Bool} {held : Bool}
set_option maxRecDepth 100000 in
theorem quad_of {fuel : Nat} {cs : List Value} {x : DataW H × List MemPlace} (h : DataW.trod enc Tryz.prog w base spare held fuel 45 cs = some x) :
    ∃ r s t u v y : RN, r.Wf ∧ s.Wf ∧ t.Wf ∧ u.Wf ∧ v.Wf ∧ y.Wf ∧ RdCs NoB w cs (cN r ++ cN s ++ cN t ++ cN u ++ cN v ++ cN y) := by
  obtain ⟨xs, n, _, _, hcl, hxl, hf⟩ := DataW.trod_struct (P := Tryz.prog) Tryz.underlying45 h
  have hcl : cs.length = 24 := hcl.trans (by kernel_rfl)
  have hxl : xs.length = 6 := hxl.trans (by kernel_rfl)
  match cs, hcl with
  | [c0, c1, c2, c3, c4, c5, c6, c7, c8, c9, c10, c11, d0, d1, d2, d3, d4, d5, d6, d7, e0, e1, e2, e3], _ =>
    have h0 : DataW.trod enc Tryz.prog w base spare held n 28 [c0, c1, c2, c3] = xs[0]? := hf 0 _ rfl
    have h1 : DataW.trod enc Tryz.prog w base spare held n 28 [c4, c5, c6, c7] = xs[1]? := hf 1 _ rfl
    have h2 : DataW.trod enc Tryz.prog w base spare held n 28 [c8, c9, c10, c11] = xs[2]? := hf 2 _ rfl
    have h3 : DataW.trod enc Tryz.prog w base spare held n 28 [d0, d1, d2, d3] = xs[3]? := hf 3 _ rfl
    have h4 : DataW.trod enc Tryz.prog w base spare held n 28 [d4, d5, d6, d7] = xs[4]? := hf 4 _ rfl
    have h5 : DataW.trod enc Tryz.prog w base spare held n 28 [e0, e1, e2, e3] = xs[5]? := hf 5 _ rfl
    rw [List.getElem?_eq_getElem (by omega)] at h0 h1 h2 h3 h4 h5
    obtain ⟨r, hz, hr⟩ := rat_of h0
    obtain ⟨s, hz', hr'⟩ := rat_of h1
    obtain ⟨t, hz2, hr2⟩ := rat_of h2
    obtain ⟨u, hz3, hr3⟩ := rat_of h3
    obtain ⟨v, hz4, hr4⟩ := rat_of h4
    obtain ⟨y, hz5, hr5⟩ := rat_of h5
    exact ⟨r, s, t, u, v, y, hz, hz', hz2, hz3, hz4, hz5, RdCs.append (RdCs.append (RdCs.append (RdCs.append (RdCs.append hr hr') hr2) hr3) hr4) hr5⟩
end
end Go.Proofs.YtcimbhjmjlfloaaGreat
/- Arguments opened: slices of structs. No condition. -/
namespace Go.Proofs.YtcimbhjmjlfloaaGreat
open Go.ChangeShapes Go.WideShapes Go.ChangeAt Go.RowKit Go.Deep
theorem flat_len {α : Type} {m : Nat} : ∀ (L : List (List α)), (∀ x ∈ L, x.length = m) → L.flatten.length = L.length * m
  | [], _ => by simp
  | y :: L, h => by
    rw [List.flatten_cons, List.length_append, flat_len L (fun x hx => h x (List.mem_cons_of_mem _ hx)), h y (List.mem_cons_self ..), List.length_cons, Nat.add_mul]; omega
theorem flat_at {α : Type} {m : Nat} : ∀ (L : List (List α)) (i q : Nat) (x : List α), (∀ x ∈ L, x.length = m) → L[i]? = some x → q < m → L.flatten[i * m + q]? = x[q]?
  | [], i, q, x, _, h, _ => by simp at h
  | y :: L, 0, q, x, hm, h, hq => by
    simp at h
    subst h
    rw [List.flatten_cons, List.getElem?_append_left (by rw [hm y (List.mem_cons_self ..)]; omega)]
    congr 1; omega
  | y :: L, i + 1, q, x, hm, h, hq => by
    rw [List.flatten_cons, List.getElem?_append_right (by rw [hm y (List.mem_cons_self ..), Nat.add_mul]; omega), hm y (List.mem_cons_self ..), show (i + 1) * m + q - m = i * m + q from by rw [Nat.add_mul]; omega]
    exact flat_at L i q x (fun x hx => hm x (List.mem_cons_of_mem _ hx)) (by simpa using h) hq
theorem flat_cut {α : Type} {m : Nat} : ∀ (L : List (List α)) (i : Nat) (x : List α), (∀ x ∈ L, x.length = m) → L[i]? = some x → (L.flatten.drop (i * m)).take m = x
  | [], i, x, _, h => by simp at h
  | y :: L, 0, x, hm, h => by
    simp at h
    subst h
    rw [Nat.zero_mul, List.drop_zero, List.flatten_cons, ← hm y (List.mem_cons_self ..)]
    simp
  | y :: L, i + 1, x, hm, h => by
    rw [List.flatten_cons, Nat.add_mul, Nat.add_comm, ← List.drop_drop, Nat.one_mul]
    have : (y ++ L.flatten).drop m = L.flatten := by rw [← hm y (List.mem_cons_self ..)]; simp
    rw [this]
    exact flat_cut L i x (fun x hx => hm x (List.mem_cons_of_mem _ hx)) (by simpa using h)
section
variable {H : Type} {enc : TypeId × Value → H} {P : Program} {w : World} {base : Nat} {spare : Nat → Bool} {held : Bool}
theorem flat_rd {V : Nat → Prop} : ∀ (L : List (List Value × List CellD)), (∀ p ∈ L, RdCs V w p.1 p.2) → RdCs V w (L.map (·.1)).flatten (L.map (·.2)).flatten
  | [], _ => RdCs.nil
  | p :: L, h => by
    rw [List.map_cons, List.map_cons, List.flatten_cons, List.flatten_cons]
    exact (h p (List.mem_cons_self ..)).append (flat_rd L fun q hq => h q (List.mem_cons_of_mem _ hq))
theorem structs_of {t e : TypeId} {m : Nat} (ht : P.underlying t = some (.slice e)) (hc : P.cellsOf e = m) (hm : 0 < m) {Q : List CellD → Prop}
    (hel : ∀ fuel cs x, DataW.trod enc P w base spare held fuel e cs = some x → ∃ us, us.length = m ∧ Q us ∧ RdCs NoB w cs us) {fuel : Nat} {v : Value} {x : DataW H × List MemPlace} (h : DataW.trod enc P w base spare held fuel t [v] = some x) :
    ∃ (n : Nat) (us : List CellD), us.length = n * m ∧ n ≤ maxLen ∧ (∀ j, j < n → Q ((us.drop (j * m)).take m)) ∧ RdC NoB w v (.s n us) := by
  rcases open_slice ht h with ⟨hcs, _⟩ | ⟨a, len, cap, k, n, D, Pl, hcs, _, hl, hk, hkk, _, hi⟩
  · simp at hcs; subst hcs
    exact ⟨0, [], by simp, by decide, fun j hj => by omega, .s0 none 0 (by omega)⟩
  · simp at hcs; subst hcs
    rw [hc] at hi
    obtain ⟨l, hll, hp⟩ := olist_of (p := fun j (z : List Value × List CellD) => z.1.length = m ∧ z.2.length = m ∧ Q z.2 ∧ RdCs NoB w z.1 z.2 ∧ ∀ i, i < m → w.cell? (a.add (j * m + i)) = z.1[i]?) len (fun j hj => by
      obtain ⟨cs', h1, h2⟩ := hi j (by rw [hkk]; split <;> omega)
      obtain ⟨us, e1, e2, e3⟩ := hel _ _ _ h2
      obtain ⟨_, hlen, hcell⟩ := World.cells?_some h1
      exact ⟨(cs', us), hlen, e1, e2, e3, fun i hi => by rw [← hcell i hi, add_add]⟩)
    have hmem : ∀ z ∈ l, z.1.length = m ∧ z.2.length = m ∧ RdCs NoB w z.1 z.2 := fun z hz => by
      obtain ⟨i, hi⟩ := List.getElem?_of_mem hz
      exact ⟨(hp i z hi).1, (hp i z hi).2.1, (hp i z hi).2.2.2.1⟩
    have m1 : ∀ x ∈ l.map (·.1), x.length = m := fun x hx => by obtain ⟨z, hz, rfl⟩ := List.mem_map.1 hx; exact (hmem z hz).1
    have m2 : ∀ x ∈ l.map (·.2), x.length = m := fun x hx => by obtain ⟨z, hz, rfl⟩ := List.mem_map.1 hx; exact (hmem z hz).2.1
    have hrd := flat_rd (w := w) (V := NoB) l (fun p hp => (hmem p hp).2.2)
    have hvl : (l.map (·.1)).flatten.length = len * m := by rw [flat_len _ m1, List.length_map, hll]
    have hul : (l.map (·.2)).flatten.length = len * m := by rw [flat_len _ m2, List.length_map, hll]
    refine ⟨len, (l.map (·.2)).flatten, hul, by omega, fun j hj => ?_, ?_⟩
    · have hj2 : l[j]? = some l[j] := List.getElem?_eq_getElem (by omega)
      rw [flat_cut _ j l[j].2 m2 (by rw [List.getElem?_map, hj2]; rfl)]
      exact (hp j _ hj2).2.2.1
    · unfold maxLen at hk
      by_cases h0 : len = 0
      · subst h0
        have : l = [] := List.length_eq_zero_iff.1 hll
        subst this
        exact .s0 _ _ (by omega)
      · have hcell : ∀ j, j < len * m → ∃ v, (l.map (·.1)).flatten[j]? = some v ∧ w.cell? (a.add j) = some v := by
          intro j hj
          have hd : j / m < len := Nat.div_lt_of_lt_mul (by rw [Nat.mul_comm]; exact hj)
          have hq : j % m < m := Nat.mod_lt _ hm
          have e : j = j / m * m + j % m := by rw [Nat.mul_comm]; exact (Nat.div_add_mod j m).symm
          have hj2 : l[j / m]? = some l[j / m] := List.getElem?_eq_getElem (by omega)
          have h1 := flat_at (l.map (·.1)) (j / m) (j % m) l[j / m].1 m1 (by rw [List.getElem?_map, hj2]; rfl) hq
          have h2 := (hp _ _ hj2).2.2.2.2 (j % m) hq
          rw [← e] at h1 h2
          refine ⟨_, List.getElem?_eq_getElem (by omega), ?_⟩
          rw [h2, ← h1, List.getElem?_eq_getElem (by omega)]
        obtain ⟨v0, _, h00⟩ := hcell 0 (Nat.mul_pos (by omega) hm)
        have ea := ospot_of a _ h00
        rw [ea]
        refine .s a.block a.off cap m len _ (fun j => (l.map (·.1)).flatten.getD j undef) (by omega) hl (by omega) hul (olt_of _ _ _ (by have := oadd_at a 0 _ h00; simpa using this)) (fun h => h) (fun j hj => ?_) (fun j u hu => ?_)
        · obtain ⟨v, e1, e2⟩ := hcell j hj
          rw [oadd_at a j _ e2]
          simp [List.getD, e1]
        · have hj : j < len * m := by rw [← hul]; exact (List.getElem?_eq_some_iff.1 hu).1
          obtain ⟨v, e1, e2⟩ := hcell j hj
          simp only [List.getD, e1, Option.getD_some]
          exact hrd.2 j v u e1 hu
end
section
variable {H : Type} {enc : TypeId × Value → H} {w : World} {base : Nat} {spare : Nat → Bool} {held : Bool}
/-- A slice of roots. -/
theorem roots_of {fuel : Nat} {v : Value} {x : DataW H × List MemPlace} (h : DataW.trod enc Tryz.prog w base spare held fuel 22 [v] = some x) :
    ∃ (n : Nat) (us : List CellD), us.length = n * 12 ∧ n ≤ maxLen ∧ (∀ j, j < n → ∃ r s t : RN, r.Wf ∧ s.Wf ∧ t.Wf ∧ elt us 12 (j : Int) = cN r ++ cN s ++ cN t) ∧ RdC NoB w v (.s n us) := by
  obtain ⟨n, us, h1, h2, h3, h4⟩ := structs_of (P := Tryz.prog) (m := 12) (Q := fun us => ∃ r s t : RN, r.Wf ∧ s.Wf ∧ t.Wf ∧ us = cN r ++ cN s ++ cN t) Tryz.underlying22 (by kernel_rfl) (by decide) (fun fuel cs x h => by
    obtain ⟨r, s, t, w1, w2, w3, hr⟩ := root_of h
    have hl : cs.length = 12 := by
      obtain ⟨xs, n, _, _, hcl, hxl, hf⟩ := DataW.trod_struct (P := Tryz.prog) Tryz.underlying30 h
      exact hcl.trans (by kernel_rfl)
    exact ⟨_, hr.1.symm.trans hl, ⟨r, s, t, w1, w2, w3, rfl⟩, hr⟩) h
  exact ⟨n, us, h1, h2, fun j hj => by
    obtain ⟨r, s, t, w1, w2, w3, e⟩ := h3 j hj
    exact ⟨r, s, t, w1, w2, w3, by unfold elt; rw [Int.toNat_natCast]; exact e⟩, h4⟩
end
end Go.Proofs.YtcimbhjmjlfloaaGreat
/- RadicalSort: for every input the law returns true, and each argument reads behind the call as it read before. No condition. -/
namespace Go.Proofs.YtcimbhjmjlfloaaGreat
open Go.ChangeShapes Go.WideShapes Go.ChangeAt Go.RowKit
theorem vRoot_nn {b c : Rat} (h : vRoot b c = true) : 0 ≤ c := by
  unfold vRoot at h
  split at h
  · rw [decide_eq_true_eq] at h; rw [h.2]; exact Rat.le_refl
  · rw [Bool.and_eq_true, decide_eq_true_eq] at h; exact Rat.le_of_lt h.1
theorem first_bad (φ : Nat → Bool) : ∀ n, (∀ j, j < n → φ j = true) ∨ ∃ m, m < n ∧ φ m = false ∧ ∀ j, j < m → φ j = true
  | 0 => .inl fun j hj => by omega
  | n + 1 => by
    rcases first_bad φ n with h | ⟨m, h1, h2, h3⟩
    · cases hn : φ n with
      | false => exact .inr ⟨n, by omega, hn, h⟩
      | true =>
        refine .inl fun j hj => ?_
        rcases Nat.lt_or_ge j n with h9 | h9
        · exact h j h9
        · rw [show j = n by omega]; exact hn
    · exact .inr ⟨m, by omega, h2, h3⟩
theorem law_sort5 {n : Nat} {us : List CellD} (hl : us.length = n * 12) (_ : n ≤ maxLen) (hQ : ∀ j, j < n → ∃ r s t : RN, r.Wf ∧ s.Wf ∧ t.Wf ∧ elt us 12 (j : Int) = cN r ++ cN s ++ cN t) :
    Ok Tryz.prog 3 [.c (.s n us)] [.c (.b true)] := by
  by_cases hn : 12 < n
  · exact lSt_many hn
  replace hn : n ≤ 12 := by omega
  obtain ⟨φ, hφ⟩ := Go.Deep.choose_lt (p := fun j (x : Bool × Rat × Rat × Rat) => Ok Tryz.prog 5 [.a (elt us 12 (j : Int))] [.c (.b x.1)] ∧
      (x.1 = true → Rz 2 x.2.1 ∧ Rz 2 x.2.2.1 ∧ Rz 2 x.2.2.2 ∧ 0 ≤ x.2.2.2 ∧ elt us 12 (j : Int) = cR x.2.1 ++ cR x.2.2.1 ++ cR x.2.2.2)) (n := n) (fun j hj => by
    obtain ⟨r, s, t, w1, w2, w3, e⟩ := hQ j hj
    rw [e]
    rcases small5_ex w1 w2 w3 with h | ⟨h, a, b, c, ha, hb, hc, hv, e2⟩
    · exact ⟨(false, 0, 0, 0), h, fun h => by cases h⟩
    · exact ⟨(true, a, b, c), h, fun _ => ⟨ha, hb, hc, vRoot_nn hv, e2⟩⟩)
  have hS : ∀ j, j < n → Ok Tryz.prog 5 [.a (elt us 12 (j : Int))] [.c (.b ((fun j => (φ j).1) j))] := fun j hj => (hφ j hj).1
  rcases first_bad (fun j => (φ j).1) n with h0 | ⟨m, h1, h2, h3⟩
  case inr => exact lSt_bad hl hn hS h1 h2 h3
  rcases Nat.eq_zero_or_pos n with hz | hz
  · subst hz
    obtain rfl : us = [] := List.length_eq_zero_iff.1 (by omega)
    exact lSt_ok hl hn hS h0 (L := []) rfl pSort_0 rSo_0
  have hD : ∀ x : Int, 0 ≤ x → x < n → Rz 2 (φ x.toNat).2.1 ∧ Rz 2 (φ x.toNat).2.2.1 ∧ Rz 2 (φ x.toNat).2.2.2 ∧ 0 ≤ (φ x.toNat).2.2.2 ∧ elt us 12 x = cR (φ x.toNat).2.1 ++ cR (φ x.toNat).2.2.1 ++ cR (φ x.toNat).2.2.2 := fun x g1 g2 => by
    have h := (hφ x.toNat (by omega)).2 (h0 x.toNat (by omega))
    rw [Int.toNat_of_nonneg g1] at h
    exact h
  generalize hC : (fun x y : Int => sgR (val3 (φ x.toNat).2.1 (φ x.toNat).2.2.1 (φ x.toNat).2.2.2 - val3 (φ y.toNat).2.1 (φ y.toNat).2.2.1 (φ y.toNat).2.2.2)) = C
  have hP : ∀ x y : Int, 0 ≤ x → x < n → 0 ≤ y → y < n → Ok Tryz.prog 20 [.c (.i .i64 x), .c (.i .i64 y), .c (.p ([.s n us]))] [.c (.i .i64 (C x y))] := by
    intro x y g1 g2 g3 g4
    refine pS1_ok hl g1 g2 g3 g4 ?_
    obtain ⟨ha, hb, hc, hc0, e⟩ := hD x g1 g2
    obtain ⟨hd, he, hf, hf0, e2⟩ := hD y g3 g4
    rw [e, e2, ← hC]
    exact rcasti (xCmp_ok (ha.mono (by decide)) (hb.mono (by decide)) (hc.mono (by decide)) (hd.mono (by decide)) (he.mono (by decide)) (hf.mono (by decide)) ((ha.sub hd).mono (by decide))) (cmpP_eq hc0 hf0)
  have hR : ∀ x y : Int, 0 ≤ x → x < n → 0 ≤ y → y < n → Ok Tryz.prog 22 [.a (elt us 12 x), .a (elt us 12 y)] [.c (.i .i64 (C x y))] := by
    intro x y g1 g2 g3 g4
    obtain ⟨ha, hb, hc, hc0, e⟩ := hD x g1 g2
    obtain ⟨hd, he, hf, hf0, e2⟩ := hD y g3 g4
    rw [e, e2, ← hC]
    exact rcasti (yCmp_ok (ha.mono (by decide)) (hb.mono (by decide)) (hc.mono (by decide)) (hd.mono (by decide)) (he.mono (by decide)) (hf.mono (by decide))) (signQ_val hc0 hf0)
  have hA : ∀ x y : Int, 0 ≤ x → x < n → 0 ≤ y → y < n → (C x y > 0 ↔ C y x < 0) := by
    intro x y _ _ _ _
    have := sgR_sw (val3 (φ x.toNat).2.1 (φ x.toNat).2.2.1 (φ x.toNat).2.2.2) (val3 (φ y.toNat).2.1 (φ y.toNat).2.2.1 (φ y.toNat).2.2.2)
    rw [← hC]
    dsimp only
    omega
  exact lSt_ok hl hn hS h0 (L := srt C n) (srt_len C n) (pSort_ok hz hn hP) (rSo_ok hz hl hn hR hA)
set_option maxRecDepth 100000 in
theorem sort5_lifted (os : Os) (started : os.Started) (H : Type) (enc : TypeId × Value → H) :
    ReturnsInHanded {} Tryz.checked os 3 .any (Rows.radicalSortSpec.pre6 enc Tryz.prog Tryz.f3 Rows.radicalSortRow.domain false) (Rows.radicalSortSpec.post enc Tryz.prog Tryz.f3 false true false false) := by
  refine returnsInHanded_of_change (C := Tryz.checked) own started (by kernel_rfl) Tryz.func3
    (ChangeSpec.witness6 (enc := enc) (C := Tryz.checked) false ⟨#[], #[.slice none 0 0], []⟩ 8 (by kernel_rfl) (by kernel_rfl) (by kernel_rfl) (by kernel_rfl)) ?_
  intro W base args ds gs before hval0 hW hcnd _
  have hval : ∀ (j : Nat) t v, Tryz.f3.params[j]? = some t → args[j]? = some v → Value.okWide Tryz.prog W .any base t v := hval0
  have hW' := hW
  obtain ⟨p, q, hA0, hV, rfl, hfz, hnd⟩ := hW
  have hA : DataW.TrodAll enc Tryz.prog W 0 (fun _ => true) true Tryz.f3.params.toList args.toList ds p := hA0
  rw [Tryz.params3] at hA hval
  obtain ⟨v0, vs0, d0, ds0, p0, q0, hargs, rfl, rfl, h0, r0⟩ := trodAll_cons hA
  obtain ⟨rfl, rfl, rfl⟩ := trodAll_nil r0
  obtain rfl : args = #[v0] := by cases args; simp_all
  obtain ⟨rfl, rfl⟩ := trodVars_none hV
  obtain ⟨A0, len0, cap0, rfl⟩ := okWide_slice Tryz.underlying22 (hval 0 22 v0 rfl rfl)
  have k0 := h0
  have lt0 : ∀ x ∈ p0, x.block < W.heap.size := by obtain ⟨m, hm⟩ := k0; exact DataW.trod_lt m _ _ _ hm
  obtain ⟨n0, us0, hl0, hm0, hQ0, hr0⟩ := roots_of (show DataW.trod enc Tryz.prog W 0 _ _ h0.choose 22 [_] = some _ from h0.choose_spec)
  clear hA0 hval0
  refine (law_of (law_sort5 hl0 hm0 hQ0) (RdL.cons hr0 RdL.nil)).mono fun e W' ⟨he, bel⟩ => ?_
  subst he
  exact ⟨_, rfl, _, _, _, [], _, [], hW', trodAll_mk1 (shut_bool Tryz.underlying4 _), (trodAll_cons_mk (Below.trod laidOut (by kernel_rfl) (of_decide_eq_true (by kernel_rfl)) k0 bel lt0) trodAll_mk0), rfl, bel.frame _, fun h => by cases h⟩
theorem sort5_proved : Rows.RadicalSortSaid :=
  OpenClaim.holds_of_wide 3 Tryz.f3 rfl rfl rfl rfl rfl rfl rfl ⟨rfl, rfl, rfl, rfl, rfl⟩ rfl rfl rfl rfl rfl (by kernel_rfl) Tryz.func3 (by kernel_rfl)
    (of_decide_eq_true (by kernel_rfl)) (by unfold Func.isWrapper; first | (rw [if_pos (by decide +kernel)]; kernel_rfl) | (rw [if_neg (by decide +kernel)]; exact ⟨rfl, rfl⟩))
    (fun os started H enc _ => sort5_lifted os started H enc)
end Go.Proofs.YtcimbhjmjlfloaaGreat
