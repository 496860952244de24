/- Few of 3: fractions of at most two limbs. -/
import Derived.Test.YtcbjmiddangfoaaGreatRaM
namespace Go.Proofs.YtcbjmiddangfoaaGreat
open Go Go.RowKit
theorem few3_0 {r0 r1 r2 : RN} (wr0 : r0.Wf) (hk : r0.s 2 = false) : Ok Tryz.prog 8 [.c (.s 3 (cN r0 ++ cN r1 ++ cN r2))] [.c (.b false)] := by
  refine Ok.of (by kernel_rfl) Tryz.func8 rfl rfl ?_
  rw [show Tryz.f8.ntmps = 36 from rfl, show Tryz.f8.results.toList = [.tmp 2] from rfl]
  refine dw_seq ?_
  -- region 0
  refine dw_region (by kernel_rfl) ?_
  refine dl_r (sem_assign rfl rfl) ?_
  refine dl_end ?_
  refine dw_seq ?_
  refine dw_seq ?_
  -- region 1
  refine dw_region (by kernel_rfl) ?_
  refine dl_r (sem_assign rfl rfl) ?_
  refine dl_end ?_
  refine dw_block ?_
  refine dw_loop (ι := Nat) (fun i => match i with | _ => ⟨36, [(0, .v (.c (.s 3 (cN r0 ++ cN r1 ++ cN r2)))), (2, .v (.c (.b false))), (3, .v (.c (.i .i64 0)))], []⟩) (fun i => 0 - i) 0 (sub_of ⟨rfl, rfl, rfl, trivial⟩ trivial rfl) ?_
  intro i
  match i with
  | _ =>
    show Dw _ _ ⟨36, [(0, .v (.c (.s 3 (cN r0 ++ cN r1 ++ cN r2)))), (2, .v (.c (.b false))), (3, .v (.c (.i .i64 0)))], []⟩ _
    refine dw_seq ?_
    refine dw_seq ?_
    -- region 2
    refine dw_region (by kernel_rfl) ?_
    refine dl_r (sem_move rfl rfl) ?_
    refine dl_r (sem_move rfl rfl) ?_
    refine dl_r (sem_len sl55 rfl rfl) ?_
    refine dl_r (sem_cmp rfl rfl rfl rfl) ?_
    refine dl_end ?_
    refine dw_true rfl ?_
    refine dw_skip ?_
    refine dw_seq ?_
    refine dw_block ?_
    refine dw_seq ?_
    -- region 4
    refine dw_region (by kernel_rfl) ?_
    refine dl_r (sem_move rfl rfl) ?_
    refine dl_r (sem_move rfl rfl) ?_
    refine dl_r (sem_index sl55 rfl rfl (by decide) rfl rfl rfl) ?_
    refine dl_r (sem_fieldq fd26_0 rfl rfl rfl) ?_
    refine dl_r (sem_fieldq fd24_1 rfl rfl rfl) ?_
    refine dl_r (sem_loadq1 ty22 rfl rfl rfl) ?_
    refine dl_r (sem_len sl22 rfl rfl) ?_
    refine dl_r (sem_cmp rfl rfl rfl rfl) ?_
    refine dl_rb (sem_move rfl rfl) (fun c1 hb1 => ?_)
    cases c1
    · refine dl_r (sem_move rfl rfl) ?_
      refine dl_r (sem_move rfl rfl) ?_
      refine dl_r (sem_index sl55 rfl rfl (by decide) rfl rfl rfl) ?_
      refine dl_r (sem_fieldq fd26_1 rfl rfl rfl) ?_
      refine dl_r (sem_fieldq fd24_1 rfl rfl rfl) ?_
      refine dl_r (sem_loadq1 ty22 rfl rfl rfl) ?_
      refine dl_r (sem_len sl22 rfl rfl) ?_
      refine dl_r (sem_cmp rfl rfl rfl rfl) ?_
      refine dl_r (sem_pick rfl rfl rfl rfl) ?_
      refine dl_rb (sem_move rfl rfl) (fun c2 hb2 => ?_)
      cases c2
      · have q1 := dec_f hb1
        have q2 := dec_f hb2
        refine dl_r (sem_move rfl rfl) ?_
        refine dl_r (sem_move rfl rfl) ?_
        refine dl_r (sem_index sl55 rfl rfl (by decide) rfl rfl rfl) ?_
        refine dl_r (sem_loadq (us := cN r0) ty26 rfl rfl rfl rfl) ?_
        refine dl_r (sem_call rfl rfl (sValid_ok (by assumption) (by omega) (by omega)) rfl) ?_
        refine dl_r (sem_not rfl rfl) ?_
        refine dl_r (sem_pick rfl rfl rfl rfl) ?_
        refine dl_end ?_
        refine dw_cond rfl (fun hc3 => ?_) (fun hc3 => ?_)
        · refine dw_seq ?_
          -- region 5
          refine dw_region (by kernel_rfl) ?_
          refine dl_r (sem_assign rfl rfl) ?_
          refine dl_end ?_
          refine dw_ret ?_
          -- path L0ffT
          exact ⟨.inr rfl, (resL_tmp rfl resL_nil)⟩
        · exact absurd hk (by unfold RN.s; rw [not_f hc3, decide_eq_true (show (r0.x1.length : Int) ≤ 2 by omega), decide_eq_true (show (r0.x2.length : Int) ≤ 2 by omega)]; decide)
      · refine dl_skip (sem_skip rfl) ?_
        refine dl_skip (sem_skip rfl) ?_
        refine dl_skip (sem_skip rfl) ?_
        refine dl_skip (sem_skip rfl) ?_
        refine dl_skip (sem_skip rfl) ?_
        refine dl_skip (sem_skip rfl) ?_
        refine dl_r (sem_pick rfl rfl rfl rfl) ?_
        refine dl_end ?_
        refine dw_true rfl ?_
        refine dw_seq ?_
        -- region 5
        refine dw_region (by kernel_rfl) ?_
        refine dl_r (sem_assign rfl rfl) ?_
        refine dl_end ?_
        refine dw_ret ?_
        -- path L0ft
        exact ⟨.inr rfl, (resL_tmp rfl resL_nil)⟩
    · refine dl_skip (sem_skip rfl) ?_
      refine dl_skip (sem_skip rfl) ?_
      refine dl_skip (sem_skip rfl) ?_
      refine dl_skip (sem_skip rfl) ?_
      refine dl_skip (sem_skip rfl) ?_
      refine dl_skip (sem_skip rfl) ?_
      refine dl_skip (sem_skip rfl) ?_
      refine dl_skip (sem_skip rfl) ?_
      refine dl_r (sem_pick rfl rfl rfl rfl) ?_
      refine dl_r (sem_move rfl rfl) ?_
      refine dl_skip (sem_skip rfl) ?_
      refine dl_skip (sem_skip rfl) ?_
      refine dl_skip (sem_skip rfl) ?_
      refine dl_skip (sem_skip rfl) ?_
      refine dl_skip (sem_skip rfl) ?_
      refine dl_skip (sem_skip rfl) ?_
      refine dl_r (sem_pick rfl rfl rfl rfl) ?_
      refine dl_end ?_
      refine dw_true rfl ?_
      refine dw_seq ?_
      -- region 5
      refine dw_region (by kernel_rfl) ?_
      refine dl_r (sem_assign rfl rfl) ?_
      refine dl_end ?_
      refine dw_ret ?_
      -- path L0t
      exact ⟨.inr rfl, (resL_tmp rfl resL_nil)⟩
theorem few3_1 {f0 : Rat} (hf0 : Rz 2 f0) {r1 r2 : RN} (wr1 : r1.Wf) (hk : r1.s 2 = false) : Ok Tryz.prog 8 [.c (.s 3 (cR f0 ++ cN r1 ++ cN r2))] [.c (.b false)] := by
  refine Ok.of (by kernel_rfl) Tryz.func8 rfl rfl ?_
  rw [show Tryz.f8.ntmps = 36 from rfl, show Tryz.f8.results.toList = [.tmp 2] from rfl]
  refine dw_seq ?_
  -- region 0
  refine dw_region (by kernel_rfl) ?_
  refine dl_r (sem_assign rfl rfl) ?_
  refine dl_end ?_
  refine dw_seq ?_
  refine dw_seq ?_
  -- region 1
  refine dw_region (by kernel_rfl) ?_
  refine dl_r (sem_assign rfl rfl) ?_
  refine dl_end ?_
  refine dw_block ?_
  refine dw_loop (ι := Nat) (fun i => match i with | 0 => ⟨36, [(0, .v (.c (.s 3 (cR f0 ++ cN r1 ++ cN r2)))), (2, .v (.c (.b false))), (3, .v (.c (.i .i64 0)))], []⟩ | _ + 1 => ⟨36, [(0, .v (.c (.s 3 (cR f0 ++ cN r1 ++ cN r2)))), (2, .v (.c (.b false))), (3, .v (.c (.i .i64 1)))], []⟩) (fun i => 1 - i) 0 (sub_of ⟨rfl, rfl, rfl, trivial⟩ trivial rfl) ?_
  intro i
  match i with
  | 0 =>
    show Dw _ _ ⟨36, [(0, .v (.c (.s 3 (cR f0 ++ cN r1 ++ cN r2)))), (2, .v (.c (.b false))), (3, .v (.c (.i .i64 0)))], []⟩ _
    refine dw_seq ?_
    refine dw_seq ?_
    -- region 2
    refine dw_region (by kernel_rfl) ?_
    refine dl_r (sem_move rfl rfl) ?_
    refine dl_r (sem_move rfl rfl) ?_
    refine dl_r (sem_len sl55 rfl rfl) ?_
    refine dl_r (sem_cmp rfl rfl rfl rfl) ?_
    refine dl_end ?_
    refine dw_true rfl ?_
    refine dw_skip ?_
    refine dw_seq ?_
    refine dw_block ?_
    refine dw_seq ?_
    -- region 4
    refine dw_region (by kernel_rfl) ?_
    refine dl_r (sem_move rfl rfl) ?_
    refine dl_r (sem_move rfl rfl) ?_
    refine dl_r (sem_index sl55 rfl rfl (by decide) rfl rfl rfl) ?_
    refine dl_r (sem_fieldq fd26_0 rfl rfl rfl) ?_
    refine dl_r (sem_fieldq fd24_1 rfl rfl rfl) ?_
    refine dl_r (sem_loadq1 ty22 rfl rfl rfl) ?_
    refine dl_r (sem_len sl22 rfl rfl) ?_
    refine dl_r (sem_castb (sem_cmp rfl rfl rfl rfl) (len2 hf0.n 2 (by decide))) ?_
    refine dl_r (sem_move rfl rfl) ?_
    refine dl_r (sem_move rfl rfl) ?_
    refine dl_r (sem_move rfl rfl) ?_
    refine dl_r (sem_index sl55 rfl rfl (by decide) rfl rfl rfl) ?_
    refine dl_r (sem_fieldq fd26_1 rfl rfl rfl) ?_
    refine dl_r (sem_fieldq fd24_1 rfl rfl rfl) ?_
    refine dl_r (sem_loadq1 ty22 rfl rfl rfl) ?_
    refine dl_r (sem_len sl22 rfl rfl) ?_
    refine dl_r (sem_castb (sem_cmp rfl rfl rfl rfl) (len2 hf0.d 2 (by decide))) ?_
    refine dl_r (sem_pick rfl rfl rfl rfl) ?_
    refine dl_r (sem_move rfl rfl) ?_
    refine dl_r (sem_move rfl rfl) ?_
    refine dl_r (sem_move rfl rfl) ?_
    refine dl_r (sem_index sl55 rfl rfl (by decide) rfl rfl rfl) ?_
    refine dl_r (sem_loadq (us := cR f0) ty26 rfl rfl rfl rfl) ?_
    refine dl_r (sem_call rfl rfl (sValid_R (hf0.mono (by decide))) rfl) ?_
    refine dl_r (sem_not rfl rfl) ?_
    refine dl_r (sem_pick rfl rfl rfl rfl) ?_
    refine dl_end ?_
    refine dw_false rfl ?_
    refine dw_skip ?_
    -- region 3
    refine dw_region (by kernel_rfl) ?_
    refine dl_r (sem_move rfl rfl) ?_
    refine dl_r (sem_ari (r := 1) rfl rfl rfl rfl) ?_
    refine dl_r (sem_assign rfl rfl) ?_
    refine dl_end ?_
    exact ⟨1, sub_of ⟨rfl, rfl, rfl, trivial⟩ trivial rfl, by show 1 - 1 < 1 - 0; decide⟩
  | z + 1 =>
    show Dw _ _ ⟨36, [(0, .v (.c (.s 3 (cR f0 ++ cN r1 ++ cN r2)))), (2, .v (.c (.b false))), (3, .v (.c (.i .i64 1)))], []⟩ _
    refine dw_seq ?_
    refine dw_seq ?_
    -- region 2
    refine dw_region (by kernel_rfl) ?_
    refine dl_r (sem_move rfl rfl) ?_
    refine dl_r (sem_move rfl rfl) ?_
    refine dl_r (sem_len sl55 rfl rfl) ?_
    refine dl_r (sem_cmp rfl rfl rfl rfl) ?_
    refine dl_end ?_
    refine dw_true rfl ?_
    refine dw_skip ?_
    refine dw_seq ?_
    refine dw_block ?_
    refine dw_seq ?_
    -- region 4
    refine dw_region (by kernel_rfl) ?_
    refine dl_r (sem_move rfl rfl) ?_
    refine dl_r (sem_move rfl rfl) ?_
    refine dl_r (sem_index sl55 rfl rfl (by decide) rfl rfl rfl) ?_
    refine dl_r (sem_fieldq fd26_0 rfl rfl rfl) ?_
    refine dl_r (sem_fieldq fd24_1 rfl rfl rfl) ?_
    refine dl_r (sem_loadq1 ty22 rfl rfl rfl) ?_
    refine dl_r (sem_len sl22 rfl rfl) ?_
    refine dl_r (sem_cmp rfl rfl rfl rfl) ?_
    refine dl_rb (sem_move rfl rfl) (fun c1 hb1 => ?_)
    cases c1
    · refine dl_r (sem_move rfl rfl) ?_
      refine dl_r (sem_move rfl rfl) ?_
      refine dl_r (sem_index sl55 rfl rfl (by decide) rfl rfl rfl) ?_
      refine dl_r (sem_fieldq fd26_1 rfl rfl rfl) ?_
      refine dl_r (sem_fieldq fd24_1 rfl rfl rfl) ?_
      refine dl_r (sem_loadq1 ty22 rfl rfl rfl) ?_
      refine dl_r (sem_len sl22 rfl rfl) ?_
      refine dl_r (sem_cmp rfl rfl rfl rfl) ?_
      refine dl_r (sem_pick rfl rfl rfl rfl) ?_
      refine dl_rb (sem_move rfl rfl) (fun c2 hb2 => ?_)
      cases c2
      · have q1 := dec_f hb1
        have q2 := dec_f hb2
        refine dl_r (sem_move rfl rfl) ?_
        refine dl_r (sem_move rfl rfl) ?_
        refine dl_r (sem_index sl55 rfl rfl (by decide) rfl rfl rfl) ?_
        refine dl_r (sem_loadq (us := cN r1) ty26 rfl rfl rfl rfl) ?_
        refine dl_r (sem_call rfl rfl (sValid_ok (by assumption) (by omega) (by omega)) rfl) ?_
        refine dl_r (sem_not rfl rfl) ?_
        refine dl_r (sem_pick rfl rfl rfl rfl) ?_
        refine dl_end ?_
        refine dw_cond rfl (fun hc3 => ?_) (fun hc3 => ?_)
        · refine dw_seq ?_
          -- region 5
          refine dw_region (by kernel_rfl) ?_
          refine dl_r (sem_assign rfl rfl) ?_
          refine dl_end ?_
          refine dw_ret ?_
          -- path L1ffT
          exact ⟨.inr rfl, (resL_tmp rfl resL_nil)⟩
        · exact absurd hk (by unfold RN.s; rw [not_f hc3, decide_eq_true (show (r1.x1.length : Int) ≤ 2 by omega), decide_eq_true (show (r1.x2.length : Int) ≤ 2 by omega)]; decide)
      · refine dl_skip (sem_skip rfl) ?_
        refine dl_skip (sem_skip rfl) ?_
        refine dl_skip (sem_skip rfl) ?_
        refine dl_skip (sem_skip rfl) ?_
        refine dl_skip (sem_skip rfl) ?_
        refine dl_skip (sem_skip rfl) ?_
        refine dl_r (sem_pick rfl rfl rfl rfl) ?_
        refine dl_end ?_
        refine dw_true rfl ?_
        refine dw_seq ?_
        -- region 5
        refine dw_region (by kernel_rfl) ?_
        refine dl_r (sem_assign rfl rfl) ?_
        refine dl_end ?_
        refine dw_ret ?_
        -- path L1ft
        exact ⟨.inr rfl, (resL_tmp rfl resL_nil)⟩
    · refine dl_skip (sem_skip rfl) ?_
      refine dl_skip (sem_skip rfl) ?_
      refine dl_skip (sem_skip rfl) ?_
      refine dl_skip (sem_skip rfl) ?_
      refine dl_skip (sem_skip rfl) ?_
      refine dl_skip (sem_skip rfl) ?_
      refine dl_skip (sem_skip rfl) ?_
      refine dl_skip (sem_skip rfl) ?_
      refine dl_r (sem_pick rfl rfl rfl rfl) ?_
      refine dl_r (sem_move rfl rfl) ?_
      refine dl_skip (sem_skip rfl) ?_
      refine dl_skip (sem_skip rfl) ?_
      refine dl_skip (sem_skip rfl) ?_
      refine dl_skip (sem_skip rfl) ?_
      refine dl_skip (sem_skip rfl) ?_
      refine dl_skip (sem_skip rfl) ?_
      refine dl_r (sem_pick rfl rfl rfl rfl) ?_
      refine dl_end ?_
      refine dw_true rfl ?_
      refine dw_seq ?_
      -- region 5
      refine dw_region (by kernel_rfl) ?_
      refine dl_r (sem_assign rfl rfl) ?_
      refine dl_end ?_
      refine dw_ret ?_
      -- path L1t
      exact ⟨.inr rfl, (resL_tmp rfl resL_nil)⟩
theorem few3_2 {f0 f1 : Rat} (hf0 : Rz 2 f0) (hf1 : Rz 2 f1) {r2 : RN} (wr2 : r2.Wf) (hk : r2.s 2 = false) : Ok Tryz.prog 8 [.c (.s 3 (cR f0 ++ cR f1 ++ cN r2))] [.c (.b false)] := by
  refine Ok.of (by kernel_rfl) Tryz.func8 rfl rfl ?_
  rw [show Tryz.f8.ntmps = 36 from rfl, show Tryz.f8.results.toList = [.tmp 2] from rfl]
  refine dw_seq ?_
  -- region 0
  refine dw_region (by kernel_rfl) ?_
  refine dl_r (sem_assign rfl rfl) ?_
  refine dl_end ?_
  refine dw_seq ?_
  refine dw_seq ?_
  -- region 1
  refine dw_region (by kernel_rfl) ?_
  refine dl_r (sem_assign rfl rfl) ?_
  refine dl_end ?_
  refine dw_block ?_
  refine dw_loop (ι := Nat) (fun i => match i with | 0 => ⟨36, [(0, .v (.c (.s 3 (cR f0 ++ cR f1 ++ cN r2)))), (2, .v (.c (.b false))), (3, .v (.c (.i .i64 0)))], []⟩ | 1 => ⟨36, [(0, .v (.c (.s 3 (cR f0 ++ cR f1 ++ cN r2)))), (2, .v (.c (.b false))), (3, .v (.c (.i .i64 1)))], []⟩ | _ + 2 => ⟨36, [(0, .v (.c (.s 3 (cR f0 ++ cR f1 ++ cN r2)))), (2, .v (.c (.b false))), (3, .v (.c (.i .i64 2)))], []⟩) (fun i => 2 - i) 0 (sub_of ⟨rfl, rfl, rfl, trivial⟩ trivial rfl) ?_
  intro i
  match i with
  | 0 =>
    show Dw _ _ ⟨36, [(0, .v (.c (.s 3 (cR f0 ++ cR f1 ++ cN r2)))), (2, .v (.c (.b false))), (3, .v (.c (.i .i64 0)))], []⟩ _
    refine dw_seq ?_
    refine dw_seq ?_
    -- region 2
    refine dw_region (by kernel_rfl) ?_
    refine dl_r (sem_move rfl rfl) ?_
    refine dl_r (sem_move rfl rfl) ?_
    refine dl_r (sem_len sl55 rfl rfl) ?_
    refine dl_r (sem_cmp rfl rfl rfl rfl) ?_
    refine dl_end ?_
    refine dw_true rfl ?_
    refine dw_skip ?_
    refine dw_seq ?_
    refine dw_block ?_
    refine dw_seq ?_
    -- region 4
    refine dw_region (by kernel_rfl) ?_
    refine dl_r (sem_move rfl rfl) ?_
    refine dl_r (sem_move rfl rfl) ?_
    refine dl_r (sem_index sl55 rfl rfl (by decide) rfl rfl rfl) ?_
    refine dl_r (sem_fieldq fd26_0 rfl rfl rfl) ?_
    refine dl_r (sem_fieldq fd24_1 rfl rfl rfl) ?_
    refine dl_r (sem_loadq1 ty22 rfl rfl rfl) ?_
    refine dl_r (sem_len sl22 rfl rfl) ?_
    refine dl_r (sem_castb (sem_cmp rfl rfl rfl rfl) (len2 hf0.n 2 (by decide))) ?_
    refine dl_r (sem_move rfl rfl) ?_
    refine dl_r (sem_move rfl rfl) ?_
    refine dl_r (sem_move rfl rfl) ?_
    refine dl_r (sem_index sl55 rfl rfl (by decide) rfl rfl rfl) ?_
    refine dl_r (sem_fieldq fd26_1 rfl rfl rfl) ?_
    refine dl_r (sem_fieldq fd24_1 rfl rfl rfl) ?_
    refine dl_r (sem_loadq1 ty22 rfl rfl rfl) ?_
    refine dl_r (sem_len sl22 rfl rfl) ?_
    refine dl_r (sem_castb (sem_cmp rfl rfl rfl rfl) (len2 hf0.d 2 (by decide))) ?_
    refine dl_r (sem_pick rfl rfl rfl rfl) ?_
    refine dl_r (sem_move rfl rfl) ?_
    refine dl_r (sem_move rfl rfl) ?_
    refine dl_r (sem_move rfl rfl) ?_
    refine dl_r (sem_index sl55 rfl rfl (by decide) rfl rfl rfl) ?_
    refine dl_r (sem_loadq (us := cR f0) ty26 rfl rfl rfl rfl) ?_
    refine dl_r (sem_call rfl rfl (sValid_R (hf0.mono (by decide))) rfl) ?_
    refine dl_r (sem_not rfl rfl) ?_
    refine dl_r (sem_pick rfl rfl rfl rfl) ?_
    refine dl_end ?_
    refine dw_false rfl ?_
    refine dw_skip ?_
    -- region 3
    refine dw_region (by kernel_rfl) ?_
    refine dl_r (sem_move rfl rfl) ?_
    refine dl_r (sem_ari (r := 1) rfl rfl rfl rfl) ?_
    refine dl_r (sem_assign rfl rfl) ?_
    refine dl_end ?_
    exact ⟨1, sub_of ⟨rfl, rfl, rfl, trivial⟩ trivial rfl, by show 2 - 1 < 2 - 0; decide⟩
  | 1 =>
    show Dw _ _ ⟨36, [(0, .v (.c (.s 3 (cR f0 ++ cR f1 ++ cN r2)))), (2, .v (.c (.b false))), (3, .v (.c (.i .i64 1)))], []⟩ _
    refine dw_seq ?_
    refine dw_seq ?_
    -- region 2
    refine dw_region (by kernel_rfl) ?_
    refine dl_r (sem_move rfl rfl) ?_
    refine dl_r (sem_move rfl rfl) ?_
    refine dl_r (sem_len sl55 rfl rfl) ?_
    refine dl_r (sem_cmp rfl rfl rfl rfl) ?_
    refine dl_end ?_
    refine dw_true rfl ?_
    refine dw_skip ?_
    refine dw_seq ?_
    refine dw_block ?_
    refine dw_seq ?_
    -- region 4
    refine dw_region (by kernel_rfl) ?_
    refine dl_r (sem_move rfl rfl) ?_
    refine dl_r (sem_move rfl rfl) ?_
    refine dl_r (sem_index sl55 rfl rfl (by decide) rfl rfl rfl) ?_
    refine dl_r (sem_fieldq fd26_0 rfl rfl rfl) ?_
    refine dl_r (sem_fieldq fd24_1 rfl rfl rfl) ?_
    refine dl_r (sem_loadq1 ty22 rfl rfl rfl) ?_
    refine dl_r (sem_len sl22 rfl rfl) ?_
    refine dl_r (sem_castb (sem_cmp rfl rfl rfl rfl) (len2 hf1.n 2 (by decide))) ?_
    refine dl_r (sem_move rfl rfl) ?_
    refine dl_r (sem_move rfl rfl) ?_
    refine dl_r (sem_move rfl rfl) ?_
    refine dl_r (sem_index sl55 rfl rfl (by decide) rfl rfl rfl) ?_
    refine dl_r (sem_fieldq fd26_1 rfl rfl rfl) ?_
    refine dl_r (sem_fieldq fd24_1 rfl rfl rfl) ?_
    refine dl_r (sem_loadq1 ty22 rfl rfl rfl) ?_
    refine dl_r (sem_len sl22 rfl rfl) ?_
    refine dl_r (sem_castb (sem_cmp rfl rfl rfl rfl) (len2 hf1.d 2 (by decide))) ?_
    refine dl_r (sem_pick rfl rfl rfl rfl) ?_
    refine dl_r (sem_move rfl rfl) ?_
    refine dl_r (sem_move rfl rfl) ?_
    refine dl_r (sem_move rfl rfl) ?_
    refine dl_r (sem_index sl55 rfl rfl (by decide) rfl rfl rfl) ?_
    refine dl_r (sem_loadq (us := cR f1) ty26 rfl rfl rfl rfl) ?_
    refine dl_r (sem_call rfl rfl (sValid_R (hf1.mono (by decide))) rfl) ?_
    refine dl_r (sem_not rfl rfl) ?_
    refine dl_r (sem_pick rfl rfl rfl rfl) ?_
    refine dl_end ?_
    refine dw_false rfl ?_
    refine dw_skip ?_
    -- region 3
    refine dw_region (by kernel_rfl) ?_
    refine dl_r (sem_move rfl rfl) ?_
    refine dl_r (sem_ari (r := 2) rfl rfl rfl rfl) ?_
    refine dl_r (sem_assign rfl rfl) ?_
    refine dl_end ?_
    exact ⟨2, sub_of ⟨rfl, rfl, rfl, trivial⟩ trivial rfl, by show 2 - 2 < 2 - 1; decide⟩
  | z + 2 =>
    show Dw _ _ ⟨36, [(0, .v (.c (.s 3 (cR f0 ++ cR f1 ++ cN r2)))), (2, .v (.c (.b false))), (3, .v (.c (.i .i64 2)))], []⟩ _
    refine dw_seq ?_
    refine dw_seq ?_
    -- region 2
    refine dw_region (by kernel_rfl) ?_
    refine dl_r (sem_move rfl rfl) ?_
    refine dl_r (sem_move rfl rfl) ?_
    refine dl_r (sem_len sl55 rfl rfl) ?_
    refine dl_r (sem_cmp rfl rfl rfl rfl) ?_
    refine dl_end ?_
    refine dw_true rfl ?_
    refine dw_skip ?_
    refine dw_seq ?_
    refine dw_block ?_
    refine dw_seq ?_
    -- region 4
    refine dw_region (by kernel_rfl) ?_
    refine dl_r (sem_move rfl rfl) ?_
    refine dl_r (sem_move rfl rfl) ?_
    refine dl_r (sem_index sl55 rfl rfl (by decide) rfl rfl rfl) ?_
    refine dl_r (sem_fieldq fd26_0 rfl rfl rfl) ?_
    refine dl_r (sem_fieldq fd24_1 rfl rfl rfl) ?_
    refine dl_r (sem_loadq1 ty22 rfl rfl rfl) ?_
    refine dl_r (sem_len sl22 rfl rfl) ?_
    refine dl_r (sem_cmp rfl rfl rfl rfl) ?_
    refine dl_rb (sem_move rfl rfl) (fun c1 hb1 => ?_)
    cases c1
    · refine dl_r (sem_move rfl rfl) ?_
      refine dl_r (sem_move rfl rfl) ?_
      refine dl_r (sem_index sl55 rfl rfl (by decide) rfl rfl rfl) ?_
      refine dl_r (sem_fieldq fd26_1 rfl rfl rfl) ?_
      refine dl_r (sem_fieldq fd24_1 rfl rfl rfl) ?_
      refine dl_r (sem_loadq1 ty22 rfl rfl rfl) ?_
      refine dl_r (sem_len sl22 rfl rfl) ?_
      refine dl_r (sem_cmp rfl rfl rfl rfl) ?_
      refine dl_r (sem_pick rfl rfl rfl rfl) ?_
      refine dl_rb (sem_move rfl rfl) (fun c2 hb2 => ?_)
      cases c2
      · have q1 := dec_f hb1
        have q2 := dec_f hb2
        refine dl_r (sem_move rfl rfl) ?_
        refine dl_r (sem_move rfl rfl) ?_
        refine dl_r (sem_index sl55 rfl rfl (by decide) rfl rfl rfl) ?_
        refine dl_r (sem_loadq (us := cN r2) ty26 rfl rfl rfl rfl) ?_
        refine dl_r (sem_call rfl rfl (sValid_ok (by assumption) (by omega) (by omega)) rfl) ?_
        refine dl_r (sem_not rfl rfl) ?_
        refine dl_r (sem_pick rfl rfl rfl rfl) ?_
        refine dl_end ?_
        refine dw_cond rfl (fun hc3 => ?_) (fun hc3 => ?_)
        · refine dw_seq ?_
          -- region 5
          refine dw_region (by kernel_rfl) ?_
          refine dl_r (sem_assign rfl rfl) ?_
          refine dl_end ?_
          refine dw_ret ?_
          -- path L2ffT
          exact ⟨.inr rfl, (resL_tmp rfl resL_nil)⟩
        · exact absurd hk (by unfold RN.s; rw [not_f hc3, decide_eq_true (show (r2.x1.length : Int) ≤ 2 by omega), decide_eq_true (show (r2.x2.length : Int) ≤ 2 by omega)]; decide)
      · refine dl_skip (sem_skip rfl) ?_
        refine dl_skip (sem_skip rfl) ?_
        refine dl_skip (sem_skip rfl) ?_
        refine dl_skip (sem_skip rfl) ?_
        refine dl_skip (sem_skip rfl) ?_
        refine dl_skip (sem_skip rfl) ?_
        refine dl_r (sem_pick rfl rfl rfl rfl) ?_
        refine dl_end ?_
        refine dw_true rfl ?_
        refine dw_seq ?_
        -- region 5
        refine dw_region (by kernel_rfl) ?_
        refine dl_r (sem_assign rfl rfl) ?_
        refine dl_end ?_
        refine dw_ret ?_
        -- path L2ft
        exact ⟨.inr rfl, (resL_tmp rfl resL_nil)⟩
    · refine dl_skip (sem_skip rfl) ?_
      refine dl_skip (sem_skip rfl) ?_
      refine dl_skip (sem_skip rfl) ?_
      refine dl_skip (sem_skip rfl) ?_
      refine dl_skip (sem_skip rfl) ?_
      refine dl_skip (sem_skip rfl) ?_
      refine dl_skip (sem_skip rfl) ?_
      refine dl_skip (sem_skip rfl) ?_
      refine dl_r (sem_pick rfl rfl rfl rfl) ?_
      refine dl_r (sem_move rfl rfl) ?_
      refine dl_skip (sem_skip rfl) ?_
      refine dl_skip (sem_skip rfl) ?_
      refine dl_skip (sem_skip rfl) ?_
      refine dl_skip (sem_skip rfl) ?_
      refine dl_skip (sem_skip rfl) ?_
      refine dl_skip (sem_skip rfl) ?_
      refine dl_r (sem_pick rfl rfl rfl rfl) ?_
      refine dl_end ?_
      refine dw_true rfl ?_
      refine dw_seq ?_
      -- region 5
      refine dw_region (by kernel_rfl) ?_
      refine dl_r (sem_assign rfl rfl) ?_
      refine dl_end ?_
      refine dw_ret ?_
      -- path L2t
      exact ⟨.inr rfl, (resL_tmp rfl resL_nil)⟩
theorem few3_all {f0 f1 f2 : Rat} (hf0 : Rz 2 f0) (hf1 : Rz 2 f1) (hf2 : Rz 2 f2)  : Ok Tryz.prog 8 [.c (.s 3 (cR f0 ++ cR f1 ++ cR f2))] [.c (.b true)] := by
  refine Ok.of (by kernel_rfl) Tryz.func8 rfl rfl ?_
  rw [show Tryz.f8.ntmps = 36 from rfl, show Tryz.f8.results.toList = [.tmp 2] from rfl]
  refine dw_seq ?_
  -- region 0
  refine dw_region (by kernel_rfl) ?_
  refine dl_r (sem_assign rfl rfl) ?_
  refine dl_end ?_
  refine dw_seq ?_
  refine dw_seq ?_
  -- region 1
  refine dw_region (by kernel_rfl) ?_
  refine dl_r (sem_assign rfl rfl) ?_
  refine dl_end ?_
  refine dw_block ?_
  refine dw_loop (ι := Nat) (fun i => match i with | 0 => ⟨36, [(0, .v (.c (.s 3 (cR f0 ++ cR f1 ++ cR f2)))), (2, .v (.c (.b false))), (3, .v (.c (.i .i64 0)))], []⟩ | 1 => ⟨36, [(0, .v (.c (.s 3 (cR f0 ++ cR f1 ++ cR f2)))), (2, .v (.c (.b false))), (3, .v (.c (.i .i64 1)))], []⟩ | 2 => ⟨36, [(0, .v (.c (.s 3 (cR f0 ++ cR f1 ++ cR f2)))), (2, .v (.c (.b false))), (3, .v (.c (.i .i64 2)))], []⟩ | _ + 3 => ⟨36, [(0, .v (.c (.s 3 (cR f0 ++ cR f1 ++ cR f2)))), (2, .v (.c (.b false))), (3, .v (.c (.i .i64 3)))], []⟩) (fun i => 3 - i) 0 (sub_of ⟨rfl, rfl, rfl, trivial⟩ trivial rfl) ?_
  intro i
  match i with
  | 0 =>
    show Dw _ _ ⟨36, [(0, .v (.c (.s 3 (cR f0 ++ cR f1 ++ cR f2)))), (2, .v (.c (.b false))), (3, .v (.c (.i .i64 0)))], []⟩ _
    refine dw_seq ?_
    refine dw_seq ?_
    -- region 2
    refine dw_region (by kernel_rfl) ?_
    refine dl_r (sem_move rfl rfl) ?_
    refine dl_r (sem_move rfl rfl) ?_
    refine dl_r (sem_len sl55 rfl rfl) ?_
    refine dl_r (sem_cmp rfl rfl rfl rfl) ?_
    refine dl_end ?_
    refine dw_true rfl ?_
    refine dw_skip ?_
    refine dw_seq ?_
    refine dw_block ?_
    refine dw_seq ?_
    -- region 4
    refine dw_region (by kernel_rfl) ?_
    refine dl_r (sem_move rfl rfl) ?_
    refine dl_r (sem_move rfl rfl) ?_
    refine dl_r (sem_index sl55 rfl rfl (by decide) rfl rfl rfl) ?_
    refine dl_r (sem_fieldq fd26_0 rfl rfl rfl) ?_
    refine dl_r (sem_fieldq fd24_1 rfl rfl rfl) ?_
    refine dl_r (sem_loadq1 ty22 rfl rfl rfl) ?_
    refine dl_r (sem_len sl22 rfl rfl) ?_
    refine dl_r (sem_castb (sem_cmp rfl rfl rfl rfl) (len2 hf0.n 2 (by decide))) ?_
    refine dl_r (sem_move rfl rfl) ?_
    refine dl_r (sem_move rfl rfl) ?_
    refine dl_r (sem_move rfl rfl) ?_
    refine dl_r (sem_index sl55 rfl rfl (by decide) rfl rfl rfl) ?_
    refine dl_r (sem_fieldq fd26_1 rfl rfl rfl) ?_
    refine dl_r (sem_fieldq fd24_1 rfl rfl rfl) ?_
    refine dl_r (sem_loadq1 ty22 rfl rfl rfl) ?_
    refine dl_r (sem_len sl22 rfl rfl) ?_
    refine dl_r (sem_castb (sem_cmp rfl rfl rfl rfl) (len2 hf0.d 2 (by decide))) ?_
    refine dl_r (sem_pick rfl rfl rfl rfl) ?_
    refine dl_r (sem_move rfl rfl) ?_
    refine dl_r (sem_move rfl rfl) ?_
    refine dl_r (sem_move rfl rfl) ?_
    refine dl_r (sem_index sl55 rfl rfl (by decide) rfl rfl rfl) ?_
    refine dl_r (sem_loadq (us := cR f0) ty26 rfl rfl rfl rfl) ?_
    refine dl_r (sem_call rfl rfl (sValid_R (hf0.mono (by decide))) rfl) ?_
    refine dl_r (sem_not rfl rfl) ?_
    refine dl_r (sem_pick rfl rfl rfl rfl) ?_
    refine dl_end ?_
    refine dw_false rfl ?_
    refine dw_skip ?_
    -- region 3
    refine dw_region (by kernel_rfl) ?_
    refine dl_r (sem_move rfl rfl) ?_
    refine dl_r (sem_ari (r := 1) rfl rfl rfl rfl) ?_
    refine dl_r (sem_assign rfl rfl) ?_
    refine dl_end ?_
    exact ⟨1, sub_of ⟨rfl, rfl, rfl, trivial⟩ trivial rfl, by show 3 - 1 < 3 - 0; decide⟩
  | 1 =>
    show Dw _ _ ⟨36, [(0, .v (.c (.s 3 (cR f0 ++ cR f1 ++ cR f2)))), (2, .v (.c (.b false))), (3, .v (.c (.i .i64 1)))], []⟩ _
    refine dw_seq ?_
    refine dw_seq ?_
    -- region 2
    refine dw_region (by kernel_rfl) ?_
    refine dl_r (sem_move rfl rfl) ?_
    refine dl_r (sem_move rfl rfl) ?_
    refine dl_r (sem_len sl55 rfl rfl) ?_
    refine dl_r (sem_cmp rfl rfl rfl rfl) ?_
    refine dl_end ?_
    refine dw_true rfl ?_
    refine dw_skip ?_
    refine dw_seq ?_
    refine dw_block ?_
    refine dw_seq ?_
    -- region 4
    refine dw_region (by kernel_rfl) ?_
    refine dl_r (sem_move rfl rfl) ?_
    refine dl_r (sem_move rfl rfl) ?_
    refine dl_r (sem_index sl55 rfl rfl (by decide) rfl rfl rfl) ?_
    refine dl_r (sem_fieldq fd26_0 rfl rfl rfl) ?_
    refine dl_r (sem_fieldq fd24_1 rfl rfl rfl) ?_
    refine dl_r (sem_loadq1 ty22 rfl rfl rfl) ?_
    refine dl_r (sem_len sl22 rfl rfl) ?_
    refine dl_r (sem_castb (sem_cmp rfl rfl rfl rfl) (len2 hf1.n 2 (by decide))) ?_
    refine dl_r (sem_move rfl rfl) ?_
    refine dl_r (sem_move rfl rfl) ?_
    refine dl_r (sem_move rfl rfl) ?_
    refine dl_r (sem_index sl55 rfl rfl (by decide) rfl rfl rfl) ?_
    refine dl_r (sem_fieldq fd26_1 rfl rfl rfl) ?_
    refine dl_r (sem_fieldq fd24_1 rfl rfl rfl) ?_
    refine dl_r (sem_loadq1 ty22 rfl rfl rfl) ?_
    refine dl_r (sem_len sl22 rfl rfl) ?_
    refine dl_r (sem_castb (sem_cmp rfl rfl rfl rfl) (len2 hf1.d 2 (by decide))) ?_
    refine dl_r (sem_pick rfl rfl rfl rfl) ?_
    refine dl_r (sem_move rfl rfl) ?_
    refine dl_r (sem_move rfl rfl) ?_
    refine dl_r (sem_move rfl rfl) ?_
    refine dl_r (sem_index sl55 rfl rfl (by decide) rfl rfl rfl) ?_
    refine dl_r (sem_loadq (us := cR f1) ty26 rfl rfl rfl rfl) ?_
    refine dl_r (sem_call rfl rfl (sValid_R (hf1.mono (by decide))) rfl) ?_
    refine dl_r (sem_not rfl rfl) ?_
    refine dl_r (sem_pick rfl rfl rfl rfl) ?_
    refine dl_end ?_
    refine dw_false rfl ?_
    refine dw_skip ?_
    -- region 3
    refine dw_region (by kernel_rfl) ?_
    refine dl_r (sem_move rfl rfl) ?_
    refine dl_r (sem_ari (r := 2) rfl rfl rfl rfl) ?_
    refine dl_r (sem_assign rfl rfl) ?_
    refine dl_end ?_
    exact ⟨2, sub_of ⟨rfl, rfl, rfl, trivial⟩ trivial rfl, by show 3 - 2 < 3 - 1; decide⟩
  | 2 =>
    show Dw _ _ ⟨36, [(0, .v (.c (.s 3 (cR f0 ++ cR f1 ++ cR f2)))), (2, .v (.c (.b false))), (3, .v (.c (.i .i64 2)))], []⟩ _
    refine dw_seq ?_
    refine dw_seq ?_
    -- region 2
    refine dw_region (by kernel_rfl) ?_
    refine dl_r (sem_move rfl rfl) ?_
    refine dl_r (sem_move rfl rfl) ?_
    refine dl_r (sem_len sl55 rfl rfl) ?_
    refine dl_r (sem_cmp rfl rfl rfl rfl) ?_
    refine dl_end ?_
    refine dw_true rfl ?_
    refine dw_skip ?_
    refine dw_seq ?_
    refine dw_block ?_
    refine dw_seq ?_
    -- region 4
    refine dw_region (by kernel_rfl) ?_
    refine dl_r (sem_move rfl rfl) ?_
    refine dl_r (sem_move rfl rfl) ?_
    refine dl_r (sem_index sl55 rfl rfl (by decide) rfl rfl rfl) ?_
    refine dl_r (sem_fieldq fd26_0 rfl rfl rfl) ?_
    refine dl_r (sem_fieldq fd24_1 rfl rfl rfl) ?_
    refine dl_r (sem_loadq1 ty22 rfl rfl rfl) ?_
    refine dl_r (sem_len sl22 rfl rfl) ?_
    refine dl_r (sem_castb (sem_cmp rfl rfl rfl rfl) (len2 hf2.n 2 (by decide))) ?_
    refine dl_r (sem_move rfl rfl) ?_
    refine dl_r (sem_move rfl rfl) ?_
    refine dl_r (sem_move rfl rfl) ?_
    refine dl_r (sem_index sl55 rfl rfl (by decide) rfl rfl rfl) ?_
    refine dl_r (sem_fieldq fd26_1 rfl rfl rfl) ?_
    refine dl_r (sem_fieldq fd24_1 rfl rfl rfl) ?_
    refine dl_r (sem_loadq1 ty22 rfl rfl rfl) ?_
    refine dl_r (sem_len sl22 rfl rfl) ?_
    refine dl_r (sem_castb (sem_cmp rfl rfl rfl rfl) (len2 hf2.d 2 (by decide))) ?_
    refine dl_r (sem_pick rfl rfl rfl rfl) ?_
    refine dl_r (sem_move rfl rfl) ?_
    refine dl_r (sem_move rfl rfl) ?_
    refine dl_r (sem_move rfl rfl) ?_
    refine dl_r (sem_index sl55 rfl rfl (by decide) rfl rfl rfl) ?_
    refine dl_r (sem_loadq (us := cR f2) ty26 rfl rfl rfl rfl) ?_
    refine dl_r (sem_call rfl rfl (sValid_R (hf2.mono (by decide))) rfl) ?_
    refine dl_r (sem_not rfl rfl) ?_
    refine dl_r (sem_pick rfl rfl rfl rfl) ?_
    refine dl_end ?_
    refine dw_false rfl ?_
    refine dw_skip ?_
    -- region 3
    refine dw_region (by kernel_rfl) ?_
    refine dl_r (sem_move rfl rfl) ?_
    refine dl_r (sem_ari (r := 3) rfl rfl rfl rfl) ?_
    refine dl_r (sem_assign rfl rfl) ?_
    refine dl_end ?_
    exact ⟨3, sub_of ⟨rfl, rfl, rfl, trivial⟩ trivial rfl, by show 3 - 3 < 3 - 2; decide⟩
  | z + 3 =>
    show Dw _ _ ⟨36, [(0, .v (.c (.s 3 (cR f0 ++ cR f1 ++ cR f2)))), (2, .v (.c (.b false))), (3, .v (.c (.i .i64 3)))], []⟩ _
    refine dw_seq ?_
    refine dw_seq ?_
    -- region 2
    refine dw_region (by kernel_rfl) ?_
    refine dl_r (sem_move rfl rfl) ?_
    refine dl_r (sem_move rfl rfl) ?_
    refine dl_r (sem_len sl55 rfl rfl) ?_
    refine dl_r (sem_cmp rfl rfl rfl rfl) ?_
    refine dl_end ?_
    refine dw_false rfl ?_
    refine dw_exit ?_
    refine dw_seq ?_
    -- region 6
    refine dw_region (by kernel_rfl) ?_
    refine dl_r (sem_assign rfl rfl) ?_
    refine dl_end ?_
    refine dw_ret ?_
    -- path L3
    exact ⟨.inr rfl, (resL_tmp rfl resL_nil)⟩
theorem few3 {r0 r1 r2 : RN} (wr0 : r0.Wf) (wr1 : r1.Wf) (wr2 : r2.Wf) : Ok Tryz.prog 8 [.c (.s 3 (cN r0 ++ cN r1 ++ cN r2))] [.c (.b false)] ∨ ∃ f0 f1 f2 : Rat, Rz 2 f0 ∧ Rz 2 f1 ∧ Rz 2 f2 ∧ cN r0 = cR f0 ∧ cN r1 = cR f1 ∧ cN r2 = cR f2 ∧ Ok Tryz.prog 8 [.c (.s 3 (cR f0 ++ cR f1 ++ cR f2))] [.c (.b true)] := by
  cases h0 : r0.s 2 with
  | false => exact .inl (by exact few3_0  wr0 h0)
  | true =>
  obtain ⟨f0, g0, e0⟩ := s2_of wr0 h0
  cases h1 : r1.s 2 with
  | false => exact .inl (by rw [e0]; exact few3_1 g0 wr1 h1)
  | true =>
  obtain ⟨f1, g1, e1⟩ := s2_of wr1 h1
  cases h2 : r2.s 2 with
  | false => exact .inl (by rw [e0, e1]; exact few3_2 g0 g1 wr2 h2)
  | true =>
  obtain ⟨f2, g2, e2⟩ := s2_of wr2 h2
  exact .inr ⟨f0, f1, f2, g0, g1, g2, e0, e1, e2, few3_all g0 g1 g2⟩
end Go.Proofs.YtcbjmiddangfoaaGreat
/- Plain: an array's elements; places and their points; the order of points is transitive. -/
namespace Go.Proofs.YtcbjmiddangfoaaGreat
open Go Go.RowKit
/-- an array's elements -/
def arB (P : Program) (U : TypeId) : Option (Nat × Nat) :=
  match P.underlying U with
  | some (.array n e) => (P.info? e).map fun i => (n, i.size)
  | _ => none
theorem sem_index_a {P : Program} {ops : Array Oper} {T : TF} {B : BF} {dst : Option Nat} {x i : Operand} {U : TypeId} {ty : TypeId} {pos : String} {af : Array Edge} {g : Option (Nat × Bool)} {n m k off : Nat} {kd : IntKind} {j : Int}
    (hU : arB P U = some (n, m)) (hx : opd T x = some (.p k off)) (hi : opd T i = some (.v (.c (.i kd j)))) (hj : 0 ≤ j ∧ j < n) (hg : gd ops ⟨dst, .indexAddr U x i, ty, pos, af, g⟩ T = some true) :
    Sem P ops ⟨dst, .indexAddr U x i, ty, pos, af, g⟩ T B (.r (.p k (off + j.toNat * m))) :=
  sem_pure hg (fun l e => opd_ptr (ops := ops) (o := ⟨dst, .indexAddr U x i, ty, pos, af, g⟩) (by simp [Op.operands]) hx e) (fun V β a w hs => by
    have h1 : a.eval x = .pointer (some ⟨β k, off, none⟩) := opd_reads hs (x := x) (by simp [Op.operands]) hx
    have h2 := RdC.int_eq (opd_reads hs (x := i) (by simp [Op.operands]) hi)
    unfold arB at hU
    split at hU
    case h_2 => cases hU
    rename_i n' el hul
    cases hinf : P.info? el with
    | none => rw [hinf] at hU; cases hU
    | some inf =>
      rw [hinf] at hU
      simp at hU
      obtain ⟨rfl, rfl⟩ := hU
      have hso : ∀ w, (sizeOf el).run P w = .ok inf.size w := fun w => by unfold sizeOf typeInfo; simp [program, Sem.run, hinf]
      refine ⟨.pointer (some ⟨β k, off + j.toNat * inf.size, none⟩), ?_, rfl⟩
      simp [execOp, Instr.indexAt, h1, h2, asIntOf, run_underlying hul, Instr.sureAddr, hj.1, hj.2, hso, addr_add])
theorem rt_int {C : Int} (h0 : 0 ≤ C) (hs : sqR (C : Rat) = true) : rt (C : Rat) = Rat.divInt (isqI C) 1 := by
  unfold rt
  rw [Rat.num_intCast, Rat.den_intCast]
  rw [show isqI ((1 : Nat) : Int) = 1 from isqI_unique (by decide) (by decide) (by decide) (by decide)]
theorem isq_small {C : Int} (h0 : 0 ≤ C) (h1 : C ≤ 65535) : 0 ≤ isqI C ∧ isqI C ≤ 255 := by
  have a := isqI_nonneg C
  have b := isqI_le h0
  refine ⟨a, ?_⟩
  apply Classical.byContradiction
  intro hn
  have : 256 * 256 ≤ isqI C * isqI C := Int.mul_le_mul (by omega) (by omega) (by decide) a
  omega
theorem sq_frac {A B n r : Int} (hn : 0 < n) : Rat.divInt A n + Rat.divInt B n * Rat.divInt r 1 = Rat.divInt (A + B * r) n := by
  rw [Rat.divInt_mul_divInt, Int.mul_one, Rat.divInt_eq_div, Rat.divInt_eq_div, Rat.divInt_eq_div, Rat.intCast_add]
  grind
/-- transitivity -/
theorem cmpPt_trans {a1 b1 a2 b2 c p1 q1 p2 q2 r x1 y1 x2 y2 z : Rat} (hc : 0 ≤ c) (hr : 0 ≤ r) (hz : 0 ≤ z) (h1 : cmpPt a1 b1 a2 b2 c p1 q1 p2 q2 r ≤ 0) (h2 : cmpPt p1 q1 p2 q2 r x1 y1 x2 y2 z ≤ 0) :
    cmpPt a1 b1 a2 b2 c x1 y1 x2 y2 z ≤ 0 ∧ (cmpPt a1 b1 a2 b2 c p1 q1 p2 q2 r < 0 ∨ cmpPt p1 q1 p2 q2 r x1 y1 x2 y2 z < 0 → cmpPt a1 b1 a2 b2 c x1 y1 x2 y2 z < 0) := by
  unfold cmpPt at *
  rw [cmpC_v hc hr, cmpC_v hc hr] at *
  rw [cmpC_v hr hz, cmpC_v hr hz] at *
  rw [cmpC_v hc hz, cmpC_v hc hz]
  generalize vco a1 b1 c = A at *
  generalize vco a2 b2 c = A' at *
  generalize vco p1 q1 r = B at *
  generalize vco p2 q2 r = B' at *
  generalize vco x1 y1 z = C at *
  generalize vco x2 y2 z = C' at *
  have key : ∀ X Y Z : Re, sgR (X - Y) ≤ 0 → sgR (Y - Z) ≤ 0 → sgR (X - Z) ≤ 0 ∧ (sgR (X - Y) < 0 ∨ sgR (Y - Z) < 0 → sgR (X - Z) < 0) := by
    intro X Y Z g1 g2
    have e : sgR (Z - X) = sgR ((Y - X) + (Z - Y)) := congrArg sgR (Re.ext fun k => by simp only [re_sub, re_add]; grind)
    have s1 := sgR_sw Y X
    have s2 := sgR_sw Z Y
    have s3 := sgR_sw Z X
    have n1 := sgR_nn (x := Y - X) (y := Z - Y) (by omega) (by omega)
    refine ⟨by omega, ?_⟩
    rintro (h | h)
    · have := sgR_pn (x := Y - X) (y := Z - Y) (by omega) (by omega)
      omega
    · have h4 := sgR_pn (x := Z - Y) (y := Y - X) (by omega) (by omega)
      rw [re_addc (Z - Y) (Y - X)] at h4
      omega
  have k1 := key A B C
  have k2 := key A' B' C'
  have i1 : ∀ (x y z : Int), x = 0 → (if x ≠ 0 then y else z) = z := fun x y z h => if_neg (by omega)
  have i2 : ∀ (x y z : Int), x ≠ 0 → (if x ≠ 0 then y else z) = y := fun x y z h => if_pos h
  by_cases e1 : sgR (A - B) = 0
  · rw [i1 _ _ _ e1] at h1 ⊢
    by_cases e2 : sgR (B - C) = 0
    · rw [i1 _ _ _ e2] at h2 ⊢
      have k3 := key C B A
      have s1 := sgR_sw B A
      have s2 := sgR_sw C B
      have s3 := sgR_sw C A
      have e3 : sgR (A - C) = 0 := by
        have := (k1 (by omega) (by omega)).1
        have := (k3 (by omega) (by omega)).1
        omega
      rw [i1 _ _ _ e3]
      exact k2 h1 h2
    · rw [i2 _ _ _ e2] at h2 ⊢
      have := (k1 (by omega) h2).2 (.inr (by omega))
      rw [i2 (sgR (A - C)) _ _ (by omega)]
      exact ⟨by omega, fun _ => this⟩
  · rw [i2 _ _ _ e1] at h1 ⊢
    have hB : sgR (B - C) ≤ 0 := by
      by_cases e2 : sgR (B - C) = 0
      · omega
      · rw [i2 _ _ _ e2] at h2; exact h2
    have := (k1 h1 hB).2 (.inl (by omega))
    rw [i2 (sgR (A - C)) _ _ (by omega)]
    exact ⟨by omega, fun _ => this⟩
/-- moved by a vector -/
theorem cmpPt_move {a1 b1 a2 b2 c p1 q1 p2 q2 r v w : Rat} (hc : 0 ≤ c) (hr : 0 ≤ r) : cmpPt (a1 + v) b1 (a2 + w) b2 c (p1 + v) q1 (p2 + w) q2 r = cmpPt a1 b1 a2 b2 c p1 q1 p2 q2 r := by
  have e : ∀ a p v : Rat, ∀ b q : Rat, vco (a + v) b c - vco (p + v) q r = vco a b c - vco p q r := by
    intro a p v b q
    rw [vco_eq, vco_eq, vco_eq, vco_eq]
    exact Re.ext fun k => by simp only [re_sub, re_add, re_mul, re_of]; grind
  unfold cmpPt
  rw [cmpC_v hc hr, cmpC_v hc hr, cmpC_v hc hr, cmpC_v hc hr, e, e]
theorem sub_mv (a p v : Rat) : a + v - (p + v) = a - p := by grind
end Go.Proofs.YtcbjmiddangfoaaGreat
/- Plain: the order of roots: moved, scaled, transitive; signs of products of square roots. -/
namespace Go.Proofs.YtcbjmiddangfoaaGreat
open Go Go.RowKit
section
variable {a b c d e f k : Rat}
theorem rd_mv : sgR (val3 (a + k) b c - val3 (d + k) e f) = sgR (val3 a b c - val3 d e f) := congrArg sgR (Re.ext fun j => by unfold val3; simp only [re_sub, re_add, re_mul, re_of]; grind)
theorem rd_sc : sgR (val3 (a * k) (b * k) c - val3 (d * k) (e * k) f) = sgR (val3 a b c - val3 d e f) * cmpR k 0 := by
  rw [← sgR_of, ← sgR_mul]
  exact congrArg sgR (Re.ext fun j => by unfold val3; simp only [re_sub, re_add, re_mul, re_of]; grind)
end
theorem rd_tr (X Y Z : Re) (g1 : 0 ≤ sgR (X - Y)) (g2 : 0 ≤ sgR (Y - Z)) : max (sgR (X - Y)) (sgR (Y - Z)) ≤ sgR (X - Z) := by
  have e : sgR (X - Z) = sgR ((X - Y) + (Y - Z)) := congrArg sgR (Re.ext fun k => by simp only [re_sub, re_add]; grind)
  have n1 := sgR_nn g1 g2
  have a1 := sgR_cases (X - Y)
  have a2 := sgR_cases (Y - Z)
  have a3 := sgR_cases (X - Z)
  by_cases h : 0 < sgR (X - Y)
  · have := sgR_pn h g2
    omega
  · by_cases h2 : 0 < sgR (Y - Z)
    · have h4 := sgR_pn h2 g1
      rw [re_addc (Y - Z) (X - Y)] at h4
      omega
    · omega
theorem rd_tr2 (X Y Z : Re) (g1 : sgR (X - Y) ≤ 0) (g2 : sgR (Y - Z) ≤ 0) : sgR (X - Z) ≤ min (sgR (X - Y)) (sgR (Y - Z)) := by
  have h := rd_tr Z Y X (by rw [sgR_sw]; omega) (by rw [sgR_sw]; omega)
  rw [sgR_sw X Z, sgR_sw Y Z, sgR_sw X Y] at h
  omega
theorem cmpR_mul0 (x y : Rat) : cmpR (x * y) 0 = cmpR x 0 * cmpR y 0 := by rw [← sgR_of, ← sgR_of, ← sgR_of, ← of_mul, sgR_mul]
theorem cmpR_neg0 (x : Rat) : cmpR (-x) 0 = -cmpR x 0 := by rw [← sgR_of, ← sgR_of, ← of_neg, sgR_neg]
theorem comb_z (t c : Int) : comb 0 t c = t := comb_s0 rfl
theorem comb_r (s c : Int) : comb s 0 c = s := comb_t0 rfl
theorem z_mul (a X Y : Rat) (hX : 0 ≤ X) (hY : 0 ≤ Y) : signQ 0 a 0 0 (X * Y) 0 = cmpR a 0 * (cmpR X 0 * cmpR Y 0) := by
  rw [signQ_p (by have := Rat.mul_nonneg hX hY; grind) (by decide +kernel), show cmpR 0 0 = 0 from by decide +kernel, Int.mul_zero, comb_r]
  unfold plainS
  rw [show cmpR 0 0 = 0 from by decide +kernel, comb_z, cmpR_mul0]
theorem z_both (a X Y : Rat) (hX : 0 ≤ X) (hY : 0 ≤ Y) : signQ 0 0 0 (-a) X Y = -(cmpR a 0 * (cmpR X 0 * cmpR Y 0)) := by
  rw [signQ_p (by grind) (by grind)]
  have e : plainS 0 0 X = 0 := by unfold plainS; rw [show cmpR 0 0 = 0 from by decide +kernel, Int.zero_mul, comb_r]
  have e2 : plainS 0 (-a) X = -cmpR a 0 * cmpR X 0 := by unfold plainS; rw [show cmpR 0 0 = 0 from by decide +kernel, comb_z, cmpR_neg0]
  rw [e, comb_z, e2]
  grind
theorem re_same {p q : Re} (hp : 0 ≤ sgR p) (hq : 0 ≤ sgR q) (h : sgR (q * q - p * p) = 0) : sgR (q - p) = 0 := by
  have h1 := sq_le_re hp hq (by omega)
  have h2 := sq_le_re hq hp (by rw [sgR_sw]; omega)
  unfold leR at h1 h2
  rw [sgR_sw q p] at h2
  omega
theorem z_double (a X : Rat) (hX : 0 ≤ X) : signQ 0 a (-2 * a) 0 (4 * X) X = 0 := by
  have h4 : 0 ≤ 4 * X := Rat.mul_nonneg (by decide +kernel) hX
  rw [signQ_sg h4 hX]
  have e : val6 0 a (-2 * a) 0 (4 * X) X = Re.of a * (Re.rt (4 * X) - Re.of 2 * Re.rt X) := Re.ext fun k => by
    unfold val6 val3; simp only [re_sub, re_add, re_mul, re_of]; grind
  have hq : 0 ≤ sgR (Re.of 2 * Re.rt X) := by
    have := rt_nn X
    rw [sgR_mul, sgR_of, show cmpR 2 0 = 1 from by decide +kernel]; omega
  have hs : sgR (Re.rt (4 * X) * Re.rt (4 * X) - Re.of 2 * Re.rt X * (Re.of 2 * Re.rt X)) = 0 := by
    have e1 : Re.rt (4 * X) * Re.rt (4 * X) - Re.of 2 * Re.rt X * (Re.of 2 * Re.rt X) = (Re.rt (4 * X) * Re.rt (4 * X) - Re.of (4 * X)) + -(Re.of 4 * (Re.rt X * Re.rt X - Re.of X)) := Re.ext fun k => by
      simp only [re_sub, re_add, re_mul, re_of, re_neg]; grind
    rw [e1, sgR_addz _ (by rw [sgR_neg, sgR_mul, rt_sq hX, Int.mul_zero]; rfl), rt_sq h4]
  rw [e, sgR_mul, re_same hq (rt_nn _) hs, Int.mul_zero]
end Go.Proofs.YtcbjmiddangfoaaGreat
