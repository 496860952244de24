/- Few of 6: fractions of at most two limbs. -/
import Derived.Test.YtcbjmiddangfoaaGreatRaM
namespace Go.Proofs.YtcbjmiddangfoaaGreat
open Go Go.RowKit
theorem few6_0 {r0 r1 r2 r3 r4 r5 : RN} (wr0 : r0.Wf) (hk : r0.s 2 = false) : Ok Tryz.prog 8 [.c (.s 6 (cN r0 ++ cN r1 ++ cN r2 ++ cN r3 ++ cN r4 ++ cN r5))] [.c (.b false)] := by
  refine Ok.of (by kernel_rfl) Tryz.func8 rfl rfl ?_
  rw [show Tryz.f8.ntmps = 36 from rfl, show Tryz.f8.results.toList = [.tmp 2] from rfl]
  refine dw_seq ?_
  -- region 0
  refine dw_region (by kernel_rfl) ?_
  refine dl_r (sem_assign rfl rfl) ?_
  refine dl_end ?_
  refine dw_seq ?_
  refine dw_seq ?_
  -- region 1
  refine dw_region (by kernel_rfl) ?_
  refine dl_r (sem_assign rfl rfl) ?_
  refine dl_end ?_
  refine dw_block ?_
  refine dw_loop (ι := Nat) (fun i => match i with | _ => ⟨36, [(0, .v (.c (.s 6 (cN r0 ++ cN r1 ++ cN r2 ++ cN r3 ++ cN r4 ++ cN r5)))), (2, .v (.c (.b false))), (3, .v (.c (.i .i64 0)))], []⟩) (fun i => 0 - i) 0 (sub_of ⟨rfl, rfl, rfl, trivial⟩ trivial rfl) ?_
  intro i
  match i with
  | _ =>
    show Dw _ _ ⟨36, [(0, .v (.c (.s 6 (cN r0 ++ cN r1 ++ cN r2 ++ cN r3 ++ cN r4 ++ cN r5)))), (2, .v (.c (.b false))), (3, .v (.c (.i .i64 0)))], []⟩ _
    refine dw_seq ?_
    refine dw_seq ?_
    -- region 2
    refine dw_region (by kernel_rfl) ?_
    refine dl_r (sem_move rfl rfl) ?_
    refine dl_r (sem_move rfl rfl) ?_
    refine dl_r (sem_len sl55 rfl rfl) ?_
    refine dl_r (sem_cmp rfl rfl rfl rfl) ?_
    refine dl_end ?_
    refine dw_true rfl ?_
    refine dw_skip ?_
    refine dw_seq ?_
    refine dw_block ?_
    refine dw_seq ?_
    -- region 4
    refine dw_region (by kernel_rfl) ?_
    refine dl_r (sem_move rfl rfl) ?_
    refine dl_r (sem_move rfl rfl) ?_
    refine dl_r (sem_index sl55 rfl rfl (by decide) rfl rfl rfl) ?_
    refine dl_r (sem_fieldq fd26_0 rfl rfl rfl) ?_
    refine dl_r (sem_fieldq fd24_1 rfl rfl rfl) ?_
    refine dl_r (sem_loadq1 ty22 rfl rfl rfl) ?_
    refine dl_r (sem_len sl22 rfl rfl) ?_
    refine dl_r (sem_cmp rfl rfl rfl rfl) ?_
    refine dl_rb (sem_move rfl rfl) (fun c1 hb1 => ?_)
    cases c1
    · refine dl_r (sem_move rfl rfl) ?_
      refine dl_r (sem_move rfl rfl) ?_
      refine dl_r (sem_index sl55 rfl rfl (by decide) rfl rfl rfl) ?_
      refine dl_r (sem_fieldq fd26_1 rfl rfl rfl) ?_
      refine dl_r (sem_fieldq fd24_1 rfl rfl rfl) ?_
      refine dl_r (sem_loadq1 ty22 rfl rfl rfl) ?_
      refine dl_r (sem_len sl22 rfl rfl) ?_
      refine dl_r (sem_cmp rfl rfl rfl rfl) ?_
      refine dl_r (sem_pick rfl rfl rfl rfl) ?_
      refine dl_rb (sem_move rfl rfl) (fun c2 hb2 => ?_)
      cases c2
      · have q1 := dec_f hb1
        have q2 := dec_f hb2
        refine dl_r (sem_move rfl rfl) ?_
        refine dl_r (sem_move rfl rfl) ?_
        refine dl_r (sem_index sl55 rfl rfl (by decide) rfl rfl rfl) ?_
        refine dl_r (sem_loadq (us := cN r0) ty26 rfl rfl rfl rfl) ?_
        refine dl_r (sem_call rfl rfl (sValid_ok (by assumption) (by omega) (by omega)) rfl) ?_
        refine dl_r (sem_not rfl rfl) ?_
        refine dl_r (sem_pick rfl rfl rfl rfl) ?_
        refine dl_end ?_
        refine dw_cond rfl (fun hc3 => ?_) (fun hc3 => ?_)
        · refine dw_seq ?_
          -- region 5
          refine dw_region (by kernel_rfl) ?_
          refine dl_r (sem_assign rfl rfl) ?_
          refine dl_end ?_
          refine dw_ret ?_
          -- path L0ffT
          exact ⟨.inr rfl, (resL_tmp rfl resL_nil)⟩
        · exact absurd hk (by unfold RN.s; rw [not_f hc3, decide_eq_true (show (r0.x1.length : Int) ≤ 2 by omega), decide_eq_true (show (r0.x2.length : Int) ≤ 2 by omega)]; decide)
      · refine dl_skip (sem_skip rfl) ?_
        refine dl_skip (sem_skip rfl) ?_
        refine dl_skip (sem_skip rfl) ?_
        refine dl_skip (sem_skip rfl) ?_
        refine dl_skip (sem_skip rfl) ?_
        refine dl_skip (sem_skip rfl) ?_
        refine dl_r (sem_pick rfl rfl rfl rfl) ?_
        refine dl_end ?_
        refine dw_true rfl ?_
        refine dw_seq ?_
        -- region 5
        refine dw_region (by kernel_rfl) ?_
        refine dl_r (sem_assign rfl rfl) ?_
        refine dl_end ?_
        refine dw_ret ?_
        -- path L0ft
        exact ⟨.inr rfl, (resL_tmp rfl resL_nil)⟩
    · refine dl_skip (sem_skip rfl) ?_
      refine dl_skip (sem_skip rfl) ?_
      refine dl_skip (sem_skip rfl) ?_
      refine dl_skip (sem_skip rfl) ?_
      refine dl_skip (sem_skip rfl) ?_
      refine dl_skip (sem_skip rfl) ?_
      refine dl_skip (sem_skip rfl) ?_
      refine dl_skip (sem_skip rfl) ?_
      refine dl_r (sem_pick rfl rfl rfl rfl) ?_
      refine dl_r (sem_move rfl rfl) ?_
      refine dl_skip (sem_skip rfl) ?_
      refine dl_skip (sem_skip rfl) ?_
      refine dl_skip (sem_skip rfl) ?_
      refine dl_skip (sem_skip rfl) ?_
      refine dl_skip (sem_skip rfl) ?_
      refine dl_skip (sem_skip rfl) ?_
      refine dl_r (sem_pick rfl rfl rfl rfl) ?_
      refine dl_end ?_
      refine dw_true rfl ?_
      refine dw_seq ?_
      -- region 5
      refine dw_region (by kernel_rfl) ?_
      refine dl_r (sem_assign rfl rfl) ?_
      refine dl_end ?_
      refine dw_ret ?_
      -- path L0t
      exact ⟨.inr rfl, (resL_tmp rfl resL_nil)⟩
theorem few6_1 {f0 : Rat} (hf0 : Rz 2 f0) {r1 r2 r3 r4 r5 : RN} (wr1 : r1.Wf) (hk : r1.s 2 = false) : Ok Tryz.prog 8 [.c (.s 6 (cR f0 ++ cN r1 ++ cN r2 ++ cN r3 ++ cN r4 ++ cN r5))] [.c (.b false)] := by
  refine Ok.of (by kernel_rfl) Tryz.func8 rfl rfl ?_
  rw [show Tryz.f8.ntmps = 36 from rfl, show Tryz.f8.results.toList = [.tmp 2] from rfl]
  refine dw_seq ?_
  -- region 0
  refine dw_region (by kernel_rfl) ?_
  refine dl_r (sem_assign rfl rfl) ?_
  refine dl_end ?_
  refine dw_seq ?_
  refine dw_seq ?_
  -- region 1
  refine dw_region (by kernel_rfl) ?_
  refine dl_r (sem_assign rfl rfl) ?_
  refine dl_end ?_
  refine dw_block ?_
  refine dw_loop (ι := Nat) (fun i => match i with | 0 => ⟨36, [(0, .v (.c (.s 6 (cR f0 ++ cN r1 ++ cN r2 ++ cN r3 ++ cN r4 ++ cN r5)))), (2, .v (.c (.b false))), (3, .v (.c (.i .i64 0)))], []⟩ | _ + 1 => ⟨36, [(0, .v (.c (.s 6 (cR f0 ++ cN r1 ++ cN r2 ++ cN r3 ++ cN r4 ++ cN r5)))), (2, .v (.c (.b false))), (3, .v (.c (.i .i64 1)))], []⟩) (fun i => 1 - i) 0 (sub_of ⟨rfl, rfl, rfl, trivial⟩ trivial rfl) ?_
  intro i
  match i with
  | 0 =>
    show Dw _ _ ⟨36, [(0, .v (.c (.s 6 (cR f0 ++ cN r1 ++ cN r2 ++ cN r3 ++ cN r4 ++ cN r5)))), (2, .v (.c (.b false))), (3, .v (.c (.i .i64 0)))], []⟩ _
    refine dw_seq ?_
    refine dw_seq ?_
    -- region 2
    refine dw_region (by kernel_rfl) ?_
    refine dl_r (sem_move rfl rfl) ?_
    refine dl_r (sem_move rfl rfl) ?_
    refine dl_r (sem_len sl55 rfl rfl) ?_
    refine dl_r (sem_cmp rfl rfl rfl rfl) ?_
    refine dl_end ?_
    refine dw_true rfl ?_
    refine dw_skip ?_
    refine dw_seq ?_
    refine dw_block ?_
    refine dw_seq ?_
    -- region 4
    refine dw_region (by kernel_rfl) ?_
    refine dl_r (sem_move rfl rfl) ?_
    refine dl_r (sem_move rfl rfl) ?_
    refine dl_r (sem_index sl55 rfl rfl (by decide) rfl rfl rfl) ?_
    refine dl_r (sem_fieldq fd26_0 rfl rfl rfl) ?_
    refine dl_r (sem_fieldq fd24_1 rfl rfl rfl) ?_
    refine dl_r (sem_loadq1 ty22 rfl rfl rfl) ?_
    refine dl_r (sem_len sl22 rfl rfl) ?_
    refine dl_r (sem_castb (sem_cmp rfl rfl rfl rfl) (len2 hf0.n 2 (by decide))) ?_
    refine dl_r (sem_move rfl rfl) ?_
    refine dl_r (sem_move rfl rfl) ?_
    refine dl_r (sem_move rfl rfl) ?_
    refine dl_r (sem_index sl55 rfl rfl (by decide) rfl rfl rfl) ?_
    refine dl_r (sem_fieldq fd26_1 rfl rfl rfl) ?_
    refine dl_r (sem_fieldq fd24_1 rfl rfl rfl) ?_
    refine dl_r (sem_loadq1 ty22 rfl rfl rfl) ?_
    refine dl_r (sem_len sl22 rfl rfl) ?_
    refine dl_r (sem_castb (sem_cmp rfl rfl rfl rfl) (len2 hf0.d 2 (by decide))) ?_
    refine dl_r (sem_pick rfl rfl rfl rfl) ?_
    refine dl_r (sem_move rfl rfl) ?_
    refine dl_r (sem_move rfl rfl) ?_
    refine dl_r (sem_move rfl rfl) ?_
    refine dl_r (sem_index sl55 rfl rfl (by decide) rfl rfl rfl) ?_
    refine dl_r (sem_loadq (us := cR f0) ty26 rfl rfl rfl rfl) ?_
    refine dl_r (sem_call rfl rfl (sValid_R (hf0.mono (by decide))) rfl) ?_
    refine dl_r (sem_not rfl rfl) ?_
    refine dl_r (sem_pick rfl rfl rfl rfl) ?_
    refine dl_end ?_
    refine dw_false rfl ?_
    refine dw_skip ?_
    -- region 3
    refine dw_region (by kernel_rfl) ?_
    refine dl_r (sem_move rfl rfl) ?_
    refine dl_r (sem_ari (r := 1) rfl rfl rfl rfl) ?_
    refine dl_r (sem_assign rfl rfl) ?_
    refine dl_end ?_
    exact ⟨1, sub_of ⟨rfl, rfl, rfl, trivial⟩ trivial rfl, by show 1 - 1 < 1 - 0; decide⟩
  | z + 1 =>
    show Dw _ _ ⟨36, [(0, .v (.c (.s 6 (cR f0 ++ cN r1 ++ cN r2 ++ cN r3 ++ cN r4 ++ cN r5)))), (2, .v (.c (.b false))), (3, .v (.c (.i .i64 1)))], []⟩ _
    refine dw_seq ?_
    refine dw_seq ?_
    -- region 2
    refine dw_region (by kernel_rfl) ?_
    refine dl_r (sem_move rfl rfl) ?_
    refine dl_r (sem_move rfl rfl) ?_
    refine dl_r (sem_len sl55 rfl rfl) ?_
    refine dl_r (sem_cmp rfl rfl rfl rfl) ?_
    refine dl_end ?_
    refine dw_true rfl ?_
    refine dw_skip ?_
    refine dw_seq ?_
    refine dw_block ?_
    refine dw_seq ?_
    -- region 4
    refine dw_region (by kernel_rfl) ?_
    refine dl_r (sem_move rfl rfl) ?_
    refine dl_r (sem_move rfl rfl) ?_
    refine dl_r (sem_index sl55 rfl rfl (by decide) rfl rfl rfl) ?_
    refine dl_r (sem_fieldq fd26_0 rfl rfl rfl) ?_
    refine dl_r (sem_fieldq fd24_1 rfl rfl rfl) ?_
    refine dl_r (sem_loadq1 ty22 rfl rfl rfl) ?_
    refine dl_r (sem_len sl22 rfl rfl) ?_
    refine dl_r (sem_cmp rfl rfl rfl rfl) ?_
    refine dl_rb (sem_move rfl rfl) (fun c1 hb1 => ?_)
    cases c1
    · refine dl_r (sem_move rfl rfl) ?_
      refine dl_r (sem_move rfl rfl) ?_
      refine dl_r (sem_index sl55 rfl rfl (by decide) rfl rfl rfl) ?_
      refine dl_r (sem_fieldq fd26_1 rfl rfl rfl) ?_
      refine dl_r (sem_fieldq fd24_1 rfl rfl rfl) ?_
      refine dl_r (sem_loadq1 ty22 rfl rfl rfl) ?_
      refine dl_r (sem_len sl22 rfl rfl) ?_
      refine dl_r (sem_cmp rfl rfl rfl rfl) ?_
      refine dl_r (sem_pick rfl rfl rfl rfl) ?_
      refine dl_rb (sem_move rfl rfl) (fun c2 hb2 => ?_)
      cases c2
      · have q1 := dec_f hb1
        have q2 := dec_f hb2
        refine dl_r (sem_move rfl rfl) ?_
        refine dl_r (sem_move rfl rfl) ?_
        refine dl_r (sem_index sl55 rfl rfl (by decide) rfl rfl rfl) ?_
        refine dl_r (sem_loadq (us := cN r1) ty26 rfl rfl rfl rfl) ?_
        refine dl_r (sem_call rfl rfl (sValid_ok (by assumption) (by omega) (by omega)) rfl) ?_
        refine dl_r (sem_not rfl rfl) ?_
        refine dl_r (sem_pick rfl rfl rfl rfl) ?_
        refine dl_end ?_
        refine dw_cond rfl (fun hc3 => ?_) (fun hc3 => ?_)
        · refine dw_seq ?_
          -- region 5
          refine dw_region (by kernel_rfl) ?_
          refine dl_r (sem_assign rfl rfl) ?_
          refine dl_end ?_
          refine dw_ret ?_
          -- path L1ffT
          exact ⟨.inr rfl, (resL_tmp rfl resL_nil)⟩
        · exact absurd hk (by unfold RN.s; rw [not_f hc3, decide_eq_true (show (r1.x1.length : Int) ≤ 2 by omega), decide_eq_true (show (r1.x2.length : Int) ≤ 2 by omega)]; decide)
      · refine dl_skip (sem_skip rfl) ?_
        refine dl_skip (sem_skip rfl) ?_
        refine dl_skip (sem_skip rfl) ?_
        refine dl_skip (sem_skip rfl) ?_
        refine dl_skip (sem_skip rfl) ?_
        refine dl_skip (sem_skip rfl) ?_
        refine dl_r (sem_pick rfl rfl rfl rfl) ?_
        refine dl_end ?_
        refine dw_true rfl ?_
        refine dw_seq ?_
        -- region 5
        refine dw_region (by kernel_rfl) ?_
        refine dl_r (sem_assign rfl rfl) ?_
        refine dl_end ?_
        refine dw_ret ?_
        -- path L1ft
        exact ⟨.inr rfl, (resL_tmp rfl resL_nil)⟩
    · refine dl_skip (sem_skip rfl) ?_
      refine dl_skip (sem_skip rfl) ?_
      refine dl_skip (sem_skip rfl) ?_
      refine dl_skip (sem_skip rfl) ?_
      refine dl_skip (sem_skip rfl) ?_
      refine dl_skip (sem_skip rfl) ?_
      refine dl_skip (sem_skip rfl) ?_
      refine dl_skip (sem_skip rfl) ?_
      refine dl_r (sem_pick rfl rfl rfl rfl) ?_
      refine dl_r (sem_move rfl rfl) ?_
      refine dl_skip (sem_skip rfl) ?_
      refine dl_skip (sem_skip rfl) ?_
      refine dl_skip (sem_skip rfl) ?_
      refine dl_skip (sem_skip rfl) ?_
      refine dl_skip (sem_skip rfl) ?_
      refine dl_skip (sem_skip rfl) ?_
      refine dl_r (sem_pick rfl rfl rfl rfl) ?_
      refine dl_end ?_
      refine dw_true rfl ?_
      refine dw_seq ?_
      -- region 5
      refine dw_region (by kernel_rfl) ?_
      refine dl_r (sem_assign rfl rfl) ?_
      refine dl_end ?_
      refine dw_ret ?_
      -- path L1t
      exact ⟨.inr rfl, (resL_tmp rfl resL_nil)⟩
theorem few6_2 {f0 f1 : Rat} (hf0 : Rz 2 f0) (hf1 : Rz 2 f1) {r2 r3 r4 r5 : RN} (wr2 : r2.Wf) (hk : r2.s 2 = false) : Ok Tryz.prog 8 [.c (.s 6 (cR f0 ++ cR f1 ++ cN r2 ++ cN r3 ++ cN r4 ++ cN r5))] [.c (.b false)] := by
  refine Ok.of (by kernel_rfl) Tryz.func8 rfl rfl ?_
  rw [show Tryz.f8.ntmps = 36 from rfl, show Tryz.f8.results.toList = [.tmp 2] from rfl]
  refine dw_seq ?_
  -- region 0
  refine dw_region (by kernel_rfl) ?_
  refine dl_r (sem_assign rfl rfl) ?_
  refine dl_end ?_
  refine dw_seq ?_
  refine dw_seq ?_
  -- region 1
  refine dw_region (by kernel_rfl) ?_
  refine dl_r (sem_assign rfl rfl) ?_
  refine dl_end ?_
  refine dw_block ?_
  refine dw_loop (ι := Nat) (fun i => match i with | 0 => ⟨36, [(0, .v (.c (.s 6 (cR f0 ++ cR f1 ++ cN r2 ++ cN r3 ++ cN r4 ++ cN r5)))), (2, .v (.c (.b false))), (3, .v (.c (.i .i64 0)))], []⟩ | 1 => ⟨36, [(0, .v (.c (.s 6 (cR f0 ++ cR f1 ++ cN r2 ++ cN r3 ++ cN r4 ++ cN r5)))), (2, .v (.c (.b false))), (3, .v (.c (.i .i64 1)))], []⟩ | _ + 2 => ⟨36, [(0, .v (.c (.s 6 (cR f0 ++ cR f1 ++ cN r2 ++ cN r3 ++ cN r4 ++ cN r5)))), (2, .v (.c (.b false))), (3, .v (.c (.i .i64 2)))], []⟩) (fun i => 2 - i) 0 (sub_of ⟨rfl, rfl, rfl, trivial⟩ trivial rfl) ?_
  intro i
  match i with
  | 0 =>
    show Dw _ _ ⟨36, [(0, .v (.c (.s 6 (cR f0 ++ cR f1 ++ cN r2 ++ cN r3 ++ cN r4 ++ cN r5)))), (2, .v (.c (.b false))), (3, .v (.c (.i .i64 0)))], []⟩ _
    refine dw_seq ?_
    refine dw_seq ?_
    -- region 2
    refine dw_region (by kernel_rfl) ?_
    refine dl_r (sem_move rfl rfl) ?_
    refine dl_r (sem_move rfl rfl) ?_
    refine dl_r (sem_len sl55 rfl rfl) ?_
    refine dl_r (sem_cmp rfl rfl rfl rfl) ?_
    refine dl_end ?_
    refine dw_true rfl ?_
    refine dw_skip ?_
    refine dw_seq ?_
    refine dw_block ?_
    refine dw_seq ?_
    -- region 4
    refine dw_region (by kernel_rfl) ?_
    refine dl_r (sem_move rfl rfl) ?_
    refine dl_r (sem_move rfl rfl) ?_
    refine dl_r (sem_index sl55 rfl rfl (by decide) rfl rfl rfl) ?_
    refine dl_r (sem_fieldq fd26_0 rfl rfl rfl) ?_
    refine dl_r (sem_fieldq fd24_1 rfl rfl rfl) ?_
    refine dl_r (sem_loadq1 ty22 rfl rfl rfl) ?_
    refine dl_r (sem_len sl22 rfl rfl) ?_
    refine dl_r (sem_castb (sem_cmp rfl rfl rfl rfl) (len2 hf0.n 2 (by decide))) ?_
    refine dl_r (sem_move rfl rfl) ?_
    refine dl_r (sem_move rfl rfl) ?_
    refine dl_r (sem_move rfl rfl) ?_
    refine dl_r (sem_index sl55 rfl rfl (by decide) rfl rfl rfl) ?_
    refine dl_r (sem_fieldq fd26_1 rfl rfl rfl) ?_
    refine dl_r (sem_fieldq fd24_1 rfl rfl rfl) ?_
    refine dl_r (sem_loadq1 ty22 rfl rfl rfl) ?_
    refine dl_r (sem_len sl22 rfl rfl) ?_
    refine dl_r (sem_castb (sem_cmp rfl rfl rfl rfl) (len2 hf0.d 2 (by decide))) ?_
    refine dl_r (sem_pick rfl rfl rfl rfl) ?_
    refine dl_r (sem_move rfl rfl) ?_
    refine dl_r (sem_move rfl rfl) ?_
    refine dl_r (sem_move rfl rfl) ?_
    refine dl_r (sem_index sl55 rfl rfl (by decide) rfl rfl rfl) ?_
    refine dl_r (sem_loadq (us := cR f0) ty26 rfl rfl rfl rfl) ?_
    refine dl_r (sem_call rfl rfl (sValid_R (hf0.mono (by decide))) rfl) ?_
    refine dl_r (sem_not rfl rfl) ?_
    refine dl_r (sem_pick rfl rfl rfl rfl) ?_
    refine dl_end ?_
    refine dw_false rfl ?_
    refine dw_skip ?_
    -- region 3
    refine dw_region (by kernel_rfl) ?_
    refine dl_r (sem_move rfl rfl) ?_
    refine dl_r (sem_ari (r := 1) rfl rfl rfl rfl) ?_
    refine dl_r (sem_assign rfl rfl) ?_
    refine dl_end ?_
    exact ⟨1, sub_of ⟨rfl, rfl, rfl, trivial⟩ trivial rfl, by show 2 - 1 < 2 - 0; decide⟩
  | 1 =>
    show Dw _ _ ⟨36, [(0, .v (.c (.s 6 (cR f0 ++ cR f1 ++ cN r2 ++ cN r3 ++ cN r4 ++ cN r5)))), (2, .v (.c (.b false))), (3, .v (.c (.i .i64 1)))], []⟩ _
    refine dw_seq ?_
    refine dw_seq ?_
    -- region 2
    refine dw_region (by kernel_rfl) ?_
    refine dl_r (sem_move rfl rfl) ?_
    refine dl_r (sem_move rfl rfl) ?_
    refine dl_r (sem_len sl55 rfl rfl) ?_
    refine dl_r (sem_cmp rfl rfl rfl rfl) ?_
    refine dl_end ?_
    refine dw_true rfl ?_
    refine dw_skip ?_
    refine dw_seq ?_
    refine dw_block ?_
    refine dw_seq ?_
    -- region 4
    refine dw_region (by kernel_rfl) ?_
    refine dl_r (sem_move rfl rfl) ?_
    refine dl_r (sem_move rfl rfl) ?_
    refine dl_r (sem_index sl55 rfl rfl (by decide) rfl rfl rfl) ?_
    refine dl_r (sem_fieldq fd26_0 rfl rfl rfl) ?_
    refine dl_r (sem_fieldq fd24_1 rfl rfl rfl) ?_
    refine dl_r (sem_loadq1 ty22 rfl rfl rfl) ?_
    refine dl_r (sem_len sl22 rfl rfl) ?_
    refine dl_r (sem_castb (sem_cmp rfl rfl rfl rfl) (len2 hf1.n 2 (by decide))) ?_
    refine dl_r (sem_move rfl rfl) ?_
    refine dl_r (sem_move rfl rfl) ?_
    refine dl_r (sem_move rfl rfl) ?_
    refine dl_r (sem_index sl55 rfl rfl (by decide) rfl rfl rfl) ?_
    refine dl_r (sem_fieldq fd26_1 rfl rfl rfl) ?_
    refine dl_r (sem_fieldq fd24_1 rfl rfl rfl) ?_
    refine dl_r (sem_loadq1 ty22 rfl rfl rfl) ?_
    refine dl_r (sem_len sl22 rfl rfl) ?_
    refine dl_r (sem_castb (sem_cmp rfl rfl rfl rfl) (len2 hf1.d 2 (by decide))) ?_
    refine dl_r (sem_pick rfl rfl rfl rfl) ?_
    refine dl_r (sem_move rfl rfl) ?_
    refine dl_r (sem_move rfl rfl) ?_
    refine dl_r (sem_move rfl rfl) ?_
    refine dl_r (sem_index sl55 rfl rfl (by decide) rfl rfl rfl) ?_
    refine dl_r (sem_loadq (us := cR f1) ty26 rfl rfl rfl rfl) ?_
    refine dl_r (sem_call rfl rfl (sValid_R (hf1.mono (by decide))) rfl) ?_
    refine dl_r (sem_not rfl rfl) ?_
    refine dl_r (sem_pick rfl rfl rfl rfl) ?_
    refine dl_end ?_
    refine dw_false rfl ?_
    refine dw_skip ?_
    -- region 3
    refine dw_region (by kernel_rfl) ?_
    refine dl_r (sem_move rfl rfl) ?_
    refine dl_r (sem_ari (r := 2) rfl rfl rfl rfl) ?_
    refine dl_r (sem_assign rfl rfl) ?_
    refine dl_end ?_
    exact ⟨2, sub_of ⟨rfl, rfl, rfl, trivial⟩ trivial rfl, by show 2 - 2 < 2 - 1; decide⟩
  | z + 2 =>
    show Dw _ _ ⟨36, [(0, .v (.c (.s 6 (cR f0 ++ cR f1 ++ cN r2 ++ cN r3 ++ cN r4 ++ cN r5)))), (2, .v (.c (.b false))), (3, .v (.c (.i .i64 2)))], []⟩ _
    refine dw_seq ?_
    refine dw_seq ?_
    -- region 2
    refine dw_region (by kernel_rfl) ?_
    refine dl_r (sem_move rfl rfl) ?_
    refine dl_r (sem_move rfl rfl) ?_
    refine dl_r (sem_len sl55 rfl rfl) ?_
    refine dl_r (sem_cmp rfl rfl rfl rfl) ?_
    refine dl_end ?_
    refine dw_true rfl ?_
    refine dw_skip ?_
    refine dw_seq ?_
    refine dw_block ?_
    refine dw_seq ?_
    -- region 4
    refine dw_region (by kernel_rfl) ?_
    refine dl_r (sem_move rfl rfl) ?_
    refine dl_r (sem_move rfl rfl) ?_
    refine dl_r (sem_index sl55 rfl rfl (by decide) rfl rfl rfl) ?_
    refine dl_r (sem_fieldq fd26_0 rfl rfl rfl) ?_
    refine dl_r (sem_fieldq fd24_1 rfl rfl rfl) ?_
    refine dl_r (sem_loadq1 ty22 rfl rfl rfl) ?_
    refine dl_r (sem_len sl22 rfl rfl) ?_
    refine dl_r (sem_cmp rfl rfl rfl rfl) ?_
    refine dl_rb (sem_move rfl rfl) (fun c1 hb1 => ?_)
    cases c1
    · refine dl_r (sem_move rfl rfl) ?_
      refine dl_r (sem_move rfl rfl) ?_
      refine dl_r (sem_index sl55 rfl rfl (by decide) rfl rfl rfl) ?_
      refine dl_r (sem_fieldq fd26_1 rfl rfl rfl) ?_
      refine dl_r (sem_fieldq fd24_1 rfl rfl rfl) ?_
      refine dl_r (sem_loadq1 ty22 rfl rfl rfl) ?_
      refine dl_r (sem_len sl22 rfl rfl) ?_
      refine dl_r (sem_cmp rfl rfl rfl rfl) ?_
      refine dl_r (sem_pick rfl rfl rfl rfl) ?_
      refine dl_rb (sem_move rfl rfl) (fun c2 hb2 => ?_)
      cases c2
      · have q1 := dec_f hb1
        have q2 := dec_f hb2
        refine dl_r (sem_move rfl rfl) ?_
        refine dl_r (sem_move rfl rfl) ?_
        refine dl_r (sem_index sl55 rfl rfl (by decide) rfl rfl rfl) ?_
        refine dl_r (sem_loadq (us := cN r2) ty26 rfl rfl rfl rfl) ?_
        refine dl_r (sem_call rfl rfl (sValid_ok (by assumption) (by omega) (by omega)) rfl) ?_
        refine dl_r (sem_not rfl rfl) ?_
        refine dl_r (sem_pick rfl rfl rfl rfl) ?_
        refine dl_end ?_
        refine dw_cond rfl (fun hc3 => ?_) (fun hc3 => ?_)
        · refine dw_seq ?_
          -- region 5
          refine dw_region (by kernel_rfl) ?_
          refine dl_r (sem_assign rfl rfl) ?_
          refine dl_end ?_
          refine dw_ret ?_
          -- path L2ffT
          exact ⟨.inr rfl, (resL_tmp rfl resL_nil)⟩
        · exact absurd hk (by unfold RN.s; rw [not_f hc3, decide_eq_true (show (r2.x1.length : Int) ≤ 2 by omega), decide_eq_true (show (r2.x2.length : Int) ≤ 2 by omega)]; decide)
      · refine dl_skip (sem_skip rfl) ?_
        refine dl_skip (sem_skip rfl) ?_
        refine dl_skip (sem_skip rfl) ?_
        refine dl_skip (sem_skip rfl) ?_
        refine dl_skip (sem_skip rfl) ?_
        refine dl_skip (sem_skip rfl) ?_
        refine dl_r (sem_pick rfl rfl rfl rfl) ?_
        refine dl_end ?_
        refine dw_true rfl ?_
        refine dw_seq ?_
        -- region 5
        refine dw_region (by kernel_rfl) ?_
        refine dl_r (sem_assign rfl rfl) ?_
        refine dl_end ?_
        refine dw_ret ?_
        -- path L2ft
        exact ⟨.inr rfl, (resL_tmp rfl resL_nil)⟩
    · refine dl_skip (sem_skip rfl) ?_
      refine dl_skip (sem_skip rfl) ?_
      refine dl_skip (sem_skip rfl) ?_
      refine dl_skip (sem_skip rfl) ?_
      refine dl_skip (sem_skip rfl) ?_
      refine dl_skip (sem_skip rfl) ?_
      refine dl_skip (sem_skip rfl) ?_
      refine dl_skip (sem_skip rfl) ?_
      refine dl_r (sem_pick rfl rfl rfl rfl) ?_
      refine dl_r (sem_move rfl rfl) ?_
      refine dl_skip (sem_skip rfl) ?_
      refine dl_skip (sem_skip rfl) ?_
      refine dl_skip (sem_skip rfl) ?_
      refine dl_skip (sem_skip rfl) ?_
      refine dl_skip (sem_skip rfl) ?_
      refine dl_skip (sem_skip rfl) ?_
      refine dl_r (sem_pick rfl rfl rfl rfl) ?_
      refine dl_end ?_
      refine dw_true rfl ?_
      refine dw_seq ?_
      -- region 5
      refine dw_region (by kernel_rfl) ?_
      refine dl_r (sem_assign rfl rfl) ?_
      refine dl_end ?_
      refine dw_ret ?_
      -- path L2t
      exact ⟨.inr rfl, (resL_tmp rfl resL_nil)⟩
theorem few6_3 {f0 f1 f2 : Rat} (hf0 : Rz 2 f0) (hf1 : Rz 2 f1) (hf2 : Rz 2 f2) {r3 r4 r5 : RN} (wr3 : r3.Wf) (hk : r3.s 2 = false) : Ok Tryz.prog 8 [.c (.s 6 (cR f0 ++ cR f1 ++ cR f2 ++ cN r3 ++ cN r4 ++ cN r5))] [.c (.b false)] := by
  refine Ok.of (by kernel_rfl) Tryz.func8 rfl rfl ?_
  rw [show Tryz.f8.ntmps = 36 from rfl, show Tryz.f8.results.toList = [.tmp 2] from rfl]
  refine dw_seq ?_
  -- region 0
  refine dw_region (by kernel_rfl) ?_
  refine dl_r (sem_assign rfl rfl) ?_
  refine dl_end ?_
  refine dw_seq ?_
  refine dw_seq ?_
  -- region 1
  refine dw_region (by kernel_rfl) ?_
  refine dl_r (sem_assign rfl rfl) ?_
  refine dl_end ?_
  refine dw_block ?_
  refine dw_loop (ι := Nat) (fun i => match i with | 0 => ⟨36, [(0, .v (.c (.s 6 (cR f0 ++ cR f1 ++ cR f2 ++ cN r3 ++ cN r4 ++ cN r5)))), (2, .v (.c (.b false))), (3, .v (.c (.i .i64 0)))], []⟩ | 1 => ⟨36, [(0, .v (.c (.s 6 (cR f0 ++ cR f1 ++ cR f2 ++ cN r3 ++ cN r4 ++ cN r5)))), (2, .v (.c (.b false))), (3, .v (.c (.i .i64 1)))], []⟩ | 2 => ⟨36, [(0, .v (.c (.s 6 (cR f0 ++ cR f1 ++ cR f2 ++ cN r3 ++ cN r4 ++ cN r5)))), (2, .v (.c (.b false))), (3, .v (.c (.i .i64 2)))], []⟩ | _ + 3 => ⟨36, [(0, .v (.c (.s 6 (cR f0 ++ cR f1 ++ cR f2 ++ cN r3 ++ cN r4 ++ cN r5)))), (2, .v (.c (.b false))), (3, .v (.c (.i .i64 3)))], []⟩) (fun i => 3 - i) 0 (sub_of ⟨rfl, rfl, rfl, trivial⟩ trivial rfl) ?_
  intro i
  match i with
  | 0 =>
    show Dw _ _ ⟨36, [(0, .v (.c (.s 6 (cR f0 ++ cR f1 ++ cR f2 ++ cN r3 ++ cN r4 ++ cN r5)))), (2, .v (.c (.b false))), (3, .v (.c (.i .i64 0)))], []⟩ _
    refine dw_seq ?_
    refine dw_seq ?_
    -- region 2
    refine dw_region (by kernel_rfl) ?_
    refine dl_r (sem_move rfl rfl) ?_
    refine dl_r (sem_move rfl rfl) ?_
    refine dl_r (sem_len sl55 rfl rfl) ?_
    refine dl_r (sem_cmp rfl rfl rfl rfl) ?_
    refine dl_end ?_
    refine dw_true rfl ?_
    refine dw_skip ?_
    refine dw_seq ?_
    refine dw_block ?_
    refine dw_seq ?_
    -- region 4
    refine dw_region (by kernel_rfl) ?_
    refine dl_r (sem_move rfl rfl) ?_
    refine dl_r (sem_move rfl rfl) ?_
    refine dl_r (sem_index sl55 rfl rfl (by decide) rfl rfl rfl) ?_
    refine dl_r (sem_fieldq fd26_0 rfl rfl rfl) ?_
    refine dl_r (sem_fieldq fd24_1 rfl rfl rfl) ?_
    refine dl_r (sem_loadq1 ty22 rfl rfl rfl) ?_
    refine dl_r (sem_len sl22 rfl rfl) ?_
    refine dl_r (sem_castb (sem_cmp rfl rfl rfl rfl) (len2 hf0.n 2 (by decide))) ?_
    refine dl_r (sem_move rfl rfl) ?_
    refine dl_r (sem_move rfl rfl) ?_
    refine dl_r (sem_move rfl rfl) ?_
    refine dl_r (sem_index sl55 rfl rfl (by decide) rfl rfl rfl) ?_
    refine dl_r (sem_fieldq fd26_1 rfl rfl rfl) ?_
    refine dl_r (sem_fieldq fd24_1 rfl rfl rfl) ?_
    refine dl_r (sem_loadq1 ty22 rfl rfl rfl) ?_
    refine dl_r (sem_len sl22 rfl rfl) ?_
    refine dl_r (sem_castb (sem_cmp rfl rfl rfl rfl) (len2 hf0.d 2 (by decide))) ?_
    refine dl_r (sem_pick rfl rfl rfl rfl) ?_
    refine dl_r (sem_move rfl rfl) ?_
    refine dl_r (sem_move rfl rfl) ?_
    refine dl_r (sem_move rfl rfl) ?_
    refine dl_r (sem_index sl55 rfl rfl (by decide) rfl rfl rfl) ?_
    refine dl_r (sem_loadq (us := cR f0) ty26 rfl rfl rfl rfl) ?_
    refine dl_r (sem_call rfl rfl (sValid_R (hf0.mono (by decide))) rfl) ?_
    refine dl_r (sem_not rfl rfl) ?_
    refine dl_r (sem_pick rfl rfl rfl rfl) ?_
    refine dl_end ?_
    refine dw_false rfl ?_
    refine dw_skip ?_
    -- region 3
    refine dw_region (by kernel_rfl) ?_
    refine dl_r (sem_move rfl rfl) ?_
    refine dl_r (sem_ari (r := 1) rfl rfl rfl rfl) ?_
    refine dl_r (sem_assign rfl rfl) ?_
    refine dl_end ?_
    exact ⟨1, sub_of ⟨rfl, rfl, rfl, trivial⟩ trivial rfl, by show 3 - 1 < 3 - 0; decide⟩
  | 1 =>
    show Dw _ _ ⟨36, [(0, .v (.c (.s 6 (cR f0 ++ cR f1 ++ cR f2 ++ cN r3 ++ cN r4 ++ cN r5)))), (2, .v (.c (.b false))), (3, .v (.c (.i .i64 1)))], []⟩ _
    refine dw_seq ?_
    refine dw_seq ?_
    -- region 2
    refine dw_region (by kernel_rfl) ?_
    refine dl_r (sem_move rfl rfl) ?_
    refine dl_r (sem_move rfl rfl) ?_
    refine dl_r (sem_len sl55 rfl rfl) ?_
    refine dl_r (sem_cmp rfl rfl rfl rfl) ?_
    refine dl_end ?_
    refine dw_true rfl ?_
    refine dw_skip ?_
    refine dw_seq ?_
    refine dw_block ?_
    refine dw_seq ?_
    -- region 4
    refine dw_region (by kernel_rfl) ?_
    refine dl_r (sem_move rfl rfl) ?_
    refine dl_r (sem_move rfl rfl) ?_
    refine dl_r (sem_index sl55 rfl rfl (by decide) rfl rfl rfl) ?_
    refine dl_r (sem_fieldq fd26_0 rfl rfl rfl) ?_
    refine dl_r (sem_fieldq fd24_1 rfl rfl rfl) ?_
    refine dl_r (sem_loadq1 ty22 rfl rfl rfl) ?_
    refine dl_r (sem_len sl22 rfl rfl) ?_
    refine dl_r (sem_castb (sem_cmp rfl rfl rfl rfl) (len2 hf1.n 2 (by decide))) ?_
    refine dl_r (sem_move rfl rfl) ?_
    refine dl_r (sem_move rfl rfl) ?_
    refine dl_r (sem_move rfl rfl) ?_
    refine dl_r (sem_index sl55 rfl rfl (by decide) rfl rfl rfl) ?_
    refine dl_r (sem_fieldq fd26_1 rfl rfl rfl) ?_
    refine dl_r (sem_fieldq fd24_1 rfl rfl rfl) ?_
    refine dl_r (sem_loadq1 ty22 rfl rfl rfl) ?_
    refine dl_r (sem_len sl22 rfl rfl) ?_
    refine dl_r (sem_castb (sem_cmp rfl rfl rfl rfl) (len2 hf1.d 2 (by decide))) ?_
    refine dl_r (sem_pick rfl rfl rfl rfl) ?_
    refine dl_r (sem_move rfl rfl) ?_
    refine dl_r (sem_move rfl rfl) ?_
    refine dl_r (sem_move rfl rfl) ?_
    refine dl_r (sem_index sl55 rfl rfl (by decide) rfl rfl rfl) ?_
    refine dl_r (sem_loadq (us := cR f1) ty26 rfl rfl rfl rfl) ?_
    refine dl_r (sem_call rfl rfl (sValid_R (hf1.mono (by decide))) rfl) ?_
    refine dl_r (sem_not rfl rfl) ?_
    refine dl_r (sem_pick rfl rfl rfl rfl) ?_
    refine dl_end ?_
    refine dw_false rfl ?_
    refine dw_skip ?_
    -- region 3
    refine dw_region (by kernel_rfl) ?_
    refine dl_r (sem_move rfl rfl) ?_
    refine dl_r (sem_ari (r := 2) rfl rfl rfl rfl) ?_
    refine dl_r (sem_assign rfl rfl) ?_
    refine dl_end ?_
    exact ⟨2, sub_of ⟨rfl, rfl, rfl, trivial⟩ trivial rfl, by show 3 - 2 < 3 - 1; decide⟩
  | 2 =>
    show Dw _ _ ⟨36, [(0, .v (.c (.s 6 (cR f0 ++ cR f1 ++ cR f2 ++ cN r3 ++ cN r4 ++ cN r5)))), (2, .v (.c (.b false))), (3, .v (.c (.i .i64 2)))], []⟩ _
    refine dw_seq ?_
    refine dw_seq ?_
    -- region 2
    refine dw_region (by kernel_rfl) ?_
    refine dl_r (sem_move rfl rfl) ?_
    refine dl_r (sem_move rfl rfl) ?_
    refine dl_r (sem_len sl55 rfl rfl) ?_
    refine dl_r (sem_cmp rfl rfl rfl rfl) ?_
    refine dl_end ?_
    refine dw_true rfl ?_
    refine dw_skip ?_
    refine dw_seq ?_
    refine dw_block ?_
    refine dw_seq ?_
    -- region 4
    refine dw_region (by kernel_rfl) ?_
    refine dl_r (sem_move rfl rfl) ?_
    refine dl_r (sem_move rfl rfl) ?_
    refine dl_r (sem_index sl55 rfl rfl (by decide) rfl rfl rfl) ?_
    refine dl_r (sem_fieldq fd26_0 rfl rfl rfl) ?_
    refine dl_r (sem_fieldq fd24_1 rfl rfl rfl) ?_
    refine dl_r (sem_loadq1 ty22 rfl rfl rfl) ?_
    refine dl_r (sem_len sl22 rfl rfl) ?_
    refine dl_r (sem_castb (sem_cmp rfl rfl rfl rfl) (len2 hf2.n 2 (by decide))) ?_
    refine dl_r (sem_move rfl rfl) ?_
    refine dl_r (sem_move rfl rfl) ?_
    refine dl_r (sem_move rfl rfl) ?_
    refine dl_r (sem_index sl55 rfl rfl (by decide) rfl rfl rfl) ?_
    refine dl_r (sem_fieldq fd26_1 rfl rfl rfl) ?_
    refine dl_r (sem_fieldq fd24_1 rfl rfl rfl) ?_
    refine dl_r (sem_loadq1 ty22 rfl rfl rfl) ?_
    refine dl_r (sem_len sl22 rfl rfl) ?_
    refine dl_r (sem_castb (sem_cmp rfl rfl rfl rfl) (len2 hf2.d 2 (by decide))) ?_
    refine dl_r (sem_pick rfl rfl rfl rfl) ?_
    refine dl_r (sem_move rfl rfl) ?_
    refine dl_r (sem_move rfl rfl) ?_
    refine dl_r (sem_move rfl rfl) ?_
    refine dl_r (sem_index sl55 rfl rfl (by decide) rfl rfl rfl) ?_
    refine dl_r (sem_loadq (us := cR f2) ty26 rfl rfl rfl rfl) ?_
    refine dl_r (sem_call rfl rfl (sValid_R (hf2.mono (by decide))) rfl) ?_
    refine dl_r (sem_not rfl rfl) ?_
    refine dl_r (sem_pick rfl rfl rfl rfl) ?_
    refine dl_end ?_
    refine dw_false rfl ?_
    refine dw_skip ?_
    -- region 3
    refine dw_region (by kernel_rfl) ?_
    refine dl_r (sem_move rfl rfl) ?_
    refine dl_r (sem_ari (r := 3) rfl rfl rfl rfl) ?_
    refine dl_r (sem_assign rfl rfl) ?_
    refine dl_end ?_
    exact ⟨3, sub_of ⟨rfl, rfl, rfl, trivial⟩ trivial rfl, by show 3 - 3 < 3 - 2; decide⟩
  | z + 3 =>
    show Dw _ _ ⟨36, [(0, .v (.c (.s 6 (cR f0 ++ cR f1 ++ cR f2 ++ cN r3 ++ cN r4 ++ cN r5)))), (2, .v (.c (.b false))), (3, .v (.c (.i .i64 3)))], []⟩ _
    refine dw_seq ?_
    refine dw_seq ?_
    -- region 2
    refine dw_region (by kernel_rfl) ?_
    refine dl_r (sem_move rfl rfl) ?_
    refine dl_r (sem_move rfl rfl) ?_
    refine dl_r (sem_len sl55 rfl rfl) ?_
    refine dl_r (sem_cmp rfl rfl rfl rfl) ?_
    refine dl_end ?_
    refine dw_true rfl ?_
    refine dw_skip ?_
    refine dw_seq ?_
    refine dw_block ?_
    refine dw_seq ?_
    -- region 4
    refine dw_region (by kernel_rfl) ?_
    refine dl_r (sem_move rfl rfl) ?_
    refine dl_r (sem_move rfl rfl) ?_
    refine dl_r (sem_index sl55 rfl rfl (by decide) rfl rfl rfl) ?_
    refine dl_r (sem_fieldq fd26_0 rfl rfl rfl) ?_
    refine dl_r (sem_fieldq fd24_1 rfl rfl rfl) ?_
    refine dl_r (sem_loadq1 ty22 rfl rfl rfl) ?_
    refine dl_r (sem_len sl22 rfl rfl) ?_
    refine dl_r (sem_cmp rfl rfl rfl rfl) ?_
    refine dl_rb (sem_move rfl rfl) (fun c1 hb1 => ?_)
    cases c1
    · refine dl_r (sem_move rfl rfl) ?_
      refine dl_r (sem_move rfl rfl) ?_
      refine dl_r (sem_index sl55 rfl rfl (by decide) rfl rfl rfl) ?_
      refine dl_r (sem_fieldq fd26_1 rfl rfl rfl) ?_
      refine dl_r (sem_fieldq fd24_1 rfl rfl rfl) ?_
      refine dl_r (sem_loadq1 ty22 rfl rfl rfl) ?_
      refine dl_r (sem_len sl22 rfl rfl) ?_
      refine dl_r (sem_cmp rfl rfl rfl rfl) ?_
      refine dl_r (sem_pick rfl rfl rfl rfl) ?_
      refine dl_rb (sem_move rfl rfl) (fun c2 hb2 => ?_)
      cases c2
      · have q1 := dec_f hb1
        have q2 := dec_f hb2
        refine dl_r (sem_move rfl rfl) ?_
        refine dl_r (sem_move rfl rfl) ?_
        refine dl_r (sem_index sl55 rfl rfl (by decide) rfl rfl rfl) ?_
        refine dl_r (sem_loadq (us := cN r3) ty26 rfl rfl rfl rfl) ?_
        refine dl_r (sem_call rfl rfl (sValid_ok (by assumption) (by omega) (by omega)) rfl) ?_
        refine dl_r (sem_not rfl rfl) ?_
        refine dl_r (sem_pick rfl rfl rfl rfl) ?_
        refine dl_end ?_
        refine dw_cond rfl (fun hc3 => ?_) (fun hc3 => ?_)
        · refine dw_seq ?_
          -- region 5
          refine dw_region (by kernel_rfl) ?_
          refine dl_r (sem_assign rfl rfl) ?_
          refine dl_end ?_
          refine dw_ret ?_
          -- path L3ffT
          exact ⟨.inr rfl, (resL_tmp rfl resL_nil)⟩
        · exact absurd hk (by unfold RN.s; rw [not_f hc3, decide_eq_true (show (r3.x1.length : Int) ≤ 2 by omega), decide_eq_true (show (r3.x2.length : Int) ≤ 2 by omega)]; decide)
      · refine dl_skip (sem_skip rfl) ?_
        refine dl_skip (sem_skip rfl) ?_
        refine dl_skip (sem_skip rfl) ?_
        refine dl_skip (sem_skip rfl) ?_
        refine dl_skip (sem_skip rfl) ?_
        refine dl_skip (sem_skip rfl) ?_
        refine dl_r (sem_pick rfl rfl rfl rfl) ?_
        refine dl_end ?_
        refine dw_true rfl ?_
        refine dw_seq ?_
        -- region 5
        refine dw_region (by kernel_rfl) ?_
        refine dl_r (sem_assign rfl rfl) ?_
        refine dl_end ?_
        refine dw_ret ?_
        -- path L3ft
        exact ⟨.inr rfl, (resL_tmp rfl resL_nil)⟩
    · refine dl_skip (sem_skip rfl) ?_
      refine dl_skip (sem_skip rfl) ?_
      refine dl_skip (sem_skip rfl) ?_
      refine dl_skip (sem_skip rfl) ?_
      refine dl_skip (sem_skip rfl) ?_
      refine dl_skip (sem_skip rfl) ?_
      refine dl_skip (sem_skip rfl) ?_
      refine dl_skip (sem_skip rfl) ?_
      refine dl_r (sem_pick rfl rfl rfl rfl) ?_
      refine dl_r (sem_move rfl rfl) ?_
      refine dl_skip (sem_skip rfl) ?_
      refine dl_skip (sem_skip rfl) ?_
      refine dl_skip (sem_skip rfl) ?_
      refine dl_skip (sem_skip rfl) ?_
      refine dl_skip (sem_skip rfl) ?_
      refine dl_skip (sem_skip rfl) ?_
      refine dl_r (sem_pick rfl rfl rfl rfl) ?_
      refine dl_end ?_
      refine dw_true rfl ?_
      refine dw_seq ?_
      -- region 5
      refine dw_region (by kernel_rfl) ?_
      refine dl_r (sem_assign rfl rfl) ?_
      refine dl_end ?_
      refine dw_ret ?_
      -- path L3t
      exact ⟨.inr rfl, (resL_tmp rfl resL_nil)⟩
theorem few6_4 {f0 f1 f2 f3 : Rat} (hf0 : Rz 2 f0) (hf1 : Rz 2 f1) (hf2 : Rz 2 f2) (hf3 : Rz 2 f3) {r4 r5 : RN} (wr4 : r4.Wf) (hk : r4.s 2 = false) : Ok Tryz.prog 8 [.c (.s 6 (cR f0 ++ cR f1 ++ cR f2 ++ cR f3 ++ cN r4 ++ cN r5))] [.c (.b false)] := by
  refine Ok.of (by kernel_rfl) Tryz.func8 rfl rfl ?_
  rw [show Tryz.f8.ntmps = 36 from rfl, show Tryz.f8.results.toList = [.tmp 2] from rfl]
  refine dw_seq ?_
  -- region 0
  refine dw_region (by kernel_rfl) ?_
  refine dl_r (sem_assign rfl rfl) ?_
  refine dl_end ?_
  refine dw_seq ?_
  refine dw_seq ?_
  -- region 1
  refine dw_region (by kernel_rfl) ?_
  refine dl_r (sem_assign rfl rfl) ?_
  refine dl_end ?_
  refine dw_block ?_
  refine dw_loop (ι := Nat) (fun i => match i with | 0 => ⟨36, [(0, .v (.c (.s 6 (cR f0 ++ cR f1 ++ cR f2 ++ cR f3 ++ cN r4 ++ cN r5)))), (2, .v (.c (.b false))), (3, .v (.c (.i .i64 0)))], []⟩ | 1 => ⟨36, [(0, .v (.c (.s 6 (cR f0 ++ cR f1 ++ cR f2 ++ cR f3 ++ cN r4 ++ cN r5)))), (2, .v (.c (.b false))), (3, .v (.c (.i .i64 1)))], []⟩ | 2 => ⟨36, [(0, .v (.c (.s 6 (cR f0 ++ cR f1 ++ cR f2 ++ cR f3 ++ cN r4 ++ cN r5)))), (2, .v (.c (.b false))), (3, .v (.c (.i .i64 2)))], []⟩ | 3 => ⟨36, [(0, .v (.c (.s 6 (cR f0 ++ cR f1 ++ cR f2 ++ cR f3 ++ cN r4 ++ cN r5)))), (2, .v (.c (.b false))), (3, .v (.c (.i .i64 3)))], []⟩ | _ + 4 => ⟨36, [(0, .v (.c (.s 6 (cR f0 ++ cR f1 ++ cR f2 ++ cR f3 ++ cN r4 ++ cN r5)))), (2, .v (.c (.b false))), (3, .v (.c (.i .i64 4)))], []⟩) (fun i => 4 - i) 0 (sub_of ⟨rfl, rfl, rfl, trivial⟩ trivial rfl) ?_
  intro i
  match i with
  | 0 =>
    show Dw _ _ ⟨36, [(0, .v (.c (.s 6 (cR f0 ++ cR f1 ++ cR f2 ++ cR f3 ++ cN r4 ++ cN r5)))), (2, .v (.c (.b false))), (3, .v (.c (.i .i64 0)))], []⟩ _
    refine dw_seq ?_
    refine dw_seq ?_
    -- region 2
    refine dw_region (by kernel_rfl) ?_
    refine dl_r (sem_move rfl rfl) ?_
    refine dl_r (sem_move rfl rfl) ?_
    refine dl_r (sem_len sl55 rfl rfl) ?_
    refine dl_r (sem_cmp rfl rfl rfl rfl) ?_
    refine dl_end ?_
    refine dw_true rfl ?_
    refine dw_skip ?_
    refine dw_seq ?_
    refine dw_block ?_
    refine dw_seq ?_
    -- region 4
    refine dw_region (by kernel_rfl) ?_
    refine dl_r (sem_move rfl rfl) ?_
    refine dl_r (sem_move rfl rfl) ?_
    refine dl_r (sem_index sl55 rfl rfl (by decide) rfl rfl rfl) ?_
    refine dl_r (sem_fieldq fd26_0 rfl rfl rfl) ?_
    refine dl_r (sem_fieldq fd24_1 rfl rfl rfl) ?_
    refine dl_r (sem_loadq1 ty22 rfl rfl rfl) ?_
    refine dl_r (sem_len sl22 rfl rfl) ?_
    refine dl_r (sem_castb (sem_cmp rfl rfl rfl rfl) (len2 hf0.n 2 (by decide))) ?_
    refine dl_r (sem_move rfl rfl) ?_
    refine dl_r (sem_move rfl rfl) ?_
    refine dl_r (sem_move rfl rfl) ?_
    refine dl_r (sem_index sl55 rfl rfl (by decide) rfl rfl rfl) ?_
    refine dl_r (sem_fieldq fd26_1 rfl rfl rfl) ?_
    refine dl_r (sem_fieldq fd24_1 rfl rfl rfl) ?_
    refine dl_r (sem_loadq1 ty22 rfl rfl rfl) ?_
    refine dl_r (sem_len sl22 rfl rfl) ?_
    refine dl_r (sem_castb (sem_cmp rfl rfl rfl rfl) (len2 hf0.d 2 (by decide))) ?_
    refine dl_r (sem_pick rfl rfl rfl rfl) ?_
    refine dl_r (sem_move rfl rfl) ?_
    refine dl_r (sem_move rfl rfl) ?_
    refine dl_r (sem_move rfl rfl) ?_
    refine dl_r (sem_index sl55 rfl rfl (by decide) rfl rfl rfl) ?_
    refine dl_r (sem_loadq (us := cR f0) ty26 rfl rfl rfl rfl) ?_
    refine dl_r (sem_call rfl rfl (sValid_R (hf0.mono (by decide))) rfl) ?_
    refine dl_r (sem_not rfl rfl) ?_
    refine dl_r (sem_pick rfl rfl rfl rfl) ?_
    refine dl_end ?_
    refine dw_false rfl ?_
    refine dw_skip ?_
    -- region 3
    refine dw_region (by kernel_rfl) ?_
    refine dl_r (sem_move rfl rfl) ?_
    refine dl_r (sem_ari (r := 1) rfl rfl rfl rfl) ?_
    refine dl_r (sem_assign rfl rfl) ?_
    refine dl_end ?_
    exact ⟨1, sub_of ⟨rfl, rfl, rfl, trivial⟩ trivial rfl, by show 4 - 1 < 4 - 0; decide⟩
  | 1 =>
    show Dw _ _ ⟨36, [(0, .v (.c (.s 6 (cR f0 ++ cR f1 ++ cR f2 ++ cR f3 ++ cN r4 ++ cN r5)))), (2, .v (.c (.b false))), (3, .v (.c (.i .i64 1)))], []⟩ _
    refine dw_seq ?_
    refine dw_seq ?_
    -- region 2
    refine dw_region (by kernel_rfl) ?_
    refine dl_r (sem_move rfl rfl) ?_
    refine dl_r (sem_move rfl rfl) ?_
    refine dl_r (sem_len sl55 rfl rfl) ?_
    refine dl_r (sem_cmp rfl rfl rfl rfl) ?_
    refine dl_end ?_
    refine dw_true rfl ?_
    refine dw_skip ?_
    refine dw_seq ?_
    refine dw_block ?_
    refine dw_seq ?_
    -- region 4
    refine dw_region (by kernel_rfl) ?_
    refine dl_r (sem_move rfl rfl) ?_
    refine dl_r (sem_move rfl rfl) ?_
    refine dl_r (sem_index sl55 rfl rfl (by decide) rfl rfl rfl) ?_
    refine dl_r (sem_fieldq fd26_0 rfl rfl rfl) ?_
    refine dl_r (sem_fieldq fd24_1 rfl rfl rfl) ?_
    refine dl_r (sem_loadq1 ty22 rfl rfl rfl) ?_
    refine dl_r (sem_len sl22 rfl rfl) ?_
    refine dl_r (sem_castb (sem_cmp rfl rfl rfl rfl) (len2 hf1.n 2 (by decide))) ?_
    refine dl_r (sem_move rfl rfl) ?_
    refine dl_r (sem_move rfl rfl) ?_
    refine dl_r (sem_move rfl rfl) ?_
    refine dl_r (sem_index sl55 rfl rfl (by decide) rfl rfl rfl) ?_
    refine dl_r (sem_fieldq fd26_1 rfl rfl rfl) ?_
    refine dl_r (sem_fieldq fd24_1 rfl rfl rfl) ?_
    refine dl_r (sem_loadq1 ty22 rfl rfl rfl) ?_
    refine dl_r (sem_len sl22 rfl rfl) ?_
    refine dl_r (sem_castb (sem_cmp rfl rfl rfl rfl) (len2 hf1.d 2 (by decide))) ?_
    refine dl_r (sem_pick rfl rfl rfl rfl) ?_
    refine dl_r (sem_move rfl rfl) ?_
    refine dl_r (sem_move rfl rfl) ?_
    refine dl_r (sem_move rfl rfl) ?_
    refine dl_r (sem_index sl55 rfl rfl (by decide) rfl rfl rfl) ?_
    refine dl_r (sem_loadq (us := cR f1) ty26 rfl rfl rfl rfl) ?_
    refine dl_r (sem_call rfl rfl (sValid_R (hf1.mono (by decide))) rfl) ?_
    refine dl_r (sem_not rfl rfl) ?_
    refine dl_r (sem_pick rfl rfl rfl rfl) ?_
    refine dl_end ?_
    refine dw_false rfl ?_
    refine dw_skip ?_
    -- region 3
    refine dw_region (by kernel_rfl) ?_
    refine dl_r (sem_move rfl rfl) ?_
    refine dl_r (sem_ari (r := 2) rfl rfl rfl rfl) ?_
    refine dl_r (sem_assign rfl rfl) ?_
    refine dl_end ?_
    exact ⟨2, sub_of ⟨rfl, rfl, rfl, trivial⟩ trivial rfl, by show 4 - 2 < 4 - 1; decide⟩
  | 2 =>
    show Dw _ _ ⟨36, [(0, .v (.c (.s 6 (cR f0 ++ cR f1 ++ cR f2 ++ cR f3 ++ cN r4 ++ cN r5)))), (2, .v (.c (.b false))), (3, .v (.c (.i .i64 2)))], []⟩ _
    refine dw_seq ?_
    refine dw_seq ?_
    -- region 2
    refine dw_region (by kernel_rfl) ?_
    refine dl_r (sem_move rfl rfl) ?_
    refine dl_r (sem_move rfl rfl) ?_
    refine dl_r (sem_len sl55 rfl rfl) ?_
    refine dl_r (sem_cmp rfl rfl rfl rfl) ?_
    refine dl_end ?_
    refine dw_true rfl ?_
    refine dw_skip ?_
    refine dw_seq ?_
    refine dw_block ?_
    refine dw_seq ?_
    -- region 4
    refine dw_region (by kernel_rfl) ?_
    refine dl_r (sem_move rfl rfl) ?_
    refine dl_r (sem_move rfl rfl) ?_
    refine dl_r (sem_index sl55 rfl rfl (by decide) rfl rfl rfl) ?_
    refine dl_r (sem_fieldq fd26_0 rfl rfl rfl) ?_
    refine dl_r (sem_fieldq fd24_1 rfl rfl rfl) ?_
    refine dl_r (sem_loadq1 ty22 rfl rfl rfl) ?_
    refine dl_r (sem_len sl22 rfl rfl) ?_
    refine dl_r (sem_castb (sem_cmp rfl rfl rfl rfl) (len2 hf2.n 2 (by decide))) ?_
    refine dl_r (sem_move rfl rfl) ?_
    refine dl_r (sem_move rfl rfl) ?_
    refine dl_r (sem_move rfl rfl) ?_
    refine dl_r (sem_index sl55 rfl rfl (by decide) rfl rfl rfl) ?_
    refine dl_r (sem_fieldq fd26_1 rfl rfl rfl) ?_
    refine dl_r (sem_fieldq fd24_1 rfl rfl rfl) ?_
    refine dl_r (sem_loadq1 ty22 rfl rfl rfl) ?_
    refine dl_r (sem_len sl22 rfl rfl) ?_
    refine dl_r (sem_castb (sem_cmp rfl rfl rfl rfl) (len2 hf2.d 2 (by decide))) ?_
    refine dl_r (sem_pick rfl rfl rfl rfl) ?_
    refine dl_r (sem_move rfl rfl) ?_
    refine dl_r (sem_move rfl rfl) ?_
    refine dl_r (sem_move rfl rfl) ?_
    refine dl_r (sem_index sl55 rfl rfl (by decide) rfl rfl rfl) ?_
    refine dl_r (sem_loadq (us := cR f2) ty26 rfl rfl rfl rfl) ?_
    refine dl_r (sem_call rfl rfl (sValid_R (hf2.mono (by decide))) rfl) ?_
    refine dl_r (sem_not rfl rfl) ?_
    refine dl_r (sem_pick rfl rfl rfl rfl) ?_
    refine dl_end ?_
    refine dw_false rfl ?_
    refine dw_skip ?_
    -- region 3
    refine dw_region (by kernel_rfl) ?_
    refine dl_r (sem_move rfl rfl) ?_
    refine dl_r (sem_ari (r := 3) rfl rfl rfl rfl) ?_
    refine dl_r (sem_assign rfl rfl) ?_
    refine dl_end ?_
    exact ⟨3, sub_of ⟨rfl, rfl, rfl, trivial⟩ trivial rfl, by show 4 - 3 < 4 - 2; decide⟩
  | 3 =>
    show Dw _ _ ⟨36, [(0, .v (.c (.s 6 (cR f0 ++ cR f1 ++ cR f2 ++ cR f3 ++ cN r4 ++ cN r5)))), (2, .v (.c (.b false))), (3, .v (.c (.i .i64 3)))], []⟩ _
    refine dw_seq ?_
    refine dw_seq ?_
    -- region 2
    refine dw_region (by kernel_rfl) ?_
    refine dl_r (sem_move rfl rfl) ?_
    refine dl_r (sem_move rfl rfl) ?_
    refine dl_r (sem_len sl55 rfl rfl) ?_
    refine dl_r (sem_cmp rfl rfl rfl rfl) ?_
    refine dl_end ?_
    refine dw_true rfl ?_
    refine dw_skip ?_
    refine dw_seq ?_
    refine dw_block ?_
    refine dw_seq ?_
    -- region 4
    refine dw_region (by kernel_rfl) ?_
    refine dl_r (sem_move rfl rfl) ?_
    refine dl_r (sem_move rfl rfl) ?_
    refine dl_r (sem_index sl55 rfl rfl (by decide) rfl rfl rfl) ?_
    refine dl_r (sem_fieldq fd26_0 rfl rfl rfl) ?_
    refine dl_r (sem_fieldq fd24_1 rfl rfl rfl) ?_
    refine dl_r (sem_loadq1 ty22 rfl rfl rfl) ?_
    refine dl_r (sem_len sl22 rfl rfl) ?_
    refine dl_r (sem_castb (sem_cmp rfl rfl rfl rfl) (len2 hf3.n 2 (by decide))) ?_
    refine dl_r (sem_move rfl rfl) ?_
    refine dl_r (sem_move rfl rfl) ?_
    refine dl_r (sem_move rfl rfl) ?_
    refine dl_r (sem_index sl55 rfl rfl (by decide) rfl rfl rfl) ?_
    refine dl_r (sem_fieldq fd26_1 rfl rfl rfl) ?_
    refine dl_r (sem_fieldq fd24_1 rfl rfl rfl) ?_
    refine dl_r (sem_loadq1 ty22 rfl rfl rfl) ?_
    refine dl_r (sem_len sl22 rfl rfl) ?_
    refine dl_r (sem_castb (sem_cmp rfl rfl rfl rfl) (len2 hf3.d 2 (by decide))) ?_
    refine dl_r (sem_pick rfl rfl rfl rfl) ?_
    refine dl_r (sem_move rfl rfl) ?_
    refine dl_r (sem_move rfl rfl) ?_
    refine dl_r (sem_move rfl rfl) ?_
    refine dl_r (sem_index sl55 rfl rfl (by decide) rfl rfl rfl) ?_
    refine dl_r (sem_loadq (us := cR f3) ty26 rfl rfl rfl rfl) ?_
    refine dl_r (sem_call rfl rfl (sValid_R (hf3.mono (by decide))) rfl) ?_
    refine dl_r (sem_not rfl rfl) ?_
    refine dl_r (sem_pick rfl rfl rfl rfl) ?_
    refine dl_end ?_
    refine dw_false rfl ?_
    refine dw_skip ?_
    -- region 3
    refine dw_region (by kernel_rfl) ?_
    refine dl_r (sem_move rfl rfl) ?_
    refine dl_r (sem_ari (r := 4) rfl rfl rfl rfl) ?_
    refine dl_r (sem_assign rfl rfl) ?_
    refine dl_end ?_
    exact ⟨4, sub_of ⟨rfl, rfl, rfl, trivial⟩ trivial rfl, by show 4 - 4 < 4 - 3; decide⟩
  | z + 4 =>
    show Dw _ _ ⟨36, [(0, .v (.c (.s 6 (cR f0 ++ cR f1 ++ cR f2 ++ cR f3 ++ cN r4 ++ cN r5)))), (2, .v (.c (.b false))), (3, .v (.c (.i .i64 4)))], []⟩ _
    refine dw_seq ?_
    refine dw_seq ?_
    -- region 2
    refine dw_region (by kernel_rfl) ?_
    refine dl_r (sem_move rfl rfl) ?_
    refine dl_r (sem_move rfl rfl) ?_
    refine dl_r (sem_len sl55 rfl rfl) ?_
    refine dl_r (sem_cmp rfl rfl rfl rfl) ?_
    refine dl_end ?_
    refine dw_true rfl ?_
    refine dw_skip ?_
    refine dw_seq ?_
    refine dw_block ?_
    refine dw_seq ?_
    -- region 4
    refine dw_region (by kernel_rfl) ?_
    refine dl_r (sem_move rfl rfl) ?_
    refine dl_r (sem_move rfl rfl) ?_
    refine dl_r (sem_index sl55 rfl rfl (by decide) rfl rfl rfl) ?_
    refine dl_r (sem_fieldq fd26_0 rfl rfl rfl) ?_
    refine dl_r (sem_fieldq fd24_1 rfl rfl rfl) ?_
    refine dl_r (sem_loadq1 ty22 rfl rfl rfl) ?_
    refine dl_r (sem_len sl22 rfl rfl) ?_
    refine dl_r (sem_cmp rfl rfl rfl rfl) ?_
    refine dl_rb (sem_move rfl rfl) (fun c1 hb1 => ?_)
    cases c1
    · refine dl_r (sem_move rfl rfl) ?_
      refine dl_r (sem_move rfl rfl) ?_
      refine dl_r (sem_index sl55 rfl rfl (by decide) rfl rfl rfl) ?_
      refine dl_r (sem_fieldq fd26_1 rfl rfl rfl) ?_
      refine dl_r (sem_fieldq fd24_1 rfl rfl rfl) ?_
      refine dl_r (sem_loadq1 ty22 rfl rfl rfl) ?_
      refine dl_r (sem_len sl22 rfl rfl) ?_
      refine dl_r (sem_cmp rfl rfl rfl rfl) ?_
      refine dl_r (sem_pick rfl rfl rfl rfl) ?_
      refine dl_rb (sem_move rfl rfl) (fun c2 hb2 => ?_)
      cases c2
      · have q1 := dec_f hb1
        have q2 := dec_f hb2
        refine dl_r (sem_move rfl rfl) ?_
        refine dl_r (sem_move rfl rfl) ?_
        refine dl_r (sem_index sl55 rfl rfl (by decide) rfl rfl rfl) ?_
        refine dl_r (sem_loadq (us := cN r4) ty26 rfl rfl rfl rfl) ?_
        refine dl_r (sem_call rfl rfl (sValid_ok (by assumption) (by omega) (by omega)) rfl) ?_
        refine dl_r (sem_not rfl rfl) ?_
        refine dl_r (sem_pick rfl rfl rfl rfl) ?_
        refine dl_end ?_
        refine dw_cond rfl (fun hc3 => ?_) (fun hc3 => ?_)
        · refine dw_seq ?_
          -- region 5
          refine dw_region (by kernel_rfl) ?_
          refine dl_r (sem_assign rfl rfl) ?_
          refine dl_end ?_
          refine dw_ret ?_
          -- path L4ffT
          exact ⟨.inr rfl, (resL_tmp rfl resL_nil)⟩
        · exact absurd hk (by unfold RN.s; rw [not_f hc3, decide_eq_true (show (r4.x1.length : Int) ≤ 2 by omega), decide_eq_true (show (r4.x2.length : Int) ≤ 2 by omega)]; decide)
      · refine dl_skip (sem_skip rfl) ?_
        refine dl_skip (sem_skip rfl) ?_
        refine dl_skip (sem_skip rfl) ?_
        refine dl_skip (sem_skip rfl) ?_
        refine dl_skip (sem_skip rfl) ?_
        refine dl_skip (sem_skip rfl) ?_
        refine dl_r (sem_pick rfl rfl rfl rfl) ?_
        refine dl_end ?_
        refine dw_true rfl ?_
        refine dw_seq ?_
        -- region 5
        refine dw_region (by kernel_rfl) ?_
        refine dl_r (sem_assign rfl rfl) ?_
        refine dl_end ?_
        refine dw_ret ?_
        -- path L4ft
        exact ⟨.inr rfl, (resL_tmp rfl resL_nil)⟩
    · refine dl_skip (sem_skip rfl) ?_
      refine dl_skip (sem_skip rfl) ?_
      refine dl_skip (sem_skip rfl) ?_
      refine dl_skip (sem_skip rfl) ?_
      refine dl_skip (sem_skip rfl) ?_
      refine dl_skip (sem_skip rfl) ?_
      refine dl_skip (sem_skip rfl) ?_
      refine dl_skip (sem_skip rfl) ?_
      refine dl_r (sem_pick rfl rfl rfl rfl) ?_
      refine dl_r (sem_move rfl rfl) ?_
      refine dl_skip (sem_skip rfl) ?_
      refine dl_skip (sem_skip rfl) ?_
      refine dl_skip (sem_skip rfl) ?_
      refine dl_skip (sem_skip rfl) ?_
      refine dl_skip (sem_skip rfl) ?_
      refine dl_skip (sem_skip rfl) ?_
      refine dl_r (sem_pick rfl rfl rfl rfl) ?_
      refine dl_end ?_
      refine dw_true rfl ?_
      refine dw_seq ?_
      -- region 5
      refine dw_region (by kernel_rfl) ?_
      refine dl_r (sem_assign rfl rfl) ?_
      refine dl_end ?_
      refine dw_ret ?_
      -- path L4t
      exact ⟨.inr rfl, (resL_tmp rfl resL_nil)⟩
theorem few6_5 {f0 f1 f2 f3 f4 : Rat} (hf0 : Rz 2 f0) (hf1 : Rz 2 f1) (hf2 : Rz 2 f2) (hf3 : Rz 2 f3) (hf4 : Rz 2 f4) {r5 : RN} (wr5 : r5.Wf) (hk : r5.s 2 = false) : Ok Tryz.prog 8 [.c (.s 6 (cR f0 ++ cR f1 ++ cR f2 ++ cR f3 ++ cR f4 ++ cN r5))] [.c (.b false)] := by
  refine Ok.of (by kernel_rfl) Tryz.func8 rfl rfl ?_
  rw [show Tryz.f8.ntmps = 36 from rfl, show Tryz.f8.results.toList = [.tmp 2] from rfl]
  refine dw_seq ?_
  -- region 0
  refine dw_region (by kernel_rfl) ?_
  refine dl_r (sem_assign rfl rfl) ?_
  refine dl_end ?_
  refine dw_seq ?_
  refine dw_seq ?_
  -- region 1
  refine dw_region (by kernel_rfl) ?_
  refine dl_r (sem_assign rfl rfl) ?_
  refine dl_end ?_
  refine dw_block ?_
  refine dw_loop (ι := Nat) (fun i => match i with | 0 => ⟨36, [(0, .v (.c (.s 6 (cR f0 ++ cR f1 ++ cR f2 ++ cR f3 ++ cR f4 ++ cN r5)))), (2, .v (.c (.b false))), (3, .v (.c (.i .i64 0)))], []⟩ | 1 => ⟨36, [(0, .v (.c (.s 6 (cR f0 ++ cR f1 ++ cR f2 ++ cR f3 ++ cR f4 ++ cN r5)))), (2, .v (.c (.b false))), (3, .v (.c (.i .i64 1)))], []⟩ | 2 => ⟨36, [(0, .v (.c (.s 6 (cR f0 ++ cR f1 ++ cR f2 ++ cR f3 ++ cR f4 ++ cN r5)))), (2, .v (.c (.b false))), (3, .v (.c (.i .i64 2)))], []⟩ | 3 => ⟨36, [(0, .v (.c (.s 6 (cR f0 ++ cR f1 ++ cR f2 ++ cR f3 ++ cR f4 ++ cN r5)))), (2, .v (.c (.b false))), (3, .v (.c (.i .i64 3)))], []⟩ | 4 => ⟨36, [(0, .v (.c (.s 6 (cR f0 ++ cR f1 ++ cR f2 ++ cR f3 ++ cR f4 ++ cN r5)))), (2, .v (.c (.b false))), (3, .v (.c (.i .i64 4)))], []⟩ | _ + 5 => ⟨36, [(0, .v (.c (.s 6 (cR f0 ++ cR f1 ++ cR f2 ++ cR f3 ++ cR f4 ++ cN r5)))), (2, .v (.c (.b false))), (3, .v (.c (.i .i64 5)))], []⟩) (fun i => 5 - i) 0 (sub_of ⟨rfl, rfl, rfl, trivial⟩ trivial rfl) ?_
  intro i
  match i with
  | 0 =>
    show Dw _ _ ⟨36, [(0, .v (.c (.s 6 (cR f0 ++ cR f1 ++ cR f2 ++ cR f3 ++ cR f4 ++ cN r5)))), (2, .v (.c (.b false))), (3, .v (.c (.i .i64 0)))], []⟩ _
    refine dw_seq ?_
    refine dw_seq ?_
    -- region 2
    refine dw_region (by kernel_rfl) ?_
    refine dl_r (sem_move rfl rfl) ?_
    refine dl_r (sem_move rfl rfl) ?_
    refine dl_r (sem_len sl55 rfl rfl) ?_
    refine dl_r (sem_cmp rfl rfl rfl rfl) ?_
    refine dl_end ?_
    refine dw_true rfl ?_
    refine dw_skip ?_
    refine dw_seq ?_
    refine dw_block ?_
    refine dw_seq ?_
    -- region 4
    refine dw_region (by kernel_rfl) ?_
    refine dl_r (sem_move rfl rfl) ?_
    refine dl_r (sem_move rfl rfl) ?_
    refine dl_r (sem_index sl55 rfl rfl (by decide) rfl rfl rfl) ?_
    refine dl_r (sem_fieldq fd26_0 rfl rfl rfl) ?_
    refine dl_r (sem_fieldq fd24_1 rfl rfl rfl) ?_
    refine dl_r (sem_loadq1 ty22 rfl rfl rfl) ?_
    refine dl_r (sem_len sl22 rfl rfl) ?_
    refine dl_r (sem_castb (sem_cmp rfl rfl rfl rfl) (len2 hf0.n 2 (by decide))) ?_
    refine dl_r (sem_move rfl rfl) ?_
    refine dl_r (sem_move rfl rfl) ?_
    refine dl_r (sem_move rfl rfl) ?_
    refine dl_r (sem_index sl55 rfl rfl (by decide) rfl rfl rfl) ?_
    refine dl_r (sem_fieldq fd26_1 rfl rfl rfl) ?_
    refine dl_r (sem_fieldq fd24_1 rfl rfl rfl) ?_
    refine dl_r (sem_loadq1 ty22 rfl rfl rfl) ?_
    refine dl_r (sem_len sl22 rfl rfl) ?_
    refine dl_r (sem_castb (sem_cmp rfl rfl rfl rfl) (len2 hf0.d 2 (by decide))) ?_
    refine dl_r (sem_pick rfl rfl rfl rfl) ?_
    refine dl_r (sem_move rfl rfl) ?_
    refine dl_r (sem_move rfl rfl) ?_
    refine dl_r (sem_move rfl rfl) ?_
    refine dl_r (sem_index sl55 rfl rfl (by decide) rfl rfl rfl) ?_
    refine dl_r (sem_loadq (us := cR f0) ty26 rfl rfl rfl rfl) ?_
    refine dl_r (sem_call rfl rfl (sValid_R (hf0.mono (by decide))) rfl) ?_
    refine dl_r (sem_not rfl rfl) ?_
    refine dl_r (sem_pick rfl rfl rfl rfl) ?_
    refine dl_end ?_
    refine dw_false rfl ?_
    refine dw_skip ?_
    -- region 3
    refine dw_region (by kernel_rfl) ?_
    refine dl_r (sem_move rfl rfl) ?_
    refine dl_r (sem_ari (r := 1) rfl rfl rfl rfl) ?_
    refine dl_r (sem_assign rfl rfl) ?_
    refine dl_end ?_
    exact ⟨1, sub_of ⟨rfl, rfl, rfl, trivial⟩ trivial rfl, by show 5 - 1 < 5 - 0; decide⟩
  | 1 =>
    show Dw _ _ ⟨36, [(0, .v (.c (.s 6 (cR f0 ++ cR f1 ++ cR f2 ++ cR f3 ++ cR f4 ++ cN r5)))), (2, .v (.c (.b false))), (3, .v (.c (.i .i64 1)))], []⟩ _
    refine dw_seq ?_
    refine dw_seq ?_
    -- region 2
    refine dw_region (by kernel_rfl) ?_
    refine dl_r (sem_move rfl rfl) ?_
    refine dl_r (sem_move rfl rfl) ?_
    refine dl_r (sem_len sl55 rfl rfl) ?_
    refine dl_r (sem_cmp rfl rfl rfl rfl) ?_
    refine dl_end ?_
    refine dw_true rfl ?_
    refine dw_skip ?_
    refine dw_seq ?_
    refine dw_block ?_
    refine dw_seq ?_
    -- region 4
    refine dw_region (by kernel_rfl) ?_
    refine dl_r (sem_move rfl rfl) ?_
    refine dl_r (sem_move rfl rfl) ?_
    refine dl_r (sem_index sl55 rfl rfl (by decide) rfl rfl rfl) ?_
    refine dl_r (sem_fieldq fd26_0 rfl rfl rfl) ?_
    refine dl_r (sem_fieldq fd24_1 rfl rfl rfl) ?_
    refine dl_r (sem_loadq1 ty22 rfl rfl rfl) ?_
    refine dl_r (sem_len sl22 rfl rfl) ?_
    refine dl_r (sem_castb (sem_cmp rfl rfl rfl rfl) (len2 hf1.n 2 (by decide))) ?_
    refine dl_r (sem_move rfl rfl) ?_
    refine dl_r (sem_move rfl rfl) ?_
    refine dl_r (sem_move rfl rfl) ?_
    refine dl_r (sem_index sl55 rfl rfl (by decide) rfl rfl rfl) ?_
    refine dl_r (sem_fieldq fd26_1 rfl rfl rfl) ?_
    refine dl_r (sem_fieldq fd24_1 rfl rfl rfl) ?_
    refine dl_r (sem_loadq1 ty22 rfl rfl rfl) ?_
    refine dl_r (sem_len sl22 rfl rfl) ?_
    refine dl_r (sem_castb (sem_cmp rfl rfl rfl rfl) (len2 hf1.d 2 (by decide))) ?_
    refine dl_r (sem_pick rfl rfl rfl rfl) ?_
    refine dl_r (sem_move rfl rfl) ?_
    refine dl_r (sem_move rfl rfl) ?_
    refine dl_r (sem_move rfl rfl) ?_
    refine dl_r (sem_index sl55 rfl rfl (by decide) rfl rfl rfl) ?_
    refine dl_r (sem_loadq (us := cR f1) ty26 rfl rfl rfl rfl) ?_
    refine dl_r (sem_call rfl rfl (sValid_R (hf1.mono (by decide))) rfl) ?_
    refine dl_r (sem_not rfl rfl) ?_
    refine dl_r (sem_pick rfl rfl rfl rfl) ?_
    refine dl_end ?_
    refine dw_false rfl ?_
    refine dw_skip ?_
    -- region 3
    refine dw_region (by kernel_rfl) ?_
    refine dl_r (sem_move rfl rfl) ?_
    refine dl_r (sem_ari (r := 2) rfl rfl rfl rfl) ?_
    refine dl_r (sem_assign rfl rfl) ?_
    refine dl_end ?_
    exact ⟨2, sub_of ⟨rfl, rfl, rfl, trivial⟩ trivial rfl, by show 5 - 2 < 5 - 1; decide⟩
  | 2 =>
    show Dw _ _ ⟨36, [(0, .v (.c (.s 6 (cR f0 ++ cR f1 ++ cR f2 ++ cR f3 ++ cR f4 ++ cN r5)))), (2, .v (.c (.b false))), (3, .v (.c (.i .i64 2)))], []⟩ _
    refine dw_seq ?_
    refine dw_seq ?_
    -- region 2
    refine dw_region (by kernel_rfl) ?_
    refine dl_r (sem_move rfl rfl) ?_
    refine dl_r (sem_move rfl rfl) ?_
    refine dl_r (sem_len sl55 rfl rfl) ?_
    refine dl_r (sem_cmp rfl rfl rfl rfl) ?_
    refine dl_end ?_
    refine dw_true rfl ?_
    refine dw_skip ?_
    refine dw_seq ?_
    refine dw_block ?_
    refine dw_seq ?_
    -- region 4
    refine dw_region (by kernel_rfl) ?_
    refine dl_r (sem_move rfl rfl) ?_
    refine dl_r (sem_move rfl rfl) ?_
    refine dl_r (sem_index sl55 rfl rfl (by decide) rfl rfl rfl) ?_
    refine dl_r (sem_fieldq fd26_0 rfl rfl rfl) ?_
    refine dl_r (sem_fieldq fd24_1 rfl rfl rfl) ?_
    refine dl_r (sem_loadq1 ty22 rfl rfl rfl) ?_
    refine dl_r (sem_len sl22 rfl rfl) ?_
    refine dl_r (sem_castb (sem_cmp rfl rfl rfl rfl) (len2 hf2.n 2 (by decide))) ?_
    refine dl_r (sem_move rfl rfl) ?_
    refine dl_r (sem_move rfl rfl) ?_
    refine dl_r (sem_move rfl rfl) ?_
    refine dl_r (sem_index sl55 rfl rfl (by decide) rfl rfl rfl) ?_
    refine dl_r (sem_fieldq fd26_1 rfl rfl rfl) ?_
    refine dl_r (sem_fieldq fd24_1 rfl rfl rfl) ?_
    refine dl_r (sem_loadq1 ty22 rfl rfl rfl) ?_
    refine dl_r (sem_len sl22 rfl rfl) ?_
    refine dl_r (sem_castb (sem_cmp rfl rfl rfl rfl) (len2 hf2.d 2 (by decide))) ?_
    refine dl_r (sem_pick rfl rfl rfl rfl) ?_
    refine dl_r (sem_move rfl rfl) ?_
    refine dl_r (sem_move rfl rfl) ?_
    refine dl_r (sem_move rfl rfl) ?_
    refine dl_r (sem_index sl55 rfl rfl (by decide) rfl rfl rfl) ?_
    refine dl_r (sem_loadq (us := cR f2) ty26 rfl rfl rfl rfl) ?_
    refine dl_r (sem_call rfl rfl (sValid_R (hf2.mono (by decide))) rfl) ?_
    refine dl_r (sem_not rfl rfl) ?_
    refine dl_r (sem_pick rfl rfl rfl rfl) ?_
    refine dl_end ?_
    refine dw_false rfl ?_
    refine dw_skip ?_
    -- region 3
    refine dw_region (by kernel_rfl) ?_
    refine dl_r (sem_move rfl rfl) ?_
    refine dl_r (sem_ari (r := 3) rfl rfl rfl rfl) ?_
    refine dl_r (sem_assign rfl rfl) ?_
    refine dl_end ?_
    exact ⟨3, sub_of ⟨rfl, rfl, rfl, trivial⟩ trivial rfl, by show 5 - 3 < 5 - 2; decide⟩
  | 3 =>
    show Dw _ _ ⟨36, [(0, .v (.c (.s 6 (cR f0 ++ cR f1 ++ cR f2 ++ cR f3 ++ cR f4 ++ cN r5)))), (2, .v (.c (.b false))), (3, .v (.c (.i .i64 3)))], []⟩ _
    refine dw_seq ?_
    refine dw_seq ?_
    -- region 2
    refine dw_region (by kernel_rfl) ?_
    refine dl_r (sem_move rfl rfl) ?_
    refine dl_r (sem_move rfl rfl) ?_
    refine dl_r (sem_len sl55 rfl rfl) ?_
    refine dl_r (sem_cmp rfl rfl rfl rfl) ?_
    refine dl_end ?_
    refine dw_true rfl ?_
    refine dw_skip ?_
    refine dw_seq ?_
    refine dw_block ?_
    refine dw_seq ?_
    -- region 4
    refine dw_region (by kernel_rfl) ?_
    refine dl_r (sem_move rfl rfl) ?_
    refine dl_r (sem_move rfl rfl) ?_
    refine dl_r (sem_index sl55 rfl rfl (by decide) rfl rfl rfl) ?_
    refine dl_r (sem_fieldq fd26_0 rfl rfl rfl) ?_
    refine dl_r (sem_fieldq fd24_1 rfl rfl rfl) ?_
    refine dl_r (sem_loadq1 ty22 rfl rfl rfl) ?_
    refine dl_r (sem_len sl22 rfl rfl) ?_
    refine dl_r (sem_castb (sem_cmp rfl rfl rfl rfl) (len2 hf3.n 2 (by decide))) ?_
    refine dl_r (sem_move rfl rfl) ?_
    refine dl_r (sem_move rfl rfl) ?_
    refine dl_r (sem_move rfl rfl) ?_
    refine dl_r (sem_index sl55 rfl rfl (by decide) rfl rfl rfl) ?_
    refine dl_r (sem_fieldq fd26_1 rfl rfl rfl) ?_
    refine dl_r (sem_fieldq fd24_1 rfl rfl rfl) ?_
    refine dl_r (sem_loadq1 ty22 rfl rfl rfl) ?_
    refine dl_r (sem_len sl22 rfl rfl) ?_
    refine dl_r (sem_castb (sem_cmp rfl rfl rfl rfl) (len2 hf3.d 2 (by decide))) ?_
    refine dl_r (sem_pick rfl rfl rfl rfl) ?_
    refine dl_r (sem_move rfl rfl) ?_
    refine dl_r (sem_move rfl rfl) ?_
    refine dl_r (sem_move rfl rfl) ?_
    refine dl_r (sem_index sl55 rfl rfl (by decide) rfl rfl rfl) ?_
    refine dl_r (sem_loadq (us := cR f3) ty26 rfl rfl rfl rfl) ?_
    refine dl_r (sem_call rfl rfl (sValid_R (hf3.mono (by decide))) rfl) ?_
    refine dl_r (sem_not rfl rfl) ?_
    refine dl_r (sem_pick rfl rfl rfl rfl) ?_
    refine dl_end ?_
    refine dw_false rfl ?_
    refine dw_skip ?_
    -- region 3
    refine dw_region (by kernel_rfl) ?_
    refine dl_r (sem_move rfl rfl) ?_
    refine dl_r (sem_ari (r := 4) rfl rfl rfl rfl) ?_
    refine dl_r (sem_assign rfl rfl) ?_
    refine dl_end ?_
    exact ⟨4, sub_of ⟨rfl, rfl, rfl, trivial⟩ trivial rfl, by show 5 - 4 < 5 - 3; decide⟩
  | 4 =>
    show Dw _ _ ⟨36, [(0, .v (.c (.s 6 (cR f0 ++ cR f1 ++ cR f2 ++ cR f3 ++ cR f4 ++ cN r5)))), (2, .v (.c (.b false))), (3, .v (.c (.i .i64 4)))], []⟩ _
    refine dw_seq ?_
    refine dw_seq ?_
    -- region 2
    refine dw_region (by kernel_rfl) ?_
    refine dl_r (sem_move rfl rfl) ?_
    refine dl_r (sem_move rfl rfl) ?_
    refine dl_r (sem_len sl55 rfl rfl) ?_
    refine dl_r (sem_cmp rfl rfl rfl rfl) ?_
    refine dl_end ?_
    refine dw_true rfl ?_
    refine dw_skip ?_
    refine dw_seq ?_
    refine dw_block ?_
    refine dw_seq ?_
    -- region 4
    refine dw_region (by kernel_rfl) ?_
    refine dl_r (sem_move rfl rfl) ?_
    refine dl_r (sem_move rfl rfl) ?_
    refine dl_r (sem_index sl55 rfl rfl (by decide) rfl rfl rfl) ?_
    refine dl_r (sem_fieldq fd26_0 rfl rfl rfl) ?_
    refine dl_r (sem_fieldq fd24_1 rfl rfl rfl) ?_
    refine dl_r (sem_loadq1 ty22 rfl rfl rfl) ?_
    refine dl_r (sem_len sl22 rfl rfl) ?_
    refine dl_r (sem_castb (sem_cmp rfl rfl rfl rfl) (len2 hf4.n 2 (by decide))) ?_
    refine dl_r (sem_move rfl rfl) ?_
    refine dl_r (sem_move rfl rfl) ?_
    refine dl_r (sem_move rfl rfl) ?_
    refine dl_r (sem_index sl55 rfl rfl (by decide) rfl rfl rfl) ?_
    refine dl_r (sem_fieldq fd26_1 rfl rfl rfl) ?_
    refine dl_r (sem_fieldq fd24_1 rfl rfl rfl) ?_
    refine dl_r (sem_loadq1 ty22 rfl rfl rfl) ?_
    refine dl_r (sem_len sl22 rfl rfl) ?_
    refine dl_r (sem_castb (sem_cmp rfl rfl rfl rfl) (len2 hf4.d 2 (by decide))) ?_
    refine dl_r (sem_pick rfl rfl rfl rfl) ?_
    refine dl_r (sem_move rfl rfl) ?_
    refine dl_r (sem_move rfl rfl) ?_
    refine dl_r (sem_move rfl rfl) ?_
    refine dl_r (sem_index sl55 rfl rfl (by decide) rfl rfl rfl) ?_
    refine dl_r (sem_loadq (us := cR f4) ty26 rfl rfl rfl rfl) ?_
    refine dl_r (sem_call rfl rfl (sValid_R (hf4.mono (by decide))) rfl) ?_
    refine dl_r (sem_not rfl rfl) ?_
    refine dl_r (sem_pick rfl rfl rfl rfl) ?_
    refine dl_end ?_
    refine dw_false rfl ?_
    refine dw_skip ?_
    -- region 3
    refine dw_region (by kernel_rfl) ?_
    refine dl_r (sem_move rfl rfl) ?_
    refine dl_r (sem_ari (r := 5) rfl rfl rfl rfl) ?_
    refine dl_r (sem_assign rfl rfl) ?_
    refine dl_end ?_
    exact ⟨5, sub_of ⟨rfl, rfl, rfl, trivial⟩ trivial rfl, by show 5 - 5 < 5 - 4; decide⟩
  | z + 5 =>
    show Dw _ _ ⟨36, [(0, .v (.c (.s 6 (cR f0 ++ cR f1 ++ cR f2 ++ cR f3 ++ cR f4 ++ cN r5)))), (2, .v (.c (.b false))), (3, .v (.c (.i .i64 5)))], []⟩ _
    refine dw_seq ?_
    refine dw_seq ?_
    -- region 2
    refine dw_region (by kernel_rfl) ?_
    refine dl_r (sem_move rfl rfl) ?_
    refine dl_r (sem_move rfl rfl) ?_
    refine dl_r (sem_len sl55 rfl rfl) ?_
    refine dl_r (sem_cmp rfl rfl rfl rfl) ?_
    refine dl_end ?_
    refine dw_true rfl ?_
    refine dw_skip ?_
    refine dw_seq ?_
    refine dw_block ?_
    refine dw_seq ?_
    -- region 4
    refine dw_region (by kernel_rfl) ?_
    refine dl_r (sem_move rfl rfl) ?_
    refine dl_r (sem_move rfl rfl) ?_
    refine dl_r (sem_index sl55 rfl rfl (by decide) rfl rfl rfl) ?_
    refine dl_r (sem_fieldq fd26_0 rfl rfl rfl) ?_
    refine dl_r (sem_fieldq fd24_1 rfl rfl rfl) ?_
    refine dl_r (sem_loadq1 ty22 rfl rfl rfl) ?_
    refine dl_r (sem_len sl22 rfl rfl) ?_
    refine dl_r (sem_cmp rfl rfl rfl rfl) ?_
    refine dl_rb (sem_move rfl rfl) (fun c1 hb1 => ?_)
    cases c1
    · refine dl_r (sem_move rfl rfl) ?_
      refine dl_r (sem_move rfl rfl) ?_
      refine dl_r (sem_index sl55 rfl rfl (by decide) rfl rfl rfl) ?_
      refine dl_r (sem_fieldq fd26_1 rfl rfl rfl) ?_
      refine dl_r (sem_fieldq fd24_1 rfl rfl rfl) ?_
      refine dl_r (sem_loadq1 ty22 rfl rfl rfl) ?_
      refine dl_r (sem_len sl22 rfl rfl) ?_
      refine dl_r (sem_cmp rfl rfl rfl rfl) ?_
      refine dl_r (sem_pick rfl rfl rfl rfl) ?_
      refine dl_rb (sem_move rfl rfl) (fun c2 hb2 => ?_)
      cases c2
      · have q1 := dec_f hb1
        have q2 := dec_f hb2
        refine dl_r (sem_move rfl rfl) ?_
        refine dl_r (sem_move rfl rfl) ?_
        refine dl_r (sem_index sl55 rfl rfl (by decide) rfl rfl rfl) ?_
        refine dl_r (sem_loadq (us := cN r5) ty26 rfl rfl rfl rfl) ?_
        refine dl_r (sem_call rfl rfl (sValid_ok (by assumption) (by omega) (by omega)) rfl) ?_
        refine dl_r (sem_not rfl rfl) ?_
        refine dl_r (sem_pick rfl rfl rfl rfl) ?_
        refine dl_end ?_
        refine dw_cond rfl (fun hc3 => ?_) (fun hc3 => ?_)
        · refine dw_seq ?_
          -- region 5
          refine dw_region (by kernel_rfl) ?_
          refine dl_r (sem_assign rfl rfl) ?_
          refine dl_end ?_
          refine dw_ret ?_
          -- path L5ffT
          exact ⟨.inr rfl, (resL_tmp rfl resL_nil)⟩
        · exact absurd hk (by unfold RN.s; rw [not_f hc3, decide_eq_true (show (r5.x1.length : Int) ≤ 2 by omega), decide_eq_true (show (r5.x2.length : Int) ≤ 2 by omega)]; decide)
      · refine dl_skip (sem_skip rfl) ?_
        refine dl_skip (sem_skip rfl) ?_
        refine dl_skip (sem_skip rfl) ?_
        refine dl_skip (sem_skip rfl) ?_
        refine dl_skip (sem_skip rfl) ?_
        refine dl_skip (sem_skip rfl) ?_
        refine dl_r (sem_pick rfl rfl rfl rfl) ?_
        refine dl_end ?_
        refine dw_true rfl ?_
        refine dw_seq ?_
        -- region 5
        refine dw_region (by kernel_rfl) ?_
        refine dl_r (sem_assign rfl rfl) ?_
        refine dl_end ?_
        refine dw_ret ?_
        -- path L5ft
        exact ⟨.inr rfl, (resL_tmp rfl resL_nil)⟩
    · refine dl_skip (sem_skip rfl) ?_
      refine dl_skip (sem_skip rfl) ?_
      refine dl_skip (sem_skip rfl) ?_
      refine dl_skip (sem_skip rfl) ?_
      refine dl_skip (sem_skip rfl) ?_
      refine dl_skip (sem_skip rfl) ?_
      refine dl_skip (sem_skip rfl) ?_
      refine dl_skip (sem_skip rfl) ?_
      refine dl_r (sem_pick rfl rfl rfl rfl) ?_
      refine dl_r (sem_move rfl rfl) ?_
      refine dl_skip (sem_skip rfl) ?_
      refine dl_skip (sem_skip rfl) ?_
      refine dl_skip (sem_skip rfl) ?_
      refine dl_skip (sem_skip rfl) ?_
      refine dl_skip (sem_skip rfl) ?_
      refine dl_skip (sem_skip rfl) ?_
      refine dl_r (sem_pick rfl rfl rfl rfl) ?_
      refine dl_end ?_
      refine dw_true rfl ?_
      refine dw_seq ?_
      -- region 5
      refine dw_region (by kernel_rfl) ?_
      refine dl_r (sem_assign rfl rfl) ?_
      refine dl_end ?_
      refine dw_ret ?_
      -- path L5t
      exact ⟨.inr rfl, (resL_tmp rfl resL_nil)⟩
theorem few6_all {f0 f1 f2 f3 f4 f5 : Rat} (hf0 : Rz 2 f0) (hf1 : Rz 2 f1) (hf2 : Rz 2 f2) (hf3 : Rz 2 f3) (hf4 : Rz 2 f4) (hf5 : Rz 2 f5)  : Ok Tryz.prog 8 [.c (.s 6 (cR f0 ++ cR f1 ++ cR f2 ++ cR f3 ++ cR f4 ++ cR f5))] [.c (.b true)] := by
  refine Ok.of (by kernel_rfl) Tryz.func8 rfl rfl ?_
  rw [show Tryz.f8.ntmps = 36 from rfl, show Tryz.f8.results.toList = [.tmp 2] from rfl]
  refine dw_seq ?_
  -- region 0
  refine dw_region (by kernel_rfl) ?_
  refine dl_r (sem_assign rfl rfl) ?_
  refine dl_end ?_
  refine dw_seq ?_
  refine dw_seq ?_
  -- region 1
  refine dw_region (by kernel_rfl) ?_
  refine dl_r (sem_assign rfl rfl) ?_
  refine dl_end ?_
  refine dw_block ?_
  refine dw_loop (ι := Nat) (fun i => match i with | 0 => ⟨36, [(0, .v (.c (.s 6 (cR f0 ++ cR f1 ++ cR f2 ++ cR f3 ++ cR f4 ++ cR f5)))), (2, .v (.c (.b false))), (3, .v (.c (.i .i64 0)))], []⟩ | 1 => ⟨36, [(0, .v (.c (.s 6 (cR f0 ++ cR f1 ++ cR f2 ++ cR f3 ++ cR f4 ++ cR f5)))), (2, .v (.c (.b false))), (3, .v (.c (.i .i64 1)))], []⟩ | 2 => ⟨36, [(0, .v (.c (.s 6 (cR f0 ++ cR f1 ++ cR f2 ++ cR f3 ++ cR f4 ++ cR f5)))), (2, .v (.c (.b false))), (3, .v (.c (.i .i64 2)))], []⟩ | 3 => ⟨36, [(0, .v (.c (.s 6 (cR f0 ++ cR f1 ++ cR f2 ++ cR f3 ++ cR f4 ++ cR f5)))), (2, .v (.c (.b false))), (3, .v (.c (.i .i64 3)))], []⟩ | 4 => ⟨36, [(0, .v (.c (.s 6 (cR f0 ++ cR f1 ++ cR f2 ++ cR f3 ++ cR f4 ++ cR f5)))), (2, .v (.c (.b false))), (3, .v (.c (.i .i64 4)))], []⟩ | 5 => ⟨36, [(0, .v (.c (.s 6 (cR f0 ++ cR f1 ++ cR f2 ++ cR f3 ++ cR f4 ++ cR f5)))), (2, .v (.c (.b false))), (3, .v (.c (.i .i64 5)))], []⟩ | _ + 6 => ⟨36, [(0, .v (.c (.s 6 (cR f0 ++ cR f1 ++ cR f2 ++ cR f3 ++ cR f4 ++ cR f5)))), (2, .v (.c (.b false))), (3, .v (.c (.i .i64 6)))], []⟩) (fun i => 6 - i) 0 (sub_of ⟨rfl, rfl, rfl, trivial⟩ trivial rfl) ?_
  intro i
  match i with
  | 0 =>
    show Dw _ _ ⟨36, [(0, .v (.c (.s 6 (cR f0 ++ cR f1 ++ cR f2 ++ cR f3 ++ cR f4 ++ cR f5)))), (2, .v (.c (.b false))), (3, .v (.c (.i .i64 0)))], []⟩ _
    refine dw_seq ?_
    refine dw_seq ?_
    -- region 2
    refine dw_region (by kernel_rfl) ?_
    refine dl_r (sem_move rfl rfl) ?_
    refine dl_r (sem_move rfl rfl) ?_
    refine dl_r (sem_len sl55 rfl rfl) ?_
    refine dl_r (sem_cmp rfl rfl rfl rfl) ?_
    refine dl_end ?_
    refine dw_true rfl ?_
    refine dw_skip ?_
    refine dw_seq ?_
    refine dw_block ?_
    refine dw_seq ?_
    -- region 4
    refine dw_region (by kernel_rfl) ?_
    refine dl_r (sem_move rfl rfl) ?_
    refine dl_r (sem_move rfl rfl) ?_
    refine dl_r (sem_index sl55 rfl rfl (by decide) rfl rfl rfl) ?_
    refine dl_r (sem_fieldq fd26_0 rfl rfl rfl) ?_
    refine dl_r (sem_fieldq fd24_1 rfl rfl rfl) ?_
    refine dl_r (sem_loadq1 ty22 rfl rfl rfl) ?_
    refine dl_r (sem_len sl22 rfl rfl) ?_
    refine dl_r (sem_castb (sem_cmp rfl rfl rfl rfl) (len2 hf0.n 2 (by decide))) ?_
    refine dl_r (sem_move rfl rfl) ?_
    refine dl_r (sem_move rfl rfl) ?_
    refine dl_r (sem_move rfl rfl) ?_
    refine dl_r (sem_index sl55 rfl rfl (by decide) rfl rfl rfl) ?_
    refine dl_r (sem_fieldq fd26_1 rfl rfl rfl) ?_
    refine dl_r (sem_fieldq fd24_1 rfl rfl rfl) ?_
    refine dl_r (sem_loadq1 ty22 rfl rfl rfl) ?_
    refine dl_r (sem_len sl22 rfl rfl) ?_
    refine dl_r (sem_castb (sem_cmp rfl rfl rfl rfl) (len2 hf0.d 2 (by decide))) ?_
    refine dl_r (sem_pick rfl rfl rfl rfl) ?_
    refine dl_r (sem_move rfl rfl) ?_
    refine dl_r (sem_move rfl rfl) ?_
    refine dl_r (sem_move rfl rfl) ?_
    refine dl_r (sem_index sl55 rfl rfl (by decide) rfl rfl rfl) ?_
    refine dl_r (sem_loadq (us := cR f0) ty26 rfl rfl rfl rfl) ?_
    refine dl_r (sem_call rfl rfl (sValid_R (hf0.mono (by decide))) rfl) ?_
    refine dl_r (sem_not rfl rfl) ?_
    refine dl_r (sem_pick rfl rfl rfl rfl) ?_
    refine dl_end ?_
    refine dw_false rfl ?_
    refine dw_skip ?_
    -- region 3
    refine dw_region (by kernel_rfl) ?_
    refine dl_r (sem_move rfl rfl) ?_
    refine dl_r (sem_ari (r := 1) rfl rfl rfl rfl) ?_
    refine dl_r (sem_assign rfl rfl) ?_
    refine dl_end ?_
    exact ⟨1, sub_of ⟨rfl, rfl, rfl, trivial⟩ trivial rfl, by show 6 - 1 < 6 - 0; decide⟩
  | 1 =>
    show Dw _ _ ⟨36, [(0, .v (.c (.s 6 (cR f0 ++ cR f1 ++ cR f2 ++ cR f3 ++ cR f4 ++ cR f5)))), (2, .v (.c (.b false))), (3, .v (.c (.i .i64 1)))], []⟩ _
    refine dw_seq ?_
    refine dw_seq ?_
    -- region 2
    refine dw_region (by kernel_rfl) ?_
    refine dl_r (sem_move rfl rfl) ?_
    refine dl_r (sem_move rfl rfl) ?_
    refine dl_r (sem_len sl55 rfl rfl) ?_
    refine dl_r (sem_cmp rfl rfl rfl rfl) ?_
    refine dl_end ?_
    refine dw_true rfl ?_
    refine dw_skip ?_
    refine dw_seq ?_
    refine dw_block ?_
    refine dw_seq ?_
    -- region 4
    refine dw_region (by kernel_rfl) ?_
    refine dl_r (sem_move rfl rfl) ?_
    refine dl_r (sem_move rfl rfl) ?_
    refine dl_r (sem_index sl55 rfl rfl (by decide) rfl rfl rfl) ?_
    refine dl_r (sem_fieldq fd26_0 rfl rfl rfl) ?_
    refine dl_r (sem_fieldq fd24_1 rfl rfl rfl) ?_
    refine dl_r (sem_loadq1 ty22 rfl rfl rfl) ?_
    refine dl_r (sem_len sl22 rfl rfl) ?_
    refine dl_r (sem_castb (sem_cmp rfl rfl rfl rfl) (len2 hf1.n 2 (by decide))) ?_
    refine dl_r (sem_move rfl rfl) ?_
    refine dl_r (sem_move rfl rfl) ?_
    refine dl_r (sem_move rfl rfl) ?_
    refine dl_r (sem_index sl55 rfl rfl (by decide) rfl rfl rfl) ?_
    refine dl_r (sem_fieldq fd26_1 rfl rfl rfl) ?_
    refine dl_r (sem_fieldq fd24_1 rfl rfl rfl) ?_
    refine dl_r (sem_loadq1 ty22 rfl rfl rfl) ?_
    refine dl_r (sem_len sl22 rfl rfl) ?_
    refine dl_r (sem_castb (sem_cmp rfl rfl rfl rfl) (len2 hf1.d 2 (by decide))) ?_
    refine dl_r (sem_pick rfl rfl rfl rfl) ?_
    refine dl_r (sem_move rfl rfl) ?_
    refine dl_r (sem_move rfl rfl) ?_
    refine dl_r (sem_move rfl rfl) ?_
    refine dl_r (sem_index sl55 rfl rfl (by decide) rfl rfl rfl) ?_
    refine dl_r (sem_loadq (us := cR f1) ty26 rfl rfl rfl rfl) ?_
    refine dl_r (sem_call rfl rfl (sValid_R (hf1.mono (by decide))) rfl) ?_
    refine dl_r (sem_not rfl rfl) ?_
    refine dl_r (sem_pick rfl rfl rfl rfl) ?_
    refine dl_end ?_
    refine dw_false rfl ?_
    refine dw_skip ?_
    -- region 3
    refine dw_region (by kernel_rfl) ?_
    refine dl_r (sem_move rfl rfl) ?_
    refine dl_r (sem_ari (r := 2) rfl rfl rfl rfl) ?_
    refine dl_r (sem_assign rfl rfl) ?_
    refine dl_end ?_
    exact ⟨2, sub_of ⟨rfl, rfl, rfl, trivial⟩ trivial rfl, by show 6 - 2 < 6 - 1; decide⟩
  | 2 =>
    show Dw _ _ ⟨36, [(0, .v (.c (.s 6 (cR f0 ++ cR f1 ++ cR f2 ++ cR f3 ++ cR f4 ++ cR f5)))), (2, .v (.c (.b false))), (3, .v (.c (.i .i64 2)))], []⟩ _
    refine dw_seq ?_
    refine dw_seq ?_
    -- region 2
    refine dw_region (by kernel_rfl) ?_
    refine dl_r (sem_move rfl rfl) ?_
    refine dl_r (sem_move rfl rfl) ?_
    refine dl_r (sem_len sl55 rfl rfl) ?_
    refine dl_r (sem_cmp rfl rfl rfl rfl) ?_
    refine dl_end ?_
    refine dw_true rfl ?_
    refine dw_skip ?_
    refine dw_seq ?_
    refine dw_block ?_
    refine dw_seq ?_
    -- region 4
    refine dw_region (by kernel_rfl) ?_
    refine dl_r (sem_move rfl rfl) ?_
    refine dl_r (sem_move rfl rfl) ?_
    refine dl_r (sem_index sl55 rfl rfl (by decide) rfl rfl rfl) ?_
    refine dl_r (sem_fieldq fd26_0 rfl rfl rfl) ?_
    refine dl_r (sem_fieldq fd24_1 rfl rfl rfl) ?_
    refine dl_r (sem_loadq1 ty22 rfl rfl rfl) ?_
    refine dl_r (sem_len sl22 rfl rfl) ?_
    refine dl_r (sem_castb (sem_cmp rfl rfl rfl rfl) (len2 hf2.n 2 (by decide))) ?_
    refine dl_r (sem_move rfl rfl) ?_
    refine dl_r (sem_move rfl rfl) ?_
    refine dl_r (sem_move rfl rfl) ?_
    refine dl_r (sem_index sl55 rfl rfl (by decide) rfl rfl rfl) ?_
    refine dl_r (sem_fieldq fd26_1 rfl rfl rfl) ?_
    refine dl_r (sem_fieldq fd24_1 rfl rfl rfl) ?_
    refine dl_r (sem_loadq1 ty22 rfl rfl rfl) ?_
    refine dl_r (sem_len sl22 rfl rfl) ?_
    refine dl_r (sem_castb (sem_cmp rfl rfl rfl rfl) (len2 hf2.d 2 (by decide))) ?_
    refine dl_r (sem_pick rfl rfl rfl rfl) ?_
    refine dl_r (sem_move rfl rfl) ?_
    refine dl_r (sem_move rfl rfl) ?_
    refine dl_r (sem_move rfl rfl) ?_
    refine dl_r (sem_index sl55 rfl rfl (by decide) rfl rfl rfl) ?_
    refine dl_r (sem_loadq (us := cR f2) ty26 rfl rfl rfl rfl) ?_
    refine dl_r (sem_call rfl rfl (sValid_R (hf2.mono (by decide))) rfl) ?_
    refine dl_r (sem_not rfl rfl) ?_
    refine dl_r (sem_pick rfl rfl rfl rfl) ?_
    refine dl_end ?_
    refine dw_false rfl ?_
    refine dw_skip ?_
    -- region 3
    refine dw_region (by kernel_rfl) ?_
    refine dl_r (sem_move rfl rfl) ?_
    refine dl_r (sem_ari (r := 3) rfl rfl rfl rfl) ?_
    refine dl_r (sem_assign rfl rfl) ?_
    refine dl_end ?_
    exact ⟨3, sub_of ⟨rfl, rfl, rfl, trivial⟩ trivial rfl, by show 6 - 3 < 6 - 2; decide⟩
  | 3 =>
    show Dw _ _ ⟨36, [(0, .v (.c (.s 6 (cR f0 ++ cR f1 ++ cR f2 ++ cR f3 ++ cR f4 ++ cR f5)))), (2, .v (.c (.b false))), (3, .v (.c (.i .i64 3)))], []⟩ _
    refine dw_seq ?_
    refine dw_seq ?_
    -- region 2
    refine dw_region (by kernel_rfl) ?_
    refine dl_r (sem_move rfl rfl) ?_
    refine dl_r (sem_move rfl rfl) ?_
    refine dl_r (sem_len sl55 rfl rfl) ?_
    refine dl_r (sem_cmp rfl rfl rfl rfl) ?_
    refine dl_end ?_
    refine dw_true rfl ?_
    refine dw_skip ?_
    refine dw_seq ?_
    refine dw_block ?_
    refine dw_seq ?_
    -- region 4
    refine dw_region (by kernel_rfl) ?_
    refine dl_r (sem_move rfl rfl) ?_
    refine dl_r (sem_move rfl rfl) ?_
    refine dl_r (sem_index sl55 rfl rfl (by decide) rfl rfl rfl) ?_
    refine dl_r (sem_fieldq fd26_0 rfl rfl rfl) ?_
    refine dl_r (sem_fieldq fd24_1 rfl rfl rfl) ?_
    refine dl_r (sem_loadq1 ty22 rfl rfl rfl) ?_
    refine dl_r (sem_len sl22 rfl rfl) ?_
    refine dl_r (sem_castb (sem_cmp rfl rfl rfl rfl) (len2 hf3.n 2 (by decide))) ?_
    refine dl_r (sem_move rfl rfl) ?_
    refine dl_r (sem_move rfl rfl) ?_
    refine dl_r (sem_move rfl rfl) ?_
    refine dl_r (sem_index sl55 rfl rfl (by decide) rfl rfl rfl) ?_
    refine dl_r (sem_fieldq fd26_1 rfl rfl rfl) ?_
    refine dl_r (sem_fieldq fd24_1 rfl rfl rfl) ?_
    refine dl_r (sem_loadq1 ty22 rfl rfl rfl) ?_
    refine dl_r (sem_len sl22 rfl rfl) ?_
    refine dl_r (sem_castb (sem_cmp rfl rfl rfl rfl) (len2 hf3.d 2 (by decide))) ?_
    refine dl_r (sem_pick rfl rfl rfl rfl) ?_
    refine dl_r (sem_move rfl rfl) ?_
    refine dl_r (sem_move rfl rfl) ?_
    refine dl_r (sem_move rfl rfl) ?_
    refine dl_r (sem_index sl55 rfl rfl (by decide) rfl rfl rfl) ?_
    refine dl_r (sem_loadq (us := cR f3) ty26 rfl rfl rfl rfl) ?_
    refine dl_r (sem_call rfl rfl (sValid_R (hf3.mono (by decide))) rfl) ?_
    refine dl_r (sem_not rfl rfl) ?_
    refine dl_r (sem_pick rfl rfl rfl rfl) ?_
    refine dl_end ?_
    refine dw_false rfl ?_
    refine dw_skip ?_
    -- region 3
    refine dw_region (by kernel_rfl) ?_
    refine dl_r (sem_move rfl rfl) ?_
    refine dl_r (sem_ari (r := 4) rfl rfl rfl rfl) ?_
    refine dl_r (sem_assign rfl rfl) ?_
    refine dl_end ?_
    exact ⟨4, sub_of ⟨rfl, rfl, rfl, trivial⟩ trivial rfl, by show 6 - 4 < 6 - 3; decide⟩
  | 4 =>
    show Dw _ _ ⟨36, [(0, .v (.c (.s 6 (cR f0 ++ cR f1 ++ cR f2 ++ cR f3 ++ cR f4 ++ cR f5)))), (2, .v (.c (.b false))), (3, .v (.c (.i .i64 4)))], []⟩ _
    refine dw_seq ?_
    refine dw_seq ?_
    -- region 2
    refine dw_region (by kernel_rfl) ?_
    refine dl_r (sem_move rfl rfl) ?_
    refine dl_r (sem_move rfl rfl) ?_
    refine dl_r (sem_len sl55 rfl rfl) ?_
    refine dl_r (sem_cmp rfl rfl rfl rfl) ?_
    refine dl_end ?_
    refine dw_true rfl ?_
    refine dw_skip ?_
    refine dw_seq ?_
    refine dw_block ?_
    refine dw_seq ?_
    -- region 4
    refine dw_region (by kernel_rfl) ?_
    refine dl_r (sem_move rfl rfl) ?_
    refine dl_r (sem_move rfl rfl) ?_
    refine dl_r (sem_index sl55 rfl rfl (by decide) rfl rfl rfl) ?_
    refine dl_r (sem_fieldq fd26_0 rfl rfl rfl) ?_
    refine dl_r (sem_fieldq fd24_1 rfl rfl rfl) ?_
    refine dl_r (sem_loadq1 ty22 rfl rfl rfl) ?_
    refine dl_r (sem_len sl22 rfl rfl) ?_
    refine dl_r (sem_castb (sem_cmp rfl rfl rfl rfl) (len2 hf4.n 2 (by decide))) ?_
    refine dl_r (sem_move rfl rfl) ?_
    refine dl_r (sem_move rfl rfl) ?_
    refine dl_r (sem_move rfl rfl) ?_
    refine dl_r (sem_index sl55 rfl rfl (by decide) rfl rfl rfl) ?_
    refine dl_r (sem_fieldq fd26_1 rfl rfl rfl) ?_
    refine dl_r (sem_fieldq fd24_1 rfl rfl rfl) ?_
    refine dl_r (sem_loadq1 ty22 rfl rfl rfl) ?_
    refine dl_r (sem_len sl22 rfl rfl) ?_
    refine dl_r (sem_castb (sem_cmp rfl rfl rfl rfl) (len2 hf4.d 2 (by decide))) ?_
    refine dl_r (sem_pick rfl rfl rfl rfl) ?_
    refine dl_r (sem_move rfl rfl) ?_
    refine dl_r (sem_move rfl rfl) ?_
    refine dl_r (sem_move rfl rfl) ?_
    refine dl_r (sem_index sl55 rfl rfl (by decide) rfl rfl rfl) ?_
    refine dl_r (sem_loadq (us := cR f4) ty26 rfl rfl rfl rfl) ?_
    refine dl_r (sem_call rfl rfl (sValid_R (hf4.mono (by decide))) rfl) ?_
    refine dl_r (sem_not rfl rfl) ?_
    refine dl_r (sem_pick rfl rfl rfl rfl) ?_
    refine dl_end ?_
    refine dw_false rfl ?_
    refine dw_skip ?_
    -- region 3
    refine dw_region (by kernel_rfl) ?_
    refine dl_r (sem_move rfl rfl) ?_
    refine dl_r (sem_ari (r := 5) rfl rfl rfl rfl) ?_
    refine dl_r (sem_assign rfl rfl) ?_
    refine dl_end ?_
    exact ⟨5, sub_of ⟨rfl, rfl, rfl, trivial⟩ trivial rfl, by show 6 - 5 < 6 - 4; decide⟩
  | 5 =>
    show Dw _ _ ⟨36, [(0, .v (.c (.s 6 (cR f0 ++ cR f1 ++ cR f2 ++ cR f3 ++ cR f4 ++ cR f5)))), (2, .v (.c (.b false))), (3, .v (.c (.i .i64 5)))], []⟩ _
    refine dw_seq ?_
    refine dw_seq ?_
    -- region 2
    refine dw_region (by kernel_rfl) ?_
    refine dl_r (sem_move rfl rfl) ?_
    refine dl_r (sem_move rfl rfl) ?_
    refine dl_r (sem_len sl55 rfl rfl) ?_
    refine dl_r (sem_cmp rfl rfl rfl rfl) ?_
    refine dl_end ?_
    refine dw_true rfl ?_
    refine dw_skip ?_
    refine dw_seq ?_
    refine dw_block ?_
    refine dw_seq ?_
    -- region 4
    refine dw_region (by kernel_rfl) ?_
    refine dl_r (sem_move rfl rfl) ?_
    refine dl_r (sem_move rfl rfl) ?_
    refine dl_r (sem_index sl55 rfl rfl (by decide) rfl rfl rfl) ?_
    refine dl_r (sem_fieldq fd26_0 rfl rfl rfl) ?_
    refine dl_r (sem_fieldq fd24_1 rfl rfl rfl) ?_
    refine dl_r (sem_loadq1 ty22 rfl rfl rfl) ?_
    refine dl_r (sem_len sl22 rfl rfl) ?_
    refine dl_r (sem_castb (sem_cmp rfl rfl rfl rfl) (len2 hf5.n 2 (by decide))) ?_
    refine dl_r (sem_move rfl rfl) ?_
    refine dl_r (sem_move rfl rfl) ?_
    refine dl_r (sem_move rfl rfl) ?_
    refine dl_r (sem_index sl55 rfl rfl (by decide) rfl rfl rfl) ?_
    refine dl_r (sem_fieldq fd26_1 rfl rfl rfl) ?_
    refine dl_r (sem_fieldq fd24_1 rfl rfl rfl) ?_
    refine dl_r (sem_loadq1 ty22 rfl rfl rfl) ?_
    refine dl_r (sem_len sl22 rfl rfl) ?_
    refine dl_r (sem_castb (sem_cmp rfl rfl rfl rfl) (len2 hf5.d 2 (by decide))) ?_
    refine dl_r (sem_pick rfl rfl rfl rfl) ?_
    refine dl_r (sem_move rfl rfl) ?_
    refine dl_r (sem_move rfl rfl) ?_
    refine dl_r (sem_move rfl rfl) ?_
    refine dl_r (sem_index sl55 rfl rfl (by decide) rfl rfl rfl) ?_
    refine dl_r (sem_loadq (us := cR f5) ty26 rfl rfl rfl rfl) ?_
    refine dl_r (sem_call rfl rfl (sValid_R (hf5.mono (by decide))) rfl) ?_
    refine dl_r (sem_not rfl rfl) ?_
    refine dl_r (sem_pick rfl rfl rfl rfl) ?_
    refine dl_end ?_
    refine dw_false rfl ?_
    refine dw_skip ?_
    -- region 3
    refine dw_region (by kernel_rfl) ?_
    refine dl_r (sem_move rfl rfl) ?_
    refine dl_r (sem_ari (r := 6) rfl rfl rfl rfl) ?_
    refine dl_r (sem_assign rfl rfl) ?_
    refine dl_end ?_
    exact ⟨6, sub_of ⟨rfl, rfl, rfl, trivial⟩ trivial rfl, by show 6 - 6 < 6 - 5; decide⟩
  | z + 6 =>
    show Dw _ _ ⟨36, [(0, .v (.c (.s 6 (cR f0 ++ cR f1 ++ cR f2 ++ cR f3 ++ cR f4 ++ cR f5)))), (2, .v (.c (.b false))), (3, .v (.c (.i .i64 6)))], []⟩ _
    refine dw_seq ?_
    refine dw_seq ?_
    -- region 2
    refine dw_region (by kernel_rfl) ?_
    refine dl_r (sem_move rfl rfl) ?_
    refine dl_r (sem_move rfl rfl) ?_
    refine dl_r (sem_len sl55 rfl rfl) ?_
    refine dl_r (sem_cmp rfl rfl rfl rfl) ?_
    refine dl_end ?_
    refine dw_false rfl ?_
    refine dw_exit ?_
    refine dw_seq ?_
    -- region 6
    refine dw_region (by kernel_rfl) ?_
    refine dl_r (sem_assign rfl rfl) ?_
    refine dl_end ?_
    refine dw_ret ?_
    -- path L6
    exact ⟨.inr rfl, (resL_tmp rfl resL_nil)⟩
theorem few6 {r0 r1 r2 r3 r4 r5 : RN} (wr0 : r0.Wf) (wr1 : r1.Wf) (wr2 : r2.Wf) (wr3 : r3.Wf) (wr4 : r4.Wf) (wr5 : r5.Wf) : Ok Tryz.prog 8 [.c (.s 6 (cN r0 ++ cN r1 ++ cN r2 ++ cN r3 ++ cN r4 ++ cN r5))] [.c (.b false)] ∨ ∃ f0 f1 f2 f3 f4 f5 : Rat, Rz 2 f0 ∧ Rz 2 f1 ∧ Rz 2 f2 ∧ Rz 2 f3 ∧ Rz 2 f4 ∧ Rz 2 f5 ∧ cN r0 = cR f0 ∧ cN r1 = cR f1 ∧ cN r2 = cR f2 ∧ cN r3 = cR f3 ∧ cN r4 = cR f4 ∧ cN r5 = cR f5 ∧ Ok Tryz.prog 8 [.c (.s 6 (cR f0 ++ cR f1 ++ cR f2 ++ cR f3 ++ cR f4 ++ cR f5))] [.c (.b true)] := by
  cases h0 : r0.s 2 with
  | false => exact .inl (by exact few6_0  wr0 h0)
  | true =>
  obtain ⟨f0, g0, e0⟩ := s2_of wr0 h0
  cases h1 : r1.s 2 with
  | false => exact .inl (by rw [e0]; exact few6_1 g0 wr1 h1)
  | true =>
  obtain ⟨f1, g1, e1⟩ := s2_of wr1 h1
  cases h2 : r2.s 2 with
  | false => exact .inl (by rw [e0, e1]; exact few6_2 g0 g1 wr2 h2)
  | true =>
  obtain ⟨f2, g2, e2⟩ := s2_of wr2 h2
  cases h3 : r3.s 2 with
  | false => exact .inl (by rw [e0, e1, e2]; exact few6_3 g0 g1 g2 wr3 h3)
  | true =>
  obtain ⟨f3, g3, e3⟩ := s2_of wr3 h3
  cases h4 : r4.s 2 with
  | false => exact .inl (by rw [e0, e1, e2, e3]; exact few6_4 g0 g1 g2 g3 wr4 h4)
  | true =>
  obtain ⟨f4, g4, e4⟩ := s2_of wr4 h4
  cases h5 : r5.s 2 with
  | false => exact .inl (by rw [e0, e1, e2, e3, e4]; exact few6_5 g0 g1 g2 g3 g4 wr5 h5)
  | true =>
  obtain ⟨f5, g5, e5⟩ := s2_of wr5 h5
  exact .inr ⟨f0, f1, f2, f3, f4, f5, g0, g1, g2, g3, g4, g5, e0, e1, e2, e3, e4, e5, few6_all g0 g1 g2 g3 g4 g5⟩
end Go.Proofs.YtcbjmiddangfoaaGreat
/- RadicalSign: the law at all readings. -/
namespace Go.Proofs.YtcbjmiddangfoaaGreat
open Go Go.RowKit
theorem lwSg_A {x1 x2 x3 x4 x5 x6 : RN} (oF : Ok Tryz.prog 8 [.c (.s 6 (cN x1 ++ cN x2 ++ cN x3 ++ cN x4 ++ cN x5 ++ cN x6))] [.c (.b false)]) : Ok Tryz.prog 3 [.a (cN x1 ++ cN x2 ++ cN x3 ++ cN x4 ++ cN x5 ++ cN x6)] [.c (.b true)] := by
  refine Ok.of (by kernel_rfl) Tryz.func3 rfl rfl ?_
  rw [show Tryz.f3.ntmps = 28 from rfl, show Tryz.f3.results.toList = [.tmp 2] from rfl]
  refine dw_seq ?_
  -- region 0
  refine dw_region (by kernel_rfl) ?_
  refine dl_new (sem_box_a rfl rfl) rfl ?_
  refine dl_r (sem_assign rfl rfl) ?_
  refine dl_end ?_
  refine dw_seq ?_
  refine dw_seq ?_
  -- region 1
  refine dw_region (by kernel_rfl) ?_
  refine dl_r (sem_call rfl rfl (awake5_ok) rfl) ?_
  refine dl_r (sem_not rfl rfl) ?_
  refine dl_r (sem_move rfl rfl) ?_
  refine dl_r (sem_field fd28_0 rfl rfl) ?_
  refine dl_r (sem_load (us := cN x1) ty26 rfl rfl rfl rfl rfl) ?_
  refine dl_r (sem_field fd28_1 rfl rfl) ?_
  refine dl_r (sem_load (us := cN x2) ty26 rfl rfl rfl rfl rfl) ?_
  refine dl_r (sem_field fd28_2 rfl rfl) ?_
  refine dl_r (sem_load (us := cN x3) ty26 rfl rfl rfl rfl rfl) ?_
  refine dl_r (sem_field fd28_3 rfl rfl) ?_
  refine dl_r (sem_load (us := cN x4) ty26 rfl rfl rfl rfl rfl) ?_
  refine dl_r (sem_field fd28_4 rfl rfl) ?_
  refine dl_r (sem_load (us := cN x5) ty26 rfl rfl rfl rfl rfl) ?_
  refine dl_r (sem_field fd28_5 rfl rfl) ?_
  refine dl_r (sem_load (us := cN x6) ty26 rfl rfl rfl rfl rfl) ?_
  refine dl_r (sem_slit_D (n := 6) (us := cN x1 ++ cN x2 ++ cN x3 ++ cN x4 ++ cN x5 ++ cN x6) el55 rfl rfl rfl (by decide) (by decide) rfl) ?_
  refine dl_r (sem_call rfl rfl (oF) rfl) ?_
  refine dl_r (sem_not rfl rfl) ?_
  refine dl_r (sem_pick rfl rfl rfl rfl) ?_
  refine dl_end ?_
  refine dw_true rfl ?_
  refine dw_seq ?_
  -- region 2
  refine dw_region (by kernel_rfl) ?_
  refine dl_r (sem_call rfl rfl (awake5_ok) rfl) ?_
  refine dl_r (sem_assign rfl rfl) ?_
  refine dl_end ?_
  refine dw_ret ?_
  -- path 
  exact ⟨.inr rfl, (resL_tmp rfl resL_nil)⟩
theorem lwSg_B {A B C D M N : Rat} (hA : Rz 2 A) (hB : Rz 2 B) (hC : Rz 2 C) (hD : Rz 2 D) (hM : Rz 2 M) (hN : Rz 2 N) (oF : Ok Tryz.prog 8 [.c (.s 6 (cR A ++ cR B ++ cR C ++ cR D ++ cR M ++ cR N))] [.c (.b true)]) : Ok Tryz.prog 3 [.a (cR A ++ cR B ++ cR C ++ cR D ++ cR M ++ cR N)] [.c (.b (signQ A B C D M N == signQ A B C D M N))] := by
  have kA : Rz 8 A := hA.mono (by decide)
  have kB : Rz 8 B := hB.mono (by decide)
  have kC : Rz 8 C := hC.mono (by decide)
  have kD : Rz 8 D := hD.mono (by decide)
  have kM : Rz 8 M := hM.mono (by decide)
  have kN : Rz 8 N := hN.mono (by decide)
  refine Ok.of (by kernel_rfl) Tryz.func3 rfl rfl ?_
  rw [show Tryz.f3.ntmps = 28 from rfl, show Tryz.f3.results.toList = [.tmp 2] from rfl]
  refine dw_seq ?_
  -- region 0
  refine dw_region (by kernel_rfl) ?_
  refine dl_new (sem_box_a rfl rfl) rfl ?_
  refine dl_r (sem_assign rfl rfl) ?_
  refine dl_end ?_
  refine dw_seq ?_
  refine dw_seq ?_
  -- region 1
  refine dw_region (by kernel_rfl) ?_
  refine dl_r (sem_call rfl rfl (awake5_ok) rfl) ?_
  refine dl_r (sem_not rfl rfl) ?_
  refine dl_r (sem_move rfl rfl) ?_
  refine dl_r (sem_field fd28_0 rfl rfl) ?_
  refine dl_r (sem_load (us := cR A) ty26 rfl rfl rfl rfl rfl) ?_
  refine dl_r (sem_field fd28_1 rfl rfl) ?_
  refine dl_r (sem_load (us := cR B) ty26 rfl rfl rfl rfl rfl) ?_
  refine dl_r (sem_field fd28_2 rfl rfl) ?_
  refine dl_r (sem_load (us := cR C) ty26 rfl rfl rfl rfl rfl) ?_
  refine dl_r (sem_field fd28_3 rfl rfl) ?_
  refine dl_r (sem_load (us := cR D) ty26 rfl rfl rfl rfl rfl) ?_
  refine dl_r (sem_field fd28_4 rfl rfl) ?_
  refine dl_r (sem_load (us := cR M) ty26 rfl rfl rfl rfl rfl) ?_
  refine dl_r (sem_field fd28_5 rfl rfl) ?_
  refine dl_r (sem_load (us := cR N) ty26 rfl rfl rfl rfl rfl) ?_
  refine dl_r (sem_slit_D (n := 6) (us := cR A ++ cR B ++ cR C ++ cR D ++ cR M ++ cR N) el55 rfl rfl rfl (by decide) (by decide) rfl) ?_
  refine dl_r (sem_call rfl rfl (oF) rfl) ?_
  refine dl_r (sem_not rfl rfl) ?_
  refine dl_r (sem_pick rfl rfl rfl rfl) ?_
  refine dl_end ?_
  refine dw_false rfl ?_
  refine dw_skip ?_
  refine dw_seq ?_
  -- region 3
  refine dw_draw 6 [] follows_mixed (by kernel_rfl) rfl rfl ?_
  refine dq_r (sem_load (us := (cR A ++ cR B ++ cR C ++ cR D ++ cR M ++ cR N)) ty28 rfl rfl rfl rfl rfl) ?_
  refine dq_r (sem_call rfl rfl (xSignQ_ok (by assumption) (by assumption) (by assumption) (by assumption) (by assumption) (by assumption)) rfl) ?_
  refine dq_r (sem_load (us := (cR A ++ cR B ++ cR C ++ cR D ++ cR M ++ cR N)) ty28 rfl rfl rfl rfl rfl) ?_
  refine dq_r (sem_call rfl rfl (ySign_ok (by assumption) (by assumption) (by assumption) (by assumption) (by assumption) (by assumption)) rfl) ?_
  refine dq_r (sem_cmp rfl rfl rfl rfl) ?_
  refine dq_r (sem_assign rfl rfl) ?_
  refine dq_end ?_
  refine dl_start0 ?_
  refine dl_end ?_
  refine dw_ret ?_
  -- path 
  exact ⟨.inr rfl, (resL_tmp rfl resL_nil)⟩
end Go.Proofs.YtcbjmiddangfoaaGreat
/- RadicalSign: for every input the law returns true, and each argument reads behind the call as it read before. No condition. -/
namespace Go.Proofs.YtcbjmiddangfoaaGreat
open Go.ChangeShapes Go.WideShapes Go.ChangeAt Go.RowKit
theorem law_sign5 {x1 x2 x3 x4 x5 x6 : RN} (w1 : x1.Wf) (w2 : x2.Wf) (w3 : x3.Wf) (w4 : x4.Wf) (w5 : x5.Wf) (w6 : x6.Wf) :
    Ok Tryz.prog 3 [.a (cN x1 ++ cN x2 ++ cN x3 ++ cN x4 ++ cN x5 ++ cN x6)] [.c (.b true)] := by
  rcases few6 w1 w2 w3 w4 w5 w6 with h | ⟨A, B, C, D, M, N, g1, g2, g3, g4, g5, g6, e1, e2, e3, e4, e5, e6, h⟩
  · exact lwSg_A h
  · rw [e1, e2, e3, e4, e5, e6]
    exact rcastb (lwSg_B g1 g2 g3 g4 g5 g6 h) (by simp)
set_option maxRecDepth 100000 in
theorem sign5_lifted (os : Os) (started : os.Started) (H : Type) (enc : TypeId × Value → H) :
    ReturnsInHanded {} Tryz.checked os 3 .any (Rows.radicalSignSpec.pre6 enc Tryz.prog Tryz.f3 Rows.radicalSignRow.domain false) (Rows.radicalSignSpec.post enc Tryz.prog Tryz.f3 false true false false) := by
  refine returnsInHanded_of_change (C := Tryz.checked) own started (by kernel_rfl) Tryz.func3
    (ChangeSpec.witness6 (enc := enc) (C := Tryz.checked) false ⟨#[], #[.agg (Array.replicate 12 #[Value.bool false, .slice none 0 0]).flatten], []⟩ 8 (by kernel_rfl) (by kernel_rfl) (by kernel_rfl) (by kernel_rfl)) ?_
  intro W base args ds gs before hval0 hW hcnd _
  have hval : ∀ (j : Nat) t v, Tryz.f3.params[j]? = some t → args[j]? = some v → Value.okWide Tryz.prog W .any base t v := hval0
  have hW' := hW
  obtain ⟨p, q, hA0, hV, rfl, hfz, hnd⟩ := hW
  have hA : DataW.TrodAll enc Tryz.prog W 0 (fun _ => true) true Tryz.f3.params.toList args.toList ds p := hA0
  rw [Tryz.params3] at hA hval
  obtain ⟨v0, vs0, d0, ds0, p0, q0, hargs, rfl, rfl, h0, r0⟩ := trodAll_cons hA
  obtain ⟨rfl, rfl, rfl⟩ := trodAll_nil r0
  obtain rfl : args = #[v0] := by cases args; simp_all
  obtain ⟨rfl, rfl⟩ := trodVars_none hV
  obtain ⟨a0, rfl, _⟩ := okWide_struct Tryz.underlying28 (hval 0 28 v0 rfl rfl)
  have k0 := h0
  have lt0 : ∀ x ∈ p0, x.block < W.heap.size := by obtain ⟨m, hm⟩ := k0; exact DataW.trod_lt m _ _ _ hm
  obtain ⟨e00, e01, e02, e03, e04, e05, w00, w01, w02, w03, w04, w05, hr0⟩ := quad_of (show DataW.trod enc Tryz.prog W 0 _ _ h0.choose 28 a0.toList = some _ from h0.choose_spec)
  clear hA0 hval0
  refine (law_of (law_sign5 w00 w01 w02 w03 w04 w05) (RdL.cons ⟨a0, rfl, hr0⟩ RdL.nil)).mono fun e W' ⟨he, bel⟩ => ?_
  subst he
  exact ⟨_, rfl, _, _, _, [], _, [], hW', trodAll_mk1 (shut_bool Tryz.underlying4 _), (trodAll_cons_mk (Below.trod laidOut (by kernel_rfl) (of_decide_eq_true (by kernel_rfl)) k0 bel lt0) trodAll_mk0), rfl, bel.frame _, fun h => by cases h⟩
theorem sign5_proved : Rows.RadicalSignSaid :=
  OpenClaim.holds_of_wide 3 Tryz.f3 rfl rfl rfl rfl rfl rfl rfl ⟨rfl, rfl, rfl, rfl, rfl⟩ rfl rfl rfl rfl rfl (by kernel_rfl) Tryz.func3 (by kernel_rfl)
    (of_decide_eq_true (by kernel_rfl)) (by unfold Func.isWrapper; first | (rw [if_pos (by decide +kernel)]; kernel_rfl) | (rw [if_neg (by decide +kernel)]; exact ⟨rfl, rfl⟩))
    (fun os started H enc _ => sign5_lifted os started H enc)
end Go.Proofs.YtcbjmiddangfoaaGreat
