/- small: points in reduced form of few limbs. -/
import Derived.Test.YthpalcfhhicmgaaGreatMkN
namespace Go.Proofs.YthpalcfhhicmgaaGreat
open Go Go.RowKit
theorem sm1_A {x1 x2 x3 x4 x5 : RN} (wx1 : x1.Wf) (wx2 : x2.Wf) (wx3 : x3.Wf) (wx4 : x4.Wf) (wx5 : x5.Wf) (hv : (x1.s 3 && (x2.s 3 && (x3.s 3 && (x4.s 3 && x5.s 3)))) = false) : Ok Tryz.prog 19 [.c (.s 1 ((cN x1 ++ cN x2 ++ cN x3 ++ cN x4 ++ cN x5)))] [.c (.b false)] := by
  refine Ok.of (by kernel_rfl) Tryz.func19 rfl rfl ?_
  rw [show Tryz.f19.ntmps = 15 from rfl, show Tryz.f19.results.toList = [.tmp 2] from rfl]
  refine dw_seq ?_
  -- region 0
  refine dw_region (by kernel_rfl) ?_
  refine dl_r (sem_assign rfl rfl) ?_
  refine dl_end ?_
  refine dw_seq ?_
  refine dw_seq ?_
  -- region 1
  refine dw_region (by kernel_rfl) ?_
  refine dl_r (sem_move rfl rfl) ?_
  refine dl_r (sem_len sl82 rfl rfl) ?_
  refine dl_r (sem_move rfl rfl) ?_
  refine dl_end ?_
  refine dw_block ?_
  refine dw_loop (ι := Nat) (fun i => match i with | _ => ⟨15, [(2, .v (.c (.b false))), (5, .v (.c (.s 1 ((cN x1 ++ cN x2 ++ cN x3 ++ cN x4 ++ cN x5))))), (6, .v (.c (.i .i64 1))), (7, .v (.c (.i .i64 0)))], []⟩) (fun i => 0 - i) 0 (sub_of ⟨rfl, rfl, rfl, rfl, trivial⟩ trivial rfl) ?_
  intro i
  match i with
  | _ =>
    show Dw _ _ ⟨15, [(2, .v (.c (.b false))), (5, .v (.c (.s 1 ((cN x1 ++ cN x2 ++ cN x3 ++ cN x4 ++ cN x5))))), (6, .v (.c (.i .i64 1))), (7, .v (.c (.i .i64 0)))], []⟩ _
    refine dw_seq ?_
    -- region 2
    refine dw_region (by kernel_rfl) ?_
    refine dl_r (sem_cmp rfl rfl rfl rfl) ?_
    refine dl_end ?_
    refine dw_seq ?_
    refine dw_true rfl ?_
    refine dw_skip ?_
    refine dw_seq ?_
    refine dw_block ?_
    refine dw_seq ?_
    -- region 3
    refine dw_region (by kernel_rfl) ?_
    refine dl_r (sem_index sl82 rfl rfl (by decide) rfl rfl rfl) ?_
    refine dl_r (sem_loadq (us := (cN x1 ++ cN x2 ++ cN x3 ++ cN x4 ++ cN x5)) ty32 rfl rfl rfl rfl) ?_
    refine dl_new (sem_alloc zc32 rfl) rfl ?_
    refine dl_st (sem_store_a ty32 rfl rfl rfl rfl rfl rfl) ?_
    refine dl_end ?_
    refine dw_seq ?_
    -- region 4
    refine dw_region (by kernel_rfl) ?_
    refine dl_r (sem_load (us := (cN x1 ++ cN x2 ++ cN x3 ++ cN x4 ++ cN x5)) ty32 rfl rfl rfl rfl rfl) ?_
    refine dl_r (sem_call rfl rfl (rpSmallA (by assumption) (by assumption) (by assumption) (by assumption) (by assumption) (by decide) hv) rfl) ?_
    refine dl_r (sem_not rfl rfl) ?_
    refine dl_end ?_
    refine dw_true rfl ?_
    refine dw_seq ?_
    -- region 5
    refine dw_region (by kernel_rfl) ?_
    refine dl_r (sem_assign rfl rfl) ?_
    refine dl_end ?_
    refine dw_ret ?_
    -- path L0
    exact ⟨.inr rfl, (resL_tmp rfl resL_nil)⟩
theorem sm1_true {a1 b1 a2 b2 c : Rat} (ha1 : Rz 3 a1) (hb1 : Rz 3 b1) (ha2 : Rz 3 a2) (hb2 : Rz 3 b2) (hc : Rz 3 c) (v1 : vPt b1 b2 c = true) : Ok Tryz.prog 19 [.c (.s 1 ((cR a1 ++ cR b1 ++ cR a2 ++ cR b2 ++ cR c)))] [.c (.b true)] := by
  refine Ok.of (by kernel_rfl) Tryz.func19 rfl rfl ?_
  rw [show Tryz.f19.ntmps = 15 from rfl, show Tryz.f19.results.toList = [.tmp 2] from rfl]
  refine dw_seq ?_
  -- region 0
  refine dw_region (by kernel_rfl) ?_
  refine dl_r (sem_assign rfl rfl) ?_
  refine dl_end ?_
  refine dw_seq ?_
  refine dw_seq ?_
  -- region 1
  refine dw_region (by kernel_rfl) ?_
  refine dl_r (sem_move rfl rfl) ?_
  refine dl_r (sem_len sl82 rfl rfl) ?_
  refine dl_r (sem_move rfl rfl) ?_
  refine dl_end ?_
  refine dw_block ?_
  refine dw_loop (ι := Nat) (fun i => match i with | 0 => ⟨15, [(2, .v (.c (.b false))), (5, .v (.c (.s 1 ((cR a1 ++ cR b1 ++ cR a2 ++ cR b2 ++ cR c))))), (6, .v (.c (.i .i64 1))), (7, .v (.c (.i .i64 0)))], []⟩ | _ + 1 => ⟨15, [(2, .v (.c (.b false))), (5, .v (.c (.s 1 ((cR a1 ++ cR b1 ++ cR a2 ++ cR b2 ++ cR c))))), (6, .v (.c (.i .i64 1))), (7, .v (.c (.i .i64 1)))], []⟩) (fun i => 1 - i) 0 (sub_of ⟨rfl, rfl, rfl, rfl, trivial⟩ trivial rfl) ?_
  intro i
  match i with
  | 0 =>
    show Dw _ _ ⟨15, [(2, .v (.c (.b false))), (5, .v (.c (.s 1 ((cR a1 ++ cR b1 ++ cR a2 ++ cR b2 ++ cR c))))), (6, .v (.c (.i .i64 1))), (7, .v (.c (.i .i64 0)))], []⟩ _
    refine dw_seq ?_
    -- region 2
    refine dw_region (by kernel_rfl) ?_
    refine dl_r (sem_cmp rfl rfl rfl rfl) ?_
    refine dl_end ?_
    refine dw_seq ?_
    refine dw_true rfl ?_
    refine dw_skip ?_
    refine dw_seq ?_
    refine dw_block ?_
    refine dw_seq ?_
    -- region 3
    refine dw_region (by kernel_rfl) ?_
    refine dl_r (sem_index sl82 rfl rfl (by decide) rfl rfl rfl) ?_
    refine dl_r (sem_loadq (us := (cR a1 ++ cR b1 ++ cR a2 ++ cR b2 ++ cR c)) ty32 rfl rfl rfl rfl) ?_
    refine dl_new (sem_alloc zc32 rfl) rfl ?_
    refine dl_st (sem_store_a ty32 rfl rfl rfl rfl rfl rfl) ?_
    refine dl_end ?_
    refine dw_seq ?_
    -- region 4
    refine dw_region (by kernel_rfl) ?_
    refine dl_r (sem_load (us := (cR a1 ++ cR b1 ++ cR a2 ++ cR b2 ++ cR c)) ty32 rfl rfl rfl rfl rfl) ?_
    refine dl_r (sem_call rfl rfl (rcastb (rpSmall_R (k := 3) (by decide) (by assumption) (by assumption) (by assumption) (by assumption) (by assumption)) v1) rfl) ?_
    refine dl_r (sem_not rfl rfl) ?_
    refine dl_end ?_
    refine dw_false rfl ?_
    refine dw_skip ?_
    -- region 6
    refine dw_region (by kernel_rfl) ?_
    refine dl_r (sem_ari (r := 1) rfl rfl rfl rfl) ?_
    refine dl_r (sem_move rfl rfl) ?_
    refine dl_end ?_
    exact ⟨1, sub_of ⟨rfl, rfl, rfl, rfl, trivial⟩ trivial rfl, by show 1 - 1 < 1 - 0; decide⟩
  | z + 1 =>
    show Dw _ _ ⟨15, [(2, .v (.c (.b false))), (5, .v (.c (.s 1 ((cR a1 ++ cR b1 ++ cR a2 ++ cR b2 ++ cR c))))), (6, .v (.c (.i .i64 1))), (7, .v (.c (.i .i64 1)))], []⟩ _
    refine dw_seq ?_
    -- region 2
    refine dw_region (by kernel_rfl) ?_
    refine dl_r (sem_cmp rfl rfl rfl rfl) ?_
    refine dl_end ?_
    refine dw_seq ?_
    refine dw_false rfl ?_
    refine dw_exit ?_
    refine dw_seq ?_
    -- region 7
    refine dw_region (by kernel_rfl) ?_
    refine dl_r (sem_assign rfl rfl) ?_
    refine dl_end ?_
    refine dw_ret ?_
    -- path L1
    exact ⟨.inr rfl, (resL_tmp rfl resL_nil)⟩
theorem sm1_false {a1 b1 a2 b2 c : Rat} (ha1 : Rz 3 a1) (hb1 : Rz 3 b1) (ha2 : Rz 3 a2) (hb2 : Rz 3 b2) (hc : Rz 3 c) (v1 : vPt b1 b2 c = false) : Ok Tryz.prog 19 [.c (.s 1 ((cR a1 ++ cR b1 ++ cR a2 ++ cR b2 ++ cR c)))] [.c (.b false)] := by
  refine Ok.of (by kernel_rfl) Tryz.func19 rfl rfl ?_
  rw [show Tryz.f19.ntmps = 15 from rfl, show Tryz.f19.results.toList = [.tmp 2] from rfl]
  refine dw_seq ?_
  -- region 0
  refine dw_region (by kernel_rfl) ?_
  refine dl_r (sem_assign rfl rfl) ?_
  refine dl_end ?_
  refine dw_seq ?_
  refine dw_seq ?_
  -- region 1
  refine dw_region (by kernel_rfl) ?_
  refine dl_r (sem_move rfl rfl) ?_
  refine dl_r (sem_len sl82 rfl rfl) ?_
  refine dl_r (sem_move rfl rfl) ?_
  refine dl_end ?_
  refine dw_block ?_
  refine dw_loop (ι := Nat) (fun i => match i with | _ => ⟨15, [(2, .v (.c (.b false))), (5, .v (.c (.s 1 ((cR a1 ++ cR b1 ++ cR a2 ++ cR b2 ++ cR c))))), (6, .v (.c (.i .i64 1))), (7, .v (.c (.i .i64 0)))], []⟩) (fun i => 0 - i) 0 (sub_of ⟨rfl, rfl, rfl, rfl, trivial⟩ trivial rfl) ?_
  intro i
  match i with
  | _ =>
    show Dw _ _ ⟨15, [(2, .v (.c (.b false))), (5, .v (.c (.s 1 ((cR a1 ++ cR b1 ++ cR a2 ++ cR b2 ++ cR c))))), (6, .v (.c (.i .i64 1))), (7, .v (.c (.i .i64 0)))], []⟩ _
    refine dw_seq ?_
    -- region 2
    refine dw_region (by kernel_rfl) ?_
    refine dl_r (sem_cmp rfl rfl rfl rfl) ?_
    refine dl_end ?_
    refine dw_seq ?_
    refine dw_true rfl ?_
    refine dw_skip ?_
    refine dw_seq ?_
    refine dw_block ?_
    refine dw_seq ?_
    -- region 3
    refine dw_region (by kernel_rfl) ?_
    refine dl_r (sem_index sl82 rfl rfl (by decide) rfl rfl rfl) ?_
    refine dl_r (sem_loadq (us := (cR a1 ++ cR b1 ++ cR a2 ++ cR b2 ++ cR c)) ty32 rfl rfl rfl rfl) ?_
    refine dl_new (sem_alloc zc32 rfl) rfl ?_
    refine dl_st (sem_store_a ty32 rfl rfl rfl rfl rfl rfl) ?_
    refine dl_end ?_
    refine dw_seq ?_
    -- region 4
    refine dw_region (by kernel_rfl) ?_
    refine dl_r (sem_load (us := (cR a1 ++ cR b1 ++ cR a2 ++ cR b2 ++ cR c)) ty32 rfl rfl rfl rfl rfl) ?_
    refine dl_r (sem_call rfl rfl (rcastb (rpSmall_R (k := 3) (by decide) (by assumption) (by assumption) (by assumption) (by assumption) (by assumption)) v1) rfl) ?_
    refine dl_r (sem_not rfl rfl) ?_
    refine dl_end ?_
    refine dw_true rfl ?_
    refine dw_seq ?_
    -- region 5
    refine dw_region (by kernel_rfl) ?_
    refine dl_r (sem_assign rfl rfl) ?_
    refine dl_end ?_
    refine dw_ret ?_
    -- path L0
    exact ⟨.inr rfl, (resL_tmp rfl resL_nil)⟩
theorem sm2_A {x1 x2 x3 x4 x5 y1 y2 y3 y4 y5 : RN} (wx1 : x1.Wf) (wx2 : x2.Wf) (wx3 : x3.Wf) (wx4 : x4.Wf) (wx5 : x5.Wf) (hv : (x1.s 3 && (x2.s 3 && (x3.s 3 && (x4.s 3 && x5.s 3)))) = false) : Ok Tryz.prog 19 [.c (.s 2 ((cN x1 ++ cN x2 ++ cN x3 ++ cN x4 ++ cN x5) ++ (cN y1 ++ cN y2 ++ cN y3 ++ cN y4 ++ cN y5)))] [.c (.b false)] := by
  refine Ok.of (by kernel_rfl) Tryz.func19 rfl rfl ?_
  rw [show Tryz.f19.ntmps = 15 from rfl, show Tryz.f19.results.toList = [.tmp 2] from rfl]
  refine dw_seq ?_
  -- region 0
  refine dw_region (by kernel_rfl) ?_
  refine dl_r (sem_assign rfl rfl) ?_
  refine dl_end ?_
  refine dw_seq ?_
  refine dw_seq ?_
  -- region 1
  refine dw_region (by kernel_rfl) ?_
  refine dl_r (sem_move rfl rfl) ?_
  refine dl_r (sem_len sl82 rfl rfl) ?_
  refine dl_r (sem_move rfl rfl) ?_
  refine dl_end ?_
  refine dw_block ?_
  refine dw_loop (ι := Nat) (fun i => match i with | _ => ⟨15, [(2, .v (.c (.b false))), (5, .v (.c (.s 2 ((cN x1 ++ cN x2 ++ cN x3 ++ cN x4 ++ cN x5) ++ (cN y1 ++ cN y2 ++ cN y3 ++ cN y4 ++ cN y5))))), (6, .v (.c (.i .i64 2))), (7, .v (.c (.i .i64 0)))], []⟩) (fun i => 0 - i) 0 (sub_of ⟨rfl, rfl, rfl, rfl, trivial⟩ trivial rfl) ?_
  intro i
  match i with
  | _ =>
    show Dw _ _ ⟨15, [(2, .v (.c (.b false))), (5, .v (.c (.s 2 ((cN x1 ++ cN x2 ++ cN x3 ++ cN x4 ++ cN x5) ++ (cN y1 ++ cN y2 ++ cN y3 ++ cN y4 ++ cN y5))))), (6, .v (.c (.i .i64 2))), (7, .v (.c (.i .i64 0)))], []⟩ _
    refine dw_seq ?_
    -- region 2
    refine dw_region (by kernel_rfl) ?_
    refine dl_r (sem_cmp rfl rfl rfl rfl) ?_
    refine dl_end ?_
    refine dw_seq ?_
    refine dw_true rfl ?_
    refine dw_skip ?_
    refine dw_seq ?_
    refine dw_block ?_
    refine dw_seq ?_
    -- region 3
    refine dw_region (by kernel_rfl) ?_
    refine dl_r (sem_index sl82 rfl rfl (by decide) rfl rfl rfl) ?_
    refine dl_r (sem_loadq (us := (cN x1 ++ cN x2 ++ cN x3 ++ cN x4 ++ cN x5)) ty32 rfl rfl rfl rfl) ?_
    refine dl_new (sem_alloc zc32 rfl) rfl ?_
    refine dl_st (sem_store_a ty32 rfl rfl rfl rfl rfl rfl) ?_
    refine dl_end ?_
    refine dw_seq ?_
    -- region 4
    refine dw_region (by kernel_rfl) ?_
    refine dl_r (sem_load (us := (cN x1 ++ cN x2 ++ cN x3 ++ cN x4 ++ cN x5)) ty32 rfl rfl rfl rfl rfl) ?_
    refine dl_r (sem_call rfl rfl (rpSmallA (by assumption) (by assumption) (by assumption) (by assumption) (by assumption) (by decide) hv) rfl) ?_
    refine dl_r (sem_not rfl rfl) ?_
    refine dl_end ?_
    refine dw_true rfl ?_
    refine dw_seq ?_
    -- region 5
    refine dw_region (by kernel_rfl) ?_
    refine dl_r (sem_assign rfl rfl) ?_
    refine dl_end ?_
    refine dw_ret ?_
    -- path L0
    exact ⟨.inr rfl, (resL_tmp rfl resL_nil)⟩
theorem sm2_B {y1 y2 y3 y4 y5 : RN} {a1 b1 a2 b2 c : Rat} (ha1 : Rz 3 a1) (hb1 : Rz 3 b1) (ha2 : Rz 3 a2) (hb2 : Rz 3 b2) (hc : Rz 3 c) (v1 : vPt b1 b2 c = false) : Ok Tryz.prog 19 [.c (.s 2 ((cR a1 ++ cR b1 ++ cR a2 ++ cR b2 ++ cR c) ++ (cN y1 ++ cN y2 ++ cN y3 ++ cN y4 ++ cN y5)))] [.c (.b false)] := by
  refine Ok.of (by kernel_rfl) Tryz.func19 rfl rfl ?_
  rw [show Tryz.f19.ntmps = 15 from rfl, show Tryz.f19.results.toList = [.tmp 2] from rfl]
  refine dw_seq ?_
  -- region 0
  refine dw_region (by kernel_rfl) ?_
  refine dl_r (sem_assign rfl rfl) ?_
  refine dl_end ?_
  refine dw_seq ?_
  refine dw_seq ?_
  -- region 1
  refine dw_region (by kernel_rfl) ?_
  refine dl_r (sem_move rfl rfl) ?_
  refine dl_r (sem_len sl82 rfl rfl) ?_
  refine dl_r (sem_move rfl rfl) ?_
  refine dl_end ?_
  refine dw_block ?_
  refine dw_loop (ι := Nat) (fun i => match i with | _ => ⟨15, [(2, .v (.c (.b false))), (5, .v (.c (.s 2 ((cR a1 ++ cR b1 ++ cR a2 ++ cR b2 ++ cR c) ++ (cN y1 ++ cN y2 ++ cN y3 ++ cN y4 ++ cN y5))))), (6, .v (.c (.i .i64 2))), (7, .v (.c (.i .i64 0)))], []⟩) (fun i => 0 - i) 0 (sub_of ⟨rfl, rfl, rfl, rfl, trivial⟩ trivial rfl) ?_
  intro i
  match i with
  | _ =>
    show Dw _ _ ⟨15, [(2, .v (.c (.b false))), (5, .v (.c (.s 2 ((cR a1 ++ cR b1 ++ cR a2 ++ cR b2 ++ cR c) ++ (cN y1 ++ cN y2 ++ cN y3 ++ cN y4 ++ cN y5))))), (6, .v (.c (.i .i64 2))), (7, .v (.c (.i .i64 0)))], []⟩ _
    refine dw_seq ?_
    -- region 2
    refine dw_region (by kernel_rfl) ?_
    refine dl_r (sem_cmp rfl rfl rfl rfl) ?_
    refine dl_end ?_
    refine dw_seq ?_
    refine dw_true rfl ?_
    refine dw_skip ?_
    refine dw_seq ?_
    refine dw_block ?_
    refine dw_seq ?_
    -- region 3
    refine dw_region (by kernel_rfl) ?_
    refine dl_r (sem_index sl82 rfl rfl (by decide) rfl rfl rfl) ?_
    refine dl_r (sem_loadq (us := (cR a1 ++ cR b1 ++ cR a2 ++ cR b2 ++ cR c)) ty32 rfl rfl rfl rfl) ?_
    refine dl_new (sem_alloc zc32 rfl) rfl ?_
    refine dl_st (sem_store_a ty32 rfl rfl rfl rfl rfl rfl) ?_
    refine dl_end ?_
    refine dw_seq ?_
    -- region 4
    refine dw_region (by kernel_rfl) ?_
    refine dl_r (sem_load (us := (cR a1 ++ cR b1 ++ cR a2 ++ cR b2 ++ cR c)) ty32 rfl rfl rfl rfl rfl) ?_
    refine dl_r (sem_call rfl rfl (rcastb (rpSmall_R (k := 3) (by decide) (by assumption) (by assumption) (by assumption) (by assumption) (by assumption)) v1) rfl) ?_
    refine dl_r (sem_not rfl rfl) ?_
    refine dl_end ?_
    refine dw_true rfl ?_
    refine dw_seq ?_
    -- region 5
    refine dw_region (by kernel_rfl) ?_
    refine dl_r (sem_assign rfl rfl) ?_
    refine dl_end ?_
    refine dw_ret ?_
    -- path L0
    exact ⟨.inr rfl, (resL_tmp rfl resL_nil)⟩
theorem sm2_C {y1 y2 y3 y4 y5 : RN} (wy1 : y1.Wf) (wy2 : y2.Wf) (wy3 : y3.Wf) (wy4 : y4.Wf) (wy5 : y5.Wf) {a1 b1 a2 b2 c : Rat} (ha1 : Rz 3 a1) (hb1 : Rz 3 b1) (ha2 : Rz 3 a2) (hb2 : Rz 3 b2) (hc : Rz 3 c) (v1 : vPt b1 b2 c = true) (hv : (y1.s 3 && (y2.s 3 && (y3.s 3 && (y4.s 3 && y5.s 3)))) = false) : Ok Tryz.prog 19 [.c (.s 2 ((cR a1 ++ cR b1 ++ cR a2 ++ cR b2 ++ cR c) ++ (cN y1 ++ cN y2 ++ cN y3 ++ cN y4 ++ cN y5)))] [.c (.b false)] := by
  refine Ok.of (by kernel_rfl) Tryz.func19 rfl rfl ?_
  rw [show Tryz.f19.ntmps = 15 from rfl, show Tryz.f19.results.toList = [.tmp 2] from rfl]
  refine dw_seq ?_
  -- region 0
  refine dw_region (by kernel_rfl) ?_
  refine dl_r (sem_assign rfl rfl) ?_
  refine dl_end ?_
  refine dw_seq ?_
  refine dw_seq ?_
  -- region 1
  refine dw_region (by kernel_rfl) ?_
  refine dl_r (sem_move rfl rfl) ?_
  refine dl_r (sem_len sl82 rfl rfl) ?_
  refine dl_r (sem_move rfl rfl) ?_
  refine dl_end ?_
  refine dw_block ?_
  refine dw_loop (ι := Nat) (fun i => match i with | 0 => ⟨15, [(2, .v (.c (.b false))), (5, .v (.c (.s 2 ((cR a1 ++ cR b1 ++ cR a2 ++ cR b2 ++ cR c) ++ (cN y1 ++ cN y2 ++ cN y3 ++ cN y4 ++ cN y5))))), (6, .v (.c (.i .i64 2))), (7, .v (.c (.i .i64 0)))], []⟩ | _ + 1 => ⟨15, [(2, .v (.c (.b false))), (5, .v (.c (.s 2 ((cR a1 ++ cR b1 ++ cR a2 ++ cR b2 ++ cR c) ++ (cN y1 ++ cN y2 ++ cN y3 ++ cN y4 ++ cN y5))))), (6, .v (.c (.i .i64 2))), (7, .v (.c (.i .i64 1)))], []⟩) (fun i => 1 - i) 0 (sub_of ⟨rfl, rfl, rfl, rfl, trivial⟩ trivial rfl) ?_
  intro i
  match i with
  | 0 =>
    show Dw _ _ ⟨15, [(2, .v (.c (.b false))), (5, .v (.c (.s 2 ((cR a1 ++ cR b1 ++ cR a2 ++ cR b2 ++ cR c) ++ (cN y1 ++ cN y2 ++ cN y3 ++ cN y4 ++ cN y5))))), (6, .v (.c (.i .i64 2))), (7, .v (.c (.i .i64 0)))], []⟩ _
    refine dw_seq ?_
    -- region 2
    refine dw_region (by kernel_rfl) ?_
    refine dl_r (sem_cmp rfl rfl rfl rfl) ?_
    refine dl_end ?_
    refine dw_seq ?_
    refine dw_true rfl ?_
    refine dw_skip ?_
    refine dw_seq ?_
    refine dw_block ?_
    refine dw_seq ?_
    -- region 3
    refine dw_region (by kernel_rfl) ?_
    refine dl_r (sem_index sl82 rfl rfl (by decide) rfl rfl rfl) ?_
    refine dl_r (sem_loadq (us := (cR a1 ++ cR b1 ++ cR a2 ++ cR b2 ++ cR c)) ty32 rfl rfl rfl rfl) ?_
    refine dl_new (sem_alloc zc32 rfl) rfl ?_
    refine dl_st (sem_store_a ty32 rfl rfl rfl rfl rfl rfl) ?_
    refine dl_end ?_
    refine dw_seq ?_
    -- region 4
    refine dw_region (by kernel_rfl) ?_
    refine dl_r (sem_load (us := (cR a1 ++ cR b1 ++ cR a2 ++ cR b2 ++ cR c)) ty32 rfl rfl rfl rfl rfl) ?_
    refine dl_r (sem_call rfl rfl (rcastb (rpSmall_R (k := 3) (by decide) (by assumption) (by assumption) (by assumption) (by assumption) (by assumption)) v1) rfl) ?_
    refine dl_r (sem_not rfl rfl) ?_
    refine dl_end ?_
    refine dw_false rfl ?_
    refine dw_skip ?_
    -- region 6
    refine dw_region (by kernel_rfl) ?_
    refine dl_r (sem_ari (r := 1) rfl rfl rfl rfl) ?_
    refine dl_r (sem_move rfl rfl) ?_
    refine dl_end ?_
    exact ⟨1, sub_of ⟨rfl, rfl, rfl, rfl, trivial⟩ trivial rfl, by show 1 - 1 < 1 - 0; decide⟩
  | z + 1 =>
    show Dw _ _ ⟨15, [(2, .v (.c (.b false))), (5, .v (.c (.s 2 ((cR a1 ++ cR b1 ++ cR a2 ++ cR b2 ++ cR c) ++ (cN y1 ++ cN y2 ++ cN y3 ++ cN y4 ++ cN y5))))), (6, .v (.c (.i .i64 2))), (7, .v (.c (.i .i64 1)))], []⟩ _
    refine dw_seq ?_
    -- region 2
    refine dw_region (by kernel_rfl) ?_
    refine dl_r (sem_cmp rfl rfl rfl rfl) ?_
    refine dl_end ?_
    refine dw_seq ?_
    refine dw_true rfl ?_
    refine dw_skip ?_
    refine dw_seq ?_
    refine dw_block ?_
    refine dw_seq ?_
    -- region 3
    refine dw_region (by kernel_rfl) ?_
    refine dl_r (sem_index sl82 rfl rfl (by decide) rfl rfl rfl) ?_
    refine dl_r (sem_loadq (us := (cN y1 ++ cN y2 ++ cN y3 ++ cN y4 ++ cN y5)) ty32 rfl rfl rfl rfl) ?_
    refine dl_new (sem_alloc zc32 rfl) rfl ?_
    refine dl_st (sem_store_a ty32 rfl rfl rfl rfl rfl rfl) ?_
    refine dl_end ?_
    refine dw_seq ?_
    -- region 4
    refine dw_region (by kernel_rfl) ?_
    refine dl_r (sem_load (us := (cN y1 ++ cN y2 ++ cN y3 ++ cN y4 ++ cN y5)) ty32 rfl rfl rfl rfl rfl) ?_
    refine dl_r (sem_call rfl rfl (rpSmallA (by assumption) (by assumption) (by assumption) (by assumption) (by assumption) (by decide) hv) rfl) ?_
    refine dl_r (sem_not rfl rfl) ?_
    refine dl_end ?_
    refine dw_true rfl ?_
    refine dw_seq ?_
    -- region 5
    refine dw_region (by kernel_rfl) ?_
    refine dl_r (sem_assign rfl rfl) ?_
    refine dl_end ?_
    refine dw_ret ?_
    -- path L1
    exact ⟨.inr rfl, (resL_tmp rfl resL_nil)⟩
theorem sm2_true {a1 b1 a2 b2 c : Rat} (ha1 : Rz 3 a1) (hb1 : Rz 3 b1) (ha2 : Rz 3 a2) (hb2 : Rz 3 b2) (hc : Rz 3 c) {p1 q1 p2 q2 r : Rat} (hp1 : Rz 3 p1) (hq1 : Rz 3 q1) (hp2 : Rz 3 p2) (hq2 : Rz 3 q2) (hr : Rz 3 r) (v1 : vPt b1 b2 c = true) (v2 : vPt q1 q2 r = true) : Ok Tryz.prog 19 [.c (.s 2 ((cR a1 ++ cR b1 ++ cR a2 ++ cR b2 ++ cR c) ++ (cR p1 ++ cR q1 ++ cR p2 ++ cR q2 ++ cR r)))] [.c (.b true)] := by
  refine Ok.of (by kernel_rfl) Tryz.func19 rfl rfl ?_
  rw [show Tryz.f19.ntmps = 15 from rfl, show Tryz.f19.results.toList = [.tmp 2] from rfl]
  refine dw_seq ?_
  -- region 0
  refine dw_region (by kernel_rfl) ?_
  refine dl_r (sem_assign rfl rfl) ?_
  refine dl_end ?_
  refine dw_seq ?_
  refine dw_seq ?_
  -- region 1
  refine dw_region (by kernel_rfl) ?_
  refine dl_r (sem_move rfl rfl) ?_
  refine dl_r (sem_len sl82 rfl rfl) ?_
  refine dl_r (sem_move rfl rfl) ?_
  refine dl_end ?_
  refine dw_block ?_
  refine dw_loop (ι := Nat) (fun i => match i with | 0 => ⟨15, [(2, .v (.c (.b false))), (5, .v (.c (.s 2 ((cR a1 ++ cR b1 ++ cR a2 ++ cR b2 ++ cR c) ++ (cR p1 ++ cR q1 ++ cR p2 ++ cR q2 ++ cR r))))), (6, .v (.c (.i .i64 2))), (7, .v (.c (.i .i64 0)))], []⟩ | 1 => ⟨15, [(2, .v (.c (.b false))), (5, .v (.c (.s 2 ((cR a1 ++ cR b1 ++ cR a2 ++ cR b2 ++ cR c) ++ (cR p1 ++ cR q1 ++ cR p2 ++ cR q2 ++ cR r))))), (6, .v (.c (.i .i64 2))), (7, .v (.c (.i .i64 1)))], []⟩ | _ + 2 => ⟨15, [(2, .v (.c (.b false))), (5, .v (.c (.s 2 ((cR a1 ++ cR b1 ++ cR a2 ++ cR b2 ++ cR c) ++ (cR p1 ++ cR q1 ++ cR p2 ++ cR q2 ++ cR r))))), (6, .v (.c (.i .i64 2))), (7, .v (.c (.i .i64 2)))], []⟩) (fun i => 2 - i) 0 (sub_of ⟨rfl, rfl, rfl, rfl, trivial⟩ trivial rfl) ?_
  intro i
  match i with
  | 0 =>
    show Dw _ _ ⟨15, [(2, .v (.c (.b false))), (5, .v (.c (.s 2 ((cR a1 ++ cR b1 ++ cR a2 ++ cR b2 ++ cR c) ++ (cR p1 ++ cR q1 ++ cR p2 ++ cR q2 ++ cR r))))), (6, .v (.c (.i .i64 2))), (7, .v (.c (.i .i64 0)))], []⟩ _
    refine dw_seq ?_
    -- region 2
    refine dw_region (by kernel_rfl) ?_
    refine dl_r (sem_cmp rfl rfl rfl rfl) ?_
    refine dl_end ?_
    refine dw_seq ?_
    refine dw_true rfl ?_
    refine dw_skip ?_
    refine dw_seq ?_
    refine dw_block ?_
    refine dw_seq ?_
    -- region 3
    refine dw_region (by kernel_rfl) ?_
    refine dl_r (sem_index sl82 rfl rfl (by decide) rfl rfl rfl) ?_
    refine dl_r (sem_loadq (us := (cR a1 ++ cR b1 ++ cR a2 ++ cR b2 ++ cR c)) ty32 rfl rfl rfl rfl) ?_
    refine dl_new (sem_alloc zc32 rfl) rfl ?_
    refine dl_st (sem_store_a ty32 rfl rfl rfl rfl rfl rfl) ?_
    refine dl_end ?_
    refine dw_seq ?_
    -- region 4
    refine dw_region (by kernel_rfl) ?_
    refine dl_r (sem_load (us := (cR a1 ++ cR b1 ++ cR a2 ++ cR b2 ++ cR c)) ty32 rfl rfl rfl rfl rfl) ?_
    refine dl_r (sem_call rfl rfl (rcastb (rpSmall_R (k := 3) (by decide) (by assumption) (by assumption) (by assumption) (by assumption) (by assumption)) v1) rfl) ?_
    refine dl_r (sem_not rfl rfl) ?_
    refine dl_end ?_
    refine dw_false rfl ?_
    refine dw_skip ?_
    -- region 6
    refine dw_region (by kernel_rfl) ?_
    refine dl_r (sem_ari (r := 1) rfl rfl rfl rfl) ?_
    refine dl_r (sem_move rfl rfl) ?_
    refine dl_end ?_
    exact ⟨1, sub_of ⟨rfl, rfl, rfl, rfl, trivial⟩ trivial rfl, by show 2 - 1 < 2 - 0; decide⟩
  | 1 =>
    show Dw _ _ ⟨15, [(2, .v (.c (.b false))), (5, .v (.c (.s 2 ((cR a1 ++ cR b1 ++ cR a2 ++ cR b2 ++ cR c) ++ (cR p1 ++ cR q1 ++ cR p2 ++ cR q2 ++ cR r))))), (6, .v (.c (.i .i64 2))), (7, .v (.c (.i .i64 1)))], []⟩ _
    refine dw_seq ?_
    -- region 2
    refine dw_region (by kernel_rfl) ?_
    refine dl_r (sem_cmp rfl rfl rfl rfl) ?_
    refine dl_end ?_
    refine dw_seq ?_
    refine dw_true rfl ?_
    refine dw_skip ?_
    refine dw_seq ?_
    refine dw_block ?_
    refine dw_seq ?_
    -- region 3
    refine dw_region (by kernel_rfl) ?_
    refine dl_r (sem_index sl82 rfl rfl (by decide) rfl rfl rfl) ?_
    refine dl_r (sem_loadq (us := (cR p1 ++ cR q1 ++ cR p2 ++ cR q2 ++ cR r)) ty32 rfl rfl rfl rfl) ?_
    refine dl_new (sem_alloc zc32 rfl) rfl ?_
    refine dl_st (sem_store_a ty32 rfl rfl rfl rfl rfl rfl) ?_
    refine dl_end ?_
    refine dw_seq ?_
    -- region 4
    refine dw_region (by kernel_rfl) ?_
    refine dl_r (sem_load (us := (cR p1 ++ cR q1 ++ cR p2 ++ cR q2 ++ cR r)) ty32 rfl rfl rfl rfl rfl) ?_
    refine dl_r (sem_call rfl rfl (rcastb (rpSmall_R (k := 3) (by decide) (by assumption) (by assumption) (by assumption) (by assumption) (by assumption)) v2) rfl) ?_
    refine dl_r (sem_not rfl rfl) ?_
    refine dl_end ?_
    refine dw_false rfl ?_
    refine dw_skip ?_
    -- region 6
    refine dw_region (by kernel_rfl) ?_
    refine dl_r (sem_ari (r := 2) rfl rfl rfl rfl) ?_
    refine dl_r (sem_move rfl rfl) ?_
    refine dl_end ?_
    exact ⟨2, sub_of ⟨rfl, rfl, rfl, rfl, trivial⟩ trivial rfl, by show 2 - 2 < 2 - 1; decide⟩
  | z + 2 =>
    show Dw _ _ ⟨15, [(2, .v (.c (.b false))), (5, .v (.c (.s 2 ((cR a1 ++ cR b1 ++ cR a2 ++ cR b2 ++ cR c) ++ (cR p1 ++ cR q1 ++ cR p2 ++ cR q2 ++ cR r))))), (6, .v (.c (.i .i64 2))), (7, .v (.c (.i .i64 2)))], []⟩ _
    refine dw_seq ?_
    -- region 2
    refine dw_region (by kernel_rfl) ?_
    refine dl_r (sem_cmp rfl rfl rfl rfl) ?_
    refine dl_end ?_
    refine dw_seq ?_
    refine dw_false rfl ?_
    refine dw_exit ?_
    refine dw_seq ?_
    -- region 7
    refine dw_region (by kernel_rfl) ?_
    refine dl_r (sem_assign rfl rfl) ?_
    refine dl_end ?_
    refine dw_ret ?_
    -- path L2
    exact ⟨.inr rfl, (resL_tmp rfl resL_nil)⟩
theorem sm2_false {a1 b1 a2 b2 c : Rat} (ha1 : Rz 3 a1) (hb1 : Rz 3 b1) (ha2 : Rz 3 a2) (hb2 : Rz 3 b2) (hc : Rz 3 c) {p1 q1 p2 q2 r : Rat} (hp1 : Rz 3 p1) (hq1 : Rz 3 q1) (hp2 : Rz 3 p2) (hq2 : Rz 3 q2) (hr : Rz 3 r) (v1 : vPt b1 b2 c = true) (v2 : vPt q1 q2 r = false) : Ok Tryz.prog 19 [.c (.s 2 ((cR a1 ++ cR b1 ++ cR a2 ++ cR b2 ++ cR c) ++ (cR p1 ++ cR q1 ++ cR p2 ++ cR q2 ++ cR r)))] [.c (.b false)] := by
  refine Ok.of (by kernel_rfl) Tryz.func19 rfl rfl ?_
  rw [show Tryz.f19.ntmps = 15 from rfl, show Tryz.f19.results.toList = [.tmp 2] from rfl]
  refine dw_seq ?_
  -- region 0
  refine dw_region (by kernel_rfl) ?_
  refine dl_r (sem_assign rfl rfl) ?_
  refine dl_end ?_
  refine dw_seq ?_
  refine dw_seq ?_
  -- region 1
  refine dw_region (by kernel_rfl) ?_
  refine dl_r (sem_move rfl rfl) ?_
  refine dl_r (sem_len sl82 rfl rfl) ?_
  refine dl_r (sem_move rfl rfl) ?_
  refine dl_end ?_
  refine dw_block ?_
  refine dw_loop (ι := Nat) (fun i => match i with | 0 => ⟨15, [(2, .v (.c (.b false))), (5, .v (.c (.s 2 ((cR a1 ++ cR b1 ++ cR a2 ++ cR b2 ++ cR c) ++ (cR p1 ++ cR q1 ++ cR p2 ++ cR q2 ++ cR r))))), (6, .v (.c (.i .i64 2))), (7, .v (.c (.i .i64 0)))], []⟩ | _ + 1 => ⟨15, [(2, .v (.c (.b false))), (5, .v (.c (.s 2 ((cR a1 ++ cR b1 ++ cR a2 ++ cR b2 ++ cR c) ++ (cR p1 ++ cR q1 ++ cR p2 ++ cR q2 ++ cR r))))), (6, .v (.c (.i .i64 2))), (7, .v (.c (.i .i64 1)))], []⟩) (fun i => 1 - i) 0 (sub_of ⟨rfl, rfl, rfl, rfl, trivial⟩ trivial rfl) ?_
  intro i
  match i with
  | 0 =>
    show Dw _ _ ⟨15, [(2, .v (.c (.b false))), (5, .v (.c (.s 2 ((cR a1 ++ cR b1 ++ cR a2 ++ cR b2 ++ cR c) ++ (cR p1 ++ cR q1 ++ cR p2 ++ cR q2 ++ cR r))))), (6, .v (.c (.i .i64 2))), (7, .v (.c (.i .i64 0)))], []⟩ _
    refine dw_seq ?_
    -- region 2
    refine dw_region (by kernel_rfl) ?_
    refine dl_r (sem_cmp rfl rfl rfl rfl) ?_
    refine dl_end ?_
    refine dw_seq ?_
    refine dw_true rfl ?_
    refine dw_skip ?_
    refine dw_seq ?_
    refine dw_block ?_
    refine dw_seq ?_
    -- region 3
    refine dw_region (by kernel_rfl) ?_
    refine dl_r (sem_index sl82 rfl rfl (by decide) rfl rfl rfl) ?_
    refine dl_r (sem_loadq (us := (cR a1 ++ cR b1 ++ cR a2 ++ cR b2 ++ cR c)) ty32 rfl rfl rfl rfl) ?_
    refine dl_new (sem_alloc zc32 rfl) rfl ?_
    refine dl_st (sem_store_a ty32 rfl rfl rfl rfl rfl rfl) ?_
    refine dl_end ?_
    refine dw_seq ?_
    -- region 4
    refine dw_region (by kernel_rfl) ?_
    refine dl_r (sem_load (us := (cR a1 ++ cR b1 ++ cR a2 ++ cR b2 ++ cR c)) ty32 rfl rfl rfl rfl rfl) ?_
    refine dl_r (sem_call rfl rfl (rcastb (rpSmall_R (k := 3) (by decide) (by assumption) (by assumption) (by assumption) (by assumption) (by assumption)) v1) rfl) ?_
    refine dl_r (sem_not rfl rfl) ?_
    refine dl_end ?_
    refine dw_false rfl ?_
    refine dw_skip ?_
    -- region 6
    refine dw_region (by kernel_rfl) ?_
    refine dl_r (sem_ari (r := 1) rfl rfl rfl rfl) ?_
    refine dl_r (sem_move rfl rfl) ?_
    refine dl_end ?_
    exact ⟨1, sub_of ⟨rfl, rfl, rfl, rfl, trivial⟩ trivial rfl, by show 1 - 1 < 1 - 0; decide⟩
  | z + 1 =>
    show Dw _ _ ⟨15, [(2, .v (.c (.b false))), (5, .v (.c (.s 2 ((cR a1 ++ cR b1 ++ cR a2 ++ cR b2 ++ cR c) ++ (cR p1 ++ cR q1 ++ cR p2 ++ cR q2 ++ cR r))))), (6, .v (.c (.i .i64 2))), (7, .v (.c (.i .i64 1)))], []⟩ _
    refine dw_seq ?_
    -- region 2
    refine dw_region (by kernel_rfl) ?_
    refine dl_r (sem_cmp rfl rfl rfl rfl) ?_
    refine dl_end ?_
    refine dw_seq ?_
    refine dw_true rfl ?_
    refine dw_skip ?_
    refine dw_seq ?_
    refine dw_block ?_
    refine dw_seq ?_
    -- region 3
    refine dw_region (by kernel_rfl) ?_
    refine dl_r (sem_index sl82 rfl rfl (by decide) rfl rfl rfl) ?_
    refine dl_r (sem_loadq (us := (cR p1 ++ cR q1 ++ cR p2 ++ cR q2 ++ cR r)) ty32 rfl rfl rfl rfl) ?_
    refine dl_new (sem_alloc zc32 rfl) rfl ?_
    refine dl_st (sem_store_a ty32 rfl rfl rfl rfl rfl rfl) ?_
    refine dl_end ?_
    refine dw_seq ?_
    -- region 4
    refine dw_region (by kernel_rfl) ?_
    refine dl_r (sem_load (us := (cR p1 ++ cR q1 ++ cR p2 ++ cR q2 ++ cR r)) ty32 rfl rfl rfl rfl rfl) ?_
    refine dl_r (sem_call rfl rfl (rcastb (rpSmall_R (k := 3) (by decide) (by assumption) (by assumption) (by assumption) (by assumption) (by assumption)) v2) rfl) ?_
    refine dl_r (sem_not rfl rfl) ?_
    refine dl_end ?_
    refine dw_true rfl ?_
    refine dw_seq ?_
    -- region 5
    refine dw_region (by kernel_rfl) ?_
    refine dl_r (sem_assign rfl rfl) ?_
    refine dl_end ?_
    refine dw_ret ?_
    -- path L1
    exact ⟨.inr rfl, (resL_tmp rfl resL_nil)⟩
end Go.Proofs.YthpalcfhhicmgaaGreat
/- PointTranslate, PointAt: the laws at all readings. -/
namespace Go.Proofs.YthpalcfhhicmgaaGreat
open Go Go.RowKit
theorem r_cancel (a d : Rat) : a + d + -d = a := by grind
theorem lwSmallVec {v w : RN} (wv : v.Wf) (ww : w.Wf) : Ok Tryz.prog 23 [.a (cN v ++ cN w)] [.c (.b (v.s 3 && w.s 3))] := by
  refine Ok.of (by kernel_rfl) Tryz.func23 rfl rfl ?_
  rw [show Tryz.f23.ntmps = 11 from rfl, show Tryz.f23.results.toList = [.tmp 2] from rfl]
  refine dw_seq ?_
  -- region 0
  refine dw_region (by kernel_rfl) ?_
  refine dl_new (sem_box_a rfl rfl) rfl ?_
  refine dl_r (sem_assign rfl rfl) ?_
  refine dl_end ?_
  refine dw_seq ?_
  -- region 1
  refine dw_region (by kernel_rfl) ?_
  refine dl_r (sem_field fd42_0 rfl rfl) ?_
  refine dl_r (sem_load (us := cN v) ty26 rfl rfl rfl rfl rfl) ?_
  refine dl_r (sem_call rfl rfl (sSmall_ok (by assumption) (by omega)) rfl) ?_
  refine dl_rb (sem_move rfl rfl) (fun c1 hb1 => ?_)
  cases c1
  · refine dl_skip (sem_skip rfl) ?_
    refine dl_skip (sem_skip rfl) ?_
    refine dl_skip (sem_skip rfl) ?_
    refine dl_r (sem_pick rfl rfl rfl rfl) ?_
    refine dl_r (sem_assign rfl rfl) ?_
    refine dl_end ?_
    refine dw_ret ?_
    -- path f
    rw [show (v.s 3 && w.s 3) = false from by rw [hb1]; rfl]
    exact ⟨.inr rfl, (resL_tmp rfl resL_nil)⟩
  · refine dl_r (sem_field fd42_1 rfl rfl) ?_
    refine dl_r (sem_load (us := cN w) ty26 rfl rfl rfl rfl rfl) ?_
    refine dl_r (sem_call rfl rfl (sSmall_ok (by assumption) (by omega)) rfl) ?_
    refine dl_r (sem_pick rfl rfl rfl rfl) ?_
    refine dl_r (sem_assign rfl rfl) ?_
    refine dl_end ?_
    refine dw_ret ?_
    -- path t
    rw [show (v.s 3 && w.s 3) = w.s 3 from by rw [hb1, Bool.true_and]]
    exact ⟨.inr rfl, (resL_tmp rfl resL_nil)⟩
theorem lwSmallVec_R {d e : Rat} (hd : Rz 3 d) (he : Rz 3 e) : Ok Tryz.prog 23 [.a (cR d ++ cR e)] [.c (.b true)] := by
  refine Ok.of (by kernel_rfl) Tryz.func23 rfl rfl ?_
  rw [show Tryz.f23.ntmps = 11 from rfl, show Tryz.f23.results.toList = [.tmp 2] from rfl]
  refine dw_seq ?_
  -- region 0
  refine dw_region (by kernel_rfl) ?_
  refine dl_new (sem_box_a rfl rfl) rfl ?_
  refine dl_r (sem_assign rfl rfl) ?_
  refine dl_end ?_
  refine dw_seq ?_
  -- region 1
  refine dw_region (by kernel_rfl) ?_
  refine dl_r (sem_field fd42_0 rfl rfl) ?_
  refine dl_r (sem_load (us := cR d) ty26 rfl rfl rfl rfl rfl) ?_
  refine dl_r (sem_call rfl rfl (sSmall_R (k := 3) (by assumption) (by omega)) rfl) ?_
  refine dl_r (sem_move rfl rfl) ?_
  refine dl_r (sem_field fd42_1 rfl rfl) ?_
  refine dl_r (sem_load (us := cR e) ty26 rfl rfl rfl rfl rfl) ?_
  refine dl_r (sem_call rfl rfl (sSmall_R (k := 3) (by assumption) (by omega)) rfl) ?_
  refine dl_r (sem_pick rfl rfl rfl rfl) ?_
  refine dl_r (sem_assign rfl rfl) ?_
  refine dl_end ?_
  refine dw_ret ?_
  -- path 
  exact ⟨.inr rfl, (resL_tmp rfl resL_nil)⟩
theorem lwTr_A {x1 x2 x3 x4 x5 : RN} (wx1 : x1.Wf) (wx2 : x2.Wf) (wx3 : x3.Wf) (wx4 : x4.Wf) (wx5 : x5.Wf) (hv : (x1.s 3 && (x2.s 3 && (x3.s 3 && (x4.s 3 && x5.s 3)))) = false) {v w : RN} : Ok Tryz.prog 7 [.a (cN x1 ++ cN x2 ++ cN x3 ++ cN x4 ++ cN x5), .a (cN v ++ cN w)] [.c (.b true)] := by
  refine Ok.of (by kernel_rfl) Tryz.func7 rfl rfl ?_
  rw [show Tryz.f7.ntmps = 36 from rfl, show Tryz.f7.results.toList = [.tmp 4] from rfl]
  refine dw_seq ?_
  -- region 0
  refine dw_region (by kernel_rfl) ?_
  refine dl_new (sem_box_a rfl rfl) rfl ?_
  refine dl_new (sem_box_a rfl rfl) rfl ?_
  refine dl_r (sem_assign rfl rfl) ?_
  refine dl_end ?_
  refine dw_seq ?_
  refine dw_seq ?_
  -- region 1
  refine dw_region (by kernel_rfl) ?_
  refine dl_r (sem_call rfl rfl (awake_ok) rfl) ?_
  refine dl_r (sem_not rfl rfl) ?_
  refine dl_r (sem_move rfl rfl) ?_
  refine dl_r (sem_load (us := (cN x1 ++ cN x2 ++ cN x3 ++ cN x4 ++ cN x5)) ty32 rfl rfl rfl rfl rfl) ?_
  refine dl_r (sem_slit_D (n := 1) (us := (cN x1 ++ cN x2 ++ cN x3 ++ cN x4 ++ cN x5)) el82 rfl rfl rfl (by decide) (by decide) rfl) ?_
  refine dl_r (sem_call rfl rfl (sm1_A (by assumption) (by assumption) (by assumption) (by assumption) (by assumption) hv) rfl) ?_
  refine dl_r (sem_not rfl rfl) ?_
  refine dl_r (sem_pick rfl rfl rfl rfl) ?_
  refine dl_r (sem_move rfl rfl) ?_
  refine dl_skip (sem_skip rfl) ?_
  refine dl_skip (sem_skip rfl) ?_
  refine dl_skip (sem_skip rfl) ?_
  refine dl_r (sem_pick rfl rfl rfl rfl) ?_
  refine dl_end ?_
  refine dw_true rfl ?_
  refine dw_seq ?_
  -- region 2
  refine dw_region (by kernel_rfl) ?_
  refine dl_r (sem_call rfl rfl (awake_ok) rfl) ?_
  refine dl_r (sem_assign rfl rfl) ?_
  refine dl_end ?_
  refine dw_ret ?_
  -- path 
  exact ⟨.inr rfl, (resL_tmp rfl resL_nil)⟩
theorem lwTr_B {a1 b1 a2 b2 c : Rat} (ha1 : Rz 3 a1) (hb1 : Rz 3 b1) (ha2 : Rz 3 a2) (hb2 : Rz 3 b2) (hc : Rz 3 c) (v1 : vPt b1 b2 c = false) {v w : RN} : Ok Tryz.prog 7 [.a (cR a1 ++ cR b1 ++ cR a2 ++ cR b2 ++ cR c), .a (cN v ++ cN w)] [.c (.b true)] := by
  refine Ok.of (by kernel_rfl) Tryz.func7 rfl rfl ?_
  rw [show Tryz.f7.ntmps = 36 from rfl, show Tryz.f7.results.toList = [.tmp 4] from rfl]
  refine dw_seq ?_
  -- region 0
  refine dw_region (by kernel_rfl) ?_
  refine dl_new (sem_box_a rfl rfl) rfl ?_
  refine dl_new (sem_box_a rfl rfl) rfl ?_
  refine dl_r (sem_assign rfl rfl) ?_
  refine dl_end ?_
  refine dw_seq ?_
  refine dw_seq ?_
  -- region 1
  refine dw_region (by kernel_rfl) ?_
  refine dl_r (sem_call rfl rfl (awake_ok) rfl) ?_
  refine dl_r (sem_not rfl rfl) ?_
  refine dl_r (sem_move rfl rfl) ?_
  refine dl_r (sem_load (us := (cR a1 ++ cR b1 ++ cR a2 ++ cR b2 ++ cR c)) ty32 rfl rfl rfl rfl rfl) ?_
  refine dl_r (sem_slit_D (n := 1) (us := (cR a1 ++ cR b1 ++ cR a2 ++ cR b2 ++ cR c)) el82 rfl rfl rfl (by decide) (by decide) rfl) ?_
  refine dl_r (sem_call rfl rfl (sm1_false (by assumption) (by assumption) (by assumption) (by assumption) (by assumption) v1) rfl) ?_
  refine dl_r (sem_not rfl rfl) ?_
  refine dl_r (sem_pick rfl rfl rfl rfl) ?_
  refine dl_r (sem_move rfl rfl) ?_
  refine dl_skip (sem_skip rfl) ?_
  refine dl_skip (sem_skip rfl) ?_
  refine dl_skip (sem_skip rfl) ?_
  refine dl_r (sem_pick rfl rfl rfl rfl) ?_
  refine dl_end ?_
  refine dw_true rfl ?_
  refine dw_seq ?_
  -- region 2
  refine dw_region (by kernel_rfl) ?_
  refine dl_r (sem_call rfl rfl (awake_ok) rfl) ?_
  refine dl_r (sem_assign rfl rfl) ?_
  refine dl_end ?_
  refine dw_ret ?_
  -- path 
  exact ⟨.inr rfl, (resL_tmp rfl resL_nil)⟩
theorem lwTr_C {a1 b1 a2 b2 c : Rat} (ha1 : Rz 3 a1) (hb1 : Rz 3 b1) (ha2 : Rz 3 a2) (hb2 : Rz 3 b2) (hc : Rz 3 c) (v1 : vPt b1 b2 c = true) {v w : RN} (wv : v.Wf) (ww : w.Wf) (hw : (v.s 3 && w.s 3) = false) : Ok Tryz.prog 7 [.a (cR a1 ++ cR b1 ++ cR a2 ++ cR b2 ++ cR c), .a (cN v ++ cN w)] [.c (.b true)] := by
  refine Ok.of (by kernel_rfl) Tryz.func7 rfl rfl ?_
  rw [show Tryz.f7.ntmps = 36 from rfl, show Tryz.f7.results.toList = [.tmp 4] from rfl]
  refine dw_seq ?_
  -- region 0
  refine dw_region (by kernel_rfl) ?_
  refine dl_new (sem_box_a rfl rfl) rfl ?_
  refine dl_new (sem_box_a rfl rfl) rfl ?_
  refine dl_r (sem_assign rfl rfl) ?_
  refine dl_end ?_
  refine dw_seq ?_
  refine dw_seq ?_
  -- region 1
  refine dw_region (by kernel_rfl) ?_
  refine dl_r (sem_call rfl rfl (awake_ok) rfl) ?_
  refine dl_r (sem_not rfl rfl) ?_
  refine dl_r (sem_move rfl rfl) ?_
  refine dl_r (sem_load (us := (cR a1 ++ cR b1 ++ cR a2 ++ cR b2 ++ cR c)) ty32 rfl rfl rfl rfl rfl) ?_
  refine dl_r (sem_slit_D (n := 1) (us := (cR a1 ++ cR b1 ++ cR a2 ++ cR b2 ++ cR c)) el82 rfl rfl rfl (by decide) (by decide) rfl) ?_
  refine dl_r (sem_call rfl rfl (sm1_true (by assumption) (by assumption) (by assumption) (by assumption) (by assumption) v1) rfl) ?_
  refine dl_r (sem_not rfl rfl) ?_
  refine dl_r (sem_pick rfl rfl rfl rfl) ?_
  refine dl_r (sem_move rfl rfl) ?_
  refine dl_r (sem_load (us := (cN v ++ cN w)) ty42 rfl rfl rfl rfl rfl) ?_
  refine dl_r (sem_call rfl rfl (rcastb (lwSmallVec (by assumption) (by assumption)) hw) rfl) ?_
  refine dl_r (sem_not rfl rfl) ?_
  refine dl_r (sem_pick rfl rfl rfl rfl) ?_
  refine dl_end ?_
  refine dw_true rfl ?_
  refine dw_seq ?_
  -- region 2
  refine dw_region (by kernel_rfl) ?_
  refine dl_r (sem_call rfl rfl (awake_ok) rfl) ?_
  refine dl_r (sem_assign rfl rfl) ?_
  refine dl_end ?_
  refine dw_ret ?_
  -- path 
  exact ⟨.inr rfl, (resL_tmp rfl resL_nil)⟩
theorem lwTr_D {a1 b1 a2 b2 c : Rat} (ha1 : Rz 3 a1) (hb1 : Rz 3 b1) (ha2 : Rz 3 a2) (hb2 : Rz 3 b2) (hc : Rz 3 c) (v1 : vPt b1 b2 c = true) {d e : Rat} (hd : Rz 3 d) (he : Rz 3 e) : Ok Tryz.prog 7 [.a (cR a1 ++ cR b1 ++ cR a2 ++ cR b2 ++ cR c), .a (cR d ++ cR e)] [.c (.b true)] := by
  have ka1 : Rz 300 a1 := ha1.mono (by decide)
  have kb1 : Rz 300 b1 := hb1.mono (by decide)
  have ka2 : Rz 300 a2 := ha2.mono (by decide)
  have kb2 : Rz 300 b2 := hb2.mono (by decide)
  have kc : Rz 300 c := hc.mono (by decide)
  have kd : Rz 300 d := hd.mono (by decide)
  have ke : Rz 300 e := he.mono (by decide)
  have k1 : Rz 300 (a1 + d) := (ha1.add hd).mono (by decide)
  have k2 : Rz 300 (a2 + e) := (ha2.add he).mono (by decide)
  have k3 : Rz 300 (-d) := kd.neg
  have k4 : Rz 300 (-e) := ke.neg
  refine Ok.of (by kernel_rfl) Tryz.func7 rfl rfl ?_
  rw [show Tryz.f7.ntmps = 36 from rfl, show Tryz.f7.results.toList = [.tmp 4] from rfl]
  refine dw_seq ?_
  -- region 0
  refine dw_region (by kernel_rfl) ?_
  refine dl_new (sem_box_a rfl rfl) rfl ?_
  refine dl_new (sem_box_a rfl rfl) rfl ?_
  refine dl_r (sem_assign rfl rfl) ?_
  refine dl_end ?_
  refine dw_seq ?_
  refine dw_seq ?_
  -- region 1
  refine dw_region (by kernel_rfl) ?_
  refine dl_r (sem_call rfl rfl (awake_ok) rfl) ?_
  refine dl_r (sem_not rfl rfl) ?_
  refine dl_r (sem_move rfl rfl) ?_
  refine dl_r (sem_load (us := (cR a1 ++ cR b1 ++ cR a2 ++ cR b2 ++ cR c)) ty32 rfl rfl rfl rfl rfl) ?_
  refine dl_r (sem_slit_D (n := 1) (us := (cR a1 ++ cR b1 ++ cR a2 ++ cR b2 ++ cR c)) el82 rfl rfl rfl (by decide) (by decide) rfl) ?_
  refine dl_r (sem_call rfl rfl (sm1_true (by assumption) (by assumption) (by assumption) (by assumption) (by assumption) v1) rfl) ?_
  refine dl_r (sem_not rfl rfl) ?_
  refine dl_r (sem_pick rfl rfl rfl rfl) ?_
  refine dl_r (sem_move rfl rfl) ?_
  refine dl_r (sem_load (us := (cR d ++ cR e)) ty42 rfl rfl rfl rfl rfl) ?_
  refine dl_r (sem_call rfl rfl (lwSmallVec_R (by assumption) (by assumption)) rfl) ?_
  refine dl_r (sem_not rfl rfl) ?_
  refine dl_r (sem_pick rfl rfl rfl rfl) ?_
  refine dl_end ?_
  refine dw_false rfl ?_
  refine dw_skip ?_
  refine dw_seq ?_
  -- region 3
  refine dw_region (by kernel_rfl) ?_
  refine dl_r (sem_load (us := (cR a1 ++ cR b1 ++ cR a2 ++ cR b2 ++ cR c)) ty32 rfl rfl rfl rfl rfl) ?_
  refine dl_r (sem_load (us := (cR d ++ cR e)) ty42 rfl rfl rfl rfl rfl) ?_
  refine dl_r (sem_call rfl rfl (ptTranslate_ok (by assumption) (by assumption) (by assumption) (by assumption)) rfl) ?_
  refine dl_new (sem_alloc zc32 rfl) rfl ?_
  refine dl_st (sem_store_a ty32 rfl rfl rfl rfl rfl rfl) ?_
  refine dl_end ?_
  refine dw_seq ?_
  -- region 4
  refine dw_draw 14 [] follows_mixed (by kernel_rfl) rfl rfl ?_
  refine dq_r (sem_load (us := (cR (a1 + d) ++ cR b1 ++ cR (a2 + e) ++ cR b2 ++ cR c)) ty32 rfl rfl rfl rfl rfl) ?_
  refine dq_r (sem_load (us := (cR a1 ++ cR b1 ++ cR a2 ++ cR b2 ++ cR c)) ty32 rfl rfl rfl rfl rfl) ?_
  refine dq_r (sem_load (us := (cR d ++ cR e)) ty42 rfl rfl rfl rfl rfl) ?_
  refine dq_r (sem_call rfl rfl (rpTranslate_ok (by assumption) (by assumption) (by assumption) (by assumption)) rfl) ?_
  refine dq_r (sem_call rfl rfl (rcastb (rpSame_ok (by assumption) (by assumption) (by assumption) (by assumption) (by assumption) (by assumption) (by assumption) (by assumption) (by assumption) (by assumption)) (psame_refl _ _ _ _ _)) rfl) ?_
  refine dq_r (sem_move rfl rfl) ?_
  refine dq_r (sem_load (us := (cR (a1 + d) ++ cR b1 ++ cR (a2 + e) ++ cR b2 ++ cR c)) ty32 rfl rfl rfl rfl rfl) ?_
  refine dq_r (sem_load (us := (cR d ++ cR e)) ty42 rfl rfl rfl rfl rfl) ?_
  refine dq_r (sem_call rfl rfl (rpBack_ok (by assumption) (by assumption)) rfl) ?_
  refine dq_r (sem_call rfl rfl (rcast5a (ptTranslate_ok (by assumption) (by assumption) (by assumption) (by assumption)) (r_cancel _ _) rfl (r_cancel _ _) rfl rfl) rfl) ?_
  refine dq_r (sem_load (us := (cR a1 ++ cR b1 ++ cR a2 ++ cR b2 ++ cR c)) ty32 rfl rfl rfl rfl rfl) ?_
  refine dq_r (sem_call rfl rfl (rcastb (rpSame_ok (by assumption) (by assumption) (by assumption) (by assumption) (by assumption) (by assumption) (by assumption) (by assumption) (by assumption) (by assumption)) (psame_refl _ _ _ _ _)) rfl) ?_
  refine dq_r (sem_pick rfl rfl rfl rfl) ?_
  refine dq_r (sem_assign rfl rfl) ?_
  refine dq_end ?_
  refine dl_start0 ?_
  refine dl_end ?_
  refine dw_ret ?_
  -- path 
  exact ⟨.inr rfl, (resL_tmp rfl resL_nil)⟩
theorem lwAt_A {v w : RN} (wv : v.Wf) (ww : w.Wf) (hw : (v.s 3 && w.s 3) = false) {x y : Int} (_g0 : -9223372036854775808 ≤ x) (_g1 : x ≤ 9223372036854775807) (_g2 : -9223372036854775808 ≤ y) (_g3 : y ≤ 9223372036854775807) {x1 x2 x3 x4 x5 : RN} : Ok Tryz.prog 8 [.a (cN v ++ cN w), .a ([.i .i64 x] ++ [.i .i64 y]), .a (cN x1 ++ cN x2 ++ cN x3 ++ cN x4 ++ cN x5)] [.c (.b true)] := by
  refine Ok.of (by kernel_rfl) Tryz.func8 rfl rfl ?_
  rw [show Tryz.f8.ntmps = 73 from rfl, show Tryz.f8.results.toList = [.tmp 6] from rfl]
  refine dw_seq ?_
  -- region 0
  refine dw_region (by kernel_rfl) ?_
  refine dl_new (sem_box_a rfl rfl) rfl ?_
  refine dl_new (sem_box_a rfl rfl) rfl ?_
  refine dl_new (sem_box_a rfl rfl) rfl ?_
  refine dl_r (sem_assign rfl rfl) ?_
  refine dl_end ?_
  refine dw_seq ?_
  refine dw_seq ?_
  -- region 1
  refine dw_region (by kernel_rfl) ?_
  refine dl_r (sem_call rfl rfl (awake_ok) rfl) ?_
  refine dl_r (sem_not rfl rfl) ?_
  refine dl_r (sem_move rfl rfl) ?_
  refine dl_r (sem_load (us := (cN v ++ cN w)) ty42 rfl rfl rfl rfl rfl) ?_
  refine dl_r (sem_call rfl rfl (rcastb (lwSmallVec (by assumption) (by assumption)) hw) rfl) ?_
  refine dl_r (sem_not rfl rfl) ?_
  refine dl_r (sem_pick rfl rfl rfl rfl) ?_
  refine dl_r (sem_move rfl rfl) ?_
  refine dl_skip (sem_skip rfl) ?_
  refine dl_skip (sem_skip rfl) ?_
  refine dl_skip (sem_skip rfl) ?_
  refine dl_skip (sem_skip rfl) ?_
  refine dl_r (sem_pick rfl rfl rfl rfl) ?_
  refine dl_end ?_
  refine dw_true rfl ?_
  refine dw_seq ?_
  -- region 2
  refine dw_region (by kernel_rfl) ?_
  refine dl_r (sem_call rfl rfl (awake_ok) rfl) ?_
  refine dl_r (sem_assign rfl rfl) ?_
  refine dl_end ?_
  refine dw_ret ?_
  -- path 
  exact ⟨.inr rfl, (resL_tmp rfl resL_nil)⟩
theorem lwAt_B {d e : Rat} (hd : Rz 3 d) (he : Rz 3 e) {x y : Int} (_g0 : -9223372036854775808 ≤ x) (_g1 : x ≤ 9223372036854775807) (_g2 : -9223372036854775808 ≤ y) (_g3 : y ≤ 9223372036854775807) {x1 x2 x3 x4 x5 : RN} (wx1 : x1.Wf) (wx2 : x2.Wf) (wx3 : x3.Wf) (wx4 : x4.Wf) (wx5 : x5.Wf) (hv : (x1.s 3 && (x2.s 3 && (x3.s 3 && (x4.s 3 && x5.s 3)))) = false) : Ok Tryz.prog 8 [.a (cR d ++ cR e), .a ([.i .i64 x] ++ [.i .i64 y]), .a (cN x1 ++ cN x2 ++ cN x3 ++ cN x4 ++ cN x5)] [.c (.b true)] := by
  refine Ok.of (by kernel_rfl) Tryz.func8 rfl rfl ?_
  rw [show Tryz.f8.ntmps = 73 from rfl, show Tryz.f8.results.toList = [.tmp 6] from rfl]
  refine dw_seq ?_
  -- region 0
  refine dw_region (by kernel_rfl) ?_
  refine dl_new (sem_box_a rfl rfl) rfl ?_
  refine dl_new (sem_box_a rfl rfl) rfl ?_
  refine dl_new (sem_box_a rfl rfl) rfl ?_
  refine dl_r (sem_assign rfl rfl) ?_
  refine dl_end ?_
  refine dw_seq ?_
  refine dw_seq ?_
  -- region 1
  refine dw_region (by kernel_rfl) ?_
  refine dl_r (sem_call rfl rfl (awake_ok) rfl) ?_
  refine dl_r (sem_not rfl rfl) ?_
  refine dl_r (sem_move rfl rfl) ?_
  refine dl_r (sem_load (us := (cR d ++ cR e)) ty42 rfl rfl rfl rfl rfl) ?_
  refine dl_r (sem_call rfl rfl (lwSmallVec_R (by assumption) (by assumption)) rfl) ?_
  refine dl_r (sem_not rfl rfl) ?_
  refine dl_r (sem_pick rfl rfl rfl rfl) ?_
  refine dl_r (sem_move rfl rfl) ?_
  refine dl_r (sem_load (us := (cN x1 ++ cN x2 ++ cN x3 ++ cN x4 ++ cN x5)) ty32 rfl rfl rfl rfl rfl) ?_
  refine dl_r (sem_slit_D (n := 1) (us := (cN x1 ++ cN x2 ++ cN x3 ++ cN x4 ++ cN x5)) el82 rfl rfl rfl (by decide) (by decide) rfl) ?_
  refine dl_r (sem_call rfl rfl (sm1_A (by assumption) (by assumption) (by assumption) (by assumption) (by assumption) hv) rfl) ?_
  refine dl_r (sem_not rfl rfl) ?_
  refine dl_r (sem_pick rfl rfl rfl rfl) ?_
  refine dl_end ?_
  refine dw_true rfl ?_
  refine dw_seq ?_
  -- region 2
  refine dw_region (by kernel_rfl) ?_
  refine dl_r (sem_call rfl rfl (awake_ok) rfl) ?_
  refine dl_r (sem_assign rfl rfl) ?_
  refine dl_end ?_
  refine dw_ret ?_
  -- path 
  exact ⟨.inr rfl, (resL_tmp rfl resL_nil)⟩
theorem lwAt_C {d e : Rat} (hd : Rz 3 d) (he : Rz 3 e) {x y : Int} (_g0 : -9223372036854775808 ≤ x) (_g1 : x ≤ 9223372036854775807) (_g2 : -9223372036854775808 ≤ y) (_g3 : y ≤ 9223372036854775807) {a1 b1 a2 b2 c : Rat} (ha1 : Rz 3 a1) (hb1 : Rz 3 b1) (ha2 : Rz 3 a2) (hb2 : Rz 3 b2) (hc : Rz 3 c) (v1 : vPt b1 b2 c = false) : Ok Tryz.prog 8 [.a (cR d ++ cR e), .a ([.i .i64 x] ++ [.i .i64 y]), .a (cR a1 ++ cR b1 ++ cR a2 ++ cR b2 ++ cR c)] [.c (.b true)] := by
  refine Ok.of (by kernel_rfl) Tryz.func8 rfl rfl ?_
  rw [show Tryz.f8.ntmps = 73 from rfl, show Tryz.f8.results.toList = [.tmp 6] from rfl]
  refine dw_seq ?_
  -- region 0
  refine dw_region (by kernel_rfl) ?_
  refine dl_new (sem_box_a rfl rfl) rfl ?_
  refine dl_new (sem_box_a rfl rfl) rfl ?_
  refine dl_new (sem_box_a rfl rfl) rfl ?_
  refine dl_r (sem_assign rfl rfl) ?_
  refine dl_end ?_
  refine dw_seq ?_
  refine dw_seq ?_
  -- region 1
  refine dw_region (by kernel_rfl) ?_
  refine dl_r (sem_call rfl rfl (awake_ok) rfl) ?_
  refine dl_r (sem_not rfl rfl) ?_
  refine dl_r (sem_move rfl rfl) ?_
  refine dl_r (sem_load (us := (cR d ++ cR e)) ty42 rfl rfl rfl rfl rfl) ?_
  refine dl_r (sem_call rfl rfl (lwSmallVec_R (by assumption) (by assumption)) rfl) ?_
  refine dl_r (sem_not rfl rfl) ?_
  refine dl_r (sem_pick rfl rfl rfl rfl) ?_
  refine dl_r (sem_move rfl rfl) ?_
  refine dl_r (sem_load (us := (cR a1 ++ cR b1 ++ cR a2 ++ cR b2 ++ cR c)) ty32 rfl rfl rfl rfl rfl) ?_
  refine dl_r (sem_slit_D (n := 1) (us := (cR a1 ++ cR b1 ++ cR a2 ++ cR b2 ++ cR c)) el82 rfl rfl rfl (by decide) (by decide) rfl) ?_
  refine dl_r (sem_call rfl rfl (sm1_false (by assumption) (by assumption) (by assumption) (by assumption) (by assumption) v1) rfl) ?_
  refine dl_r (sem_not rfl rfl) ?_
  refine dl_r (sem_pick rfl rfl rfl rfl) ?_
  refine dl_end ?_
  refine dw_true rfl ?_
  refine dw_seq ?_
  -- region 2
  refine dw_region (by kernel_rfl) ?_
  refine dl_r (sem_call rfl rfl (awake_ok) rfl) ?_
  refine dl_r (sem_assign rfl rfl) ?_
  refine dl_end ?_
  refine dw_ret ?_
  -- path 
  exact ⟨.inr rfl, (resL_tmp rfl resL_nil)⟩
theorem lwAt_D {d e : Rat} (hd : Rz 3 d) (he : Rz 3 e) {x y : Int} (g0 : -9223372036854775808 ≤ x) (g1 : x ≤ 9223372036854775807) (g2 : -9223372036854775808 ≤ y) (g3 : y ≤ 9223372036854775807) {a1 b1 a2 b2 c : Rat} (ha1 : Rz 3 a1) (hb1 : Rz 3 b1) (ha2 : Rz 3 a2) (hb2 : Rz 3 b2) (hc : Rz 3 c) (v1 : vPt b1 b2 c = true)  (h1 : b1 = 0 ∧ b2 = 0) : Ok Tryz.prog 8 [.a (cR d ++ cR e), .a ([.i .i64 x] ++ [.i .i64 y]), .a (cR a1 ++ cR b1 ++ cR a2 ++ cR b2 ++ cR c)] [.c (.b true)] := by
  have ka1 : Rz 300 a1 := ha1.mono (by decide)
  have kb1 : Rz 300 b1 := hb1.mono (by decide)
  have ka2 : Rz 300 a2 := ha2.mono (by decide)
  have kb2 : Rz 300 b2 := hb2.mono (by decide)
  have kc : Rz 300 c := hc.mono (by decide)
  have kd : Rz 300 d := hd.mono (by decide)
  have ke : Rz 300 e := he.mono (by decide)
  have k0 : Rz 300 (0 : Rat) := Rz.zero (by decide)
  have k1 : Rz 300 ((x : Int) : Rat) := Rz.int (Sz.small (by decide) (by omega) (by omega)) (by decide)
  have k2 : Rz 300 ((y : Int) : Rat) := Rz.int (Sz.small (by decide) (by omega) (by omega)) (by decide)
  refine Ok.of (by kernel_rfl) Tryz.func8 rfl rfl ?_
  rw [show Tryz.f8.ntmps = 73 from rfl, show Tryz.f8.results.toList = [.tmp 6] from rfl]
  refine dw_seq ?_
  -- region 0
  refine dw_region (by kernel_rfl) ?_
  refine dl_new (sem_box_a rfl rfl) rfl ?_
  refine dl_new (sem_box_a rfl rfl) rfl ?_
  refine dl_new (sem_box_a rfl rfl) rfl ?_
  refine dl_r (sem_assign rfl rfl) ?_
  refine dl_end ?_
  refine dw_seq ?_
  refine dw_seq ?_
  -- region 1
  refine dw_region (by kernel_rfl) ?_
  refine dl_r (sem_call rfl rfl (awake_ok) rfl) ?_
  refine dl_r (sem_not rfl rfl) ?_
  refine dl_r (sem_move rfl rfl) ?_
  refine dl_r (sem_load (us := (cR d ++ cR e)) ty42 rfl rfl rfl rfl rfl) ?_
  refine dl_r (sem_call rfl rfl (lwSmallVec_R (by assumption) (by assumption)) rfl) ?_
  refine dl_r (sem_not rfl rfl) ?_
  refine dl_r (sem_pick rfl rfl rfl rfl) ?_
  refine dl_r (sem_move rfl rfl) ?_
  refine dl_r (sem_load (us := (cR a1 ++ cR b1 ++ cR a2 ++ cR b2 ++ cR c)) ty32 rfl rfl rfl rfl rfl) ?_
  refine dl_r (sem_slit_D (n := 1) (us := (cR a1 ++ cR b1 ++ cR a2 ++ cR b2 ++ cR c)) el82 rfl rfl rfl (by decide) (by decide) rfl) ?_
  refine dl_r (sem_call rfl rfl (sm1_true (by assumption) (by assumption) (by assumption) (by assumption) (by assumption) v1) rfl) ?_
  refine dl_r (sem_not rfl rfl) ?_
  refine dl_r (sem_pick rfl rfl rfl rfl) ?_
  refine dl_end ?_
  refine dw_false rfl ?_
  refine dw_skip ?_
  refine dw_seq ?_
  refine dw_seq ?_
  -- region 3
  refine dw_draw 14 [] follows_mixed (by kernel_rfl) rfl rfl ?_
  refine dq_r (sem_load (us := (cR d ++ cR e)) ty42 rfl rfl rfl rfl rfl) ?_
  refine dq_r (sem_call rfl rfl (ptAt_ok) rfl) ?_
  refine dq_r (sem_load (us := (cR d ++ cR e)) ty42 rfl rfl rfl rfl rfl) ?_
  refine dq_r (sem_call rfl rfl (rpAt_ok) rfl) ?_
  refine dq_r (sem_call rfl rfl (rcastb (rpSame_ok (by assumption) (by assumption) (by assumption) (by assumption) (by assumption) (by assumption) (by assumption) (by assumption) (by assumption) (by assumption)) (psame_refl _ _ _ _ _)) rfl) ?_
  refine dq_r (sem_not rfl rfl) ?_
  refine dq_r (sem_move rfl rfl) ?_
  refine dq_r (sem_load (us := ([.i .i64 x] ++ [.i .i64 y])) ty60 rfl rfl rfl rfl rfl) ?_
  refine dq_r (sem_call rfl rfl (ptOfGrid_ok (by omega) (by omega) (by omega) (by omega)) rfl) ?_
  refine dq_r (sem_load (us := ([.i .i64 x] ++ [.i .i64 y])) ty60 rfl rfl rfl rfl rfl) ?_
  refine dq_r (sem_call rfl rfl (rpOfGrid_ok (by omega) (by omega) (by omega) (by omega)) rfl) ?_
  refine dq_r (sem_call rfl rfl (rcastb (rpSame_ok (by assumption) (by assumption) (by assumption) (by assumption) (by assumption) (by assumption) (by assumption) (by assumption) (by assumption) (by assumption)) (psame_refl _ _ _ _ _)) rfl) ?_
  refine dq_r (sem_not rfl rfl) ?_
  refine dq_r (sem_pick rfl rfl rfl rfl) ?_
  refine dq_end ?_
  refine dl_start0 ?_
  refine dl_end ?_
  refine dw_false rfl ?_
  refine dw_skip ?_
  refine dw_seq ?_
  -- region 5
  refine dw_region (by kernel_rfl) ?_
  refine dl_r (sem_load (us := (cR d ++ cR e)) ty42 rfl rfl rfl rfl rfl) ?_
  refine dl_r (sem_call rfl rfl (ptAt_ok) rfl) ?_
  refine dl_r (sem_call rfl rfl (ptRational_ok rfl rfl) rfl) ?_
  refine dl_r (sem_move rfl rfl) ?_
  refine dl_r (sem_extract rfl rfl rfl) ?_
  refine dl_r (sem_extract rfl rfl rfl) ?_
  refine dl_new (sem_alloc zc42 rfl) rfl ?_
  refine dl_st (sem_store_a ty42 rfl rfl rfl rfl rfl rfl) ?_
  refine dl_r (sem_assign rfl rfl) ?_
  refine dl_end ?_
  refine dw_seq ?_
  -- region 6
  refine dw_region (by kernel_rfl) ?_
  refine dl_r (sem_load (us := (cR a1 ++ cR b1 ++ cR a2 ++ cR b2 ++ cR c)) ty32 rfl rfl rfl rfl rfl) ?_
  refine dl_r (sem_call rfl rfl (ptRational_ok h1.1 h1.2) rfl) ?_
  refine dl_r (sem_move rfl rfl) ?_
  refine dl_r (sem_extract rfl rfl rfl) ?_
  refine dl_r (sem_extract rfl rfl rfl) ?_
  refine dl_new (sem_alloc zc42 rfl) rfl ?_
  refine dl_st (sem_store_a ty42 rfl rfl rfl rfl rfl rfl) ?_
  refine dl_r (sem_assign rfl rfl) ?_
  refine dl_end ?_
  refine dw_seq ?_
  -- region 7
  refine dw_region (by kernel_rfl) ?_
  refine dl_r (sem_load (us := (cR a1 ++ cR b1 ++ cR a2 ++ cR b2 ++ cR c)) ty32 rfl rfl rfl rfl rfl) ?_
  refine dl_r (sem_call rfl rfl (rpRational_ok h1.1 h1.2) rfl) ?_
  refine dl_r (sem_move rfl rfl) ?_
  refine dl_r (sem_extract rfl rfl rfl) ?_
  refine dl_r (sem_extract rfl rfl rfl) ?_
  refine dl_new (sem_alloc zc42 rfl) rfl ?_
  refine dl_st (sem_store_a ty42 rfl rfl rfl rfl rfl rfl) ?_
  refine dl_r (sem_assign rfl rfl) ?_
  refine dl_end ?_
  refine dw_seq ?_
  -- region 8
  refine dw_region (by kernel_rfl) ?_
  refine dl_r (sem_move rfl rfl) ?_
  refine dl_r (sem_move rfl rfl) ?_
  refine dl_r (sem_load (us := (cR d ++ cR e)) ty42 rfl rfl rfl rfl rfl) ?_
  refine dl_r (sem_load (us := (cR d ++ cR e)) ty42 rfl rfl rfl rfl rfl) ?_
  refine dl_r (sem_call rfl rfl (rcastb (rpSameVec_ok (by assumption) (by assumption) (by assumption) (by assumption)) (vsame_refl _ _)) rfl) ?_
  refine dl_r (sem_pick rfl rfl rfl rfl) ?_
  refine dl_r (sem_move rfl rfl) ?_
  refine dl_r (sem_move rfl rfl) ?_
  refine dl_r (sem_move rfl rfl) ?_
  refine dl_r (sem_beql rfl rfl ty_bool rfl) ?_
  refine dl_r (sem_pick rfl rfl rfl rfl) ?_
  refine dl_r (sem_move rfl rfl) ?_
  refine dl_r (sem_load (us := (cR a1 ++ cR a2)) ty42 rfl rfl rfl rfl rfl) ?_
  refine dl_r (sem_load (us := (cR a1 ++ cR a2)) ty42 rfl rfl rfl rfl rfl) ?_
  refine dl_r (sem_call rfl rfl (rcastb (rpSameVec_ok (by assumption) (by assumption) (by assumption) (by assumption)) (vsame_refl _ _)) rfl) ?_
  refine dl_r (sem_pick rfl rfl rfl rfl) ?_
  refine dl_r (sem_assign rfl rfl) ?_
  refine dl_end ?_
  refine dw_ret ?_
  -- path 
  exact ⟨.inr rfl, (resL_tmp rfl resL_nil)⟩
theorem lwAt_E {d e : Rat} (hd : Rz 3 d) (he : Rz 3 e) {x y : Int} (g0 : -9223372036854775808 ≤ x) (g1 : x ≤ 9223372036854775807) (g2 : -9223372036854775808 ≤ y) (g3 : y ≤ 9223372036854775807) {a1 b1 a2 b2 c : Rat} (ha1 : Rz 3 a1) (hb1 : Rz 3 b1) (ha2 : Rz 3 a2) (hb2 : Rz 3 b2) (hc : Rz 3 c) (v1 : vPt b1 b2 c = true)  (h1 : ¬ (b1 = 0 ∧ b2 = 0)) : Ok Tryz.prog 8 [.a (cR d ++ cR e), .a ([.i .i64 x] ++ [.i .i64 y]), .a (cR a1 ++ cR b1 ++ cR a2 ++ cR b2 ++ cR c)] [.c (.b true)] := by
  have ka1 : Rz 300 a1 := ha1.mono (by decide)
  have kb1 : Rz 300 b1 := hb1.mono (by decide)
  have ka2 : Rz 300 a2 := ha2.mono (by decide)
  have kb2 : Rz 300 b2 := hb2.mono (by decide)
  have kc : Rz 300 c := hc.mono (by decide)
  have kd : Rz 300 d := hd.mono (by decide)
  have ke : Rz 300 e := he.mono (by decide)
  have k0 : Rz 300 (0 : Rat) := Rz.zero (by decide)
  have k1 : Rz 300 ((x : Int) : Rat) := Rz.int (Sz.small (by decide) (by omega) (by omega)) (by decide)
  have k2 : Rz 300 ((y : Int) : Rat) := Rz.int (Sz.small (by decide) (by omega) (by omega)) (by decide)
  refine Ok.of (by kernel_rfl) Tryz.func8 rfl rfl ?_
  rw [show Tryz.f8.ntmps = 73 from rfl, show Tryz.f8.results.toList = [.tmp 6] from rfl]
  refine dw_seq ?_
  -- region 0
  refine dw_region (by kernel_rfl) ?_
  refine dl_new (sem_box_a rfl rfl) rfl ?_
  refine dl_new (sem_box_a rfl rfl) rfl ?_
  refine dl_new (sem_box_a rfl rfl) rfl ?_
  refine dl_r (sem_assign rfl rfl) ?_
  refine dl_end ?_
  refine dw_seq ?_
  refine dw_seq ?_
  -- region 1
  refine dw_region (by kernel_rfl) ?_
  refine dl_r (sem_call rfl rfl (awake_ok) rfl) ?_
  refine dl_r (sem_not rfl rfl) ?_
  refine dl_r (sem_move rfl rfl) ?_
  refine dl_r (sem_load (us := (cR d ++ cR e)) ty42 rfl rfl rfl rfl rfl) ?_
  refine dl_r (sem_call rfl rfl (lwSmallVec_R (by assumption) (by assumption)) rfl) ?_
  refine dl_r (sem_not rfl rfl) ?_
  refine dl_r (sem_pick rfl rfl rfl rfl) ?_
  refine dl_r (sem_move rfl rfl) ?_
  refine dl_r (sem_load (us := (cR a1 ++ cR b1 ++ cR a2 ++ cR b2 ++ cR c)) ty32 rfl rfl rfl rfl rfl) ?_
  refine dl_r (sem_slit_D (n := 1) (us := (cR a1 ++ cR b1 ++ cR a2 ++ cR b2 ++ cR c)) el82 rfl rfl rfl (by decide) (by decide) rfl) ?_
  refine dl_r (sem_call rfl rfl (sm1_true (by assumption) (by assumption) (by assumption) (by assumption) (by assumption) v1) rfl) ?_
  refine dl_r (sem_not rfl rfl) ?_
  refine dl_r (sem_pick rfl rfl rfl rfl) ?_
  refine dl_end ?_
  refine dw_false rfl ?_
  refine dw_skip ?_
  refine dw_seq ?_
  refine dw_seq ?_
  -- region 3
  refine dw_draw 14 [] follows_mixed (by kernel_rfl) rfl rfl ?_
  refine dq_r (sem_load (us := (cR d ++ cR e)) ty42 rfl rfl rfl rfl rfl) ?_
  refine dq_r (sem_call rfl rfl (ptAt_ok) rfl) ?_
  refine dq_r (sem_load (us := (cR d ++ cR e)) ty42 rfl rfl rfl rfl rfl) ?_
  refine dq_r (sem_call rfl rfl (rpAt_ok) rfl) ?_
  refine dq_r (sem_call rfl rfl (rcastb (rpSame_ok (by assumption) (by assumption) (by assumption) (by assumption) (by assumption) (by assumption) (by assumption) (by assumption) (by assumption) (by assumption)) (psame_refl _ _ _ _ _)) rfl) ?_
  refine dq_r (sem_not rfl rfl) ?_
  refine dq_r (sem_move rfl rfl) ?_
  refine dq_r (sem_load (us := ([.i .i64 x] ++ [.i .i64 y])) ty60 rfl rfl rfl rfl rfl) ?_
  refine dq_r (sem_call rfl rfl (ptOfGrid_ok (by omega) (by omega) (by omega) (by omega)) rfl) ?_
  refine dq_r (sem_load (us := ([.i .i64 x] ++ [.i .i64 y])) ty60 rfl rfl rfl rfl rfl) ?_
  refine dq_r (sem_call rfl rfl (rpOfGrid_ok (by omega) (by omega) (by omega) (by omega)) rfl) ?_
  refine dq_r (sem_call rfl rfl (rcastb (rpSame_ok (by assumption) (by assumption) (by assumption) (by assumption) (by assumption) (by assumption) (by assumption) (by assumption) (by assumption) (by assumption)) (psame_refl _ _ _ _ _)) rfl) ?_
  refine dq_r (sem_not rfl rfl) ?_
  refine dq_r (sem_pick rfl rfl rfl rfl) ?_
  refine dq_end ?_
  refine dl_start0 ?_
  refine dl_end ?_
  refine dw_false rfl ?_
  refine dw_skip ?_
  refine dw_seq ?_
  -- region 5
  refine dw_region (by kernel_rfl) ?_
  refine dl_r (sem_load (us := (cR d ++ cR e)) ty42 rfl rfl rfl rfl rfl) ?_
  refine dl_r (sem_call rfl rfl (ptAt_ok) rfl) ?_
  refine dl_r (sem_call rfl rfl (ptRational_ok rfl rfl) rfl) ?_
  refine dl_r (sem_move rfl rfl) ?_
  refine dl_r (sem_extract rfl rfl rfl) ?_
  refine dl_r (sem_extract rfl rfl rfl) ?_
  refine dl_new (sem_alloc zc42 rfl) rfl ?_
  refine dl_st (sem_store_a ty42 rfl rfl rfl rfl rfl rfl) ?_
  refine dl_r (sem_assign rfl rfl) ?_
  refine dl_end ?_
  refine dw_seq ?_
  -- region 6
  refine dw_region (by kernel_rfl) ?_
  refine dl_r (sem_load (us := (cR a1 ++ cR b1 ++ cR a2 ++ cR b2 ++ cR c)) ty32 rfl rfl rfl rfl rfl) ?_
  refine dl_r (sem_call rfl rfl (ptRational_bad h1) rfl) ?_
  refine dl_r (sem_move rfl rfl) ?_
  refine dl_r (sem_extract rfl rfl rfl) ?_
  refine dl_r (sem_extract rfl rfl rfl) ?_
  refine dl_new (sem_alloc zc42 rfl) rfl ?_
  refine dl_st (sem_store_a ty42 rfl rfl rfl rfl rfl rfl) ?_
  refine dl_r (sem_assign rfl rfl) ?_
  refine dl_end ?_
  refine dw_seq ?_
  -- region 7
  refine dw_region (by kernel_rfl) ?_
  refine dl_r (sem_load (us := (cR a1 ++ cR b1 ++ cR a2 ++ cR b2 ++ cR c)) ty32 rfl rfl rfl rfl rfl) ?_
  refine dl_r (sem_call rfl rfl (rpRational_bad h1) rfl) ?_
  refine dl_r (sem_move rfl rfl) ?_
  refine dl_r (sem_extract rfl rfl rfl) ?_
  refine dl_r (sem_extract rfl rfl rfl) ?_
  refine dl_new (sem_alloc zc42 rfl) rfl ?_
  refine dl_st (sem_store_a ty42 rfl rfl rfl rfl rfl rfl) ?_
  refine dl_r (sem_assign rfl rfl) ?_
  refine dl_end ?_
  refine dw_seq ?_
  -- region 8
  refine dw_region (by kernel_rfl) ?_
  refine dl_r (sem_move rfl rfl) ?_
  refine dl_r (sem_move rfl rfl) ?_
  refine dl_r (sem_load (us := (cR d ++ cR e)) ty42 rfl rfl rfl rfl rfl) ?_
  refine dl_r (sem_load (us := (cR d ++ cR e)) ty42 rfl rfl rfl rfl rfl) ?_
  refine dl_r (sem_call rfl rfl (rcastb (rpSameVec_ok (by assumption) (by assumption) (by assumption) (by assumption)) (vsame_refl _ _)) rfl) ?_
  refine dl_r (sem_pick rfl rfl rfl rfl) ?_
  refine dl_r (sem_move rfl rfl) ?_
  refine dl_r (sem_move rfl rfl) ?_
  refine dl_r (sem_move rfl rfl) ?_
  refine dl_r (sem_beql rfl rfl ty_bool rfl) ?_
  refine dl_r (sem_pick rfl rfl rfl rfl) ?_
  refine dl_r (sem_move rfl rfl) ?_
  refine dl_r (sem_load (us := zV) ty42 rfl rfl rfl rfl rfl) ?_
  refine dl_r (sem_load (us := zV) ty42 rfl rfl rfl rfl rfl) ?_
  refine dl_r (sem_call rfl rfl (rpSameVec0) rfl) ?_
  refine dl_r (sem_pick rfl rfl rfl rfl) ?_
  refine dl_r (sem_assign rfl rfl) ?_
  refine dl_end ?_
  refine dw_ret ?_
  -- path 
  exact ⟨.inr rfl, (resL_tmp rfl resL_nil)⟩
end Go.Proofs.YthpalcfhhicmgaaGreat
/- Plain: small raw points and vectors are numbers. -/
namespace Go.Proofs.YthpalcfhhicmgaaGreat
open Go Go.RowKit
theorem p3_of {x1 x2 x3 x4 x5 : RN} (w1 : x1.Wf) (w2 : x2.Wf) (w3 : x3.Wf) (w4 : x4.Wf) (w5 : x5.Wf) (h : (x1.s 3 && (x2.s 3 && (x3.s 3 && (x4.s 3 && x5.s 3)))) = true) :
    ∃ a1 b1 a2 b2 c : Rat, Rz 3 a1 ∧ Rz 3 b1 ∧ Rz 3 a2 ∧ Rz 3 b2 ∧ Rz 3 c ∧ (cN x1 ++ cN x2 ++ cN x3 ++ cN x4 ++ cN x5) = (cR a1 ++ cR b1 ++ cR a2 ++ cR b2 ++ cR c) := by
  simp only [Bool.and_eq_true] at h
  obtain ⟨a1, h1, e1⟩ := s3_of w1 h.1
  obtain ⟨b1, h2, e2⟩ := s3_of w2 h.2.1
  obtain ⟨a2, h3, e3⟩ := s3_of w3 h.2.2.1
  obtain ⟨b2, h4, e4⟩ := s3_of w4 h.2.2.2.1
  obtain ⟨c, h5, e5⟩ := s3_of w5 h.2.2.2.2
  exact ⟨a1, b1, a2, b2, c, h1, h2, h3, h4, h5, by rw [e1, e2, e3, e4, e5]⟩
theorem v3_of {v w : RN} (wv : v.Wf) (ww : w.Wf) (h : (v.s 3 && w.s 3) = true) : ∃ d e : Rat, Rz 3 d ∧ Rz 3 e ∧ (cN v ++ cN w) = (cR d ++ cR e) := by
  simp only [Bool.and_eq_true] at h
  obtain ⟨d, h1, e1⟩ := s3_of wv h.1
  obtain ⟨e, h2, e2⟩ := s3_of ww h.2
  exact ⟨d, e, h1, h2, by rw [e1, e2]⟩
end Go.Proofs.YthpalcfhhicmgaaGreat
/- PointTranslate: for every input the law returns true, and each argument reads behind the call as it read before. No condition. -/
namespace Go.Proofs.YthpalcfhhicmgaaGreat
open Go.ChangeShapes Go.WideShapes Go.ChangeAt Go.RowKit
theorem law_translate {x1 x2 x3 x4 x5 v w : RN} (w1 : x1.Wf) (w2 : x2.Wf) (w3 : x3.Wf) (w4 : x4.Wf) (w5 : x5.Wf) (wv : v.Wf) (ww : w.Wf) :
    Ok Tryz.prog 7 [.a (cN x1 ++ cN x2 ++ cN x3 ++ cN x4 ++ cN x5), .a (cN v ++ cN w)] [.c (.b true)] := by
  cases h : (x1.s 3 && (x2.s 3 && (x3.s 3 && (x4.s 3 && x5.s 3)))) with
  | false => exact lwTr_A w1 w2 w3 w4 w5 h
  | true =>
    obtain ⟨a1, b1, a2, b2, c, g1, g2, g3, g4, g5, e⟩ := p3_of w1 w2 w3 w4 w5 h
    rw [e]
    cases v1 : vPt b1 b2 c with
    | false => exact lwTr_B g1 g2 g3 g4 g5 v1
    | true =>
      cases h' : (v.s 3 && w.s 3) with
      | false => exact lwTr_C g1 g2 g3 g4 g5 v1 wv ww h'
      | true =>
        obtain ⟨d, e', k1, k2, e2⟩ := v3_of wv ww h'
        rw [e2]
        exact lwTr_D g1 g2 g3 g4 g5 v1 k1 k2
set_option maxRecDepth 100000 in
theorem translate_lifted (os : Os) (started : os.Started) (H : Type) (enc : TypeId × Value → H) :
    ReturnsInHanded {} Tryz.checked os 7 .any (Rows.pointTranslateSpec.pre6 enc Tryz.prog Tryz.f7 Rows.pointTranslateRow.domain false) (Rows.pointTranslateSpec.post enc Tryz.prog Tryz.f7 false true false false) := by
  refine returnsInHanded_of_change (C := Tryz.checked) own started (by kernel_rfl) Tryz.func7
    (ChangeSpec.witness6 (enc := enc) (C := Tryz.checked) false ⟨#[], #[.agg (Array.replicate 10 #[Value.bool false, .slice none 0 0]).flatten, .agg (Array.replicate 4 #[Value.bool false, .slice none 0 0]).flatten], []⟩ 8 (by kernel_rfl) (by kernel_rfl) (by kernel_rfl) (by kernel_rfl)) ?_
  intro W base args ds gs before hval0 hW hcnd _
  have hval : ∀ (j : Nat) t v, Tryz.f7.params[j]? = some t → args[j]? = some v → Value.okWide Tryz.prog W .any base t v := hval0
  have hW' := hW
  obtain ⟨p, q, hA0, hV, rfl, hfz, hnd⟩ := hW
  have hA : DataW.TrodAll enc Tryz.prog W 0 (fun _ => true) true Tryz.f7.params.toList args.toList ds p := hA0
  rw [Tryz.params7] at hA hval
  obtain ⟨v0, vs0, d0, ds0, p0, q0, hargs, rfl, rfl, h0, r0⟩ := trodAll_cons hA
  obtain ⟨v1, vs1, d1, ds1, p1, q1, rfl, rfl, rfl, h1, r1⟩ := trodAll_cons r0
  obtain ⟨rfl, rfl, rfl⟩ := trodAll_nil r1
  obtain rfl : args = #[v0, v1] := by cases args; simp_all
  obtain ⟨rfl, rfl⟩ := trodVars_none hV
  obtain ⟨a0, rfl, _⟩ := okWide_struct Tryz.underlying32 (hval 0 32 v0 rfl rfl)
  have k0 := h0
  have lt0 : ∀ x ∈ p0, x.block < W.heap.size := by obtain ⟨m, hm⟩ := k0; exact DataW.trod_lt m _ _ _ hm
  obtain ⟨a1, rfl, _⟩ := okWide_struct Tryz.underlying42 (hval 1 42 v1 rfl rfl)
  have k1 := h1
  have lt1 : ∀ x ∈ p1, x.block < W.heap.size := by obtain ⟨m, hm⟩ := k1; exact DataW.trod_lt m _ _ _ hm
  obtain ⟨e00, e01, e02, e03, e04, w00, w01, w02, w03, w04, hr0⟩ := point_of (show DataW.trod enc Tryz.prog W 0 _ _ h0.choose 32 a0.toList = some _ from h0.choose_spec)
  obtain ⟨e10, e11, w10, w11, hr1⟩ := vec_of (show DataW.trod enc Tryz.prog W 0 _ _ h1.choose 42 a1.toList = some _ from h1.choose_spec)
  clear hA0 hval0
  refine (law_of (law_translate w00 w01 w02 w03 w04 w10 w11) (RdL.cons ⟨a0, rfl, hr0⟩ (RdL.cons ⟨a1, rfl, hr1⟩ RdL.nil))).mono fun e W' ⟨he, bel⟩ => ?_
  subst he
  exact ⟨_, rfl, _, _, _, [], _, [], hW', trodAll_mk1 (shut_bool Tryz.underlying4 _), (trodAll_cons_mk (Below.trod laidOut (by kernel_rfl) (of_decide_eq_true (by kernel_rfl)) k0 bel lt0) (trodAll_cons_mk (Below.trod laidOut (by kernel_rfl) (of_decide_eq_true (by kernel_rfl)) k1 bel lt1) trodAll_mk0)), rfl, bel.frame _, fun h => by cases h⟩
theorem translate_proved : Rows.PointTranslateSaid :=
  OpenClaim.holds_of_wide 7 Tryz.f7 rfl rfl rfl rfl rfl rfl rfl ⟨rfl, rfl, rfl, rfl, rfl⟩ rfl rfl rfl rfl rfl (by kernel_rfl) Tryz.func7 (by kernel_rfl)
    (of_decide_eq_true (by kernel_rfl)) (by unfold Func.isWrapper; first | (rw [if_pos (by decide +kernel)]; kernel_rfl) | (rw [if_neg (by decide +kernel)]; exact ⟨rfl, rfl⟩))
    (fun os started H enc _ => translate_lifted os started H enc)
end Go.Proofs.YthpalcfhhicmgaaGreat
/- PointAt: for every input the law returns true, and each argument reads behind the call as it read before. No condition. -/
namespace Go.Proofs.YthpalcfhhicmgaaGreat
open Go.ChangeShapes Go.WideShapes Go.ChangeAt Go.RowKit
theorem law_at {v w x1 x2 x3 x4 x5 : RN} {x y : Int} (wv : v.Wf) (ww : w.Wf) (g0 : -9223372036854775808 ≤ x) (g1 : x ≤ 9223372036854775807) (g2 : -9223372036854775808 ≤ y) (g3 : y ≤ 9223372036854775807) (w1 : x1.Wf) (w2 : x2.Wf) (w3 : x3.Wf) (w4 : x4.Wf) (w5 : x5.Wf) :
    Ok Tryz.prog 8 [.a (cN v ++ cN w), .a ([.i .i64 x] ++ [.i .i64 y]), .a (cN x1 ++ cN x2 ++ cN x3 ++ cN x4 ++ cN x5)] [.c (.b true)] := by
  cases h' : (v.s 3 && w.s 3) with
  | false => exact lwAt_A wv ww h' g0 g1 g2 g3
  | true =>
    obtain ⟨d, e', k1, k2, e2⟩ := v3_of wv ww h'
    rw [e2]
    cases h : (x1.s 3 && (x2.s 3 && (x3.s 3 && (x4.s 3 && x5.s 3)))) with
    | false => exact lwAt_B k1 k2 g0 g1 g2 g3 w1 w2 w3 w4 w5 h
    | true =>
      obtain ⟨a1, b1, a2, b2, c, m1, m2, m3, m4, m5, e⟩ := p3_of w1 w2 w3 w4 w5 h
      rw [e]
      cases v1 : vPt b1 b2 c with
      | false => exact lwAt_C k1 k2 g0 g1 g2 g3 m1 m2 m3 m4 m5 v1
      | true =>
        by_cases hb : b1 = 0 ∧ b2 = 0
        · exact lwAt_D k1 k2 g0 g1 g2 g3 m1 m2 m3 m4 m5 v1 hb
        · exact lwAt_E k1 k2 g0 g1 g2 g3 m1 m2 m3 m4 m5 v1 hb
set_option maxRecDepth 100000 in
theorem at_lifted (os : Os) (started : os.Started) (H : Type) (enc : TypeId × Value → H) :
    ReturnsInHanded {} Tryz.checked os 8 .any (Rows.pointAtSpec.pre6 enc Tryz.prog Tryz.f8 Rows.pointAtRow.domain false) (Rows.pointAtSpec.post enc Tryz.prog Tryz.f8 false true false false) := by
  refine returnsInHanded_of_change (C := Tryz.checked) own started (by kernel_rfl) Tryz.func8
    (ChangeSpec.witness6 (enc := enc) (C := Tryz.checked) false ⟨#[], #[.agg (Array.replicate 4 #[Value.bool false, .slice none 0 0]).flatten, .agg #[.int .i64 0, .int .i64 0], .agg (Array.replicate 10 #[Value.bool false, .slice none 0 0]).flatten], []⟩ 8 (by kernel_rfl) (by kernel_rfl) (by kernel_rfl) (by kernel_rfl)) ?_
  intro W base args ds gs before hval0 hW hcnd _
  have hval : ∀ (j : Nat) t v, Tryz.f8.params[j]? = some t → args[j]? = some v → Value.okWide Tryz.prog W .any base t v := hval0
  have hW' := hW
  obtain ⟨p, q, hA0, hV, rfl, hfz, hnd⟩ := hW
  have hA : DataW.TrodAll enc Tryz.prog W 0 (fun _ => true) true Tryz.f8.params.toList args.toList ds p := hA0
  rw [Tryz.params8] at hA hval
  obtain ⟨v0, vs0, d0, ds0, p0, q0, hargs, rfl, rfl, h0, r0⟩ := trodAll_cons hA
  obtain ⟨v1, vs1, d1, ds1, p1, q1, rfl, rfl, rfl, h1, r1⟩ := trodAll_cons r0
  obtain ⟨v2, vs2, d2, ds2, p2, q2, rfl, rfl, rfl, h2, r2⟩ := trodAll_cons r1
  obtain ⟨rfl, rfl, rfl⟩ := trodAll_nil r2
  obtain rfl : args = #[v0, v1, v2] := by cases args; simp_all
  obtain ⟨rfl, rfl⟩ := trodVars_none hV
  obtain ⟨a0, rfl, _⟩ := okWide_struct Tryz.underlying42 (hval 0 42 v0 rfl rfl)
  have k0 := h0
  have lt0 : ∀ x ∈ p0, x.block < W.heap.size := by obtain ⟨m, hm⟩ := k0; exact DataW.trod_lt m _ _ _ hm
  obtain ⟨a1, rfl, _⟩ := okWide_struct Tryz.underlying60 (hval 1 60 v1 rfl rfl)
  have k1 := h1
  have lt1 : ∀ x ∈ p1, x.block < W.heap.size := by obtain ⟨m, hm⟩ := k1; exact DataW.trod_lt m _ _ _ hm
  obtain ⟨a2, rfl, _⟩ := okWide_struct Tryz.underlying32 (hval 2 32 v2 rfl rfl)
  have k2 := h2
  have lt2 : ∀ x ∈ p2, x.block < W.heap.size := by obtain ⟨m, hm⟩ := k2; exact DataW.trod_lt m _ _ _ hm
  obtain ⟨e00, e01, w00, w01, hr0⟩ := vec_of (show DataW.trod enc Tryz.prog W 0 _ _ h0.choose 42 a0.toList = some _ from h0.choose_spec)
  obtain ⟨x1, y1, g10, g11, g12, g13, hr1⟩ := grid_of (show DataW.trod enc Tryz.prog W 0 _ _ h1.choose 60 a1.toList = some _ from h1.choose_spec)
  obtain ⟨e20, e21, e22, e23, e24, w20, w21, w22, w23, w24, hr2⟩ := point_of (show DataW.trod enc Tryz.prog W 0 _ _ h2.choose 32 a2.toList = some _ from h2.choose_spec)
  clear hA0 hval0
  refine (law_of (law_at w00 w01 g10 g11 g12 g13 w20 w21 w22 w23 w24) (RdL.cons ⟨a0, rfl, hr0⟩ (RdL.cons ⟨a1, rfl, hr1⟩ (RdL.cons ⟨a2, rfl, hr2⟩ RdL.nil)))).mono fun e W' ⟨he, bel⟩ => ?_
  subst he
  exact ⟨_, rfl, _, _, _, [], _, [], hW', trodAll_mk1 (shut_bool Tryz.underlying4 _), (trodAll_cons_mk (Below.trod laidOut (by kernel_rfl) (of_decide_eq_true (by kernel_rfl)) k0 bel lt0) (trodAll_cons_mk (Below.trod laidOut (by kernel_rfl) (of_decide_eq_true (by kernel_rfl)) k1 bel lt1) (trodAll_cons_mk (Below.trod laidOut (by kernel_rfl) (of_decide_eq_true (by kernel_rfl)) k2 bel lt2) trodAll_mk0))), rfl, bel.frame _, fun h => by cases h⟩
theorem at_proved : Rows.PointAtSaid :=
  OpenClaim.holds_of_wide 8 Tryz.f8 rfl rfl rfl rfl rfl rfl rfl ⟨rfl, rfl, rfl, rfl, rfl⟩ rfl rfl rfl rfl rfl (by kernel_rfl) Tryz.func8 (by kernel_rfl)
    (of_decide_eq_true (by kernel_rfl)) (by unfold Func.isWrapper; first | (rw [if_pos (by decide +kernel)]; kernel_rfl) | (rw [if_neg (by decide +kernel)]; exact ⟨rfl, rfl⟩))
    (fun os started H enc _ => at_lifted os started H enc)
end Go.Proofs.YthpalcfhhicmgaaGreat
/- Plain: numbers as sequences of fractions; their signs; square roots. No program in sight. -/
namespace Go.Proofs.YthpalcfhhicmgaaGreat
open Go Go.RowKit
def Cau (x : Nat → Rat) : Prop := ∀ e : Rat, 0 < e → ∃ K : Nat, ∀ i j, K ≤ i → K ≤ j → x i - x j ≤ e
def Psv (x : Nat → Rat) : Prop := ∃ e : Rat, 0 < e ∧ ∃ K : Nat, ∀ k, K ≤ k → e ≤ x k
def Nul (x : Nat → Rat) : Prop := ∀ e : Rat, 0 < e → ∃ K : Nat, ∀ k, K ≤ k → -e ≤ x k ∧ x k ≤ e
structure Re where
  s : Nat → Rat
  c : Cau s
theorem Re.ext {x y : Re} (h : ∀ k, x.s k = y.s k) : x = y := by
  cases x; cases y
  have : _ = _ := funext h
  subst this; rfl
theorem q_half {e : Rat} (h : 0 < e) : 0 < e / 2 := by grind
theorem q_div {e B : Rat} (h : 0 < e) (h2 : 0 < B) : 0 < e / B ∧ B * (e / B) = e := by
  refine ⟨?_, by grind⟩
  rw [Rat.div_def]
  exact Rat.mul_pos h (Rat.inv_pos.2 h2)
/-- A bound. -/
theorem Re.bnd (x : Re) : ∃ B : Rat, 0 < B ∧ ∃ K : Nat, ∀ k, K ≤ k → -B ≤ x.s k ∧ x.s k ≤ B := by
  obtain ⟨K, h⟩ := x.c 1 (by decide)
  by_cases hs : 0 ≤ x.s K
  · exact ⟨x.s K + 1, by grind, K, fun k hk => by have h1 := h k K hk (Nat.le_refl _); have h2 := h K k (Nat.le_refl _) hk; constructor <;> grind⟩
  · exact ⟨1 - x.s K, by grind, K, fun k hk => by have h1 := h k K hk (Nat.le_refl _); have h2 := h K k (Nat.le_refl _) hk; constructor <;> grind⟩
theorem cau_const (q : Rat) : Cau (fun _ => q) := fun e he => ⟨0, fun i j _ _ => by grind⟩
theorem cau_add {x y : Nat → Rat} (hx : Cau x) (hy : Cau y) : Cau (fun k => x k + y k) := fun e he => by
  obtain ⟨K, h⟩ := hx (e / 2) (q_half he)
  obtain ⟨L, g⟩ := hy (e / 2) (q_half he)
  exact ⟨max K L, fun i j hi hj => by have h1 := h i j (by omega) (by omega); have h2 := g i j (by omega) (by omega); grind⟩
theorem cau_neg {x : Nat → Rat} (hx : Cau x) : Cau (fun k => -x k) := fun e he => by
  obtain ⟨K, h⟩ := hx e he
  exact ⟨K, fun i j hi hj => by have h1 := h j i hj hi; grind⟩
theorem q_prod {a b e f : Rat} (h1 : -e ≤ a) (h2 : a ≤ e) (h3 : -f ≤ b) (h4 : b ≤ f) : a * b ≤ e * f ∧ -(e * f) ≤ a * b := by
  have p1 : 0 ≤ (e - a) * (f + b) := Rat.mul_nonneg (by grind) (by grind)
  have p2 : 0 ≤ (e + a) * (f - b) := Rat.mul_nonneg (by grind) (by grind)
  have p3 : 0 ≤ (e - a) * (f - b) := Rat.mul_nonneg (by grind) (by grind)
  have p4 : 0 ≤ (e + a) * (f + b) := Rat.mul_nonneg (by grind) (by grind)
  constructor <;> grind
theorem cau_mul (x y : Re) : Cau (fun k => x.s k * y.s k) := fun e he => by
  obtain ⟨B, hB, K, hb⟩ := x.bnd
  obtain ⟨D, hD, L, hd⟩ := y.bnd
  obtain ⟨d1, e1⟩ := q_div (q_half he) hB
  obtain ⟨d2, e2⟩ := q_div (q_half he) hD
  obtain ⟨K', h⟩ := x.c _ d2
  obtain ⟨L', g⟩ := y.c _ d1
  refine ⟨max (max K L) (max K' L'), fun i j hi hj => ?_⟩
  have b1 := hb i (by omega)
  have b2 := hd j (by omega)
  have h1 := h i j (by omega) (by omega)
  have h2 := h j i (by omega) (by omega)
  have g1 := g i j (by omega) (by omega)
  have g2 := g j i (by omega) (by omega)
  have p1 := (q_prod b1.1 b1.2 (a := x.s i) (b := y.s i - y.s j) (f := e / 2 / B) (by grind) (by grind)).1
  have p2 := (q_prod b2.1 b2.2 (a := y.s j) (b := x.s i - x.s j) (f := e / 2 / D) (by grind) (by grind)).1
  rw [e1] at p1
  rw [e2] at p2
  grind
def Re.of (q : Rat) : Re := ⟨fun _ => q, cau_const q⟩
instance : Add Re := ⟨fun x y => ⟨fun k => x.s k + y.s k, cau_add x.c y.c⟩⟩
instance : Neg Re := ⟨fun x => ⟨fun k => -x.s k, cau_neg x.c⟩⟩
instance : _root_.Sub Re := ⟨fun x y => x + -y⟩
instance : Mul Re := ⟨fun x y => ⟨fun k => x.s k * y.s k, cau_mul x y⟩⟩
theorem re_add (x y : Re) (k : Nat) : (x + y).s k = x.s k + y.s k := rfl
theorem re_neg (x : Re) (k : Nat) : (-x).s k = -x.s k := rfl
theorem re_sub (x y : Re) (k : Nat) : (x - y).s k = x.s k + -y.s k := rfl
theorem re_mul (x y : Re) (k : Nat) : (x * y).s k = x.s k * y.s k := rfl
theorem re_of (q : Rat) (k : Nat) : (Re.of q).s k = q := rfl
theorem psv_nul_psv (x : Re) : Psv x.s ∨ Nul x.s ∨ Psv (-x).s := by
  by_cases hn : Nul x.s
  · exact .inr (.inl hn)
  · unfold Nul at hn
    obtain ⟨e, hn⟩ := Classical.not_forall.1 hn
    obtain ⟨he, hn⟩ := Classical.not_imp.1 hn
    obtain ⟨K, h⟩ := x.c (e / 2) (q_half he)
    have hn2 := not_exists.1 hn K
    obtain ⟨k, hn3⟩ := Classical.not_forall.1 hn2
    obtain ⟨hk, hn4⟩ := Classical.not_imp.1 hn3
    by_cases h1 : e < x.s k
    · exact .inl ⟨e / 2, q_half he, K, fun j hj => by have := h k j hk hj; grind⟩
    · have h2 : x.s k < -e := by
        apply Classical.byContradiction
        intro h3
        exact hn4 ⟨by grind, by grind⟩
      exact .inr (.inr ⟨e / 2, q_half he, K, fun j hj => by rw [re_neg]; have := h j k hj hk; grind⟩)
section
variable {x y z : Re}
theorem psv_not (h : Psv x.s) : ¬ Psv (-x).s := fun g => by
  obtain ⟨e, he, K, h⟩ := h
  obtain ⟨f, hf, L, g⟩ := g
  have h1 := h (max K L) (by omega)
  have h2 := g (max K L) (by omega)
  rw [re_neg] at h2
  grind
theorem psv_not_nul (h : Psv x.s) : ¬ Nul x.s := fun g => by
  obtain ⟨e, he, K, h⟩ := h
  obtain ⟨L, g⟩ := g (e / 2) (q_half he)
  have h1 := h (max K L) (by omega)
  have h2 := g (max K L) (by omega)
  grind
theorem nul_neg (h : Nul x.s) : Nul (-x).s := fun e he => by
  obtain ⟨K, h⟩ := h e he
  exact ⟨K, fun k hk => by rw [re_neg]; have := h k hk; constructor <;> grind⟩
theorem nul_add (h : Nul x.s) (g : Nul y.s) : Nul (x + y).s := fun e he => by
  obtain ⟨K, h⟩ := h (e / 2) (q_half he)
  obtain ⟨L, g⟩ := g (e / 2) (q_half he)
  exact ⟨max K L, fun k hk => by rw [re_add]; have := h k (by omega); have := g k (by omega); constructor <;> grind⟩
theorem psv_add_nul (h : Psv x.s) (g : Nul y.s) : Psv (x + y).s := by
  obtain ⟨e, he, K, h⟩ := h
  obtain ⟨L, g⟩ := g (e / 2) (q_half he)
  exact ⟨e / 2, q_half he, max K L, fun k hk => by rw [re_add]; have := h k (by omega); have := g k (by omega); grind⟩
theorem psv_add (h : Psv x.s) (g : Psv y.s) : Psv (x + y).s := by
  obtain ⟨e, he, K, h⟩ := h
  obtain ⟨f, hf, L, g⟩ := g
  exact ⟨e, he, max K L, fun k hk => by rw [re_add]; have := h k (by omega); have := g k (by omega); grind⟩
theorem psv_mul (h : Psv x.s) (g : Psv y.s) : Psv (x * y).s := by
  obtain ⟨e, he, K, h⟩ := h
  obtain ⟨f, hf, L, g⟩ := g
  refine ⟨e * f, Rat.mul_pos he hf, max K L, fun k hk => ?_⟩
  rw [re_mul]
  have h1 := h k (by omega)
  have h2 := g k (by omega)
  have p1 : 0 ≤ (x.s k - e) * f := Rat.mul_nonneg (by grind) (by grind)
  have p2 : 0 ≤ x.s k * (y.s k - f) := Rat.mul_nonneg (by grind) (by grind)
  grind
theorem nul_mul (x : Re) (g : Nul y.s) : Nul (x * y).s := fun e he => by
  obtain ⟨B, hB, K, hb⟩ := x.bnd
  obtain ⟨d1, e1⟩ := q_div he hB
  obtain ⟨L, g⟩ := g _ d1
  refine ⟨max K L, fun k hk => ?_⟩
  rw [re_mul]
  have h1 := hb k (by omega)
  have h2 := g k (by omega)
  have p := q_prod h1.1 h1.2 h2.1 h2.2
  rw [e1] at p
  exact ⟨p.2, p.1⟩
theorem re_negneg (x : Re) : - -x = x := Re.ext fun k => by rw [re_neg, re_neg]; grind
theorem re_mulc (x y : Re) : x * y = y * x := Re.ext fun k => by rw [re_mul, re_mul]; grind
theorem re_negmul (x y : Re) : -(x * y) = -x * y := Re.ext fun k => by rw [re_neg, re_mul, re_mul, re_neg]; grind
theorem re_mulneg (x y : Re) : -(x * y) = x * -y := Re.ext fun k => by rw [re_neg, re_mul, re_mul, re_neg]; grind
theorem re_negadd (x y : Re) : -(x + y) = -x + -y := Re.ext fun k => by rw [re_neg, re_add, re_add, re_neg, re_neg]; grind
/-- the sign -/
noncomputable def sgR (x : Re) : Int := open Classical in if Psv x.s then 1 else if Psv (-x).s then -1 else 0
theorem sgR_p : sgR x = 1 ↔ Psv x.s := by
  unfold sgR
  split
  · rename_i h; simp [h]
  · rename_i h; split <;> simp [h]
theorem sgR_n : sgR x = -1 ↔ Psv (-x).s := by
  unfold sgR
  split
  · rename_i h; simp [psv_not h]
  · rename_i h
    split
    · rename_i h2; simp [h2]
    · rename_i h2; simp [h2]
theorem sgR_z : sgR x = 0 ↔ Nul x.s := by
  unfold sgR
  split
  · rename_i h; simp [psv_not_nul h]
  · rename_i h
    split
    · rename_i h2
      have h3 := psv_not_nul h2
      simp
      exact fun g => h3 (nul_neg g)
    · rename_i h2
      simp
      exact ((psv_nul_psv x).resolve_left h).resolve_right h2
theorem sgR_cases (x : Re) : sgR x = 1 ∨ sgR x = 0 ∨ sgR x = -1 := by
  rcases psv_nul_psv x with h | h | h
  · exact .inl (sgR_p.2 h)
  · exact .inr (.inl (sgR_z.2 h))
  · exact .inr (.inr (sgR_n.2 h))
theorem sgR_neg (x : Re) : sgR (-x) = -sgR x := by
  rcases psv_nul_psv x with h | h | h
  · rw [sgR_p.2 h, sgR_n, re_negneg]; exact h
  · rw [sgR_z.2 h, sgR_z.2 (nul_neg h)]; rfl
  · rw [sgR_n.2 h, sgR_p.2 h]; rfl
theorem sgR_mul (x y : Re) : sgR (x * y) = sgR x * sgR y := by
  rcases psv_nul_psv x with h | h | h <;> rcases psv_nul_psv y with g | g | g
  · rw [sgR_p.2 h, sgR_p.2 g, sgR_p.2 (psv_mul h g)]; rfl
  · rw [sgR_p.2 h, sgR_z.2 g, sgR_z.2 (nul_mul x g)]; rfl
  · rw [sgR_p.2 h, sgR_n.2 g, Int.one_mul, sgR_n, re_mulneg]; exact psv_mul h g
  · rw [sgR_z.2 h, Int.zero_mul, sgR_z, re_mulc]; exact nul_mul y h
  · rw [sgR_z.2 h, Int.zero_mul, sgR_z, re_mulc]; exact nul_mul y h
  · rw [sgR_z.2 h, Int.zero_mul, sgR_z, re_mulc]; exact nul_mul y h
  · rw [sgR_n.2 h, sgR_p.2 g, Int.mul_one, sgR_n, re_negmul]; exact psv_mul h g
  · rw [sgR_n.2 h, sgR_z.2 g, sgR_z.2 (nul_mul x g)]; rfl
  · rw [sgR_n.2 h, sgR_n.2 g]
    have e : x * y = -x * -y := Re.ext fun k => by rw [re_mul, re_mul, re_neg, re_neg]; grind
    rw [e, sgR_p.2 (psv_mul h g)]; rfl
theorem sgR_addz (x : Re) (h : sgR y = 0) : sgR (x + y) = sgR x := by
  have g := sgR_z.1 h
  rcases psv_nul_psv x with h | h | h
  · rw [sgR_p.2 h, sgR_p.2 (psv_add_nul h g)]
  · rw [sgR_z.2 h, sgR_z.2 (nul_add h g)]
  · rw [sgR_n.2 h, sgR_n, re_negadd]; exact psv_add_nul h (nul_neg g)
theorem re_addc (x y : Re) : x + y = y + x := Re.ext fun k => by rw [re_add, re_add]; grind
theorem sgR_zadd (h : sgR x = 0) (y : Re) : sgR (x + y) = sgR y := by rw [re_addc]; exact sgR_addz y h
theorem sgR_adds (h : sgR x = sgR y) : sgR (x + y) = sgR x := by
  rcases sgR_cases x with g | g | g
  · rw [g, sgR_p]; exact psv_add (sgR_p.1 g) (sgR_p.1 (h.symm.trans g))
  · rw [sgR_addz x (h.symm.trans g)]
  · rw [g, sgR_n, re_negadd]; exact psv_add (sgR_n.1 g) (sgR_n.1 (h.symm.trans g))
/-- sums of what is not negative -/
theorem sgR_nn (h : 0 ≤ sgR x) (g : 0 ≤ sgR y) : 0 ≤ sgR (x + y) := by
  rcases sgR_cases x with a | a | a
  · rcases sgR_cases y with b | b | b
    · rw [sgR_adds (a.trans b.symm)]; exact h
    · rw [sgR_addz x b]; exact h
    · omega
  · rw [sgR_zadd a]; exact g
  · omega
theorem sgR_pn (h : 0 < sgR x) (g : 0 ≤ sgR y) : 0 < sgR (x + y) := by
  rcases sgR_cases y with b | b | b
  · rcases sgR_cases x with a | a | a
    · rw [sgR_adds (a.trans b.symm)]; exact h
    · omega
    · omega
  · rw [sgR_addz x b]; exact h
  · omega
/-- what differs by nothing has the same sign -/
theorem sgR_same (h : sgR (x - y) = 0) : sgR x = sgR y := by
  have e : x = (x - y) + y := Re.ext fun k => by rw [re_add, re_sub]; grind
  rw [e]
  exact sgR_zadd h y
theorem sgR_of (q : Rat) : sgR (Re.of q) = cmpR q 0 := by
  unfold cmpR
  split
  · rename_i h
    exact sgR_n.2 ⟨-q, by grind, 0, fun k _ => by rw [re_neg, re_of]; grind⟩
  · split
    · rename_i h; exact sgR_p.2 ⟨q, h, 0, fun k _ => by rw [re_of]; grind⟩
    · exact sgR_z.2 fun e he => ⟨0, fun k _ => by rw [re_of]; constructor <;> grind⟩
end
/-- THE SIGN OF X + Y r, where r is the root of n. -/
theorem sgR_comb {X Y r n : Re} (hr : 0 ≤ sgR r) (hn : sgR (r * r - n) = 0) : sgR (X + Y * r) = comb (sgR X) (sgR Y * sgR n) (sgR (X * X - Y * Y * n)) := by
  have hrn : sgR r = sgR n := by
    have h1 := sgR_same hn
    rw [sgR_mul] at h1
    rcases sgR_cases r with h | h | h
    · rw [← h1, h]; rfl
    · rw [← h1, h]; rfl
    · omega
  have ht : sgR (Y * r) = sgR Y * sgR n := by rw [sgR_mul, hrn]
  rw [← ht]
  unfold comb
  split
  · rename_i h
    rcases h with h | h
    · exact sgR_addz X h
    · exact sgR_adds h
  · rename_i h
    split
    · rename_i h2; exact sgR_zadd h2 _
    · rename_i h2
      have hopp : sgR (Y * r) = -sgR X := by
        have a := sgR_cases X
        have b := sgR_cases (Y * r)
        omega
      have hm : sgR (X + -(Y * r)) = sgR X := sgR_adds (by rw [sgR_neg, hopp]; omega)
      have e1 : sgR ((X + Y * r) * (X + -(Y * r))) = sgR (X * X - Y * Y * n) := by
        refine sgR_same ?_
        have e : (X + Y * r) * (X + -(Y * r)) - (X * X - Y * Y * n) = -(Y * Y) * (r * r - n) := Re.ext fun k => by
          simp only [re_sub, re_mul, re_add, re_neg]; grind
        rw [e, sgR_mul, hn, Int.mul_zero]
      rw [sgR_mul, hm] at e1
      rw [← e1]
      have a := sgR_cases X
      have b := sgR_cases (X + Y * r)
      rcases a with a | a | a <;> rcases b with b | b | b <;> simp [a, b] at * <;> omega
end Go.Proofs.YthpalcfhhicmgaaGreat
/- Plain: square roots of fractions as sequences; what both programs compute is the sign of the sum. -/
namespace Go.Proofs.YthpalcfhhicmgaaGreat
open Go Go.RowKit
def rtD (m : Rat) (k : Nat) : Rat := (((m.den : Int) * ((k : Int) + 1) : Int) : Rat)
def rtI (m : Rat) (k : Nat) : Int := isqI (m.num * (m.den : Int) * (((k : Int) + 1) * ((k : Int) + 1)))
def rtS (m : Rat) (k : Nat) : Rat := ((rtI m k : Int) : Rat) / rtD m k
theorem q_cancel {x y d : Rat} (hd : 0 < d) (h : x * d ≤ y * d) : x ≤ y := by
  apply Classical.byContradiction
  intro hn
  have h1 : 0 < (x - y) * d := Rat.mul_pos (by grind) hd
  grind
theorem r_num (m : Rat) : m * ((m.den : Int) : Rat) = ((m.num : Int) : Rat) := by
  have h := Rat.num_divInt_den m
  rw [Rat.divInt_eq_div] at h
  have hd : (0 : Rat) < ((m.den : Int) : Rat) := Rat.intCast_pos.2 (by have := m.den_pos; omega)
  generalize ((m.den : Int) : Rat) = q at *
  generalize ((m.num : Int) : Rat) = p at *
  grind
theorem rtD_pos (m : Rat) (k : Nat) : 0 < rtD m k := by
  unfold rtD
  have h1 := den_pos m
  have h2 : (0 : Int) < (m.den : Int) * ((k : Int) + 1) := Int.mul_pos h1 (by omega)
  exact Rat.intCast_pos.2 h2
theorem rtS_mul (m : Rat) (k : Nat) : rtS m k * rtD m k = ((rtI m k : Int) : Rat) := by
  have := rtD_pos m k
  unfold rtS; grind
theorem rtD_sq (m : Rat) (k : Nat) : m * (rtD m k * rtD m k) = ((m.num * (m.den : Int) * (((k : Int) + 1) * ((k : Int) + 1)) : Int) : Rat) := by
  have h := r_num m
  unfold rtD
  simp only [Rat.intCast_mul, Rat.intCast_add, Rat.intCast_one, Rat.intCast_natCast] at *
  grind
theorem rtI_nn (m : Rat) (k : Nat) : 0 ≤ rtI m k := isqI_nonneg _
theorem num_nn {m : Rat} (h : 0 ≤ m) (k : Nat) : 0 ≤ m.num * (m.den : Int) * (((k : Int) + 1) * ((k : Int) + 1)) :=
  Int.mul_nonneg (Int.mul_nonneg (Rat.num_nonneg.2 h) (by have := den_pos m; omega)) (Int.mul_nonneg (by omega) (by omega))
theorem rtS_nn (m : Rat) (k : Nat) : 0 ≤ rtS m k := by
  refine q_cancel (rtD_pos m k) ?_
  rw [rtS_mul]
  have : (0 : Rat) ≤ ((rtI m k : Int) : Rat) := Rat.intCast_nonneg.2 (rtI_nn m k)
  grind
theorem rtS_le {m : Rat} (h : 0 ≤ m) (k : Nat) : rtS m k * rtS m k ≤ m := by
  have hd := rtD_pos m k
  refine q_cancel (Rat.mul_pos hd hd) ?_
  rw [rtD_sq]
  have e : rtS m k * rtS m k * (rtD m k * rtD m k) = ((rtI m k * rtI m k : Int) : Rat) := by
    rw [Rat.intCast_mul, ← rtS_mul]; grind
  rw [e]
  exact Rat.intCast_le_intCast.2 (isqI_le (num_nn h k))
theorem rtS_lt {m : Rat} (h : 0 ≤ m) (k : Nat) : m < (rtS m k + 1 / rtD m k) * (rtS m k + 1 / rtD m k) := by
  have hd := rtD_pos m k
  have e : (rtS m k + 1 / rtD m k) * (rtS m k + 1 / rtD m k) * (rtD m k * rtD m k) = (((rtI m k + 1) * (rtI m k + 1) : Int) : Rat) := by
    rw [Rat.intCast_mul, Rat.intCast_add, ← rtS_mul]
    have : 1 / rtD m k * rtD m k = 1 := by grind
    grind
  have h1 := Rat.intCast_lt_intCast.2 (isqI_lt (num_nn h k))
  rw [← rtD_sq] at h1
  have h2 : m * (rtD m k * rtD m k) < (rtS m k + 1 / rtD m k) * (rtS m k + 1 / rtD m k) * (rtD m k * rtD m k) := by rw [e]; exact h1
  apply Classical.byContradiction
  intro hn
  have h3 : 0 ≤ (m - (rtS m k + 1 / rtD m k) * (rtS m k + 1 / rtD m k)) * (rtD m k * rtD m k) := Rat.mul_nonneg (by grind) (by have := Rat.mul_pos hd hd; grind)
  grind
/-- The steps get small. -/
theorem rtD_small (m : Rat) {e : Rat} (he : 0 < e) {k : Nat} (hk : e.den ≤ k) : 0 < 1 / rtD m k ∧ 1 / rtD m k ≤ e := by
  have hd := rtD_pos m k
  have hc : 1 / rtD m k * rtD m k = 1 := by grind
  refine ⟨?_, ?_⟩
  · have := (q_div (e := 1) (by decide) hd).1; exact this
  · refine q_cancel hd ?_
    rw [hc]
    have h1 := r_num e
    have h2 : 0 < e.num := Rat.intCast_pos.1 (by rw [← h1]; exact Rat.mul_pos he (Rat.intCast_pos.2 (by have := e.den_pos; omega)))
    have h3 : (1 : Rat) ≤ ((e.num : Int) : Rat) := by
      have : ((1 : Int) : Rat) ≤ ((e.num : Int) : Rat) := Rat.intCast_le_intCast.2 (by omega)
      simpa using this
    have h4 : ((e.den : Int) : Rat) ≤ rtD m k := by
      unfold rtD
      refine Rat.intCast_le_intCast.2 ?_
      have := den_pos m
      have h5 : 1 * ((k : Int) + 1) ≤ (m.den : Int) * ((k : Int) + 1) := Int.mul_le_mul_of_nonneg_right (by omega) (by omega)
      omega
    have h6 : 0 ≤ e * (rtD m k - ((e.den : Int) : Rat)) := Rat.mul_nonneg (by grind) (by grind)
    simp only [Rat.intCast_natCast] at *
    grind
theorem cau_rt {m : Rat} (h : 0 ≤ m) : Cau (rtS m) := fun e he => by
  refine ⟨e.den, fun i j _ hj => ?_⟩
  obtain ⟨hp, hs⟩ := rtD_small m he hj
  have h1 := rtS_le h i
  have h2 := rtS_lt h j
  have h3 := rtS_nn m i
  have h4 := rtS_nn m j
  apply Classical.byContradiction
  intro hn
  have h5 : 0 ≤ (rtS m i - (rtS m j + 1 / rtD m j)) * (rtS m i + (rtS m j + 1 / rtD m j)) := Rat.mul_nonneg (by grind) (by grind)
  grind
def Re.rt (m : Rat) : Re := ⟨fun k => if 0 ≤ m then rtS m k else 0, by
  by_cases h : 0 ≤ m
  · simp only [h, if_true]; exact cau_rt h
  · simp only [h, if_false]; exact cau_const 0⟩
theorem sgR_pt {x : Re} (h : ∀ k, 0 ≤ x.s k) : 0 ≤ sgR x := by
  rcases sgR_cases x with a | a | a
  · omega
  · omega
  · obtain ⟨e, he, K, g⟩ := sgR_n.1 a
    have h1 := g K (Nat.le_refl _)
    rw [re_neg] at h1
    have h2 := h K
    exfalso; grind
theorem rt_nn (m : Rat) : 0 ≤ sgR (Re.rt m) := sgR_pt fun k => by
  show 0 ≤ (if 0 ≤ m then rtS m k else 0)
  split
  · exact rtS_nn m k
  · exact Rat.le_refl
theorem rt_sq {m : Rat} (h : 0 ≤ m) : sgR (Re.rt m * Re.rt m - Re.of m) = 0 := sgR_z.2 fun e he => by
  obtain ⟨d1, d2⟩ := q_div he (show 0 < 2 * m + 3 by grind)
  refine ⟨(e / (2 * m + 3)).den, fun k hk => ?_⟩
  rw [re_sub, re_mul, re_of]
  show -e ≤ (if 0 ≤ m then rtS m k else 0) * (if 0 ≤ m then rtS m k else 0) + -m ∧ (if 0 ≤ m then rtS m k else 0) * (if 0 ≤ m then rtS m k else 0) + -m ≤ e
  rw [if_pos h]
  obtain ⟨hp, hs⟩ := rtD_small m d1 hk
  obtain ⟨hp1, hs1⟩ := rtD_small m (e := 1) (by decide) (k := k) (by
    have : (1 : Rat).den = 1 := rfl
    rw [this]
    have := (e / (2 * m + 3)).den_pos
    omega)
  have h1 := rtS_le h k
  have h2 := rtS_lt h k
  have h3 := rtS_nn m k
  refine ⟨?_, by grind⟩
  -- r ≤ m + 1
  have h4 : rtS m k ≤ m + 1 := by
    apply Classical.byContradiction
    intro hn
    have h5 : 0 ≤ (rtS m k - (m + 1)) * (rtS m k + (m + 1)) := Rat.mul_nonneg (by grind) (by grind)
    have h6 : 0 ≤ m * m := Rat.mul_nonneg h h
    grind
  generalize 1 / rtD m k = d at *
  have h7 : 0 ≤ d * ((m + 1) - rtS m k) := Rat.mul_nonneg (by grind) (by grind)
  have h8 : 0 ≤ d * (1 - d) := Rat.mul_nonneg (by grind) (by grind)
  have h9 : 0 ≤ (2 * m + 3) * (e / (2 * m + 3) - d) := Rat.mul_nonneg (by grind) (by grind)
  grind
theorem cmpR_sub (x y : Rat) : cmpR (x - y) 0 = cmpR x y := by
  unfold cmpR
  have e1 : (x - y < 0) = (x < y) := by apply propext; constructor <;> intro h <;> grind
  have e2 : (0 < x - y) = (y < x) := by apply propext; constructor <;> intro h <;> grind
  simp only [e1, e2]
theorem of_mul (x y : Rat) : Re.of x * Re.of y = Re.of (x * y) := rfl
theorem of_neg (x : Rat) : -Re.of x = Re.of (-x) := rfl
theorem of_add (x y : Rat) : Re.of x + Re.of y = Re.of (x + y) := rfl
theorem of_sub (x y : Rat) : Re.of x - Re.of y = Re.of (x - y) := Re.ext fun k => by rw [re_sub, re_of, re_of, re_of]; grind
/-- a + b √m -/
def val3 (a b m : Rat) : Re := Re.of a + Re.of b * Re.rt m
theorem plainS_sg {a b m : Rat} (h : 0 ≤ m) : plainS a b m = sgR (val3 a b m) := by
  unfold val3
  rw [sgR_comb (n := Re.of m) (rt_nn m) (rt_sq h), sgR_of, sgR_of, sgR_of, of_mul, of_mul, of_mul, of_sub, sgR_of, cmpR_sub]
  rfl
/-- A + B √M + (C + D √M) √N -/
def val6 (A B C D M N : Rat) : Re := val3 A B M + val3 C D M * Re.rt N
theorem signQ_sg {A B C D M N : Rat} (hM : 0 ≤ M) (hN : 0 ≤ N) : signQ A B C D M N = sgR (val6 A B C D M N) := by
  unfold val6
  rw [sgR_comb (n := Re.of N) (rt_nn N) (rt_sq hN), ← plainS_sg hM, ← plainS_sg hM, sgR_of, signQ_p (by grind) (by grind)]
  have e : sgR (val3 A B M * val3 A B M - val3 C D M * val3 C D M * Re.of N) = sgR (val3 (quadA A B C D M N) (quadB A B C D N + quadB A B C D N) M) := by
    refine sgR_same ?_
    have e : (val3 A B M * val3 A B M - val3 C D M * val3 C D M * Re.of N) - val3 (quadA A B C D M N) (quadB A B C D N + quadB A B C D N) M = (Re.of (B * B - D * D * N)) * (Re.rt M * Re.rt M - Re.of M) := Re.ext fun k => by
      unfold val3 quadA quadB
      simp only [re_sub, re_mul, re_add, re_of]; grind
    rw [e, sgR_mul, rt_sq hM, Int.mul_zero]
  rw [e, ← plainS_sg hM]
/-- the difference of two roots -/
theorem signQ_val {a b c d e f : Rat} (hc : 0 ≤ c) (hf : 0 ≤ f) : signQ (a - d) b (-e) 0 c f = sgR (val3 a b c - val3 d e f) := by
  rw [signQ_sg hc hf]
  refine congrArg sgR (Re.ext fun k => ?_)
  unfold val6 val3
  simp only [re_sub, re_mul, re_add, re_of]; grind
end Go.Proofs.YthpalcfhhicmgaaGreat
