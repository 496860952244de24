/- PointValid: the law at all readings. -/
import Derived.Test.YthpalcfhhicmgaaGreatPvA
namespace Go.Proofs.YthpalcfhhicmgaaGreat
open Go Go.RowKit
theorem len_le {n : Nat} (h : n ≤ 3) : decide ((n : Int) > 3) = false := decide_eq_false (by omega)
theorem lwVa_0 {x1 x2 x3 x4 x5 : RN} (_wx1 : x1.Wf) (_wx2 : x2.Wf) (_wx3 : x3.Wf) (_wx4 : x4.Wf) (_wx5 : x5.Wf) (lg : ¬ (x1.x1.length ≤ 3 ∧ x1.x2.length ≤ 3)) : Ok Tryz.prog 9 [.a (cN x1 ++ cN x2 ++ cN x3 ++ cN x4 ++ cN x5)] [.c (.b true)] := by
  refine Ok.of (by kernel_rfl) Tryz.func9 rfl rfl ?_
  rw [show Tryz.f9.ntmps = 43 from rfl, show Tryz.f9.results.toList = [.tmp 2] from rfl]
  refine dw_seq ?_
  -- region 0
  refine dw_region (by kernel_rfl) ?_
  refine dl_new (sem_box_a rfl rfl) rfl ?_
  refine dl_r (sem_assign rfl rfl) ?_
  refine dl_end ?_
  refine dw_seq ?_
  refine dw_seq ?_
  -- region 1
  refine dw_region (by kernel_rfl) ?_
  refine dl_r (sem_field fd32_0 rfl rfl) ?_
  refine dl_r (sem_load (us := cN x1) ty26 rfl rfl rfl rfl rfl) ?_
  refine dl_r (sem_field fd32_1 rfl rfl) ?_
  refine dl_r (sem_load (us := cN x2) ty26 rfl rfl rfl rfl rfl) ?_
  refine dl_r (sem_field fd32_2 rfl rfl) ?_
  refine dl_r (sem_load (us := cN x3) ty26 rfl rfl rfl rfl rfl) ?_
  refine dl_r (sem_field fd32_3 rfl rfl) ?_
  refine dl_r (sem_load (us := cN x4) ty26 rfl rfl rfl rfl rfl) ?_
  refine dl_r (sem_field fd32_4 rfl rfl) ?_
  refine dl_r (sem_load (us := cN x5) ty26 rfl rfl rfl rfl rfl) ?_
  refine dl_r (sem_slit_D (n := 5) (us := cN x1 ++ cN x2 ++ cN x3 ++ cN x4 ++ cN x5) el66 rfl rfl rfl (by decide) (by decide) rfl) ?_
  refine dl_r (sem_len sl66 rfl rfl) ?_
  refine dl_r (sem_move rfl rfl) ?_
  refine dl_end ?_
  refine dw_block ?_
  refine dw_loop (ι := Nat) (fun i => match i with | _ => ⟨43, [(1, .p 1 0), (2, .v (.c (.b false))), (15, .v (.c (.s 5 (cN x1 ++ cN x2 ++ cN x3 ++ cN x4 ++ cN x5)))), (16, .v (.c (.i .i64 5))), (17, .v (.c (.i .i64 0)))], [(1, 32, (cN x1 ++ cN x2 ++ cN x3 ++ cN x4 ++ cN x5))]⟩) (fun i => 0 - i) 0 (sub_of ⟨rfl, rfl, rfl, rfl, rfl, trivial⟩ ⟨rfl, trivial⟩ rfl) ?_
  intro i
  match i with
  | _ =>
    show Dw _ _ ⟨43, [(1, .p 1 0), (2, .v (.c (.b false))), (15, .v (.c (.s 5 (cN x1 ++ cN x2 ++ cN x3 ++ cN x4 ++ cN x5)))), (16, .v (.c (.i .i64 5))), (17, .v (.c (.i .i64 0)))], [(1, 32, (cN x1 ++ cN x2 ++ cN x3 ++ cN x4 ++ cN x5))]⟩ _
    refine dw_seq ?_
    -- region 2
    refine dw_region (by kernel_rfl) ?_
    refine dl_r (sem_cmp rfl rfl rfl rfl) ?_
    refine dl_end ?_
    refine dw_seq ?_
    refine dw_true rfl ?_
    refine dw_skip ?_
    refine dw_seq ?_
    refine dw_block ?_
    refine dw_seq ?_
    -- region 3
    refine dw_region (by kernel_rfl) ?_
    refine dl_r (sem_index sl66 rfl rfl (by decide) rfl rfl rfl) ?_
    refine dl_r (sem_loadq (us := cN x1) ty26 rfl rfl rfl rfl) ?_
    refine dl_new (sem_alloc zc26 rfl) rfl ?_
    refine dl_st (sem_store_a ty26 rfl rfl rfl rfl rfl rfl) ?_
    refine dl_end ?_
    refine dw_seq ?_
    -- region 4
    refine dw_region (by kernel_rfl) ?_
    refine dl_r (sem_field fd26_0 rfl rfl) ?_
    refine dl_r (sem_field fd24_1 rfl rfl) ?_
    refine dl_r (sem_load1 ty22 rfl rfl rfl rfl) ?_
    refine dl_r (sem_len sl22 rfl rfl) ?_
    refine dl_r (sem_cmp rfl rfl rfl rfl) ?_
    refine dl_rb (sem_move rfl rfl) (fun c1 hb1 => ?_)
    cases c1
    · refine dl_r (sem_field fd26_1 rfl rfl) ?_
      refine dl_r (sem_field fd24_1 rfl rfl) ?_
      refine dl_r (sem_load1 ty22 rfl rfl rfl rfl) ?_
      refine dl_r (sem_len sl22 rfl rfl) ?_
      refine dl_r (sem_cmp rfl rfl rfl rfl) ?_
      refine dl_r (sem_pick rfl rfl rfl rfl) ?_
      refine dl_end ?_
      refine dw_cond rfl (fun hc2 => ?_) (fun hc2 => ?_)
      · refine dw_seq ?_
        -- region 5
        refine dw_region (by kernel_rfl) ?_
        refine dl_r (sem_call rfl rfl (awake_ok) rfl) ?_
        refine dl_r (sem_assign rfl rfl) ?_
        refine dl_end ?_
        refine dw_ret ?_
        -- path L0fT
        exact ⟨.inr rfl, (resL_tmp rfl resL_nil)⟩
      · exfalso
        have g1 := dec_f hb1
        have g2 := dec_f hc2
        omega
    · refine dl_skip (sem_skip rfl) ?_
      refine dl_skip (sem_skip rfl) ?_
      refine dl_skip (sem_skip rfl) ?_
      refine dl_skip (sem_skip rfl) ?_
      refine dl_skip (sem_skip rfl) ?_
      refine dl_r (sem_pick rfl rfl rfl rfl) ?_
      refine dl_end ?_
      refine dw_true rfl ?_
      refine dw_seq ?_
      -- region 5
      refine dw_region (by kernel_rfl) ?_
      refine dl_r (sem_call rfl rfl (awake_ok) rfl) ?_
      refine dl_r (sem_assign rfl rfl) ?_
      refine dl_end ?_
      refine dw_ret ?_
      -- path L0t
      exact ⟨.inr rfl, (resL_tmp rfl resL_nil)⟩
theorem lwVa_1 {x1 x2 x3 x4 x5 : RN} (_wx1 : x1.Wf) (_wx2 : x2.Wf) (_wx3 : x3.Wf) (_wx4 : x4.Wf) (_wx5 : x5.Wf)(sx1 : x1.x1.length ≤ 3 ∧ x1.x2.length ≤ 3) (lg : ¬ (x2.x1.length ≤ 3 ∧ x2.x2.length ≤ 3)) : Ok Tryz.prog 9 [.a (cN x1 ++ cN x2 ++ cN x3 ++ cN x4 ++ cN x5)] [.c (.b true)] := by
  refine Ok.of (by kernel_rfl) Tryz.func9 rfl rfl ?_
  rw [show Tryz.f9.ntmps = 43 from rfl, show Tryz.f9.results.toList = [.tmp 2] from rfl]
  refine dw_seq ?_
  -- region 0
  refine dw_region (by kernel_rfl) ?_
  refine dl_new (sem_box_a rfl rfl) rfl ?_
  refine dl_r (sem_assign rfl rfl) ?_
  refine dl_end ?_
  refine dw_seq ?_
  refine dw_seq ?_
  -- region 1
  refine dw_region (by kernel_rfl) ?_
  refine dl_r (sem_field fd32_0 rfl rfl) ?_
  refine dl_r (sem_load (us := cN x1) ty26 rfl rfl rfl rfl rfl) ?_
  refine dl_r (sem_field fd32_1 rfl rfl) ?_
  refine dl_r (sem_load (us := cN x2) ty26 rfl rfl rfl rfl rfl) ?_
  refine dl_r (sem_field fd32_2 rfl rfl) ?_
  refine dl_r (sem_load (us := cN x3) ty26 rfl rfl rfl rfl rfl) ?_
  refine dl_r (sem_field fd32_3 rfl rfl) ?_
  refine dl_r (sem_load (us := cN x4) ty26 rfl rfl rfl rfl rfl) ?_
  refine dl_r (sem_field fd32_4 rfl rfl) ?_
  refine dl_r (sem_load (us := cN x5) ty26 rfl rfl rfl rfl rfl) ?_
  refine dl_r (sem_slit_D (n := 5) (us := cN x1 ++ cN x2 ++ cN x3 ++ cN x4 ++ cN x5) el66 rfl rfl rfl (by decide) (by decide) rfl) ?_
  refine dl_r (sem_len sl66 rfl rfl) ?_
  refine dl_r (sem_move rfl rfl) ?_
  refine dl_end ?_
  refine dw_block ?_
  refine dw_loop (ι := Nat) (fun i => match i with | 0 => ⟨43, [(1, .p 1 0), (2, .v (.c (.b false))), (15, .v (.c (.s 5 (cN x1 ++ cN x2 ++ cN x3 ++ cN x4 ++ cN x5)))), (16, .v (.c (.i .i64 5))), (17, .v (.c (.i .i64 0)))], [(1, 32, (cN x1 ++ cN x2 ++ cN x3 ++ cN x4 ++ cN x5))]⟩ | _ + 1 => ⟨43, [(1, .p 1 0), (2, .v (.c (.b false))), (15, .v (.c (.s 5 (cN x1 ++ cN x2 ++ cN x3 ++ cN x4 ++ cN x5)))), (16, .v (.c (.i .i64 5))), (17, .v (.c (.i .i64 1)))], [(1, 32, (cN x1 ++ cN x2 ++ cN x3 ++ cN x4 ++ cN x5))]⟩) (fun i => 1 - i) 0 (sub_of ⟨rfl, rfl, rfl, rfl, rfl, trivial⟩ ⟨rfl, trivial⟩ rfl) ?_
  intro i
  match i with
  | 0 =>
    show Dw _ _ ⟨43, [(1, .p 1 0), (2, .v (.c (.b false))), (15, .v (.c (.s 5 (cN x1 ++ cN x2 ++ cN x3 ++ cN x4 ++ cN x5)))), (16, .v (.c (.i .i64 5))), (17, .v (.c (.i .i64 0)))], [(1, 32, (cN x1 ++ cN x2 ++ cN x3 ++ cN x4 ++ cN x5))]⟩ _
    refine dw_seq ?_
    -- region 2
    refine dw_region (by kernel_rfl) ?_
    refine dl_r (sem_cmp rfl rfl rfl rfl) ?_
    refine dl_end ?_
    refine dw_seq ?_
    refine dw_true rfl ?_
    refine dw_skip ?_
    refine dw_seq ?_
    refine dw_block ?_
    refine dw_seq ?_
    -- region 3
    refine dw_region (by kernel_rfl) ?_
    refine dl_r (sem_index sl66 rfl rfl (by decide) rfl rfl rfl) ?_
    refine dl_r (sem_loadq (us := cN x1) ty26 rfl rfl rfl rfl) ?_
    refine dl_new (sem_alloc zc26 rfl) rfl ?_
    refine dl_st (sem_store_a ty26 rfl rfl rfl rfl rfl rfl) ?_
    refine dl_end ?_
    refine dw_seq ?_
    -- region 4
    refine dw_region (by kernel_rfl) ?_
    refine dl_r (sem_field fd26_0 rfl rfl) ?_
    refine dl_r (sem_field fd24_1 rfl rfl) ?_
    refine dl_r (sem_load1 ty22 rfl rfl rfl rfl) ?_
    refine dl_r (sem_len sl22 rfl rfl) ?_
    refine dl_r (sem_castb (sem_cmp rfl rfl rfl rfl) (len_le sx1.1)) ?_
    refine dl_r (sem_move rfl rfl) ?_
    refine dl_r (sem_field fd26_1 rfl rfl) ?_
    refine dl_r (sem_field fd24_1 rfl rfl) ?_
    refine dl_r (sem_load1 ty22 rfl rfl rfl rfl) ?_
    refine dl_r (sem_len sl22 rfl rfl) ?_
    refine dl_r (sem_castb (sem_cmp rfl rfl rfl rfl) (len_le sx1.2)) ?_
    refine dl_r (sem_pick rfl rfl rfl rfl) ?_
    refine dl_end ?_
    refine dw_false rfl ?_
    refine dw_skip ?_
    -- region 6
    refine dw_region (by kernel_rfl) ?_
    refine dl_r (sem_ari (r := 1) rfl rfl rfl rfl) ?_
    refine dl_r (sem_move rfl rfl) ?_
    refine dl_end ?_
    exact ⟨1, sub_of ⟨rfl, rfl, rfl, rfl, rfl, trivial⟩ ⟨rfl, trivial⟩ rfl, by show 1 - 1 < 1 - 0; decide⟩
  | z + 1 =>
    show Dw _ _ ⟨43, [(1, .p 1 0), (2, .v (.c (.b false))), (15, .v (.c (.s 5 (cN x1 ++ cN x2 ++ cN x3 ++ cN x4 ++ cN x5)))), (16, .v (.c (.i .i64 5))), (17, .v (.c (.i .i64 1)))], [(1, 32, (cN x1 ++ cN x2 ++ cN x3 ++ cN x4 ++ cN x5))]⟩ _
    refine dw_seq ?_
    -- region 2
    refine dw_region (by kernel_rfl) ?_
    refine dl_r (sem_cmp rfl rfl rfl rfl) ?_
    refine dl_end ?_
    refine dw_seq ?_
    refine dw_true rfl ?_
    refine dw_skip ?_
    refine dw_seq ?_
    refine dw_block ?_
    refine dw_seq ?_
    -- region 3
    refine dw_region (by kernel_rfl) ?_
    refine dl_r (sem_index sl66 rfl rfl (by decide) rfl rfl rfl) ?_
    refine dl_r (sem_loadq (us := cN x2) ty26 rfl rfl rfl rfl) ?_
    refine dl_new (sem_alloc zc26 rfl) rfl ?_
    refine dl_st (sem_store_a ty26 rfl rfl rfl rfl rfl rfl) ?_
    refine dl_end ?_
    refine dw_seq ?_
    -- region 4
    refine dw_region (by kernel_rfl) ?_
    refine dl_r (sem_field fd26_0 rfl rfl) ?_
    refine dl_r (sem_field fd24_1 rfl rfl) ?_
    refine dl_r (sem_load1 ty22 rfl rfl rfl rfl) ?_
    refine dl_r (sem_len sl22 rfl rfl) ?_
    refine dl_r (sem_cmp rfl rfl rfl rfl) ?_
    refine dl_rb (sem_move rfl rfl) (fun c1 hb1 => ?_)
    cases c1
    · refine dl_r (sem_field fd26_1 rfl rfl) ?_
      refine dl_r (sem_field fd24_1 rfl rfl) ?_
      refine dl_r (sem_load1 ty22 rfl rfl rfl rfl) ?_
      refine dl_r (sem_len sl22 rfl rfl) ?_
      refine dl_r (sem_cmp rfl rfl rfl rfl) ?_
      refine dl_r (sem_pick rfl rfl rfl rfl) ?_
      refine dl_end ?_
      refine dw_cond rfl (fun hc2 => ?_) (fun hc2 => ?_)
      · refine dw_seq ?_
        -- region 5
        refine dw_region (by kernel_rfl) ?_
        refine dl_r (sem_call rfl rfl (awake_ok) rfl) ?_
        refine dl_r (sem_assign rfl rfl) ?_
        refine dl_end ?_
        refine dw_ret ?_
        -- path L1fT
        exact ⟨.inr rfl, (resL_tmp rfl resL_nil)⟩
      · exfalso
        have g1 := dec_f hb1
        have g2 := dec_f hc2
        omega
    · refine dl_skip (sem_skip rfl) ?_
      refine dl_skip (sem_skip rfl) ?_
      refine dl_skip (sem_skip rfl) ?_
      refine dl_skip (sem_skip rfl) ?_
      refine dl_skip (sem_skip rfl) ?_
      refine dl_r (sem_pick rfl rfl rfl rfl) ?_
      refine dl_end ?_
      refine dw_true rfl ?_
      refine dw_seq ?_
      -- region 5
      refine dw_region (by kernel_rfl) ?_
      refine dl_r (sem_call rfl rfl (awake_ok) rfl) ?_
      refine dl_r (sem_assign rfl rfl) ?_
      refine dl_end ?_
      refine dw_ret ?_
      -- path L1t
      exact ⟨.inr rfl, (resL_tmp rfl resL_nil)⟩
theorem lwVa_2 {x1 x2 x3 x4 x5 : RN} (_wx1 : x1.Wf) (_wx2 : x2.Wf) (_wx3 : x3.Wf) (_wx4 : x4.Wf) (_wx5 : x5.Wf)(sx1 : x1.x1.length ≤ 3 ∧ x1.x2.length ≤ 3) (sx2 : x2.x1.length ≤ 3 ∧ x2.x2.length ≤ 3) (lg : ¬ (x3.x1.length ≤ 3 ∧ x3.x2.length ≤ 3)) : Ok Tryz.prog 9 [.a (cN x1 ++ cN x2 ++ cN x3 ++ cN x4 ++ cN x5)] [.c (.b true)] := by
  refine Ok.of (by kernel_rfl) Tryz.func9 rfl rfl ?_
  rw [show Tryz.f9.ntmps = 43 from rfl, show Tryz.f9.results.toList = [.tmp 2] from rfl]
  refine dw_seq ?_
  -- region 0
  refine dw_region (by kernel_rfl) ?_
  refine dl_new (sem_box_a rfl rfl) rfl ?_
  refine dl_r (sem_assign rfl rfl) ?_
  refine dl_end ?_
  refine dw_seq ?_
  refine dw_seq ?_
  -- region 1
  refine dw_region (by kernel_rfl) ?_
  refine dl_r (sem_field fd32_0 rfl rfl) ?_
  refine dl_r (sem_load (us := cN x1) ty26 rfl rfl rfl rfl rfl) ?_
  refine dl_r (sem_field fd32_1 rfl rfl) ?_
  refine dl_r (sem_load (us := cN x2) ty26 rfl rfl rfl rfl rfl) ?_
  refine dl_r (sem_field fd32_2 rfl rfl) ?_
  refine dl_r (sem_load (us := cN x3) ty26 rfl rfl rfl rfl rfl) ?_
  refine dl_r (sem_field fd32_3 rfl rfl) ?_
  refine dl_r (sem_load (us := cN x4) ty26 rfl rfl rfl rfl rfl) ?_
  refine dl_r (sem_field fd32_4 rfl rfl) ?_
  refine dl_r (sem_load (us := cN x5) ty26 rfl rfl rfl rfl rfl) ?_
  refine dl_r (sem_slit_D (n := 5) (us := cN x1 ++ cN x2 ++ cN x3 ++ cN x4 ++ cN x5) el66 rfl rfl rfl (by decide) (by decide) rfl) ?_
  refine dl_r (sem_len sl66 rfl rfl) ?_
  refine dl_r (sem_move rfl rfl) ?_
  refine dl_end ?_
  refine dw_block ?_
  refine dw_loop (ι := Nat) (fun i => match i with | 0 => ⟨43, [(1, .p 1 0), (2, .v (.c (.b false))), (15, .v (.c (.s 5 (cN x1 ++ cN x2 ++ cN x3 ++ cN x4 ++ cN x5)))), (16, .v (.c (.i .i64 5))), (17, .v (.c (.i .i64 0)))], [(1, 32, (cN x1 ++ cN x2 ++ cN x3 ++ cN x4 ++ cN x5))]⟩ | 1 => ⟨43, [(1, .p 1 0), (2, .v (.c (.b false))), (15, .v (.c (.s 5 (cN x1 ++ cN x2 ++ cN x3 ++ cN x4 ++ cN x5)))), (16, .v (.c (.i .i64 5))), (17, .v (.c (.i .i64 1)))], [(1, 32, (cN x1 ++ cN x2 ++ cN x3 ++ cN x4 ++ cN x5))]⟩ | _ + 2 => ⟨43, [(1, .p 1 0), (2, .v (.c (.b false))), (15, .v (.c (.s 5 (cN x1 ++ cN x2 ++ cN x3 ++ cN x4 ++ cN x5)))), (16, .v (.c (.i .i64 5))), (17, .v (.c (.i .i64 2)))], [(1, 32, (cN x1 ++ cN x2 ++ cN x3 ++ cN x4 ++ cN x5))]⟩) (fun i => 2 - i) 0 (sub_of ⟨rfl, rfl, rfl, rfl, rfl, trivial⟩ ⟨rfl, trivial⟩ rfl) ?_
  intro i
  match i with
  | 0 =>
    show Dw _ _ ⟨43, [(1, .p 1 0), (2, .v (.c (.b false))), (15, .v (.c (.s 5 (cN x1 ++ cN x2 ++ cN x3 ++ cN x4 ++ cN x5)))), (16, .v (.c (.i .i64 5))), (17, .v (.c (.i .i64 0)))], [(1, 32, (cN x1 ++ cN x2 ++ cN x3 ++ cN x4 ++ cN x5))]⟩ _
    refine dw_seq ?_
    -- region 2
    refine dw_region (by kernel_rfl) ?_
    refine dl_r (sem_cmp rfl rfl rfl rfl) ?_
    refine dl_end ?_
    refine dw_seq ?_
    refine dw_true rfl ?_
    refine dw_skip ?_
    refine dw_seq ?_
    refine dw_block ?_
    refine dw_seq ?_
    -- region 3
    refine dw_region (by kernel_rfl) ?_
    refine dl_r (sem_index sl66 rfl rfl (by decide) rfl rfl rfl) ?_
    refine dl_r (sem_loadq (us := cN x1) ty26 rfl rfl rfl rfl) ?_
    refine dl_new (sem_alloc zc26 rfl) rfl ?_
    refine dl_st (sem_store_a ty26 rfl rfl rfl rfl rfl rfl) ?_
    refine dl_end ?_
    refine dw_seq ?_
    -- region 4
    refine dw_region (by kernel_rfl) ?_
    refine dl_r (sem_field fd26_0 rfl rfl) ?_
    refine dl_r (sem_field fd24_1 rfl rfl) ?_
    refine dl_r (sem_load1 ty22 rfl rfl rfl rfl) ?_
    refine dl_r (sem_len sl22 rfl rfl) ?_
    refine dl_r (sem_castb (sem_cmp rfl rfl rfl rfl) (len_le sx1.1)) ?_
    refine dl_r (sem_move rfl rfl) ?_
    refine dl_r (sem_field fd26_1 rfl rfl) ?_
    refine dl_r (sem_field fd24_1 rfl rfl) ?_
    refine dl_r (sem_load1 ty22 rfl rfl rfl rfl) ?_
    refine dl_r (sem_len sl22 rfl rfl) ?_
    refine dl_r (sem_castb (sem_cmp rfl rfl rfl rfl) (len_le sx1.2)) ?_
    refine dl_r (sem_pick rfl rfl rfl rfl) ?_
    refine dl_end ?_
    refine dw_false rfl ?_
    refine dw_skip ?_
    -- region 6
    refine dw_region (by kernel_rfl) ?_
    refine dl_r (sem_ari (r := 1) rfl rfl rfl rfl) ?_
    refine dl_r (sem_move rfl rfl) ?_
    refine dl_end ?_
    exact ⟨1, sub_of ⟨rfl, rfl, rfl, rfl, rfl, trivial⟩ ⟨rfl, trivial⟩ rfl, by show 2 - 1 < 2 - 0; decide⟩
  | 1 =>
    show Dw _ _ ⟨43, [(1, .p 1 0), (2, .v (.c (.b false))), (15, .v (.c (.s 5 (cN x1 ++ cN x2 ++ cN x3 ++ cN x4 ++ cN x5)))), (16, .v (.c (.i .i64 5))), (17, .v (.c (.i .i64 1)))], [(1, 32, (cN x1 ++ cN x2 ++ cN x3 ++ cN x4 ++ cN x5))]⟩ _
    refine dw_seq ?_
    -- region 2
    refine dw_region (by kernel_rfl) ?_
    refine dl_r (sem_cmp rfl rfl rfl rfl) ?_
    refine dl_end ?_
    refine dw_seq ?_
    refine dw_true rfl ?_
    refine dw_skip ?_
    refine dw_seq ?_
    refine dw_block ?_
    refine dw_seq ?_
    -- region 3
    refine dw_region (by kernel_rfl) ?_
    refine dl_r (sem_index sl66 rfl rfl (by decide) rfl rfl rfl) ?_
    refine dl_r (sem_loadq (us := cN x2) ty26 rfl rfl rfl rfl) ?_
    refine dl_new (sem_alloc zc26 rfl) rfl ?_
    refine dl_st (sem_store_a ty26 rfl rfl rfl rfl rfl rfl) ?_
    refine dl_end ?_
    refine dw_seq ?_
    -- region 4
    refine dw_region (by kernel_rfl) ?_
    refine dl_r (sem_field fd26_0 rfl rfl) ?_
    refine dl_r (sem_field fd24_1 rfl rfl) ?_
    refine dl_r (sem_load1 ty22 rfl rfl rfl rfl) ?_
    refine dl_r (sem_len sl22 rfl rfl) ?_
    refine dl_r (sem_castb (sem_cmp rfl rfl rfl rfl) (len_le sx2.1)) ?_
    refine dl_r (sem_move rfl rfl) ?_
    refine dl_r (sem_field fd26_1 rfl rfl) ?_
    refine dl_r (sem_field fd24_1 rfl rfl) ?_
    refine dl_r (sem_load1 ty22 rfl rfl rfl rfl) ?_
    refine dl_r (sem_len sl22 rfl rfl) ?_
    refine dl_r (sem_castb (sem_cmp rfl rfl rfl rfl) (len_le sx2.2)) ?_
    refine dl_r (sem_pick rfl rfl rfl rfl) ?_
    refine dl_end ?_
    refine dw_false rfl ?_
    refine dw_skip ?_
    -- region 6
    refine dw_region (by kernel_rfl) ?_
    refine dl_r (sem_ari (r := 2) rfl rfl rfl rfl) ?_
    refine dl_r (sem_move rfl rfl) ?_
    refine dl_end ?_
    exact ⟨2, sub_of ⟨rfl, rfl, rfl, rfl, rfl, trivial⟩ ⟨rfl, trivial⟩ rfl, by show 2 - 2 < 2 - 1; decide⟩
  | z + 2 =>
    show Dw _ _ ⟨43, [(1, .p 1 0), (2, .v (.c (.b false))), (15, .v (.c (.s 5 (cN x1 ++ cN x2 ++ cN x3 ++ cN x4 ++ cN x5)))), (16, .v (.c (.i .i64 5))), (17, .v (.c (.i .i64 2)))], [(1, 32, (cN x1 ++ cN x2 ++ cN x3 ++ cN x4 ++ cN x5))]⟩ _
    refine dw_seq ?_
    -- region 2
    refine dw_region (by kernel_rfl) ?_
    refine dl_r (sem_cmp rfl rfl rfl rfl) ?_
    refine dl_end ?_
    refine dw_seq ?_
    refine dw_true rfl ?_
    refine dw_skip ?_
    refine dw_seq ?_
    refine dw_block ?_
    refine dw_seq ?_
    -- region 3
    refine dw_region (by kernel_rfl) ?_
    refine dl_r (sem_index sl66 rfl rfl (by decide) rfl rfl rfl) ?_
    refine dl_r (sem_loadq (us := cN x3) ty26 rfl rfl rfl rfl) ?_
    refine dl_new (sem_alloc zc26 rfl) rfl ?_
    refine dl_st (sem_store_a ty26 rfl rfl rfl rfl rfl rfl) ?_
    refine dl_end ?_
    refine dw_seq ?_
    -- region 4
    refine dw_region (by kernel_rfl) ?_
    refine dl_r (sem_field fd26_0 rfl rfl) ?_
    refine dl_r (sem_field fd24_1 rfl rfl) ?_
    refine dl_r (sem_load1 ty22 rfl rfl rfl rfl) ?_
    refine dl_r (sem_len sl22 rfl rfl) ?_
    refine dl_r (sem_cmp rfl rfl rfl rfl) ?_
    refine dl_rb (sem_move rfl rfl) (fun c1 hb1 => ?_)
    cases c1
    · refine dl_r (sem_field fd26_1 rfl rfl) ?_
      refine dl_r (sem_field fd24_1 rfl rfl) ?_
      refine dl_r (sem_load1 ty22 rfl rfl rfl rfl) ?_
      refine dl_r (sem_len sl22 rfl rfl) ?_
      refine dl_r (sem_cmp rfl rfl rfl rfl) ?_
      refine dl_r (sem_pick rfl rfl rfl rfl) ?_
      refine dl_end ?_
      refine dw_cond rfl (fun hc2 => ?_) (fun hc2 => ?_)
      · refine dw_seq ?_
        -- region 5
        refine dw_region (by kernel_rfl) ?_
        refine dl_r (sem_call rfl rfl (awake_ok) rfl) ?_
        refine dl_r (sem_assign rfl rfl) ?_
        refine dl_end ?_
        refine dw_ret ?_
        -- path L2fT
        exact ⟨.inr rfl, (resL_tmp rfl resL_nil)⟩
      · exfalso
        have g1 := dec_f hb1
        have g2 := dec_f hc2
        omega
    · refine dl_skip (sem_skip rfl) ?_
      refine dl_skip (sem_skip rfl) ?_
      refine dl_skip (sem_skip rfl) ?_
      refine dl_skip (sem_skip rfl) ?_
      refine dl_skip (sem_skip rfl) ?_
      refine dl_r (sem_pick rfl rfl rfl rfl) ?_
      refine dl_end ?_
      refine dw_true rfl ?_
      refine dw_seq ?_
      -- region 5
      refine dw_region (by kernel_rfl) ?_
      refine dl_r (sem_call rfl rfl (awake_ok) rfl) ?_
      refine dl_r (sem_assign rfl rfl) ?_
      refine dl_end ?_
      refine dw_ret ?_
      -- path L2t
      exact ⟨.inr rfl, (resL_tmp rfl resL_nil)⟩
theorem lwVa_3 {x1 x2 x3 x4 x5 : RN} (_wx1 : x1.Wf) (_wx2 : x2.Wf) (_wx3 : x3.Wf) (_wx4 : x4.Wf) (_wx5 : x5.Wf)(sx1 : x1.x1.length ≤ 3 ∧ x1.x2.length ≤ 3) (sx2 : x2.x1.length ≤ 3 ∧ x2.x2.length ≤ 3) (sx3 : x3.x1.length ≤ 3 ∧ x3.x2.length ≤ 3) (lg : ¬ (x4.x1.length ≤ 3 ∧ x4.x2.length ≤ 3)) : Ok Tryz.prog 9 [.a (cN x1 ++ cN x2 ++ cN x3 ++ cN x4 ++ cN x5)] [.c (.b true)] := by
  refine Ok.of (by kernel_rfl) Tryz.func9 rfl rfl ?_
  rw [show Tryz.f9.ntmps = 43 from rfl, show Tryz.f9.results.toList = [.tmp 2] from rfl]
  refine dw_seq ?_
  -- region 0
  refine dw_region (by kernel_rfl) ?_
  refine dl_new (sem_box_a rfl rfl) rfl ?_
  refine dl_r (sem_assign rfl rfl) ?_
  refine dl_end ?_
  refine dw_seq ?_
  refine dw_seq ?_
  -- region 1
  refine dw_region (by kernel_rfl) ?_
  refine dl_r (sem_field fd32_0 rfl rfl) ?_
  refine dl_r (sem_load (us := cN x1) ty26 rfl rfl rfl rfl rfl) ?_
  refine dl_r (sem_field fd32_1 rfl rfl) ?_
  refine dl_r (sem_load (us := cN x2) ty26 rfl rfl rfl rfl rfl) ?_
  refine dl_r (sem_field fd32_2 rfl rfl) ?_
  refine dl_r (sem_load (us := cN x3) ty26 rfl rfl rfl rfl rfl) ?_
  refine dl_r (sem_field fd32_3 rfl rfl) ?_
  refine dl_r (sem_load (us := cN x4) ty26 rfl rfl rfl rfl rfl) ?_
  refine dl_r (sem_field fd32_4 rfl rfl) ?_
  refine dl_r (sem_load (us := cN x5) ty26 rfl rfl rfl rfl rfl) ?_
  refine dl_r (sem_slit_D (n := 5) (us := cN x1 ++ cN x2 ++ cN x3 ++ cN x4 ++ cN x5) el66 rfl rfl rfl (by decide) (by decide) rfl) ?_
  refine dl_r (sem_len sl66 rfl rfl) ?_
  refine dl_r (sem_move rfl rfl) ?_
  refine dl_end ?_
  refine dw_block ?_
  refine dw_loop (ι := Nat) (fun i => match i with | 0 => ⟨43, [(1, .p 1 0), (2, .v (.c (.b false))), (15, .v (.c (.s 5 (cN x1 ++ cN x2 ++ cN x3 ++ cN x4 ++ cN x5)))), (16, .v (.c (.i .i64 5))), (17, .v (.c (.i .i64 0)))], [(1, 32, (cN x1 ++ cN x2 ++ cN x3 ++ cN x4 ++ cN x5))]⟩ | 1 => ⟨43, [(1, .p 1 0), (2, .v (.c (.b false))), (15, .v (.c (.s 5 (cN x1 ++ cN x2 ++ cN x3 ++ cN x4 ++ cN x5)))), (16, .v (.c (.i .i64 5))), (17, .v (.c (.i .i64 1)))], [(1, 32, (cN x1 ++ cN x2 ++ cN x3 ++ cN x4 ++ cN x5))]⟩ | 2 => ⟨43, [(1, .p 1 0), (2, .v (.c (.b false))), (15, .v (.c (.s 5 (cN x1 ++ cN x2 ++ cN x3 ++ cN x4 ++ cN x5)))), (16, .v (.c (.i .i64 5))), (17, .v (.c (.i .i64 2)))], [(1, 32, (cN x1 ++ cN x2 ++ cN x3 ++ cN x4 ++ cN x5))]⟩ | _ + 3 => ⟨43, [(1, .p 1 0), (2, .v (.c (.b false))), (15, .v (.c (.s 5 (cN x1 ++ cN x2 ++ cN x3 ++ cN x4 ++ cN x5)))), (16, .v (.c (.i .i64 5))), (17, .v (.c (.i .i64 3)))], [(1, 32, (cN x1 ++ cN x2 ++ cN x3 ++ cN x4 ++ cN x5))]⟩) (fun i => 3 - i) 0 (sub_of ⟨rfl, rfl, rfl, rfl, rfl, trivial⟩ ⟨rfl, trivial⟩ rfl) ?_
  intro i
  match i with
  | 0 =>
    show Dw _ _ ⟨43, [(1, .p 1 0), (2, .v (.c (.b false))), (15, .v (.c (.s 5 (cN x1 ++ cN x2 ++ cN x3 ++ cN x4 ++ cN x5)))), (16, .v (.c (.i .i64 5))), (17, .v (.c (.i .i64 0)))], [(1, 32, (cN x1 ++ cN x2 ++ cN x3 ++ cN x4 ++ cN x5))]⟩ _
    refine dw_seq ?_
    -- region 2
    refine dw_region (by kernel_rfl) ?_
    refine dl_r (sem_cmp rfl rfl rfl rfl) ?_
    refine dl_end ?_
    refine dw_seq ?_
    refine dw_true rfl ?_
    refine dw_skip ?_
    refine dw_seq ?_
    refine dw_block ?_
    refine dw_seq ?_
    -- region 3
    refine dw_region (by kernel_rfl) ?_
    refine dl_r (sem_index sl66 rfl rfl (by decide) rfl rfl rfl) ?_
    refine dl_r (sem_loadq (us := cN x1) ty26 rfl rfl rfl rfl) ?_
    refine dl_new (sem_alloc zc26 rfl) rfl ?_
    refine dl_st (sem_store_a ty26 rfl rfl rfl rfl rfl rfl) ?_
    refine dl_end ?_
    refine dw_seq ?_
    -- region 4
    refine dw_region (by kernel_rfl) ?_
    refine dl_r (sem_field fd26_0 rfl rfl) ?_
    refine dl_r (sem_field fd24_1 rfl rfl) ?_
    refine dl_r (sem_load1 ty22 rfl rfl rfl rfl) ?_
    refine dl_r (sem_len sl22 rfl rfl) ?_
    refine dl_r (sem_castb (sem_cmp rfl rfl rfl rfl) (len_le sx1.1)) ?_
    refine dl_r (sem_move rfl rfl) ?_
    refine dl_r (sem_field fd26_1 rfl rfl) ?_
    refine dl_r (sem_field fd24_1 rfl rfl) ?_
    refine dl_r (sem_load1 ty22 rfl rfl rfl rfl) ?_
    refine dl_r (sem_len sl22 rfl rfl) ?_
    refine dl_r (sem_castb (sem_cmp rfl rfl rfl rfl) (len_le sx1.2)) ?_
    refine dl_r (sem_pick rfl rfl rfl rfl) ?_
    refine dl_end ?_
    refine dw_false rfl ?_
    refine dw_skip ?_
    -- region 6
    refine dw_region (by kernel_rfl) ?_
    refine dl_r (sem_ari (r := 1) rfl rfl rfl rfl) ?_
    refine dl_r (sem_move rfl rfl) ?_
    refine dl_end ?_
    exact ⟨1, sub_of ⟨rfl, rfl, rfl, rfl, rfl, trivial⟩ ⟨rfl, trivial⟩ rfl, by show 3 - 1 < 3 - 0; decide⟩
  | 1 =>
    show Dw _ _ ⟨43, [(1, .p 1 0), (2, .v (.c (.b false))), (15, .v (.c (.s 5 (cN x1 ++ cN x2 ++ cN x3 ++ cN x4 ++ cN x5)))), (16, .v (.c (.i .i64 5))), (17, .v (.c (.i .i64 1)))], [(1, 32, (cN x1 ++ cN x2 ++ cN x3 ++ cN x4 ++ cN x5))]⟩ _
    refine dw_seq ?_
    -- region 2
    refine dw_region (by kernel_rfl) ?_
    refine dl_r (sem_cmp rfl rfl rfl rfl) ?_
    refine dl_end ?_
    refine dw_seq ?_
    refine dw_true rfl ?_
    refine dw_skip ?_
    refine dw_seq ?_
    refine dw_block ?_
    refine dw_seq ?_
    -- region 3
    refine dw_region (by kernel_rfl) ?_
    refine dl_r (sem_index sl66 rfl rfl (by decide) rfl rfl rfl) ?_
    refine dl_r (sem_loadq (us := cN x2) ty26 rfl rfl rfl rfl) ?_
    refine dl_new (sem_alloc zc26 rfl) rfl ?_
    refine dl_st (sem_store_a ty26 rfl rfl rfl rfl rfl rfl) ?_
    refine dl_end ?_
    refine dw_seq ?_
    -- region 4
    refine dw_region (by kernel_rfl) ?_
    refine dl_r (sem_field fd26_0 rfl rfl) ?_
    refine dl_r (sem_field fd24_1 rfl rfl) ?_
    refine dl_r (sem_load1 ty22 rfl rfl rfl rfl) ?_
    refine dl_r (sem_len sl22 rfl rfl) ?_
    refine dl_r (sem_castb (sem_cmp rfl rfl rfl rfl) (len_le sx2.1)) ?_
    refine dl_r (sem_move rfl rfl) ?_
    refine dl_r (sem_field fd26_1 rfl rfl) ?_
    refine dl_r (sem_field fd24_1 rfl rfl) ?_
    refine dl_r (sem_load1 ty22 rfl rfl rfl rfl) ?_
    refine dl_r (sem_len sl22 rfl rfl) ?_
    refine dl_r (sem_castb (sem_cmp rfl rfl rfl rfl) (len_le sx2.2)) ?_
    refine dl_r (sem_pick rfl rfl rfl rfl) ?_
    refine dl_end ?_
    refine dw_false rfl ?_
    refine dw_skip ?_
    -- region 6
    refine dw_region (by kernel_rfl) ?_
    refine dl_r (sem_ari (r := 2) rfl rfl rfl rfl) ?_
    refine dl_r (sem_move rfl rfl) ?_
    refine dl_end ?_
    exact ⟨2, sub_of ⟨rfl, rfl, rfl, rfl, rfl, trivial⟩ ⟨rfl, trivial⟩ rfl, by show 3 - 2 < 3 - 1; decide⟩
  | 2 =>
    show Dw _ _ ⟨43, [(1, .p 1 0), (2, .v (.c (.b false))), (15, .v (.c (.s 5 (cN x1 ++ cN x2 ++ cN x3 ++ cN x4 ++ cN x5)))), (16, .v (.c (.i .i64 5))), (17, .v (.c (.i .i64 2)))], [(1, 32, (cN x1 ++ cN x2 ++ cN x3 ++ cN x4 ++ cN x5))]⟩ _
    refine dw_seq ?_
    -- region 2
    refine dw_region (by kernel_rfl) ?_
    refine dl_r (sem_cmp rfl rfl rfl rfl) ?_
    refine dl_end ?_
    refine dw_seq ?_
    refine dw_true rfl ?_
    refine dw_skip ?_
    refine dw_seq ?_
    refine dw_block ?_
    refine dw_seq ?_
    -- region 3
    refine dw_region (by kernel_rfl) ?_
    refine dl_r (sem_index sl66 rfl rfl (by decide) rfl rfl rfl) ?_
    refine dl_r (sem_loadq (us := cN x3) ty26 rfl rfl rfl rfl) ?_
    refine dl_new (sem_alloc zc26 rfl) rfl ?_
    refine dl_st (sem_store_a ty26 rfl rfl rfl rfl rfl rfl) ?_
    refine dl_end ?_
    refine dw_seq ?_
    -- region 4
    refine dw_region (by kernel_rfl) ?_
    refine dl_r (sem_field fd26_0 rfl rfl) ?_
    refine dl_r (sem_field fd24_1 rfl rfl) ?_
    refine dl_r (sem_load1 ty22 rfl rfl rfl rfl) ?_
    refine dl_r (sem_len sl22 rfl rfl) ?_
    refine dl_r (sem_castb (sem_cmp rfl rfl rfl rfl) (len_le sx3.1)) ?_
    refine dl_r (sem_move rfl rfl) ?_
    refine dl_r (sem_field fd26_1 rfl rfl) ?_
    refine dl_r (sem_field fd24_1 rfl rfl) ?_
    refine dl_r (sem_load1 ty22 rfl rfl rfl rfl) ?_
    refine dl_r (sem_len sl22 rfl rfl) ?_
    refine dl_r (sem_castb (sem_cmp rfl rfl rfl rfl) (len_le sx3.2)) ?_
    refine dl_r (sem_pick rfl rfl rfl rfl) ?_
    refine dl_end ?_
    refine dw_false rfl ?_
    refine dw_skip ?_
    -- region 6
    refine dw_region (by kernel_rfl) ?_
    refine dl_r (sem_ari (r := 3) rfl rfl rfl rfl) ?_
    refine dl_r (sem_move rfl rfl) ?_
    refine dl_end ?_
    exact ⟨3, sub_of ⟨rfl, rfl, rfl, rfl, rfl, trivial⟩ ⟨rfl, trivial⟩ rfl, by show 3 - 3 < 3 - 2; decide⟩
  | z + 3 =>
    show Dw _ _ ⟨43, [(1, .p 1 0), (2, .v (.c (.b false))), (15, .v (.c (.s 5 (cN x1 ++ cN x2 ++ cN x3 ++ cN x4 ++ cN x5)))), (16, .v (.c (.i .i64 5))), (17, .v (.c (.i .i64 3)))], [(1, 32, (cN x1 ++ cN x2 ++ cN x3 ++ cN x4 ++ cN x5))]⟩ _
    refine dw_seq ?_
    -- region 2
    refine dw_region (by kernel_rfl) ?_
    refine dl_r (sem_cmp rfl rfl rfl rfl) ?_
    refine dl_end ?_
    refine dw_seq ?_
    refine dw_true rfl ?_
    refine dw_skip ?_
    refine dw_seq ?_
    refine dw_block ?_
    refine dw_seq ?_
    -- region 3
    refine dw_region (by kernel_rfl) ?_
    refine dl_r (sem_index sl66 rfl rfl (by decide) rfl rfl rfl) ?_
    refine dl_r (sem_loadq (us := cN x4) ty26 rfl rfl rfl rfl) ?_
    refine dl_new (sem_alloc zc26 rfl) rfl ?_
    refine dl_st (sem_store_a ty26 rfl rfl rfl rfl rfl rfl) ?_
    refine dl_end ?_
    refine dw_seq ?_
    -- region 4
    refine dw_region (by kernel_rfl) ?_
    refine dl_r (sem_field fd26_0 rfl rfl) ?_
    refine dl_r (sem_field fd24_1 rfl rfl) ?_
    refine dl_r (sem_load1 ty22 rfl rfl rfl rfl) ?_
    refine dl_r (sem_len sl22 rfl rfl) ?_
    refine dl_r (sem_cmp rfl rfl rfl rfl) ?_
    refine dl_rb (sem_move rfl rfl) (fun c1 hb1 => ?_)
    cases c1
    · refine dl_r (sem_field fd26_1 rfl rfl) ?_
      refine dl_r (sem_field fd24_1 rfl rfl) ?_
      refine dl_r (sem_load1 ty22 rfl rfl rfl rfl) ?_
      refine dl_r (sem_len sl22 rfl rfl) ?_
      refine dl_r (sem_cmp rfl rfl rfl rfl) ?_
      refine dl_r (sem_pick rfl rfl rfl rfl) ?_
      refine dl_end ?_
      refine dw_cond rfl (fun hc2 => ?_) (fun hc2 => ?_)
      · refine dw_seq ?_
        -- region 5
        refine dw_region (by kernel_rfl) ?_
        refine dl_r (sem_call rfl rfl (awake_ok) rfl) ?_
        refine dl_r (sem_assign rfl rfl) ?_
        refine dl_end ?_
        refine dw_ret ?_
        -- path L3fT
        exact ⟨.inr rfl, (resL_tmp rfl resL_nil)⟩
      · exfalso
        have g1 := dec_f hb1
        have g2 := dec_f hc2
        omega
    · refine dl_skip (sem_skip rfl) ?_
      refine dl_skip (sem_skip rfl) ?_
      refine dl_skip (sem_skip rfl) ?_
      refine dl_skip (sem_skip rfl) ?_
      refine dl_skip (sem_skip rfl) ?_
      refine dl_r (sem_pick rfl rfl rfl rfl) ?_
      refine dl_end ?_
      refine dw_true rfl ?_
      refine dw_seq ?_
      -- region 5
      refine dw_region (by kernel_rfl) ?_
      refine dl_r (sem_call rfl rfl (awake_ok) rfl) ?_
      refine dl_r (sem_assign rfl rfl) ?_
      refine dl_end ?_
      refine dw_ret ?_
      -- path L3t
      exact ⟨.inr rfl, (resL_tmp rfl resL_nil)⟩
theorem lwVa_4 {x1 x2 x3 x4 x5 : RN} (_wx1 : x1.Wf) (_wx2 : x2.Wf) (_wx3 : x3.Wf) (_wx4 : x4.Wf) (_wx5 : x5.Wf)(sx1 : x1.x1.length ≤ 3 ∧ x1.x2.length ≤ 3) (sx2 : x2.x1.length ≤ 3 ∧ x2.x2.length ≤ 3) (sx3 : x3.x1.length ≤ 3 ∧ x3.x2.length ≤ 3) (sx4 : x4.x1.length ≤ 3 ∧ x4.x2.length ≤ 3) (lg : ¬ (x5.x1.length ≤ 3 ∧ x5.x2.length ≤ 3)) : Ok Tryz.prog 9 [.a (cN x1 ++ cN x2 ++ cN x3 ++ cN x4 ++ cN x5)] [.c (.b true)] := by
  refine Ok.of (by kernel_rfl) Tryz.func9 rfl rfl ?_
  rw [show Tryz.f9.ntmps = 43 from rfl, show Tryz.f9.results.toList = [.tmp 2] from rfl]
  refine dw_seq ?_
  -- region 0
  refine dw_region (by kernel_rfl) ?_
  refine dl_new (sem_box_a rfl rfl) rfl ?_
  refine dl_r (sem_assign rfl rfl) ?_
  refine dl_end ?_
  refine dw_seq ?_
  refine dw_seq ?_
  -- region 1
  refine dw_region (by kernel_rfl) ?_
  refine dl_r (sem_field fd32_0 rfl rfl) ?_
  refine dl_r (sem_load (us := cN x1) ty26 rfl rfl rfl rfl rfl) ?_
  refine dl_r (sem_field fd32_1 rfl rfl) ?_
  refine dl_r (sem_load (us := cN x2) ty26 rfl rfl rfl rfl rfl) ?_
  refine dl_r (sem_field fd32_2 rfl rfl) ?_
  refine dl_r (sem_load (us := cN x3) ty26 rfl rfl rfl rfl rfl) ?_
  refine dl_r (sem_field fd32_3 rfl rfl) ?_
  refine dl_r (sem_load (us := cN x4) ty26 rfl rfl rfl rfl rfl) ?_
  refine dl_r (sem_field fd32_4 rfl rfl) ?_
  refine dl_r (sem_load (us := cN x5) ty26 rfl rfl rfl rfl rfl) ?_
  refine dl_r (sem_slit_D (n := 5) (us := cN x1 ++ cN x2 ++ cN x3 ++ cN x4 ++ cN x5) el66 rfl rfl rfl (by decide) (by decide) rfl) ?_
  refine dl_r (sem_len sl66 rfl rfl) ?_
  refine dl_r (sem_move rfl rfl) ?_
  refine dl_end ?_
  refine dw_block ?_
  refine dw_loop (ι := Nat) (fun i => match i with | 0 => ⟨43, [(1, .p 1 0), (2, .v (.c (.b false))), (15, .v (.c (.s 5 (cN x1 ++ cN x2 ++ cN x3 ++ cN x4 ++ cN x5)))), (16, .v (.c (.i .i64 5))), (17, .v (.c (.i .i64 0)))], [(1, 32, (cN x1 ++ cN x2 ++ cN x3 ++ cN x4 ++ cN x5))]⟩ | 1 => ⟨43, [(1, .p 1 0), (2, .v (.c (.b false))), (15, .v (.c (.s 5 (cN x1 ++ cN x2 ++ cN x3 ++ cN x4 ++ cN x5)))), (16, .v (.c (.i .i64 5))), (17, .v (.c (.i .i64 1)))], [(1, 32, (cN x1 ++ cN x2 ++ cN x3 ++ cN x4 ++ cN x5))]⟩ | 2 => ⟨43, [(1, .p 1 0), (2, .v (.c (.b false))), (15, .v (.c (.s 5 (cN x1 ++ cN x2 ++ cN x3 ++ cN x4 ++ cN x5)))), (16, .v (.c (.i .i64 5))), (17, .v (.c (.i .i64 2)))], [(1, 32, (cN x1 ++ cN x2 ++ cN x3 ++ cN x4 ++ cN x5))]⟩ | 3 => ⟨43, [(1, .p 1 0), (2, .v (.c (.b false))), (15, .v (.c (.s 5 (cN x1 ++ cN x2 ++ cN x3 ++ cN x4 ++ cN x5)))), (16, .v (.c (.i .i64 5))), (17, .v (.c (.i .i64 3)))], [(1, 32, (cN x1 ++ cN x2 ++ cN x3 ++ cN x4 ++ cN x5))]⟩ | _ + 4 => ⟨43, [(1, .p 1 0), (2, .v (.c (.b false))), (15, .v (.c (.s 5 (cN x1 ++ cN x2 ++ cN x3 ++ cN x4 ++ cN x5)))), (16, .v (.c (.i .i64 5))), (17, .v (.c (.i .i64 4)))], [(1, 32, (cN x1 ++ cN x2 ++ cN x3 ++ cN x4 ++ cN x5))]⟩) (fun i => 4 - i) 0 (sub_of ⟨rfl, rfl, rfl, rfl, rfl, trivial⟩ ⟨rfl, trivial⟩ rfl) ?_
  intro i
  match i with
  | 0 =>
    show Dw _ _ ⟨43, [(1, .p 1 0), (2, .v (.c (.b false))), (15, .v (.c (.s 5 (cN x1 ++ cN x2 ++ cN x3 ++ cN x4 ++ cN x5)))), (16, .v (.c (.i .i64 5))), (17, .v (.c (.i .i64 0)))], [(1, 32, (cN x1 ++ cN x2 ++ cN x3 ++ cN x4 ++ cN x5))]⟩ _
    refine dw_seq ?_
    -- region 2
    refine dw_region (by kernel_rfl) ?_
    refine dl_r (sem_cmp rfl rfl rfl rfl) ?_
    refine dl_end ?_
    refine dw_seq ?_
    refine dw_true rfl ?_
    refine dw_skip ?_
    refine dw_seq ?_
    refine dw_block ?_
    refine dw_seq ?_
    -- region 3
    refine dw_region (by kernel_rfl) ?_
    refine dl_r (sem_index sl66 rfl rfl (by decide) rfl rfl rfl) ?_
    refine dl_r (sem_loadq (us := cN x1) ty26 rfl rfl rfl rfl) ?_
    refine dl_new (sem_alloc zc26 rfl) rfl ?_
    refine dl_st (sem_store_a ty26 rfl rfl rfl rfl rfl rfl) ?_
    refine dl_end ?_
    refine dw_seq ?_
    -- region 4
    refine dw_region (by kernel_rfl) ?_
    refine dl_r (sem_field fd26_0 rfl rfl) ?_
    refine dl_r (sem_field fd24_1 rfl rfl) ?_
    refine dl_r (sem_load1 ty22 rfl rfl rfl rfl) ?_
    refine dl_r (sem_len sl22 rfl rfl) ?_
    refine dl_r (sem_castb (sem_cmp rfl rfl rfl rfl) (len_le sx1.1)) ?_
    refine dl_r (sem_move rfl rfl) ?_
    refine dl_r (sem_field fd26_1 rfl rfl) ?_
    refine dl_r (sem_field fd24_1 rfl rfl) ?_
    refine dl_r (sem_load1 ty22 rfl rfl rfl rfl) ?_
    refine dl_r (sem_len sl22 rfl rfl) ?_
    refine dl_r (sem_castb (sem_cmp rfl rfl rfl rfl) (len_le sx1.2)) ?_
    refine dl_r (sem_pick rfl rfl rfl rfl) ?_
    refine dl_end ?_
    refine dw_false rfl ?_
    refine dw_skip ?_
    -- region 6
    refine dw_region (by kernel_rfl) ?_
    refine dl_r (sem_ari (r := 1) rfl rfl rfl rfl) ?_
    refine dl_r (sem_move rfl rfl) ?_
    refine dl_end ?_
    exact ⟨1, sub_of ⟨rfl, rfl, rfl, rfl, rfl, trivial⟩ ⟨rfl, trivial⟩ rfl, by show 4 - 1 < 4 - 0; decide⟩
  | 1 =>
    show Dw _ _ ⟨43, [(1, .p 1 0), (2, .v (.c (.b false))), (15, .v (.c (.s 5 (cN x1 ++ cN x2 ++ cN x3 ++ cN x4 ++ cN x5)))), (16, .v (.c (.i .i64 5))), (17, .v (.c (.i .i64 1)))], [(1, 32, (cN x1 ++ cN x2 ++ cN x3 ++ cN x4 ++ cN x5))]⟩ _
    refine dw_seq ?_
    -- region 2
    refine dw_region (by kernel_rfl) ?_
    refine dl_r (sem_cmp rfl rfl rfl rfl) ?_
    refine dl_end ?_
    refine dw_seq ?_
    refine dw_true rfl ?_
    refine dw_skip ?_
    refine dw_seq ?_
    refine dw_block ?_
    refine dw_seq ?_
    -- region 3
    refine dw_region (by kernel_rfl) ?_
    refine dl_r (sem_index sl66 rfl rfl (by decide) rfl rfl rfl) ?_
    refine dl_r (sem_loadq (us := cN x2) ty26 rfl rfl rfl rfl) ?_
    refine dl_new (sem_alloc zc26 rfl) rfl ?_
    refine dl_st (sem_store_a ty26 rfl rfl rfl rfl rfl rfl) ?_
    refine dl_end ?_
    refine dw_seq ?_
    -- region 4
    refine dw_region (by kernel_rfl) ?_
    refine dl_r (sem_field fd26_0 rfl rfl) ?_
    refine dl_r (sem_field fd24_1 rfl rfl) ?_
    refine dl_r (sem_load1 ty22 rfl rfl rfl rfl) ?_
    refine dl_r (sem_len sl22 rfl rfl) ?_
    refine dl_r (sem_castb (sem_cmp rfl rfl rfl rfl) (len_le sx2.1)) ?_
    refine dl_r (sem_move rfl rfl) ?_
    refine dl_r (sem_field fd26_1 rfl rfl) ?_
    refine dl_r (sem_field fd24_1 rfl rfl) ?_
    refine dl_r (sem_load1 ty22 rfl rfl rfl rfl) ?_
    refine dl_r (sem_len sl22 rfl rfl) ?_
    refine dl_r (sem_castb (sem_cmp rfl rfl rfl rfl) (len_le sx2.2)) ?_
    refine dl_r (sem_pick rfl rfl rfl rfl) ?_
    refine dl_end ?_
    refine dw_false rfl ?_
    refine dw_skip ?_
    -- region 6
    refine dw_region (by kernel_rfl) ?_
    refine dl_r (sem_ari (r := 2) rfl rfl rfl rfl) ?_
    refine dl_r (sem_move rfl rfl) ?_
    refine dl_end ?_
    exact ⟨2, sub_of ⟨rfl, rfl, rfl, rfl, rfl, trivial⟩ ⟨rfl, trivial⟩ rfl, by show 4 - 2 < 4 - 1; decide⟩
  | 2 =>
    show Dw _ _ ⟨43, [(1, .p 1 0), (2, .v (.c (.b false))), (15, .v (.c (.s 5 (cN x1 ++ cN x2 ++ cN x3 ++ cN x4 ++ cN x5)))), (16, .v (.c (.i .i64 5))), (17, .v (.c (.i .i64 2)))], [(1, 32, (cN x1 ++ cN x2 ++ cN x3 ++ cN x4 ++ cN x5))]⟩ _
    refine dw_seq ?_
    -- region 2
    refine dw_region (by kernel_rfl) ?_
    refine dl_r (sem_cmp rfl rfl rfl rfl) ?_
    refine dl_end ?_
    refine dw_seq ?_
    refine dw_true rfl ?_
    refine dw_skip ?_
    refine dw_seq ?_
    refine dw_block ?_
    refine dw_seq ?_
    -- region 3
    refine dw_region (by kernel_rfl) ?_
    refine dl_r (sem_index sl66 rfl rfl (by decide) rfl rfl rfl) ?_
    refine dl_r (sem_loadq (us := cN x3) ty26 rfl rfl rfl rfl) ?_
    refine dl_new (sem_alloc zc26 rfl) rfl ?_
    refine dl_st (sem_store_a ty26 rfl rfl rfl rfl rfl rfl) ?_
    refine dl_end ?_
    refine dw_seq ?_
    -- region 4
    refine dw_region (by kernel_rfl) ?_
    refine dl_r (sem_field fd26_0 rfl rfl) ?_
    refine dl_r (sem_field fd24_1 rfl rfl) ?_
    refine dl_r (sem_load1 ty22 rfl rfl rfl rfl) ?_
    refine dl_r (sem_len sl22 rfl rfl) ?_
    refine dl_r (sem_castb (sem_cmp rfl rfl rfl rfl) (len_le sx3.1)) ?_
    refine dl_r (sem_move rfl rfl) ?_
    refine dl_r (sem_field fd26_1 rfl rfl) ?_
    refine dl_r (sem_field fd24_1 rfl rfl) ?_
    refine dl_r (sem_load1 ty22 rfl rfl rfl rfl) ?_
    refine dl_r (sem_len sl22 rfl rfl) ?_
    refine dl_r (sem_castb (sem_cmp rfl rfl rfl rfl) (len_le sx3.2)) ?_
    refine dl_r (sem_pick rfl rfl rfl rfl) ?_
    refine dl_end ?_
    refine dw_false rfl ?_
    refine dw_skip ?_
    -- region 6
    refine dw_region (by kernel_rfl) ?_
    refine dl_r (sem_ari (r := 3) rfl rfl rfl rfl) ?_
    refine dl_r (sem_move rfl rfl) ?_
    refine dl_end ?_
    exact ⟨3, sub_of ⟨rfl, rfl, rfl, rfl, rfl, trivial⟩ ⟨rfl, trivial⟩ rfl, by show 4 - 3 < 4 - 2; decide⟩
  | 3 =>
    show Dw _ _ ⟨43, [(1, .p 1 0), (2, .v (.c (.b false))), (15, .v (.c (.s 5 (cN x1 ++ cN x2 ++ cN x3 ++ cN x4 ++ cN x5)))), (16, .v (.c (.i .i64 5))), (17, .v (.c (.i .i64 3)))], [(1, 32, (cN x1 ++ cN x2 ++ cN x3 ++ cN x4 ++ cN x5))]⟩ _
    refine dw_seq ?_
    -- region 2
    refine dw_region (by kernel_rfl) ?_
    refine dl_r (sem_cmp rfl rfl rfl rfl) ?_
    refine dl_end ?_
    refine dw_seq ?_
    refine dw_true rfl ?_
    refine dw_skip ?_
    refine dw_seq ?_
    refine dw_block ?_
    refine dw_seq ?_
    -- region 3
    refine dw_region (by kernel_rfl) ?_
    refine dl_r (sem_index sl66 rfl rfl (by decide) rfl rfl rfl) ?_
    refine dl_r (sem_loadq (us := cN x4) ty26 rfl rfl rfl rfl) ?_
    refine dl_new (sem_alloc zc26 rfl) rfl ?_
    refine dl_st (sem_store_a ty26 rfl rfl rfl rfl rfl rfl) ?_
    refine dl_end ?_
    refine dw_seq ?_
    -- region 4
    refine dw_region (by kernel_rfl) ?_
    refine dl_r (sem_field fd26_0 rfl rfl) ?_
    refine dl_r (sem_field fd24_1 rfl rfl) ?_
    refine dl_r (sem_load1 ty22 rfl rfl rfl rfl) ?_
    refine dl_r (sem_len sl22 rfl rfl) ?_
    refine dl_r (sem_castb (sem_cmp rfl rfl rfl rfl) (len_le sx4.1)) ?_
    refine dl_r (sem_move rfl rfl) ?_
    refine dl_r (sem_field fd26_1 rfl rfl) ?_
    refine dl_r (sem_field fd24_1 rfl rfl) ?_
    refine dl_r (sem_load1 ty22 rfl rfl rfl rfl) ?_
    refine dl_r (sem_len sl22 rfl rfl) ?_
    refine dl_r (sem_castb (sem_cmp rfl rfl rfl rfl) (len_le sx4.2)) ?_
    refine dl_r (sem_pick rfl rfl rfl rfl) ?_
    refine dl_end ?_
    refine dw_false rfl ?_
    refine dw_skip ?_
    -- region 6
    refine dw_region (by kernel_rfl) ?_
    refine dl_r (sem_ari (r := 4) rfl rfl rfl rfl) ?_
    refine dl_r (sem_move rfl rfl) ?_
    refine dl_end ?_
    exact ⟨4, sub_of ⟨rfl, rfl, rfl, rfl, rfl, trivial⟩ ⟨rfl, trivial⟩ rfl, by show 4 - 4 < 4 - 3; decide⟩
  | z + 4 =>
    show Dw _ _ ⟨43, [(1, .p 1 0), (2, .v (.c (.b false))), (15, .v (.c (.s 5 (cN x1 ++ cN x2 ++ cN x3 ++ cN x4 ++ cN x5)))), (16, .v (.c (.i .i64 5))), (17, .v (.c (.i .i64 4)))], [(1, 32, (cN x1 ++ cN x2 ++ cN x3 ++ cN x4 ++ cN x5))]⟩ _
    refine dw_seq ?_
    -- region 2
    refine dw_region (by kernel_rfl) ?_
    refine dl_r (sem_cmp rfl rfl rfl rfl) ?_
    refine dl_end ?_
    refine dw_seq ?_
    refine dw_true rfl ?_
    refine dw_skip ?_
    refine dw_seq ?_
    refine dw_block ?_
    refine dw_seq ?_
    -- region 3
    refine dw_region (by kernel_rfl) ?_
    refine dl_r (sem_index sl66 rfl rfl (by decide) rfl rfl rfl) ?_
    refine dl_r (sem_loadq (us := cN x5) ty26 rfl rfl rfl rfl) ?_
    refine dl_new (sem_alloc zc26 rfl) rfl ?_
    refine dl_st (sem_store_a ty26 rfl rfl rfl rfl rfl rfl) ?_
    refine dl_end ?_
    refine dw_seq ?_
    -- region 4
    refine dw_region (by kernel_rfl) ?_
    refine dl_r (sem_field fd26_0 rfl rfl) ?_
    refine dl_r (sem_field fd24_1 rfl rfl) ?_
    refine dl_r (sem_load1 ty22 rfl rfl rfl rfl) ?_
    refine dl_r (sem_len sl22 rfl rfl) ?_
    refine dl_r (sem_cmp rfl rfl rfl rfl) ?_
    refine dl_rb (sem_move rfl rfl) (fun c1 hb1 => ?_)
    cases c1
    · refine dl_r (sem_field fd26_1 rfl rfl) ?_
      refine dl_r (sem_field fd24_1 rfl rfl) ?_
      refine dl_r (sem_load1 ty22 rfl rfl rfl rfl) ?_
      refine dl_r (sem_len sl22 rfl rfl) ?_
      refine dl_r (sem_cmp rfl rfl rfl rfl) ?_
      refine dl_r (sem_pick rfl rfl rfl rfl) ?_
      refine dl_end ?_
      refine dw_cond rfl (fun hc2 => ?_) (fun hc2 => ?_)
      · refine dw_seq ?_
        -- region 5
        refine dw_region (by kernel_rfl) ?_
        refine dl_r (sem_call rfl rfl (awake_ok) rfl) ?_
        refine dl_r (sem_assign rfl rfl) ?_
        refine dl_end ?_
        refine dw_ret ?_
        -- path L4fT
        exact ⟨.inr rfl, (resL_tmp rfl resL_nil)⟩
      · exfalso
        have g1 := dec_f hb1
        have g2 := dec_f hc2
        omega
    · refine dl_skip (sem_skip rfl) ?_
      refine dl_skip (sem_skip rfl) ?_
      refine dl_skip (sem_skip rfl) ?_
      refine dl_skip (sem_skip rfl) ?_
      refine dl_skip (sem_skip rfl) ?_
      refine dl_r (sem_pick rfl rfl rfl rfl) ?_
      refine dl_end ?_
      refine dw_true rfl ?_
      refine dw_seq ?_
      -- region 5
      refine dw_region (by kernel_rfl) ?_
      refine dl_r (sem_call rfl rfl (awake_ok) rfl) ?_
      refine dl_r (sem_assign rfl rfl) ?_
      refine dl_end ?_
      refine dw_ret ?_
      -- path L4t
      exact ⟨.inr rfl, (resL_tmp rfl resL_nil)⟩
theorem lwVa_F {x1 x2 x3 x4 x5 : RN} (_wx1 : x1.Wf) (_wx2 : x2.Wf) (_wx3 : x3.Wf) (_wx4 : x4.Wf) (_wx5 : x5.Wf)(sx1 : x1.x1.length ≤ 3 ∧ x1.x2.length ≤ 3) (sx2 : x2.x1.length ≤ 3 ∧ x2.x2.length ≤ 3) (sx3 : x3.x1.length ≤ 3 ∧ x3.x2.length ≤ 3) (sx4 : x4.x1.length ≤ 3 ∧ x4.x2.length ≤ 3) (sx5 : x5.x1.length ≤ 3 ∧ x5.x2.length ≤ 3) {β : Bool} (oP : Ok Tryz.prog 40 [.a (cN x1 ++ cN x2 ++ cN x3 ++ cN x4 ++ cN x5)] [.c (.b β)]) (oR : Ok Tryz.prog 41 [.a (cN x1 ++ cN x2 ++ cN x3 ++ cN x4 ++ cN x5)] [.c (.b β)]) : Ok Tryz.prog 9 [.a (cN x1 ++ cN x2 ++ cN x3 ++ cN x4 ++ cN x5)] [.c (.b (β == β))] := by
  refine Ok.of (by kernel_rfl) Tryz.func9 rfl rfl ?_
  rw [show Tryz.f9.ntmps = 43 from rfl, show Tryz.f9.results.toList = [.tmp 2] from rfl]
  refine dw_seq ?_
  -- region 0
  refine dw_region (by kernel_rfl) ?_
  refine dl_new (sem_box_a rfl rfl) rfl ?_
  refine dl_r (sem_assign rfl rfl) ?_
  refine dl_end ?_
  refine dw_seq ?_
  refine dw_seq ?_
  -- region 1
  refine dw_region (by kernel_rfl) ?_
  refine dl_r (sem_field fd32_0 rfl rfl) ?_
  refine dl_r (sem_load (us := cN x1) ty26 rfl rfl rfl rfl rfl) ?_
  refine dl_r (sem_field fd32_1 rfl rfl) ?_
  refine dl_r (sem_load (us := cN x2) ty26 rfl rfl rfl rfl rfl) ?_
  refine dl_r (sem_field fd32_2 rfl rfl) ?_
  refine dl_r (sem_load (us := cN x3) ty26 rfl rfl rfl rfl rfl) ?_
  refine dl_r (sem_field fd32_3 rfl rfl) ?_
  refine dl_r (sem_load (us := cN x4) ty26 rfl rfl rfl rfl rfl) ?_
  refine dl_r (sem_field fd32_4 rfl rfl) ?_
  refine dl_r (sem_load (us := cN x5) ty26 rfl rfl rfl rfl rfl) ?_
  refine dl_r (sem_slit_D (n := 5) (us := cN x1 ++ cN x2 ++ cN x3 ++ cN x4 ++ cN x5) el66 rfl rfl rfl (by decide) (by decide) rfl) ?_
  refine dl_r (sem_len sl66 rfl rfl) ?_
  refine dl_r (sem_move rfl rfl) ?_
  refine dl_end ?_
  refine dw_block ?_
  refine dw_loop (ι := Nat) (fun i => match i with | 0 => ⟨43, [(1, .p 1 0), (2, .v (.c (.b false))), (15, .v (.c (.s 5 (cN x1 ++ cN x2 ++ cN x3 ++ cN x4 ++ cN x5)))), (16, .v (.c (.i .i64 5))), (17, .v (.c (.i .i64 0)))], [(1, 32, (cN x1 ++ cN x2 ++ cN x3 ++ cN x4 ++ cN x5))]⟩ | 1 => ⟨43, [(1, .p 1 0), (2, .v (.c (.b false))), (15, .v (.c (.s 5 (cN x1 ++ cN x2 ++ cN x3 ++ cN x4 ++ cN x5)))), (16, .v (.c (.i .i64 5))), (17, .v (.c (.i .i64 1)))], [(1, 32, (cN x1 ++ cN x2 ++ cN x3 ++ cN x4 ++ cN x5))]⟩ | 2 => ⟨43, [(1, .p 1 0), (2, .v (.c (.b false))), (15, .v (.c (.s 5 (cN x1 ++ cN x2 ++ cN x3 ++ cN x4 ++ cN x5)))), (16, .v (.c (.i .i64 5))), (17, .v (.c (.i .i64 2)))], [(1, 32, (cN x1 ++ cN x2 ++ cN x3 ++ cN x4 ++ cN x5))]⟩ | 3 => ⟨43, [(1, .p 1 0), (2, .v (.c (.b false))), (15, .v (.c (.s 5 (cN x1 ++ cN x2 ++ cN x3 ++ cN x4 ++ cN x5)))), (16, .v (.c (.i .i64 5))), (17, .v (.c (.i .i64 3)))], [(1, 32, (cN x1 ++ cN x2 ++ cN x3 ++ cN x4 ++ cN x5))]⟩ | 4 => ⟨43, [(1, .p 1 0), (2, .v (.c (.b false))), (15, .v (.c (.s 5 (cN x1 ++ cN x2 ++ cN x3 ++ cN x4 ++ cN x5)))), (16, .v (.c (.i .i64 5))), (17, .v (.c (.i .i64 4)))], [(1, 32, (cN x1 ++ cN x2 ++ cN x3 ++ cN x4 ++ cN x5))]⟩ | _ + 5 => ⟨43, [(1, .p 1 0), (2, .v (.c (.b false))), (15, .v (.c (.s 5 (cN x1 ++ cN x2 ++ cN x3 ++ cN x4 ++ cN x5)))), (16, .v (.c (.i .i64 5))), (17, .v (.c (.i .i64 5)))], [(1, 32, (cN x1 ++ cN x2 ++ cN x3 ++ cN x4 ++ cN x5))]⟩) (fun i => 5 - i) 0 (sub_of ⟨rfl, rfl, rfl, rfl, rfl, trivial⟩ ⟨rfl, trivial⟩ rfl) ?_
  intro i
  match i with
  | 0 =>
    show Dw _ _ ⟨43, [(1, .p 1 0), (2, .v (.c (.b false))), (15, .v (.c (.s 5 (cN x1 ++ cN x2 ++ cN x3 ++ cN x4 ++ cN x5)))), (16, .v (.c (.i .i64 5))), (17, .v (.c (.i .i64 0)))], [(1, 32, (cN x1 ++ cN x2 ++ cN x3 ++ cN x4 ++ cN x5))]⟩ _
    refine dw_seq ?_
    -- region 2
    refine dw_region (by kernel_rfl) ?_
    refine dl_r (sem_cmp rfl rfl rfl rfl) ?_
    refine dl_end ?_
    refine dw_seq ?_
    refine dw_true rfl ?_
    refine dw_skip ?_
    refine dw_seq ?_
    refine dw_block ?_
    refine dw_seq ?_
    -- region 3
    refine dw_region (by kernel_rfl) ?_
    refine dl_r (sem_index sl66 rfl rfl (by decide) rfl rfl rfl) ?_
    refine dl_r (sem_loadq (us := cN x1) ty26 rfl rfl rfl rfl) ?_
    refine dl_new (sem_alloc zc26 rfl) rfl ?_
    refine dl_st (sem_store_a ty26 rfl rfl rfl rfl rfl rfl) ?_
    refine dl_end ?_
    refine dw_seq ?_
    -- region 4
    refine dw_region (by kernel_rfl) ?_
    refine dl_r (sem_field fd26_0 rfl rfl) ?_
    refine dl_r (sem_field fd24_1 rfl rfl) ?_
    refine dl_r (sem_load1 ty22 rfl rfl rfl rfl) ?_
    refine dl_r (sem_len sl22 rfl rfl) ?_
    refine dl_r (sem_castb (sem_cmp rfl rfl rfl rfl) (len_le sx1.1)) ?_
    refine dl_r (sem_move rfl rfl) ?_
    refine dl_r (sem_field fd26_1 rfl rfl) ?_
    refine dl_r (sem_field fd24_1 rfl rfl) ?_
    refine dl_r (sem_load1 ty22 rfl rfl rfl rfl) ?_
    refine dl_r (sem_len sl22 rfl rfl) ?_
    refine dl_r (sem_castb (sem_cmp rfl rfl rfl rfl) (len_le sx1.2)) ?_
    refine dl_r (sem_pick rfl rfl rfl rfl) ?_
    refine dl_end ?_
    refine dw_false rfl ?_
    refine dw_skip ?_
    -- region 6
    refine dw_region (by kernel_rfl) ?_
    refine dl_r (sem_ari (r := 1) rfl rfl rfl rfl) ?_
    refine dl_r (sem_move rfl rfl) ?_
    refine dl_end ?_
    exact ⟨1, sub_of ⟨rfl, rfl, rfl, rfl, rfl, trivial⟩ ⟨rfl, trivial⟩ rfl, by show 5 - 1 < 5 - 0; decide⟩
  | 1 =>
    show Dw _ _ ⟨43, [(1, .p 1 0), (2, .v (.c (.b false))), (15, .v (.c (.s 5 (cN x1 ++ cN x2 ++ cN x3 ++ cN x4 ++ cN x5)))), (16, .v (.c (.i .i64 5))), (17, .v (.c (.i .i64 1)))], [(1, 32, (cN x1 ++ cN x2 ++ cN x3 ++ cN x4 ++ cN x5))]⟩ _
    refine dw_seq ?_
    -- region 2
    refine dw_region (by kernel_rfl) ?_
    refine dl_r (sem_cmp rfl rfl rfl rfl) ?_
    refine dl_end ?_
    refine dw_seq ?_
    refine dw_true rfl ?_
    refine dw_skip ?_
    refine dw_seq ?_
    refine dw_block ?_
    refine dw_seq ?_
    -- region 3
    refine dw_region (by kernel_rfl) ?_
    refine dl_r (sem_index sl66 rfl rfl (by decide) rfl rfl rfl) ?_
    refine dl_r (sem_loadq (us := cN x2) ty26 rfl rfl rfl rfl) ?_
    refine dl_new (sem_alloc zc26 rfl) rfl ?_
    refine dl_st (sem_store_a ty26 rfl rfl rfl rfl rfl rfl) ?_
    refine dl_end ?_
    refine dw_seq ?_
    -- region 4
    refine dw_region (by kernel_rfl) ?_
    refine dl_r (sem_field fd26_0 rfl rfl) ?_
    refine dl_r (sem_field fd24_1 rfl rfl) ?_
    refine dl_r (sem_load1 ty22 rfl rfl rfl rfl) ?_
    refine dl_r (sem_len sl22 rfl rfl) ?_
    refine dl_r (sem_castb (sem_cmp rfl rfl rfl rfl) (len_le sx2.1)) ?_
    refine dl_r (sem_move rfl rfl) ?_
    refine dl_r (sem_field fd26_1 rfl rfl) ?_
    refine dl_r (sem_field fd24_1 rfl rfl) ?_
    refine dl_r (sem_load1 ty22 rfl rfl rfl rfl) ?_
    refine dl_r (sem_len sl22 rfl rfl) ?_
    refine dl_r (sem_castb (sem_cmp rfl rfl rfl rfl) (len_le sx2.2)) ?_
    refine dl_r (sem_pick rfl rfl rfl rfl) ?_
    refine dl_end ?_
    refine dw_false rfl ?_
    refine dw_skip ?_
    -- region 6
    refine dw_region (by kernel_rfl) ?_
    refine dl_r (sem_ari (r := 2) rfl rfl rfl rfl) ?_
    refine dl_r (sem_move rfl rfl) ?_
    refine dl_end ?_
    exact ⟨2, sub_of ⟨rfl, rfl, rfl, rfl, rfl, trivial⟩ ⟨rfl, trivial⟩ rfl, by show 5 - 2 < 5 - 1; decide⟩
  | 2 =>
    show Dw _ _ ⟨43, [(1, .p 1 0), (2, .v (.c (.b false))), (15, .v (.c (.s 5 (cN x1 ++ cN x2 ++ cN x3 ++ cN x4 ++ cN x5)))), (16, .v (.c (.i .i64 5))), (17, .v (.c (.i .i64 2)))], [(1, 32, (cN x1 ++ cN x2 ++ cN x3 ++ cN x4 ++ cN x5))]⟩ _
    refine dw_seq ?_
    -- region 2
    refine dw_region (by kernel_rfl) ?_
    refine dl_r (sem_cmp rfl rfl rfl rfl) ?_
    refine dl_end ?_
    refine dw_seq ?_
    refine dw_true rfl ?_
    refine dw_skip ?_
    refine dw_seq ?_
    refine dw_block ?_
    refine dw_seq ?_
    -- region 3
    refine dw_region (by kernel_rfl) ?_
    refine dl_r (sem_index sl66 rfl rfl (by decide) rfl rfl rfl) ?_
    refine dl_r (sem_loadq (us := cN x3) ty26 rfl rfl rfl rfl) ?_
    refine dl_new (sem_alloc zc26 rfl) rfl ?_
    refine dl_st (sem_store_a ty26 rfl rfl rfl rfl rfl rfl) ?_
    refine dl_end ?_
    refine dw_seq ?_
    -- region 4
    refine dw_region (by kernel_rfl) ?_
    refine dl_r (sem_field fd26_0 rfl rfl) ?_
    refine dl_r (sem_field fd24_1 rfl rfl) ?_
    refine dl_r (sem_load1 ty22 rfl rfl rfl rfl) ?_
    refine dl_r (sem_len sl22 rfl rfl) ?_
    refine dl_r (sem_castb (sem_cmp rfl rfl rfl rfl) (len_le sx3.1)) ?_
    refine dl_r (sem_move rfl rfl) ?_
    refine dl_r (sem_field fd26_1 rfl rfl) ?_
    refine dl_r (sem_field fd24_1 rfl rfl) ?_
    refine dl_r (sem_load1 ty22 rfl rfl rfl rfl) ?_
    refine dl_r (sem_len sl22 rfl rfl) ?_
    refine dl_r (sem_castb (sem_cmp rfl rfl rfl rfl) (len_le sx3.2)) ?_
    refine dl_r (sem_pick rfl rfl rfl rfl) ?_
    refine dl_end ?_
    refine dw_false rfl ?_
    refine dw_skip ?_
    -- region 6
    refine dw_region (by kernel_rfl) ?_
    refine dl_r (sem_ari (r := 3) rfl rfl rfl rfl) ?_
    refine dl_r (sem_move rfl rfl) ?_
    refine dl_end ?_
    exact ⟨3, sub_of ⟨rfl, rfl, rfl, rfl, rfl, trivial⟩ ⟨rfl, trivial⟩ rfl, by show 5 - 3 < 5 - 2; decide⟩
  | 3 =>
    show Dw _ _ ⟨43, [(1, .p 1 0), (2, .v (.c (.b false))), (15, .v (.c (.s 5 (cN x1 ++ cN x2 ++ cN x3 ++ cN x4 ++ cN x5)))), (16, .v (.c (.i .i64 5))), (17, .v (.c (.i .i64 3)))], [(1, 32, (cN x1 ++ cN x2 ++ cN x3 ++ cN x4 ++ cN x5))]⟩ _
    refine dw_seq ?_
    -- region 2
    refine dw_region (by kernel_rfl) ?_
    refine dl_r (sem_cmp rfl rfl rfl rfl) ?_
    refine dl_end ?_
    refine dw_seq ?_
    refine dw_true rfl ?_
    refine dw_skip ?_
    refine dw_seq ?_
    refine dw_block ?_
    refine dw_seq ?_
    -- region 3
    refine dw_region (by kernel_rfl) ?_
    refine dl_r (sem_index sl66 rfl rfl (by decide) rfl rfl rfl) ?_
    refine dl_r (sem_loadq (us := cN x4) ty26 rfl rfl rfl rfl) ?_
    refine dl_new (sem_alloc zc26 rfl) rfl ?_
    refine dl_st (sem_store_a ty26 rfl rfl rfl rfl rfl rfl) ?_
    refine dl_end ?_
    refine dw_seq ?_
    -- region 4
    refine dw_region (by kernel_rfl) ?_
    refine dl_r (sem_field fd26_0 rfl rfl) ?_
    refine dl_r (sem_field fd24_1 rfl rfl) ?_
    refine dl_r (sem_load1 ty22 rfl rfl rfl rfl) ?_
    refine dl_r (sem_len sl22 rfl rfl) ?_
    refine dl_r (sem_castb (sem_cmp rfl rfl rfl rfl) (len_le sx4.1)) ?_
    refine dl_r (sem_move rfl rfl) ?_
    refine dl_r (sem_field fd26_1 rfl rfl) ?_
    refine dl_r (sem_field fd24_1 rfl rfl) ?_
    refine dl_r (sem_load1 ty22 rfl rfl rfl rfl) ?_
    refine dl_r (sem_len sl22 rfl rfl) ?_
    refine dl_r (sem_castb (sem_cmp rfl rfl rfl rfl) (len_le sx4.2)) ?_
    refine dl_r (sem_pick rfl rfl rfl rfl) ?_
    refine dl_end ?_
    refine dw_false rfl ?_
    refine dw_skip ?_
    -- region 6
    refine dw_region (by kernel_rfl) ?_
    refine dl_r (sem_ari (r := 4) rfl rfl rfl rfl) ?_
    refine dl_r (sem_move rfl rfl) ?_
    refine dl_end ?_
    exact ⟨4, sub_of ⟨rfl, rfl, rfl, rfl, rfl, trivial⟩ ⟨rfl, trivial⟩ rfl, by show 5 - 4 < 5 - 3; decide⟩
  | 4 =>
    show Dw _ _ ⟨43, [(1, .p 1 0), (2, .v (.c (.b false))), (15, .v (.c (.s 5 (cN x1 ++ cN x2 ++ cN x3 ++ cN x4 ++ cN x5)))), (16, .v (.c (.i .i64 5))), (17, .v (.c (.i .i64 4)))], [(1, 32, (cN x1 ++ cN x2 ++ cN x3 ++ cN x4 ++ cN x5))]⟩ _
    refine dw_seq ?_
    -- region 2
    refine dw_region (by kernel_rfl) ?_
    refine dl_r (sem_cmp rfl rfl rfl rfl) ?_
    refine dl_end ?_
    refine dw_seq ?_
    refine dw_true rfl ?_
    refine dw_skip ?_
    refine dw_seq ?_
    refine dw_block ?_
    refine dw_seq ?_
    -- region 3
    refine dw_region (by kernel_rfl) ?_
    refine dl_r (sem_index sl66 rfl rfl (by decide) rfl rfl rfl) ?_
    refine dl_r (sem_loadq (us := cN x5) ty26 rfl rfl rfl rfl) ?_
    refine dl_new (sem_alloc zc26 rfl) rfl ?_
    refine dl_st (sem_store_a ty26 rfl rfl rfl rfl rfl rfl) ?_
    refine dl_end ?_
    refine dw_seq ?_
    -- region 4
    refine dw_region (by kernel_rfl) ?_
    refine dl_r (sem_field fd26_0 rfl rfl) ?_
    refine dl_r (sem_field fd24_1 rfl rfl) ?_
    refine dl_r (sem_load1 ty22 rfl rfl rfl rfl) ?_
    refine dl_r (sem_len sl22 rfl rfl) ?_
    refine dl_r (sem_castb (sem_cmp rfl rfl rfl rfl) (len_le sx5.1)) ?_
    refine dl_r (sem_move rfl rfl) ?_
    refine dl_r (sem_field fd26_1 rfl rfl) ?_
    refine dl_r (sem_field fd24_1 rfl rfl) ?_
    refine dl_r (sem_load1 ty22 rfl rfl rfl rfl) ?_
    refine dl_r (sem_len sl22 rfl rfl) ?_
    refine dl_r (sem_castb (sem_cmp rfl rfl rfl rfl) (len_le sx5.2)) ?_
    refine dl_r (sem_pick rfl rfl rfl rfl) ?_
    refine dl_end ?_
    refine dw_false rfl ?_
    refine dw_skip ?_
    -- region 6
    refine dw_region (by kernel_rfl) ?_
    refine dl_r (sem_ari (r := 5) rfl rfl rfl rfl) ?_
    refine dl_r (sem_move rfl rfl) ?_
    refine dl_end ?_
    exact ⟨5, sub_of ⟨rfl, rfl, rfl, rfl, rfl, trivial⟩ ⟨rfl, trivial⟩ rfl, by show 5 - 5 < 5 - 4; decide⟩
  | z + 5 =>
    show Dw _ _ ⟨43, [(1, .p 1 0), (2, .v (.c (.b false))), (15, .v (.c (.s 5 (cN x1 ++ cN x2 ++ cN x3 ++ cN x4 ++ cN x5)))), (16, .v (.c (.i .i64 5))), (17, .v (.c (.i .i64 5)))], [(1, 32, (cN x1 ++ cN x2 ++ cN x3 ++ cN x4 ++ cN x5))]⟩ _
    refine dw_seq ?_
    -- region 2
    refine dw_region (by kernel_rfl) ?_
    refine dl_r (sem_cmp rfl rfl rfl rfl) ?_
    refine dl_end ?_
    refine dw_seq ?_
    refine dw_false rfl ?_
    refine dw_exit ?_
    refine dw_seq ?_
    -- region 7
    refine dw_draw 9 [] follows_mixed (by kernel_rfl) rfl rfl ?_
    refine dq_r (sem_call rfl rfl (awake_ok) rfl) ?_
    refine dq_r (sem_move rfl rfl) ?_
    refine dq_r (sem_load (us := (cN x1 ++ cN x2 ++ cN x3 ++ cN x4 ++ cN x5)) ty32 rfl rfl rfl rfl rfl) ?_
    refine dq_r (sem_call rfl rfl (oP) rfl) ?_
    refine dq_r (sem_load (us := (cN x1 ++ cN x2 ++ cN x3 ++ cN x4 ++ cN x5)) ty32 rfl rfl rfl rfl rfl) ?_
    refine dq_r (sem_call rfl rfl (oR) rfl) ?_
    refine dq_r (sem_beql rfl rfl ty_bool rfl) ?_
    refine dq_r (sem_pick rfl rfl rfl rfl) ?_
    refine dq_r (sem_assign rfl rfl) ?_
    refine dq_end ?_
    refine dl_start0 ?_
    refine dl_end ?_
    refine dw_ret ?_
    -- path L5
    exact ⟨.inr rfl, (resL_tmp rfl resL_nil)⟩
theorem ptVbad_0 {x1 x2 x3 x4 x5 : RN} (wx1 : x1.Wf) (_wx2 : x2.Wf) (_wx3 : x3.Wf) (_wx4 : x4.Wf) (_wx5 : x5.Wf)(mx1 : x1.x1.length ≤ 3) (nx1 : x1.x2.length ≤ 3) (vx1 : x1.v = false) : Ok Tryz.prog 40 [.a (cN x1 ++ cN x2 ++ cN x3 ++ cN x4 ++ cN x5)] [.c (.b false)] := by
  refine Ok.of (by kernel_rfl) Tryz.func40 rfl rfl ?_
  rw [show Tryz.f40.ntmps = 55 from rfl, show Tryz.f40.results.toList = [.tmp 2] from rfl]
  refine dw_seq ?_
  -- region 0
  refine dw_region (by kernel_rfl) ?_
  refine dl_new (sem_box_a rfl rfl) rfl ?_
  refine dl_r (sem_assign rfl rfl) ?_
  refine dl_end ?_
  refine dw_seq ?_
  refine dw_seq ?_
  -- region 1
  refine dw_region (by kernel_rfl) ?_
  refine dl_r (sem_field fd32_0 rfl rfl) ?_
  refine dl_r (sem_load (us := cN x1) ty26 rfl rfl rfl rfl rfl) ?_
  refine dl_r (sem_field fd32_1 rfl rfl) ?_
  refine dl_r (sem_load (us := cN x2) ty26 rfl rfl rfl rfl rfl) ?_
  refine dl_r (sem_field fd32_2 rfl rfl) ?_
  refine dl_r (sem_load (us := cN x3) ty26 rfl rfl rfl rfl rfl) ?_
  refine dl_r (sem_field fd32_3 rfl rfl) ?_
  refine dl_r (sem_load (us := cN x4) ty26 rfl rfl rfl rfl rfl) ?_
  refine dl_r (sem_field fd32_4 rfl rfl) ?_
  refine dl_r (sem_load (us := cN x5) ty26 rfl rfl rfl rfl rfl) ?_
  refine dl_r (sem_slit_D (n := 5) (us := cN x1 ++ cN x2 ++ cN x3 ++ cN x4 ++ cN x5) el66 rfl rfl rfl (by decide) (by decide) rfl) ?_
  refine dl_r (sem_len sl66 rfl rfl) ?_
  refine dl_r (sem_move rfl rfl) ?_
  refine dl_end ?_
  refine dw_block ?_
  refine dw_loop (ι := Nat) (fun i => match i with | _ => ⟨55, [(1, .p 1 0), (2, .v (.c (.b false))), (17, .v (.c (.s 5 (cN x1 ++ cN x2 ++ cN x3 ++ cN x4 ++ cN x5)))), (18, .v (.c (.i .i64 5))), (19, .v (.c (.i .i64 0)))], [(1, 32, (cN x1 ++ cN x2 ++ cN x3 ++ cN x4 ++ cN x5))]⟩) (fun i => 0 - i) 0 (sub_of ⟨rfl, rfl, rfl, rfl, rfl, trivial⟩ ⟨rfl, trivial⟩ rfl) ?_
  intro i
  match i with
  | _ =>
    show Dw _ _ ⟨55, [(1, .p 1 0), (2, .v (.c (.b false))), (17, .v (.c (.s 5 (cN x1 ++ cN x2 ++ cN x3 ++ cN x4 ++ cN x5)))), (18, .v (.c (.i .i64 5))), (19, .v (.c (.i .i64 0)))], [(1, 32, (cN x1 ++ cN x2 ++ cN x3 ++ cN x4 ++ cN x5))]⟩ _
    refine dw_seq ?_
    -- region 2
    refine dw_region (by kernel_rfl) ?_
    refine dl_r (sem_cmp rfl rfl rfl rfl) ?_
    refine dl_end ?_
    refine dw_seq ?_
    refine dw_true rfl ?_
    refine dw_skip ?_
    refine dw_seq ?_
    refine dw_block ?_
    refine dw_seq ?_
    -- region 3
    refine dw_region (by kernel_rfl) ?_
    refine dl_r (sem_index sl66 rfl rfl (by decide) rfl rfl rfl) ?_
    refine dl_r (sem_loadq (us := cN x1) ty26 rfl rfl rfl rfl) ?_
    refine dl_new (sem_alloc zc26 rfl) rfl ?_
    refine dl_st (sem_store_a ty26 rfl rfl rfl rfl rfl rfl) ?_
    refine dl_end ?_
    refine dw_seq ?_
    -- region 4
    refine dw_region (by kernel_rfl) ?_
    refine dl_r (sem_load (us := cN x1) ty26 rfl rfl rfl rfl rfl) ?_
    refine dl_r (sem_call rfl rfl (rcastb (pValid_ok wx1 (by omega) (by omega)) vx1) rfl) ?_
    refine dl_r (sem_not rfl rfl) ?_
    refine dl_end ?_
    refine dw_true rfl ?_
    refine dw_seq ?_
    -- region 5
    refine dw_region (by kernel_rfl) ?_
    refine dl_r (sem_assign rfl rfl) ?_
    refine dl_end ?_
    refine dw_ret ?_
    -- path L0
    exact ⟨.inr rfl, (resL_tmp rfl resL_nil)⟩
theorem ptVbad_1 {x1 x2 x3 x4 x5 : RN} (wx1 : x1.Wf) (wx2 : x2.Wf) (_wx3 : x3.Wf) (_wx4 : x4.Wf) (_wx5 : x5.Wf)(mx1 : x1.x1.length ≤ 3) (nx1 : x1.x2.length ≤ 3) (mx2 : x2.x1.length ≤ 3) (nx2 : x2.x2.length ≤ 3) (vx1 : x1.v = true) (vx2 : x2.v = false) : Ok Tryz.prog 40 [.a (cN x1 ++ cN x2 ++ cN x3 ++ cN x4 ++ cN x5)] [.c (.b false)] := by
  refine Ok.of (by kernel_rfl) Tryz.func40 rfl rfl ?_
  rw [show Tryz.f40.ntmps = 55 from rfl, show Tryz.f40.results.toList = [.tmp 2] from rfl]
  refine dw_seq ?_
  -- region 0
  refine dw_region (by kernel_rfl) ?_
  refine dl_new (sem_box_a rfl rfl) rfl ?_
  refine dl_r (sem_assign rfl rfl) ?_
  refine dl_end ?_
  refine dw_seq ?_
  refine dw_seq ?_
  -- region 1
  refine dw_region (by kernel_rfl) ?_
  refine dl_r (sem_field fd32_0 rfl rfl) ?_
  refine dl_r (sem_load (us := cN x1) ty26 rfl rfl rfl rfl rfl) ?_
  refine dl_r (sem_field fd32_1 rfl rfl) ?_
  refine dl_r (sem_load (us := cN x2) ty26 rfl rfl rfl rfl rfl) ?_
  refine dl_r (sem_field fd32_2 rfl rfl) ?_
  refine dl_r (sem_load (us := cN x3) ty26 rfl rfl rfl rfl rfl) ?_
  refine dl_r (sem_field fd32_3 rfl rfl) ?_
  refine dl_r (sem_load (us := cN x4) ty26 rfl rfl rfl rfl rfl) ?_
  refine dl_r (sem_field fd32_4 rfl rfl) ?_
  refine dl_r (sem_load (us := cN x5) ty26 rfl rfl rfl rfl rfl) ?_
  refine dl_r (sem_slit_D (n := 5) (us := cN x1 ++ cN x2 ++ cN x3 ++ cN x4 ++ cN x5) el66 rfl rfl rfl (by decide) (by decide) rfl) ?_
  refine dl_r (sem_len sl66 rfl rfl) ?_
  refine dl_r (sem_move rfl rfl) ?_
  refine dl_end ?_
  refine dw_block ?_
  refine dw_loop (ι := Nat) (fun i => match i with | 0 => ⟨55, [(1, .p 1 0), (2, .v (.c (.b false))), (17, .v (.c (.s 5 (cN x1 ++ cN x2 ++ cN x3 ++ cN x4 ++ cN x5)))), (18, .v (.c (.i .i64 5))), (19, .v (.c (.i .i64 0)))], [(1, 32, (cN x1 ++ cN x2 ++ cN x3 ++ cN x4 ++ cN x5))]⟩ | _ + 1 => ⟨55, [(1, .p 1 0), (2, .v (.c (.b false))), (17, .v (.c (.s 5 (cN x1 ++ cN x2 ++ cN x3 ++ cN x4 ++ cN x5)))), (18, .v (.c (.i .i64 5))), (19, .v (.c (.i .i64 1)))], [(1, 32, (cN x1 ++ cN x2 ++ cN x3 ++ cN x4 ++ cN x5))]⟩) (fun i => 1 - i) 0 (sub_of ⟨rfl, rfl, rfl, rfl, rfl, trivial⟩ ⟨rfl, trivial⟩ rfl) ?_
  intro i
  match i with
  | 0 =>
    show Dw _ _ ⟨55, [(1, .p 1 0), (2, .v (.c (.b false))), (17, .v (.c (.s 5 (cN x1 ++ cN x2 ++ cN x3 ++ cN x4 ++ cN x5)))), (18, .v (.c (.i .i64 5))), (19, .v (.c (.i .i64 0)))], [(1, 32, (cN x1 ++ cN x2 ++ cN x3 ++ cN x4 ++ cN x5))]⟩ _
    refine dw_seq ?_
    -- region 2
    refine dw_region (by kernel_rfl) ?_
    refine dl_r (sem_cmp rfl rfl rfl rfl) ?_
    refine dl_end ?_
    refine dw_seq ?_
    refine dw_true rfl ?_
    refine dw_skip ?_
    refine dw_seq ?_
    refine dw_block ?_
    refine dw_seq ?_
    -- region 3
    refine dw_region (by kernel_rfl) ?_
    refine dl_r (sem_index sl66 rfl rfl (by decide) rfl rfl rfl) ?_
    refine dl_r (sem_loadq (us := cN x1) ty26 rfl rfl rfl rfl) ?_
    refine dl_new (sem_alloc zc26 rfl) rfl ?_
    refine dl_st (sem_store_a ty26 rfl rfl rfl rfl rfl rfl) ?_
    refine dl_end ?_
    refine dw_seq ?_
    -- region 4
    refine dw_region (by kernel_rfl) ?_
    refine dl_r (sem_load (us := cN x1) ty26 rfl rfl rfl rfl rfl) ?_
    refine dl_r (sem_call rfl rfl (rcastb (pValid_ok wx1 (by omega) (by omega)) vx1) rfl) ?_
    refine dl_r (sem_not rfl rfl) ?_
    refine dl_end ?_
    refine dw_false rfl ?_
    refine dw_skip ?_
    -- region 6
    refine dw_region (by kernel_rfl) ?_
    refine dl_r (sem_ari (r := 1) rfl rfl rfl rfl) ?_
    refine dl_r (sem_move rfl rfl) ?_
    refine dl_end ?_
    exact ⟨1, sub_of ⟨rfl, rfl, rfl, rfl, rfl, trivial⟩ ⟨rfl, trivial⟩ rfl, by show 1 - 1 < 1 - 0; decide⟩
  | z + 1 =>
    show Dw _ _ ⟨55, [(1, .p 1 0), (2, .v (.c (.b false))), (17, .v (.c (.s 5 (cN x1 ++ cN x2 ++ cN x3 ++ cN x4 ++ cN x5)))), (18, .v (.c (.i .i64 5))), (19, .v (.c (.i .i64 1)))], [(1, 32, (cN x1 ++ cN x2 ++ cN x3 ++ cN x4 ++ cN x5))]⟩ _
    refine dw_seq ?_
    -- region 2
    refine dw_region (by kernel_rfl) ?_
    refine dl_r (sem_cmp rfl rfl rfl rfl) ?_
    refine dl_end ?_
    refine dw_seq ?_
    refine dw_true rfl ?_
    refine dw_skip ?_
    refine dw_seq ?_
    refine dw_block ?_
    refine dw_seq ?_
    -- region 3
    refine dw_region (by kernel_rfl) ?_
    refine dl_r (sem_index sl66 rfl rfl (by decide) rfl rfl rfl) ?_
    refine dl_r (sem_loadq (us := cN x2) ty26 rfl rfl rfl rfl) ?_
    refine dl_new (sem_alloc zc26 rfl) rfl ?_
    refine dl_st (sem_store_a ty26 rfl rfl rfl rfl rfl rfl) ?_
    refine dl_end ?_
    refine dw_seq ?_
    -- region 4
    refine dw_region (by kernel_rfl) ?_
    refine dl_r (sem_load (us := cN x2) ty26 rfl rfl rfl rfl rfl) ?_
    refine dl_r (sem_call rfl rfl (rcastb (pValid_ok wx2 (by omega) (by omega)) vx2) rfl) ?_
    refine dl_r (sem_not rfl rfl) ?_
    refine dl_end ?_
    refine dw_true rfl ?_
    refine dw_seq ?_
    -- region 5
    refine dw_region (by kernel_rfl) ?_
    refine dl_r (sem_assign rfl rfl) ?_
    refine dl_end ?_
    refine dw_ret ?_
    -- path L1
    exact ⟨.inr rfl, (resL_tmp rfl resL_nil)⟩
theorem ptVbad_2 {x1 x2 x3 x4 x5 : RN} (wx1 : x1.Wf) (wx2 : x2.Wf) (wx3 : x3.Wf) (_wx4 : x4.Wf) (_wx5 : x5.Wf)(mx1 : x1.x1.length ≤ 3) (nx1 : x1.x2.length ≤ 3) (mx2 : x2.x1.length ≤ 3) (nx2 : x2.x2.length ≤ 3) (mx3 : x3.x1.length ≤ 3) (nx3 : x3.x2.length ≤ 3) (vx1 : x1.v = true) (vx2 : x2.v = true) (vx3 : x3.v = false) : Ok Tryz.prog 40 [.a (cN x1 ++ cN x2 ++ cN x3 ++ cN x4 ++ cN x5)] [.c (.b false)] := by
  refine Ok.of (by kernel_rfl) Tryz.func40 rfl rfl ?_
  rw [show Tryz.f40.ntmps = 55 from rfl, show Tryz.f40.results.toList = [.tmp 2] from rfl]
  refine dw_seq ?_
  -- region 0
  refine dw_region (by kernel_rfl) ?_
  refine dl_new (sem_box_a rfl rfl) rfl ?_
  refine dl_r (sem_assign rfl rfl) ?_
  refine dl_end ?_
  refine dw_seq ?_
  refine dw_seq ?_
  -- region 1
  refine dw_region (by kernel_rfl) ?_
  refine dl_r (sem_field fd32_0 rfl rfl) ?_
  refine dl_r (sem_load (us := cN x1) ty26 rfl rfl rfl rfl rfl) ?_
  refine dl_r (sem_field fd32_1 rfl rfl) ?_
  refine dl_r (sem_load (us := cN x2) ty26 rfl rfl rfl rfl rfl) ?_
  refine dl_r (sem_field fd32_2 rfl rfl) ?_
  refine dl_r (sem_load (us := cN x3) ty26 rfl rfl rfl rfl rfl) ?_
  refine dl_r (sem_field fd32_3 rfl rfl) ?_
  refine dl_r (sem_load (us := cN x4) ty26 rfl rfl rfl rfl rfl) ?_
  refine dl_r (sem_field fd32_4 rfl rfl) ?_
  refine dl_r (sem_load (us := cN x5) ty26 rfl rfl rfl rfl rfl) ?_
  refine dl_r (sem_slit_D (n := 5) (us := cN x1 ++ cN x2 ++ cN x3 ++ cN x4 ++ cN x5) el66 rfl rfl rfl (by decide) (by decide) rfl) ?_
  refine dl_r (sem_len sl66 rfl rfl) ?_
  refine dl_r (sem_move rfl rfl) ?_
  refine dl_end ?_
  refine dw_block ?_
  refine dw_loop (ι := Nat) (fun i => match i with | 0 => ⟨55, [(1, .p 1 0), (2, .v (.c (.b false))), (17, .v (.c (.s 5 (cN x1 ++ cN x2 ++ cN x3 ++ cN x4 ++ cN x5)))), (18, .v (.c (.i .i64 5))), (19, .v (.c (.i .i64 0)))], [(1, 32, (cN x1 ++ cN x2 ++ cN x3 ++ cN x4 ++ cN x5))]⟩ | 1 => ⟨55, [(1, .p 1 0), (2, .v (.c (.b false))), (17, .v (.c (.s 5 (cN x1 ++ cN x2 ++ cN x3 ++ cN x4 ++ cN x5)))), (18, .v (.c (.i .i64 5))), (19, .v (.c (.i .i64 1)))], [(1, 32, (cN x1 ++ cN x2 ++ cN x3 ++ cN x4 ++ cN x5))]⟩ | _ + 2 => ⟨55, [(1, .p 1 0), (2, .v (.c (.b false))), (17, .v (.c (.s 5 (cN x1 ++ cN x2 ++ cN x3 ++ cN x4 ++ cN x5)))), (18, .v (.c (.i .i64 5))), (19, .v (.c (.i .i64 2)))], [(1, 32, (cN x1 ++ cN x2 ++ cN x3 ++ cN x4 ++ cN x5))]⟩) (fun i => 2 - i) 0 (sub_of ⟨rfl, rfl, rfl, rfl, rfl, trivial⟩ ⟨rfl, trivial⟩ rfl) ?_
  intro i
  match i with
  | 0 =>
    show Dw _ _ ⟨55, [(1, .p 1 0), (2, .v (.c (.b false))), (17, .v (.c (.s 5 (cN x1 ++ cN x2 ++ cN x3 ++ cN x4 ++ cN x5)))), (18, .v (.c (.i .i64 5))), (19, .v (.c (.i .i64 0)))], [(1, 32, (cN x1 ++ cN x2 ++ cN x3 ++ cN x4 ++ cN x5))]⟩ _
    refine dw_seq ?_
    -- region 2
    refine dw_region (by kernel_rfl) ?_
    refine dl_r (sem_cmp rfl rfl rfl rfl) ?_
    refine dl_end ?_
    refine dw_seq ?_
    refine dw_true rfl ?_
    refine dw_skip ?_
    refine dw_seq ?_
    refine dw_block ?_
    refine dw_seq ?_
    -- region 3
    refine dw_region (by kernel_rfl) ?_
    refine dl_r (sem_index sl66 rfl rfl (by decide) rfl rfl rfl) ?_
    refine dl_r (sem_loadq (us := cN x1) ty26 rfl rfl rfl rfl) ?_
    refine dl_new (sem_alloc zc26 rfl) rfl ?_
    refine dl_st (sem_store_a ty26 rfl rfl rfl rfl rfl rfl) ?_
    refine dl_end ?_
    refine dw_seq ?_
    -- region 4
    refine dw_region (by kernel_rfl) ?_
    refine dl_r (sem_load (us := cN x1) ty26 rfl rfl rfl rfl rfl) ?_
    refine dl_r (sem_call rfl rfl (rcastb (pValid_ok wx1 (by omega) (by omega)) vx1) rfl) ?_
    refine dl_r (sem_not rfl rfl) ?_
    refine dl_end ?_
    refine dw_false rfl ?_
    refine dw_skip ?_
    -- region 6
    refine dw_region (by kernel_rfl) ?_
    refine dl_r (sem_ari (r := 1) rfl rfl rfl rfl) ?_
    refine dl_r (sem_move rfl rfl) ?_
    refine dl_end ?_
    exact ⟨1, sub_of ⟨rfl, rfl, rfl, rfl, rfl, trivial⟩ ⟨rfl, trivial⟩ rfl, by show 2 - 1 < 2 - 0; decide⟩
  | 1 =>
    show Dw _ _ ⟨55, [(1, .p 1 0), (2, .v (.c (.b false))), (17, .v (.c (.s 5 (cN x1 ++ cN x2 ++ cN x3 ++ cN x4 ++ cN x5)))), (18, .v (.c (.i .i64 5))), (19, .v (.c (.i .i64 1)))], [(1, 32, (cN x1 ++ cN x2 ++ cN x3 ++ cN x4 ++ cN x5))]⟩ _
    refine dw_seq ?_
    -- region 2
    refine dw_region (by kernel_rfl) ?_
    refine dl_r (sem_cmp rfl rfl rfl rfl) ?_
    refine dl_end ?_
    refine dw_seq ?_
    refine dw_true rfl ?_
    refine dw_skip ?_
    refine dw_seq ?_
    refine dw_block ?_
    refine dw_seq ?_
    -- region 3
    refine dw_region (by kernel_rfl) ?_
    refine dl_r (sem_index sl66 rfl rfl (by decide) rfl rfl rfl) ?_
    refine dl_r (sem_loadq (us := cN x2) ty26 rfl rfl rfl rfl) ?_
    refine dl_new (sem_alloc zc26 rfl) rfl ?_
    refine dl_st (sem_store_a ty26 rfl rfl rfl rfl rfl rfl) ?_
    refine dl_end ?_
    refine dw_seq ?_
    -- region 4
    refine dw_region (by kernel_rfl) ?_
    refine dl_r (sem_load (us := cN x2) ty26 rfl rfl rfl rfl rfl) ?_
    refine dl_r (sem_call rfl rfl (rcastb (pValid_ok wx2 (by omega) (by omega)) vx2) rfl) ?_
    refine dl_r (sem_not rfl rfl) ?_
    refine dl_end ?_
    refine dw_false rfl ?_
    refine dw_skip ?_
    -- region 6
    refine dw_region (by kernel_rfl) ?_
    refine dl_r (sem_ari (r := 2) rfl rfl rfl rfl) ?_
    refine dl_r (sem_move rfl rfl) ?_
    refine dl_end ?_
    exact ⟨2, sub_of ⟨rfl, rfl, rfl, rfl, rfl, trivial⟩ ⟨rfl, trivial⟩ rfl, by show 2 - 2 < 2 - 1; decide⟩
  | z + 2 =>
    show Dw _ _ ⟨55, [(1, .p 1 0), (2, .v (.c (.b false))), (17, .v (.c (.s 5 (cN x1 ++ cN x2 ++ cN x3 ++ cN x4 ++ cN x5)))), (18, .v (.c (.i .i64 5))), (19, .v (.c (.i .i64 2)))], [(1, 32, (cN x1 ++ cN x2 ++ cN x3 ++ cN x4 ++ cN x5))]⟩ _
    refine dw_seq ?_
    -- region 2
    refine dw_region (by kernel_rfl) ?_
    refine dl_r (sem_cmp rfl rfl rfl rfl) ?_
    refine dl_end ?_
    refine dw_seq ?_
    refine dw_true rfl ?_
    refine dw_skip ?_
    refine dw_seq ?_
    refine dw_block ?_
    refine dw_seq ?_
    -- region 3
    refine dw_region (by kernel_rfl) ?_
    refine dl_r (sem_index sl66 rfl rfl (by decide) rfl rfl rfl) ?_
    refine dl_r (sem_loadq (us := cN x3) ty26 rfl rfl rfl rfl) ?_
    refine dl_new (sem_alloc zc26 rfl) rfl ?_
    refine dl_st (sem_store_a ty26 rfl rfl rfl rfl rfl rfl) ?_
    refine dl_end ?_
    refine dw_seq ?_
    -- region 4
    refine dw_region (by kernel_rfl) ?_
    refine dl_r (sem_load (us := cN x3) ty26 rfl rfl rfl rfl rfl) ?_
    refine dl_r (sem_call rfl rfl (rcastb (pValid_ok wx3 (by omega) (by omega)) vx3) rfl) ?_
    refine dl_r (sem_not rfl rfl) ?_
    refine dl_end ?_
    refine dw_true rfl ?_
    refine dw_seq ?_
    -- region 5
    refine dw_region (by kernel_rfl) ?_
    refine dl_r (sem_assign rfl rfl) ?_
    refine dl_end ?_
    refine dw_ret ?_
    -- path L2
    exact ⟨.inr rfl, (resL_tmp rfl resL_nil)⟩
theorem ptVbad_3 {x1 x2 x3 x4 x5 : RN} (wx1 : x1.Wf) (wx2 : x2.Wf) (wx3 : x3.Wf) (wx4 : x4.Wf) (_wx5 : x5.Wf)(mx1 : x1.x1.length ≤ 3) (nx1 : x1.x2.length ≤ 3) (mx2 : x2.x1.length ≤ 3) (nx2 : x2.x2.length ≤ 3) (mx3 : x3.x1.length ≤ 3) (nx3 : x3.x2.length ≤ 3) (mx4 : x4.x1.length ≤ 3) (nx4 : x4.x2.length ≤ 3) (vx1 : x1.v = true) (vx2 : x2.v = true) (vx3 : x3.v = true) (vx4 : x4.v = false) : Ok Tryz.prog 40 [.a (cN x1 ++ cN x2 ++ cN x3 ++ cN x4 ++ cN x5)] [.c (.b false)] := by
  refine Ok.of (by kernel_rfl) Tryz.func40 rfl rfl ?_
  rw [show Tryz.f40.ntmps = 55 from rfl, show Tryz.f40.results.toList = [.tmp 2] from rfl]
  refine dw_seq ?_
  -- region 0
  refine dw_region (by kernel_rfl) ?_
  refine dl_new (sem_box_a rfl rfl) rfl ?_
  refine dl_r (sem_assign rfl rfl) ?_
  refine dl_end ?_
  refine dw_seq ?_
  refine dw_seq ?_
  -- region 1
  refine dw_region (by kernel_rfl) ?_
  refine dl_r (sem_field fd32_0 rfl rfl) ?_
  refine dl_r (sem_load (us := cN x1) ty26 rfl rfl rfl rfl rfl) ?_
  refine dl_r (sem_field fd32_1 rfl rfl) ?_
  refine dl_r (sem_load (us := cN x2) ty26 rfl rfl rfl rfl rfl) ?_
  refine dl_r (sem_field fd32_2 rfl rfl) ?_
  refine dl_r (sem_load (us := cN x3) ty26 rfl rfl rfl rfl rfl) ?_
  refine dl_r (sem_field fd32_3 rfl rfl) ?_
  refine dl_r (sem_load (us := cN x4) ty26 rfl rfl rfl rfl rfl) ?_
  refine dl_r (sem_field fd32_4 rfl rfl) ?_
  refine dl_r (sem_load (us := cN x5) ty26 rfl rfl rfl rfl rfl) ?_
  refine dl_r (sem_slit_D (n := 5) (us := cN x1 ++ cN x2 ++ cN x3 ++ cN x4 ++ cN x5) el66 rfl rfl rfl (by decide) (by decide) rfl) ?_
  refine dl_r (sem_len sl66 rfl rfl) ?_
  refine dl_r (sem_move rfl rfl) ?_
  refine dl_end ?_
  refine dw_block ?_
  refine dw_loop (ι := Nat) (fun i => match i with | 0 => ⟨55, [(1, .p 1 0), (2, .v (.c (.b false))), (17, .v (.c (.s 5 (cN x1 ++ cN x2 ++ cN x3 ++ cN x4 ++ cN x5)))), (18, .v (.c (.i .i64 5))), (19, .v (.c (.i .i64 0)))], [(1, 32, (cN x1 ++ cN x2 ++ cN x3 ++ cN x4 ++ cN x5))]⟩ | 1 => ⟨55, [(1, .p 1 0), (2, .v (.c (.b false))), (17, .v (.c (.s 5 (cN x1 ++ cN x2 ++ cN x3 ++ cN x4 ++ cN x5)))), (18, .v (.c (.i .i64 5))), (19, .v (.c (.i .i64 1)))], [(1, 32, (cN x1 ++ cN x2 ++ cN x3 ++ cN x4 ++ cN x5))]⟩ | 2 => ⟨55, [(1, .p 1 0), (2, .v (.c (.b false))), (17, .v (.c (.s 5 (cN x1 ++ cN x2 ++ cN x3 ++ cN x4 ++ cN x5)))), (18, .v (.c (.i .i64 5))), (19, .v (.c (.i .i64 2)))], [(1, 32, (cN x1 ++ cN x2 ++ cN x3 ++ cN x4 ++ cN x5))]⟩ | _ + 3 => ⟨55, [(1, .p 1 0), (2, .v (.c (.b false))), (17, .v (.c (.s 5 (cN x1 ++ cN x2 ++ cN x3 ++ cN x4 ++ cN x5)))), (18, .v (.c (.i .i64 5))), (19, .v (.c (.i .i64 3)))], [(1, 32, (cN x1 ++ cN x2 ++ cN x3 ++ cN x4 ++ cN x5))]⟩) (fun i => 3 - i) 0 (sub_of ⟨rfl, rfl, rfl, rfl, rfl, trivial⟩ ⟨rfl, trivial⟩ rfl) ?_
  intro i
  match i with
  | 0 =>
    show Dw _ _ ⟨55, [(1, .p 1 0), (2, .v (.c (.b false))), (17, .v (.c (.s 5 (cN x1 ++ cN x2 ++ cN x3 ++ cN x4 ++ cN x5)))), (18, .v (.c (.i .i64 5))), (19, .v (.c (.i .i64 0)))], [(1, 32, (cN x1 ++ cN x2 ++ cN x3 ++ cN x4 ++ cN x5))]⟩ _
    refine dw_seq ?_
    -- region 2
    refine dw_region (by kernel_rfl) ?_
    refine dl_r (sem_cmp rfl rfl rfl rfl) ?_
    refine dl_end ?_
    refine dw_seq ?_
    refine dw_true rfl ?_
    refine dw_skip ?_
    refine dw_seq ?_
    refine dw_block ?_
    refine dw_seq ?_
    -- region 3
    refine dw_region (by kernel_rfl) ?_
    refine dl_r (sem_index sl66 rfl rfl (by decide) rfl rfl rfl) ?_
    refine dl_r (sem_loadq (us := cN x1) ty26 rfl rfl rfl rfl) ?_
    refine dl_new (sem_alloc zc26 rfl) rfl ?_
    refine dl_st (sem_store_a ty26 rfl rfl rfl rfl rfl rfl) ?_
    refine dl_end ?_
    refine dw_seq ?_
    -- region 4
    refine dw_region (by kernel_rfl) ?_
    refine dl_r (sem_load (us := cN x1) ty26 rfl rfl rfl rfl rfl) ?_
    refine dl_r (sem_call rfl rfl (rcastb (pValid_ok wx1 (by omega) (by omega)) vx1) rfl) ?_
    refine dl_r (sem_not rfl rfl) ?_
    refine dl_end ?_
    refine dw_false rfl ?_
    refine dw_skip ?_
    -- region 6
    refine dw_region (by kernel_rfl) ?_
    refine dl_r (sem_ari (r := 1) rfl rfl rfl rfl) ?_
    refine dl_r (sem_move rfl rfl) ?_
    refine dl_end ?_
    exact ⟨1, sub_of ⟨rfl, rfl, rfl, rfl, rfl, trivial⟩ ⟨rfl, trivial⟩ rfl, by show 3 - 1 < 3 - 0; decide⟩
  | 1 =>
    show Dw _ _ ⟨55, [(1, .p 1 0), (2, .v (.c (.b false))), (17, .v (.c (.s 5 (cN x1 ++ cN x2 ++ cN x3 ++ cN x4 ++ cN x5)))), (18, .v (.c (.i .i64 5))), (19, .v (.c (.i .i64 1)))], [(1, 32, (cN x1 ++ cN x2 ++ cN x3 ++ cN x4 ++ cN x5))]⟩ _
    refine dw_seq ?_
    -- region 2
    refine dw_region (by kernel_rfl) ?_
    refine dl_r (sem_cmp rfl rfl rfl rfl) ?_
    refine dl_end ?_
    refine dw_seq ?_
    refine dw_true rfl ?_
    refine dw_skip ?_
    refine dw_seq ?_
    refine dw_block ?_
    refine dw_seq ?_
    -- region 3
    refine dw_region (by kernel_rfl) ?_
    refine dl_r (sem_index sl66 rfl rfl (by decide) rfl rfl rfl) ?_
    refine dl_r (sem_loadq (us := cN x2) ty26 rfl rfl rfl rfl) ?_
    refine dl_new (sem_alloc zc26 rfl) rfl ?_
    refine dl_st (sem_store_a ty26 rfl rfl rfl rfl rfl rfl) ?_
    refine dl_end ?_
    refine dw_seq ?_
    -- region 4
    refine dw_region (by kernel_rfl) ?_
    refine dl_r (sem_load (us := cN x2) ty26 rfl rfl rfl rfl rfl) ?_
    refine dl_r (sem_call rfl rfl (rcastb (pValid_ok wx2 (by omega) (by omega)) vx2) rfl) ?_
    refine dl_r (sem_not rfl rfl) ?_
    refine dl_end ?_
    refine dw_false rfl ?_
    refine dw_skip ?_
    -- region 6
    refine dw_region (by kernel_rfl) ?_
    refine dl_r (sem_ari (r := 2) rfl rfl rfl rfl) ?_
    refine dl_r (sem_move rfl rfl) ?_
    refine dl_end ?_
    exact ⟨2, sub_of ⟨rfl, rfl, rfl, rfl, rfl, trivial⟩ ⟨rfl, trivial⟩ rfl, by show 3 - 2 < 3 - 1; decide⟩
  | 2 =>
    show Dw _ _ ⟨55, [(1, .p 1 0), (2, .v (.c (.b false))), (17, .v (.c (.s 5 (cN x1 ++ cN x2 ++ cN x3 ++ cN x4 ++ cN x5)))), (18, .v (.c (.i .i64 5))), (19, .v (.c (.i .i64 2)))], [(1, 32, (cN x1 ++ cN x2 ++ cN x3 ++ cN x4 ++ cN x5))]⟩ _
    refine dw_seq ?_
    -- region 2
    refine dw_region (by kernel_rfl) ?_
    refine dl_r (sem_cmp rfl rfl rfl rfl) ?_
    refine dl_end ?_
    refine dw_seq ?_
    refine dw_true rfl ?_
    refine dw_skip ?_
    refine dw_seq ?_
    refine dw_block ?_
    refine dw_seq ?_
    -- region 3
    refine dw_region (by kernel_rfl) ?_
    refine dl_r (sem_index sl66 rfl rfl (by decide) rfl rfl rfl) ?_
    refine dl_r (sem_loadq (us := cN x3) ty26 rfl rfl rfl rfl) ?_
    refine dl_new (sem_alloc zc26 rfl) rfl ?_
    refine dl_st (sem_store_a ty26 rfl rfl rfl rfl rfl rfl) ?_
    refine dl_end ?_
    refine dw_seq ?_
    -- region 4
    refine dw_region (by kernel_rfl) ?_
    refine dl_r (sem_load (us := cN x3) ty26 rfl rfl rfl rfl rfl) ?_
    refine dl_r (sem_call rfl rfl (rcastb (pValid_ok wx3 (by omega) (by omega)) vx3) rfl) ?_
    refine dl_r (sem_not rfl rfl) ?_
    refine dl_end ?_
    refine dw_false rfl ?_
    refine dw_skip ?_
    -- region 6
    refine dw_region (by kernel_rfl) ?_
    refine dl_r (sem_ari (r := 3) rfl rfl rfl rfl) ?_
    refine dl_r (sem_move rfl rfl) ?_
    refine dl_end ?_
    exact ⟨3, sub_of ⟨rfl, rfl, rfl, rfl, rfl, trivial⟩ ⟨rfl, trivial⟩ rfl, by show 3 - 3 < 3 - 2; decide⟩
  | z + 3 =>
    show Dw _ _ ⟨55, [(1, .p 1 0), (2, .v (.c (.b false))), (17, .v (.c (.s 5 (cN x1 ++ cN x2 ++ cN x3 ++ cN x4 ++ cN x5)))), (18, .v (.c (.i .i64 5))), (19, .v (.c (.i .i64 3)))], [(1, 32, (cN x1 ++ cN x2 ++ cN x3 ++ cN x4 ++ cN x5))]⟩ _
    refine dw_seq ?_
    -- region 2
    refine dw_region (by kernel_rfl) ?_
    refine dl_r (sem_cmp rfl rfl rfl rfl) ?_
    refine dl_end ?_
    refine dw_seq ?_
    refine dw_true rfl ?_
    refine dw_skip ?_
    refine dw_seq ?_
    refine dw_block ?_
    refine dw_seq ?_
    -- region 3
    refine dw_region (by kernel_rfl) ?_
    refine dl_r (sem_index sl66 rfl rfl (by decide) rfl rfl rfl) ?_
    refine dl_r (sem_loadq (us := cN x4) ty26 rfl rfl rfl rfl) ?_
    refine dl_new (sem_alloc zc26 rfl) rfl ?_
    refine dl_st (sem_store_a ty26 rfl rfl rfl rfl rfl rfl) ?_
    refine dl_end ?_
    refine dw_seq ?_
    -- region 4
    refine dw_region (by kernel_rfl) ?_
    refine dl_r (sem_load (us := cN x4) ty26 rfl rfl rfl rfl rfl) ?_
    refine dl_r (sem_call rfl rfl (rcastb (pValid_ok wx4 (by omega) (by omega)) vx4) rfl) ?_
    refine dl_r (sem_not rfl rfl) ?_
    refine dl_end ?_
    refine dw_true rfl ?_
    refine dw_seq ?_
    -- region 5
    refine dw_region (by kernel_rfl) ?_
    refine dl_r (sem_assign rfl rfl) ?_
    refine dl_end ?_
    refine dw_ret ?_
    -- path L3
    exact ⟨.inr rfl, (resL_tmp rfl resL_nil)⟩
theorem ptVbad_4 {x1 x2 x3 x4 x5 : RN} (wx1 : x1.Wf) (wx2 : x2.Wf) (wx3 : x3.Wf) (wx4 : x4.Wf) (wx5 : x5.Wf)(mx1 : x1.x1.length ≤ 3) (nx1 : x1.x2.length ≤ 3) (mx2 : x2.x1.length ≤ 3) (nx2 : x2.x2.length ≤ 3) (mx3 : x3.x1.length ≤ 3) (nx3 : x3.x2.length ≤ 3) (mx4 : x4.x1.length ≤ 3) (nx4 : x4.x2.length ≤ 3) (mx5 : x5.x1.length ≤ 3) (nx5 : x5.x2.length ≤ 3) (vx1 : x1.v = true) (vx2 : x2.v = true) (vx3 : x3.v = true) (vx4 : x4.v = true) (vx5 : x5.v = false) : Ok Tryz.prog 40 [.a (cN x1 ++ cN x2 ++ cN x3 ++ cN x4 ++ cN x5)] [.c (.b false)] := by
  refine Ok.of (by kernel_rfl) Tryz.func40 rfl rfl ?_
  rw [show Tryz.f40.ntmps = 55 from rfl, show Tryz.f40.results.toList = [.tmp 2] from rfl]
  refine dw_seq ?_
  -- region 0
  refine dw_region (by kernel_rfl) ?_
  refine dl_new (sem_box_a rfl rfl) rfl ?_
  refine dl_r (sem_assign rfl rfl) ?_
  refine dl_end ?_
  refine dw_seq ?_
  refine dw_seq ?_
  -- region 1
  refine dw_region (by kernel_rfl) ?_
  refine dl_r (sem_field fd32_0 rfl rfl) ?_
  refine dl_r (sem_load (us := cN x1) ty26 rfl rfl rfl rfl rfl) ?_
  refine dl_r (sem_field fd32_1 rfl rfl) ?_
  refine dl_r (sem_load (us := cN x2) ty26 rfl rfl rfl rfl rfl) ?_
  refine dl_r (sem_field fd32_2 rfl rfl) ?_
  refine dl_r (sem_load (us := cN x3) ty26 rfl rfl rfl rfl rfl) ?_
  refine dl_r (sem_field fd32_3 rfl rfl) ?_
  refine dl_r (sem_load (us := cN x4) ty26 rfl rfl rfl rfl rfl) ?_
  refine dl_r (sem_field fd32_4 rfl rfl) ?_
  refine dl_r (sem_load (us := cN x5) ty26 rfl rfl rfl rfl rfl) ?_
  refine dl_r (sem_slit_D (n := 5) (us := cN x1 ++ cN x2 ++ cN x3 ++ cN x4 ++ cN x5) el66 rfl rfl rfl (by decide) (by decide) rfl) ?_
  refine dl_r (sem_len sl66 rfl rfl) ?_
  refine dl_r (sem_move rfl rfl) ?_
  refine dl_end ?_
  refine dw_block ?_
  refine dw_loop (ι := Nat) (fun i => match i with | 0 => ⟨55, [(1, .p 1 0), (2, .v (.c (.b false))), (17, .v (.c (.s 5 (cN x1 ++ cN x2 ++ cN x3 ++ cN x4 ++ cN x5)))), (18, .v (.c (.i .i64 5))), (19, .v (.c (.i .i64 0)))], [(1, 32, (cN x1 ++ cN x2 ++ cN x3 ++ cN x4 ++ cN x5))]⟩ | 1 => ⟨55, [(1, .p 1 0), (2, .v (.c (.b false))), (17, .v (.c (.s 5 (cN x1 ++ cN x2 ++ cN x3 ++ cN x4 ++ cN x5)))), (18, .v (.c (.i .i64 5))), (19, .v (.c (.i .i64 1)))], [(1, 32, (cN x1 ++ cN x2 ++ cN x3 ++ cN x4 ++ cN x5))]⟩ | 2 => ⟨55, [(1, .p 1 0), (2, .v (.c (.b false))), (17, .v (.c (.s 5 (cN x1 ++ cN x2 ++ cN x3 ++ cN x4 ++ cN x5)))), (18, .v (.c (.i .i64 5))), (19, .v (.c (.i .i64 2)))], [(1, 32, (cN x1 ++ cN x2 ++ cN x3 ++ cN x4 ++ cN x5))]⟩ | 3 => ⟨55, [(1, .p 1 0), (2, .v (.c (.b false))), (17, .v (.c (.s 5 (cN x1 ++ cN x2 ++ cN x3 ++ cN x4 ++ cN x5)))), (18, .v (.c (.i .i64 5))), (19, .v (.c (.i .i64 3)))], [(1, 32, (cN x1 ++ cN x2 ++ cN x3 ++ cN x4 ++ cN x5))]⟩ | _ + 4 => ⟨55, [(1, .p 1 0), (2, .v (.c (.b false))), (17, .v (.c (.s 5 (cN x1 ++ cN x2 ++ cN x3 ++ cN x4 ++ cN x5)))), (18, .v (.c (.i .i64 5))), (19, .v (.c (.i .i64 4)))], [(1, 32, (cN x1 ++ cN x2 ++ cN x3 ++ cN x4 ++ cN x5))]⟩) (fun i => 4 - i) 0 (sub_of ⟨rfl, rfl, rfl, rfl, rfl, trivial⟩ ⟨rfl, trivial⟩ rfl) ?_
  intro i
  match i with
  | 0 =>
    show Dw _ _ ⟨55, [(1, .p 1 0), (2, .v (.c (.b false))), (17, .v (.c (.s 5 (cN x1 ++ cN x2 ++ cN x3 ++ cN x4 ++ cN x5)))), (18, .v (.c (.i .i64 5))), (19, .v (.c (.i .i64 0)))], [(1, 32, (cN x1 ++ cN x2 ++ cN x3 ++ cN x4 ++ cN x5))]⟩ _
    refine dw_seq ?_
    -- region 2
    refine dw_region (by kernel_rfl) ?_
    refine dl_r (sem_cmp rfl rfl rfl rfl) ?_
    refine dl_end ?_
    refine dw_seq ?_
    refine dw_true rfl ?_
    refine dw_skip ?_
    refine dw_seq ?_
    refine dw_block ?_
    refine dw_seq ?_
    -- region 3
    refine dw_region (by kernel_rfl) ?_
    refine dl_r (sem_index sl66 rfl rfl (by decide) rfl rfl rfl) ?_
    refine dl_r (sem_loadq (us := cN x1) ty26 rfl rfl rfl rfl) ?_
    refine dl_new (sem_alloc zc26 rfl) rfl ?_
    refine dl_st (sem_store_a ty26 rfl rfl rfl rfl rfl rfl) ?_
    refine dl_end ?_
    refine dw_seq ?_
    -- region 4
    refine dw_region (by kernel_rfl) ?_
    refine dl_r (sem_load (us := cN x1) ty26 rfl rfl rfl rfl rfl) ?_
    refine dl_r (sem_call rfl rfl (rcastb (pValid_ok wx1 (by omega) (by omega)) vx1) rfl) ?_
    refine dl_r (sem_not rfl rfl) ?_
    refine dl_end ?_
    refine dw_false rfl ?_
    refine dw_skip ?_
    -- region 6
    refine dw_region (by kernel_rfl) ?_
    refine dl_r (sem_ari (r := 1) rfl rfl rfl rfl) ?_
    refine dl_r (sem_move rfl rfl) ?_
    refine dl_end ?_
    exact ⟨1, sub_of ⟨rfl, rfl, rfl, rfl, rfl, trivial⟩ ⟨rfl, trivial⟩ rfl, by show 4 - 1 < 4 - 0; decide⟩
  | 1 =>
    show Dw _ _ ⟨55, [(1, .p 1 0), (2, .v (.c (.b false))), (17, .v (.c (.s 5 (cN x1 ++ cN x2 ++ cN x3 ++ cN x4 ++ cN x5)))), (18, .v (.c (.i .i64 5))), (19, .v (.c (.i .i64 1)))], [(1, 32, (cN x1 ++ cN x2 ++ cN x3 ++ cN x4 ++ cN x5))]⟩ _
    refine dw_seq ?_
    -- region 2
    refine dw_region (by kernel_rfl) ?_
    refine dl_r (sem_cmp rfl rfl rfl rfl) ?_
    refine dl_end ?_
    refine dw_seq ?_
    refine dw_true rfl ?_
    refine dw_skip ?_
    refine dw_seq ?_
    refine dw_block ?_
    refine dw_seq ?_
    -- region 3
    refine dw_region (by kernel_rfl) ?_
    refine dl_r (sem_index sl66 rfl rfl (by decide) rfl rfl rfl) ?_
    refine dl_r (sem_loadq (us := cN x2) ty26 rfl rfl rfl rfl) ?_
    refine dl_new (sem_alloc zc26 rfl) rfl ?_
    refine dl_st (sem_store_a ty26 rfl rfl rfl rfl rfl rfl) ?_
    refine dl_end ?_
    refine dw_seq ?_
    -- region 4
    refine dw_region (by kernel_rfl) ?_
    refine dl_r (sem_load (us := cN x2) ty26 rfl rfl rfl rfl rfl) ?_
    refine dl_r (sem_call rfl rfl (rcastb (pValid_ok wx2 (by omega) (by omega)) vx2) rfl) ?_
    refine dl_r (sem_not rfl rfl) ?_
    refine dl_end ?_
    refine dw_false rfl ?_
    refine dw_skip ?_
    -- region 6
    refine dw_region (by kernel_rfl) ?_
    refine dl_r (sem_ari (r := 2) rfl rfl rfl rfl) ?_
    refine dl_r (sem_move rfl rfl) ?_
    refine dl_end ?_
    exact ⟨2, sub_of ⟨rfl, rfl, rfl, rfl, rfl, trivial⟩ ⟨rfl, trivial⟩ rfl, by show 4 - 2 < 4 - 1; decide⟩
  | 2 =>
    show Dw _ _ ⟨55, [(1, .p 1 0), (2, .v (.c (.b false))), (17, .v (.c (.s 5 (cN x1 ++ cN x2 ++ cN x3 ++ cN x4 ++ cN x5)))), (18, .v (.c (.i .i64 5))), (19, .v (.c (.i .i64 2)))], [(1, 32, (cN x1 ++ cN x2 ++ cN x3 ++ cN x4 ++ cN x5))]⟩ _
    refine dw_seq ?_
    -- region 2
    refine dw_region (by kernel_rfl) ?_
    refine dl_r (sem_cmp rfl rfl rfl rfl) ?_
    refine dl_end ?_
    refine dw_seq ?_
    refine dw_true rfl ?_
    refine dw_skip ?_
    refine dw_seq ?_
    refine dw_block ?_
    refine dw_seq ?_
    -- region 3
    refine dw_region (by kernel_rfl) ?_
    refine dl_r (sem_index sl66 rfl rfl (by decide) rfl rfl rfl) ?_
    refine dl_r (sem_loadq (us := cN x3) ty26 rfl rfl rfl rfl) ?_
    refine dl_new (sem_alloc zc26 rfl) rfl ?_
    refine dl_st (sem_store_a ty26 rfl rfl rfl rfl rfl rfl) ?_
    refine dl_end ?_
    refine dw_seq ?_
    -- region 4
    refine dw_region (by kernel_rfl) ?_
    refine dl_r (sem_load (us := cN x3) ty26 rfl rfl rfl rfl rfl) ?_
    refine dl_r (sem_call rfl rfl (rcastb (pValid_ok wx3 (by omega) (by omega)) vx3) rfl) ?_
    refine dl_r (sem_not rfl rfl) ?_
    refine dl_end ?_
    refine dw_false rfl ?_
    refine dw_skip ?_
    -- region 6
    refine dw_region (by kernel_rfl) ?_
    refine dl_r (sem_ari (r := 3) rfl rfl rfl rfl) ?_
    refine dl_r (sem_move rfl rfl) ?_
    refine dl_end ?_
    exact ⟨3, sub_of ⟨rfl, rfl, rfl, rfl, rfl, trivial⟩ ⟨rfl, trivial⟩ rfl, by show 4 - 3 < 4 - 2; decide⟩
  | 3 =>
    show Dw _ _ ⟨55, [(1, .p 1 0), (2, .v (.c (.b false))), (17, .v (.c (.s 5 (cN x1 ++ cN x2 ++ cN x3 ++ cN x4 ++ cN x5)))), (18, .v (.c (.i .i64 5))), (19, .v (.c (.i .i64 3)))], [(1, 32, (cN x1 ++ cN x2 ++ cN x3 ++ cN x4 ++ cN x5))]⟩ _
    refine dw_seq ?_
    -- region 2
    refine dw_region (by kernel_rfl) ?_
    refine dl_r (sem_cmp rfl rfl rfl rfl) ?_
    refine dl_end ?_
    refine dw_seq ?_
    refine dw_true rfl ?_
    refine dw_skip ?_
    refine dw_seq ?_
    refine dw_block ?_
    refine dw_seq ?_
    -- region 3
    refine dw_region (by kernel_rfl) ?_
    refine dl_r (sem_index sl66 rfl rfl (by decide) rfl rfl rfl) ?_
    refine dl_r (sem_loadq (us := cN x4) ty26 rfl rfl rfl rfl) ?_
    refine dl_new (sem_alloc zc26 rfl) rfl ?_
    refine dl_st (sem_store_a ty26 rfl rfl rfl rfl rfl rfl) ?_
    refine dl_end ?_
    refine dw_seq ?_
    -- region 4
    refine dw_region (by kernel_rfl) ?_
    refine dl_r (sem_load (us := cN x4) ty26 rfl rfl rfl rfl rfl) ?_
    refine dl_r (sem_call rfl rfl (rcastb (pValid_ok wx4 (by omega) (by omega)) vx4) rfl) ?_
    refine dl_r (sem_not rfl rfl) ?_
    refine dl_end ?_
    refine dw_false rfl ?_
    refine dw_skip ?_
    -- region 6
    refine dw_region (by kernel_rfl) ?_
    refine dl_r (sem_ari (r := 4) rfl rfl rfl rfl) ?_
    refine dl_r (sem_move rfl rfl) ?_
    refine dl_end ?_
    exact ⟨4, sub_of ⟨rfl, rfl, rfl, rfl, rfl, trivial⟩ ⟨rfl, trivial⟩ rfl, by show 4 - 4 < 4 - 3; decide⟩
  | z + 4 =>
    show Dw _ _ ⟨55, [(1, .p 1 0), (2, .v (.c (.b false))), (17, .v (.c (.s 5 (cN x1 ++ cN x2 ++ cN x3 ++ cN x4 ++ cN x5)))), (18, .v (.c (.i .i64 5))), (19, .v (.c (.i .i64 4)))], [(1, 32, (cN x1 ++ cN x2 ++ cN x3 ++ cN x4 ++ cN x5))]⟩ _
    refine dw_seq ?_
    -- region 2
    refine dw_region (by kernel_rfl) ?_
    refine dl_r (sem_cmp rfl rfl rfl rfl) ?_
    refine dl_end ?_
    refine dw_seq ?_
    refine dw_true rfl ?_
    refine dw_skip ?_
    refine dw_seq ?_
    refine dw_block ?_
    refine dw_seq ?_
    -- region 3
    refine dw_region (by kernel_rfl) ?_
    refine dl_r (sem_index sl66 rfl rfl (by decide) rfl rfl rfl) ?_
    refine dl_r (sem_loadq (us := cN x5) ty26 rfl rfl rfl rfl) ?_
    refine dl_new (sem_alloc zc26 rfl) rfl ?_
    refine dl_st (sem_store_a ty26 rfl rfl rfl rfl rfl rfl) ?_
    refine dl_end ?_
    refine dw_seq ?_
    -- region 4
    refine dw_region (by kernel_rfl) ?_
    refine dl_r (sem_load (us := cN x5) ty26 rfl rfl rfl rfl rfl) ?_
    refine dl_r (sem_call rfl rfl (rcastb (pValid_ok wx5 (by omega) (by omega)) vx5) rfl) ?_
    refine dl_r (sem_not rfl rfl) ?_
    refine dl_end ?_
    refine dw_true rfl ?_
    refine dw_seq ?_
    -- region 5
    refine dw_region (by kernel_rfl) ?_
    refine dl_r (sem_assign rfl rfl) ?_
    refine dl_end ?_
    refine dw_ret ?_
    -- path L4
    exact ⟨.inr rfl, (resL_tmp rfl resL_nil)⟩
theorem rpVbad_0 {x1 x2 x3 x4 x5 : RN} (wx1 : x1.Wf) (_wx2 : x2.Wf) (_wx3 : x3.Wf) (_wx4 : x4.Wf) (_wx5 : x5.Wf)(mx1 : x1.x1.length ≤ 3) (nx1 : x1.x2.length ≤ 3) (vx1 : x1.v = false) : Ok Tryz.prog 41 [.a (cN x1 ++ cN x2 ++ cN x3 ++ cN x4 ++ cN x5)] [.c (.b false)] := by
  refine Ok.of (by kernel_rfl) Tryz.func41 rfl rfl ?_
  rw [show Tryz.f41.ntmps = 61 from rfl, show Tryz.f41.results.toList = [.tmp 2] from rfl]
  refine dw_seq ?_
  -- region 0
  refine dw_region (by kernel_rfl) ?_
  refine dl_new (sem_box_a rfl rfl) rfl ?_
  refine dl_r (sem_assign rfl rfl) ?_
  refine dl_end ?_
  refine dw_seq ?_
  refine dw_seq ?_
  -- region 1
  refine dw_region (by kernel_rfl) ?_
  refine dl_r (sem_field fd32_0 rfl rfl) ?_
  refine dl_r (sem_load (us := cN x1) ty26 rfl rfl rfl rfl rfl) ?_
  refine dl_r (sem_call rfl rfl (rcastb (sValid_ok wx1 (by omega) (by omega)) vx1) rfl) ?_
  refine dl_r (sem_not rfl rfl) ?_
  refine dl_r (sem_move rfl rfl) ?_
  refine dl_skip (sem_skip rfl) ?_
  refine dl_skip (sem_skip rfl) ?_
  refine dl_skip (sem_skip rfl) ?_
  refine dl_skip (sem_skip rfl) ?_
  refine dl_r (sem_pick rfl rfl rfl rfl) ?_
  refine dl_r (sem_move rfl rfl) ?_
  refine dl_skip (sem_skip rfl) ?_
  refine dl_skip (sem_skip rfl) ?_
  refine dl_skip (sem_skip rfl) ?_
  refine dl_skip (sem_skip rfl) ?_
  refine dl_r (sem_pick rfl rfl rfl rfl) ?_
  refine dl_r (sem_move rfl rfl) ?_
  refine dl_skip (sem_skip rfl) ?_
  refine dl_skip (sem_skip rfl) ?_
  refine dl_skip (sem_skip rfl) ?_
  refine dl_skip (sem_skip rfl) ?_
  refine dl_r (sem_pick rfl rfl rfl rfl) ?_
  refine dl_r (sem_move rfl rfl) ?_
  refine dl_skip (sem_skip rfl) ?_
  refine dl_skip (sem_skip rfl) ?_
  refine dl_skip (sem_skip rfl) ?_
  refine dl_skip (sem_skip rfl) ?_
  refine dl_r (sem_pick rfl rfl rfl rfl) ?_
  refine dl_end ?_
  refine dw_true rfl ?_
  refine dw_seq ?_
  -- region 2
  refine dw_region (by kernel_rfl) ?_
  refine dl_r (sem_assign rfl rfl) ?_
  refine dl_end ?_
  refine dw_ret ?_
  -- path 
  exact ⟨.inr rfl, (resL_tmp rfl resL_nil)⟩
theorem rpVbad_1 {x1 x2 x3 x4 x5 : RN} (wx1 : x1.Wf) (_wx2 : x2.Wf) (wx3 : x3.Wf) (_wx4 : x4.Wf) (_wx5 : x5.Wf)(mx1 : x1.x1.length ≤ 3) (nx1 : x1.x2.length ≤ 3) (mx3 : x3.x1.length ≤ 3) (nx3 : x3.x2.length ≤ 3) (vx1 : x1.v = true) (vx3 : x3.v = false) : Ok Tryz.prog 41 [.a (cN x1 ++ cN x2 ++ cN x3 ++ cN x4 ++ cN x5)] [.c (.b false)] := by
  refine Ok.of (by kernel_rfl) Tryz.func41 rfl rfl ?_
  rw [show Tryz.f41.ntmps = 61 from rfl, show Tryz.f41.results.toList = [.tmp 2] from rfl]
  refine dw_seq ?_
  -- region 0
  refine dw_region (by kernel_rfl) ?_
  refine dl_new (sem_box_a rfl rfl) rfl ?_
  refine dl_r (sem_assign rfl rfl) ?_
  refine dl_end ?_
  refine dw_seq ?_
  refine dw_seq ?_
  -- region 1
  refine dw_region (by kernel_rfl) ?_
  refine dl_r (sem_field fd32_0 rfl rfl) ?_
  refine dl_r (sem_load (us := cN x1) ty26 rfl rfl rfl rfl rfl) ?_
  refine dl_r (sem_call rfl rfl (rcastb (sValid_ok wx1 (by omega) (by omega)) vx1) rfl) ?_
  refine dl_r (sem_not rfl rfl) ?_
  refine dl_r (sem_move rfl rfl) ?_
  refine dl_r (sem_field fd32_2 rfl rfl) ?_
  refine dl_r (sem_load (us := cN x3) ty26 rfl rfl rfl rfl rfl) ?_
  refine dl_r (sem_call rfl rfl (rcastb (sValid_ok wx3 (by omega) (by omega)) vx3) rfl) ?_
  refine dl_r (sem_not rfl rfl) ?_
  refine dl_r (sem_pick rfl rfl rfl rfl) ?_
  refine dl_r (sem_move rfl rfl) ?_
  refine dl_skip (sem_skip rfl) ?_
  refine dl_skip (sem_skip rfl) ?_
  refine dl_skip (sem_skip rfl) ?_
  refine dl_skip (sem_skip rfl) ?_
  refine dl_r (sem_pick rfl rfl rfl rfl) ?_
  refine dl_r (sem_move rfl rfl) ?_
  refine dl_skip (sem_skip rfl) ?_
  refine dl_skip (sem_skip rfl) ?_
  refine dl_skip (sem_skip rfl) ?_
  refine dl_skip (sem_skip rfl) ?_
  refine dl_r (sem_pick rfl rfl rfl rfl) ?_
  refine dl_r (sem_move rfl rfl) ?_
  refine dl_skip (sem_skip rfl) ?_
  refine dl_skip (sem_skip rfl) ?_
  refine dl_skip (sem_skip rfl) ?_
  refine dl_skip (sem_skip rfl) ?_
  refine dl_r (sem_pick rfl rfl rfl rfl) ?_
  refine dl_end ?_
  refine dw_true rfl ?_
  refine dw_seq ?_
  -- region 2
  refine dw_region (by kernel_rfl) ?_
  refine dl_r (sem_assign rfl rfl) ?_
  refine dl_end ?_
  refine dw_ret ?_
  -- path 
  exact ⟨.inr rfl, (resL_tmp rfl resL_nil)⟩
theorem rpVbad_2 {x1 x2 x3 x4 x5 : RN} (wx1 : x1.Wf) (wx2 : x2.Wf) (wx3 : x3.Wf) (_wx4 : x4.Wf) (_wx5 : x5.Wf)(mx1 : x1.x1.length ≤ 3) (nx1 : x1.x2.length ≤ 3) (mx3 : x3.x1.length ≤ 3) (nx3 : x3.x2.length ≤ 3) (mx2 : x2.x1.length ≤ 3) (nx2 : x2.x2.length ≤ 3) (vx1 : x1.v = true) (vx3 : x3.v = true) (vx2 : x2.v = false) : Ok Tryz.prog 41 [.a (cN x1 ++ cN x2 ++ cN x3 ++ cN x4 ++ cN x5)] [.c (.b false)] := by
  refine Ok.of (by kernel_rfl) Tryz.func41 rfl rfl ?_
  rw [show Tryz.f41.ntmps = 61 from rfl, show Tryz.f41.results.toList = [.tmp 2] from rfl]
  refine dw_seq ?_
  -- region 0
  refine dw_region (by kernel_rfl) ?_
  refine dl_new (sem_box_a rfl rfl) rfl ?_
  refine dl_r (sem_assign rfl rfl) ?_
  refine dl_end ?_
  refine dw_seq ?_
  refine dw_seq ?_
  -- region 1
  refine dw_region (by kernel_rfl) ?_
  refine dl_r (sem_field fd32_0 rfl rfl) ?_
  refine dl_r (sem_load (us := cN x1) ty26 rfl rfl rfl rfl rfl) ?_
  refine dl_r (sem_call rfl rfl (rcastb (sValid_ok wx1 (by omega) (by omega)) vx1) rfl) ?_
  refine dl_r (sem_not rfl rfl) ?_
  refine dl_r (sem_move rfl rfl) ?_
  refine dl_r (sem_field fd32_2 rfl rfl) ?_
  refine dl_r (sem_load (us := cN x3) ty26 rfl rfl rfl rfl rfl) ?_
  refine dl_r (sem_call rfl rfl (rcastb (sValid_ok wx3 (by omega) (by omega)) vx3) rfl) ?_
  refine dl_r (sem_not rfl rfl) ?_
  refine dl_r (sem_pick rfl rfl rfl rfl) ?_
  refine dl_r (sem_move rfl rfl) ?_
  refine dl_r (sem_field fd32_1 rfl rfl) ?_
  refine dl_r (sem_load (us := cN x2) ty26 rfl rfl rfl rfl rfl) ?_
  refine dl_r (sem_call rfl rfl (rcastb (sValid_ok wx2 (by omega) (by omega)) vx2) rfl) ?_
  refine dl_r (sem_not rfl rfl) ?_
  refine dl_r (sem_pick rfl rfl rfl rfl) ?_
  refine dl_r (sem_move rfl rfl) ?_
  refine dl_skip (sem_skip rfl) ?_
  refine dl_skip (sem_skip rfl) ?_
  refine dl_skip (sem_skip rfl) ?_
  refine dl_skip (sem_skip rfl) ?_
  refine dl_r (sem_pick rfl rfl rfl rfl) ?_
  refine dl_r (sem_move rfl rfl) ?_
  refine dl_skip (sem_skip rfl) ?_
  refine dl_skip (sem_skip rfl) ?_
  refine dl_skip (sem_skip rfl) ?_
  refine dl_skip (sem_skip rfl) ?_
  refine dl_r (sem_pick rfl rfl rfl rfl) ?_
  refine dl_end ?_
  refine dw_true rfl ?_
  refine dw_seq ?_
  -- region 2
  refine dw_region (by kernel_rfl) ?_
  refine dl_r (sem_assign rfl rfl) ?_
  refine dl_end ?_
  refine dw_ret ?_
  -- path 
  exact ⟨.inr rfl, (resL_tmp rfl resL_nil)⟩
theorem rpVbad_3 {x1 x2 x3 x4 x5 : RN} (wx1 : x1.Wf) (wx2 : x2.Wf) (wx3 : x3.Wf) (wx4 : x4.Wf) (_wx5 : x5.Wf)(mx1 : x1.x1.length ≤ 3) (nx1 : x1.x2.length ≤ 3) (mx3 : x3.x1.length ≤ 3) (nx3 : x3.x2.length ≤ 3) (mx2 : x2.x1.length ≤ 3) (nx2 : x2.x2.length ≤ 3) (mx4 : x4.x1.length ≤ 3) (nx4 : x4.x2.length ≤ 3) (vx1 : x1.v = true) (vx3 : x3.v = true) (vx2 : x2.v = true) (vx4 : x4.v = false) : Ok Tryz.prog 41 [.a (cN x1 ++ cN x2 ++ cN x3 ++ cN x4 ++ cN x5)] [.c (.b false)] := by
  refine Ok.of (by kernel_rfl) Tryz.func41 rfl rfl ?_
  rw [show Tryz.f41.ntmps = 61 from rfl, show Tryz.f41.results.toList = [.tmp 2] from rfl]
  refine dw_seq ?_
  -- region 0
  refine dw_region (by kernel_rfl) ?_
  refine dl_new (sem_box_a rfl rfl) rfl ?_
  refine dl_r (sem_assign rfl rfl) ?_
  refine dl_end ?_
  refine dw_seq ?_
  refine dw_seq ?_
  -- region 1
  refine dw_region (by kernel_rfl) ?_
  refine dl_r (sem_field fd32_0 rfl rfl) ?_
  refine dl_r (sem_load (us := cN x1) ty26 rfl rfl rfl rfl rfl) ?_
  refine dl_r (sem_call rfl rfl (rcastb (sValid_ok wx1 (by omega) (by omega)) vx1) rfl) ?_
  refine dl_r (sem_not rfl rfl) ?_
  refine dl_r (sem_move rfl rfl) ?_
  refine dl_r (sem_field fd32_2 rfl rfl) ?_
  refine dl_r (sem_load (us := cN x3) ty26 rfl rfl rfl rfl rfl) ?_
  refine dl_r (sem_call rfl rfl (rcastb (sValid_ok wx3 (by omega) (by omega)) vx3) rfl) ?_
  refine dl_r (sem_not rfl rfl) ?_
  refine dl_r (sem_pick rfl rfl rfl rfl) ?_
  refine dl_r (sem_move rfl rfl) ?_
  refine dl_r (sem_field fd32_1 rfl rfl) ?_
  refine dl_r (sem_load (us := cN x2) ty26 rfl rfl rfl rfl rfl) ?_
  refine dl_r (sem_call rfl rfl (rcastb (sValid_ok wx2 (by omega) (by omega)) vx2) rfl) ?_
  refine dl_r (sem_not rfl rfl) ?_
  refine dl_r (sem_pick rfl rfl rfl rfl) ?_
  refine dl_r (sem_move rfl rfl) ?_
  refine dl_r (sem_field fd32_3 rfl rfl) ?_
  refine dl_r (sem_load (us := cN x4) ty26 rfl rfl rfl rfl rfl) ?_
  refine dl_r (sem_call rfl rfl (rcastb (sValid_ok wx4 (by omega) (by omega)) vx4) rfl) ?_
  refine dl_r (sem_not rfl rfl) ?_
  refine dl_r (sem_pick rfl rfl rfl rfl) ?_
  refine dl_r (sem_move rfl rfl) ?_
  refine dl_skip (sem_skip rfl) ?_
  refine dl_skip (sem_skip rfl) ?_
  refine dl_skip (sem_skip rfl) ?_
  refine dl_skip (sem_skip rfl) ?_
  refine dl_r (sem_pick rfl rfl rfl rfl) ?_
  refine dl_end ?_
  refine dw_true rfl ?_
  refine dw_seq ?_
  -- region 2
  refine dw_region (by kernel_rfl) ?_
  refine dl_r (sem_assign rfl rfl) ?_
  refine dl_end ?_
  refine dw_ret ?_
  -- path 
  exact ⟨.inr rfl, (resL_tmp rfl resL_nil)⟩
theorem rpVbad_4 {x1 x2 x3 x4 x5 : RN} (wx1 : x1.Wf) (wx2 : x2.Wf) (wx3 : x3.Wf) (wx4 : x4.Wf) (wx5 : x5.Wf)(mx1 : x1.x1.length ≤ 3) (nx1 : x1.x2.length ≤ 3) (mx3 : x3.x1.length ≤ 3) (nx3 : x3.x2.length ≤ 3) (mx2 : x2.x1.length ≤ 3) (nx2 : x2.x2.length ≤ 3) (mx4 : x4.x1.length ≤ 3) (nx4 : x4.x2.length ≤ 3) (mx5 : x5.x1.length ≤ 3) (nx5 : x5.x2.length ≤ 3) (vx1 : x1.v = true) (vx3 : x3.v = true) (vx2 : x2.v = true) (vx4 : x4.v = true) (vx5 : x5.v = false) : Ok Tryz.prog 41 [.a (cN x1 ++ cN x2 ++ cN x3 ++ cN x4 ++ cN x5)] [.c (.b false)] := by
  refine Ok.of (by kernel_rfl) Tryz.func41 rfl rfl ?_
  rw [show Tryz.f41.ntmps = 61 from rfl, show Tryz.f41.results.toList = [.tmp 2] from rfl]
  refine dw_seq ?_
  -- region 0
  refine dw_region (by kernel_rfl) ?_
  refine dl_new (sem_box_a rfl rfl) rfl ?_
  refine dl_r (sem_assign rfl rfl) ?_
  refine dl_end ?_
  refine dw_seq ?_
  refine dw_seq ?_
  -- region 1
  refine dw_region (by kernel_rfl) ?_
  refine dl_r (sem_field fd32_0 rfl rfl) ?_
  refine dl_r (sem_load (us := cN x1) ty26 rfl rfl rfl rfl rfl) ?_
  refine dl_r (sem_call rfl rfl (rcastb (sValid_ok wx1 (by omega) (by omega)) vx1) rfl) ?_
  refine dl_r (sem_not rfl rfl) ?_
  refine dl_r (sem_move rfl rfl) ?_
  refine dl_r (sem_field fd32_2 rfl rfl) ?_
  refine dl_r (sem_load (us := cN x3) ty26 rfl rfl rfl rfl rfl) ?_
  refine dl_r (sem_call rfl rfl (rcastb (sValid_ok wx3 (by omega) (by omega)) vx3) rfl) ?_
  refine dl_r (sem_not rfl rfl) ?_
  refine dl_r (sem_pick rfl rfl rfl rfl) ?_
  refine dl_r (sem_move rfl rfl) ?_
  refine dl_r (sem_field fd32_1 rfl rfl) ?_
  refine dl_r (sem_load (us := cN x2) ty26 rfl rfl rfl rfl rfl) ?_
  refine dl_r (sem_call rfl rfl (rcastb (sValid_ok wx2 (by omega) (by omega)) vx2) rfl) ?_
  refine dl_r (sem_not rfl rfl) ?_
  refine dl_r (sem_pick rfl rfl rfl rfl) ?_
  refine dl_r (sem_move rfl rfl) ?_
  refine dl_r (sem_field fd32_3 rfl rfl) ?_
  refine dl_r (sem_load (us := cN x4) ty26 rfl rfl rfl rfl rfl) ?_
  refine dl_r (sem_call rfl rfl (rcastb (sValid_ok wx4 (by omega) (by omega)) vx4) rfl) ?_
  refine dl_r (sem_not rfl rfl) ?_
  refine dl_r (sem_pick rfl rfl rfl rfl) ?_
  refine dl_r (sem_move rfl rfl) ?_
  refine dl_r (sem_field fd32_4 rfl rfl) ?_
  refine dl_r (sem_load (us := cN x5) ty26 rfl rfl rfl rfl rfl) ?_
  refine dl_r (sem_call rfl rfl (rcastb (sValid_ok wx5 (by omega) (by omega)) vx5) rfl) ?_
  refine dl_r (sem_not rfl rfl) ?_
  refine dl_r (sem_pick rfl rfl rfl rfl) ?_
  refine dl_end ?_
  refine dw_true rfl ?_
  refine dw_seq ?_
  -- region 2
  refine dw_region (by kernel_rfl) ?_
  refine dl_r (sem_assign rfl rfl) ?_
  refine dl_end ?_
  refine dw_ret ?_
  -- path 
  exact ⟨.inr rfl, (resL_tmp rfl resL_nil)⟩
theorem ptValid_R {a1 b1 a2 b2 c : Rat} (ha1 : Rz 300 a1) (hb1 : Rz 300 b1) (ha2 : Rz 300 a2) (hb2 : Rz 300 b2) (hc : Rz 300 c) : Ok Tryz.prog 40 [.a (cR a1 ++ cR b1 ++ cR a2 ++ cR b2 ++ cR c)] [.c (.b (vPt b1 b2 c))] := by
  refine Ok.of (by kernel_rfl) Tryz.func40 rfl rfl ?_
  rw [show Tryz.f40.ntmps = 55 from rfl, show Tryz.f40.results.toList = [.tmp 2] from rfl]
  refine dw_seq ?_
  -- region 0
  refine dw_region (by kernel_rfl) ?_
  refine dl_new (sem_box_a rfl rfl) rfl ?_
  refine dl_r (sem_assign rfl rfl) ?_
  refine dl_end ?_
  refine dw_seq ?_
  refine dw_seq ?_
  -- region 1
  refine dw_region (by kernel_rfl) ?_
  refine dl_r (sem_field fd32_0 rfl rfl) ?_
  refine dl_r (sem_load (us := cR a1) ty26 rfl rfl rfl rfl rfl) ?_
  refine dl_r (sem_field fd32_1 rfl rfl) ?_
  refine dl_r (sem_load (us := cR b1) ty26 rfl rfl rfl rfl rfl) ?_
  refine dl_r (sem_field fd32_2 rfl rfl) ?_
  refine dl_r (sem_load (us := cR a2) ty26 rfl rfl rfl rfl rfl) ?_
  refine dl_r (sem_field fd32_3 rfl rfl) ?_
  refine dl_r (sem_load (us := cR b2) ty26 rfl rfl rfl rfl rfl) ?_
  refine dl_r (sem_field fd32_4 rfl rfl) ?_
  refine dl_r (sem_load (us := cR c) ty26 rfl rfl rfl rfl rfl) ?_
  refine dl_r (sem_slit_D (n := 5) (us := cR a1 ++ cR b1 ++ cR a2 ++ cR b2 ++ cR c) el66 rfl rfl rfl (by decide) (by decide) rfl) ?_
  refine dl_r (sem_len sl66 rfl rfl) ?_
  refine dl_r (sem_move rfl rfl) ?_
  refine dl_end ?_
  refine dw_block ?_
  refine dw_loop (ι := Nat) (fun i => match i with | 0 => ⟨55, [(1, .p 1 0), (2, .v (.c (.b false))), (17, .v (.c (.s 5 (cR a1 ++ cR b1 ++ cR a2 ++ cR b2 ++ cR c)))), (18, .v (.c (.i .i64 5))), (19, .v (.c (.i .i64 0)))], [(1, 32, (cR a1 ++ cR b1 ++ cR a2 ++ cR b2 ++ cR c))]⟩ | 1 => ⟨55, [(1, .p 1 0), (2, .v (.c (.b false))), (17, .v (.c (.s 5 (cR a1 ++ cR b1 ++ cR a2 ++ cR b2 ++ cR c)))), (18, .v (.c (.i .i64 5))), (19, .v (.c (.i .i64 1)))], [(1, 32, (cR a1 ++ cR b1 ++ cR a2 ++ cR b2 ++ cR c))]⟩ | 2 => ⟨55, [(1, .p 1 0), (2, .v (.c (.b false))), (17, .v (.c (.s 5 (cR a1 ++ cR b1 ++ cR a2 ++ cR b2 ++ cR c)))), (18, .v (.c (.i .i64 5))), (19, .v (.c (.i .i64 2)))], [(1, 32, (cR a1 ++ cR b1 ++ cR a2 ++ cR b2 ++ cR c))]⟩ | 3 => ⟨55, [(1, .p 1 0), (2, .v (.c (.b false))), (17, .v (.c (.s 5 (cR a1 ++ cR b1 ++ cR a2 ++ cR b2 ++ cR c)))), (18, .v (.c (.i .i64 5))), (19, .v (.c (.i .i64 3)))], [(1, 32, (cR a1 ++ cR b1 ++ cR a2 ++ cR b2 ++ cR c))]⟩ | 4 => ⟨55, [(1, .p 1 0), (2, .v (.c (.b false))), (17, .v (.c (.s 5 (cR a1 ++ cR b1 ++ cR a2 ++ cR b2 ++ cR c)))), (18, .v (.c (.i .i64 5))), (19, .v (.c (.i .i64 4)))], [(1, 32, (cR a1 ++ cR b1 ++ cR a2 ++ cR b2 ++ cR c))]⟩ | _ + 5 => ⟨55, [(1, .p 1 0), (2, .v (.c (.b false))), (17, .v (.c (.s 5 (cR a1 ++ cR b1 ++ cR a2 ++ cR b2 ++ cR c)))), (18, .v (.c (.i .i64 5))), (19, .v (.c (.i .i64 5)))], [(1, 32, (cR a1 ++ cR b1 ++ cR a2 ++ cR b2 ++ cR c))]⟩) (fun i => 5 - i) 0 (sub_of ⟨rfl, rfl, rfl, rfl, rfl, trivial⟩ ⟨rfl, trivial⟩ rfl) ?_
  intro i
  match i with
  | 0 =>
    show Dw _ _ ⟨55, [(1, .p 1 0), (2, .v (.c (.b false))), (17, .v (.c (.s 5 (cR a1 ++ cR b1 ++ cR a2 ++ cR b2 ++ cR c)))), (18, .v (.c (.i .i64 5))), (19, .v (.c (.i .i64 0)))], [(1, 32, (cR a1 ++ cR b1 ++ cR a2 ++ cR b2 ++ cR c))]⟩ _
    refine dw_seq ?_
    -- region 2
    refine dw_region (by kernel_rfl) ?_
    refine dl_r (sem_cmp rfl rfl rfl rfl) ?_
    refine dl_end ?_
    refine dw_seq ?_
    refine dw_true rfl ?_
    refine dw_skip ?_
    refine dw_seq ?_
    refine dw_block ?_
    refine dw_seq ?_
    -- region 3
    refine dw_region (by kernel_rfl) ?_
    refine dl_r (sem_index sl66 rfl rfl (by decide) rfl rfl rfl) ?_
    refine dl_r (sem_loadq (us := cR a1) ty26 rfl rfl rfl rfl) ?_
    refine dl_new (sem_alloc zc26 rfl) rfl ?_
    refine dl_st (sem_store_a ty26 rfl rfl rfl rfl rfl rfl) ?_
    refine dl_end ?_
    refine dw_seq ?_
    -- region 4
    refine dw_region (by kernel_rfl) ?_
    refine dl_r (sem_load (us := cR a1) ty26 rfl rfl rfl rfl rfl) ?_
    refine dl_r (sem_call rfl rfl (pValid_R (by first | assumption | exact Rz.mono ha1 (by decide))) rfl) ?_
    refine dl_r (sem_not rfl rfl) ?_
    refine dl_end ?_
    refine dw_false rfl ?_
    refine dw_skip ?_
    -- region 6
    refine dw_region (by kernel_rfl) ?_
    refine dl_r (sem_ari (r := 1) rfl rfl rfl rfl) ?_
    refine dl_r (sem_move rfl rfl) ?_
    refine dl_end ?_
    exact ⟨1, sub_of ⟨rfl, rfl, rfl, rfl, rfl, trivial⟩ ⟨rfl, trivial⟩ rfl, by show 5 - 1 < 5 - 0; decide⟩
  | 1 =>
    show Dw _ _ ⟨55, [(1, .p 1 0), (2, .v (.c (.b false))), (17, .v (.c (.s 5 (cR a1 ++ cR b1 ++ cR a2 ++ cR b2 ++ cR c)))), (18, .v (.c (.i .i64 5))), (19, .v (.c (.i .i64 1)))], [(1, 32, (cR a1 ++ cR b1 ++ cR a2 ++ cR b2 ++ cR c))]⟩ _
    refine dw_seq ?_
    -- region 2
    refine dw_region (by kernel_rfl) ?_
    refine dl_r (sem_cmp rfl rfl rfl rfl) ?_
    refine dl_end ?_
    refine dw_seq ?_
    refine dw_true rfl ?_
    refine dw_skip ?_
    refine dw_seq ?_
    refine dw_block ?_
    refine dw_seq ?_
    -- region 3
    refine dw_region (by kernel_rfl) ?_
    refine dl_r (sem_index sl66 rfl rfl (by decide) rfl rfl rfl) ?_
    refine dl_r (sem_loadq (us := cR b1) ty26 rfl rfl rfl rfl) ?_
    refine dl_new (sem_alloc zc26 rfl) rfl ?_
    refine dl_st (sem_store_a ty26 rfl rfl rfl rfl rfl rfl) ?_
    refine dl_end ?_
    refine dw_seq ?_
    -- region 4
    refine dw_region (by kernel_rfl) ?_
    refine dl_r (sem_load (us := cR b1) ty26 rfl rfl rfl rfl rfl) ?_
    refine dl_r (sem_call rfl rfl (pValid_R (by first | assumption | exact Rz.mono hb1 (by decide))) rfl) ?_
    refine dl_r (sem_not rfl rfl) ?_
    refine dl_end ?_
    refine dw_false rfl ?_
    refine dw_skip ?_
    -- region 6
    refine dw_region (by kernel_rfl) ?_
    refine dl_r (sem_ari (r := 2) rfl rfl rfl rfl) ?_
    refine dl_r (sem_move rfl rfl) ?_
    refine dl_end ?_
    exact ⟨2, sub_of ⟨rfl, rfl, rfl, rfl, rfl, trivial⟩ ⟨rfl, trivial⟩ rfl, by show 5 - 2 < 5 - 1; decide⟩
  | 2 =>
    show Dw _ _ ⟨55, [(1, .p 1 0), (2, .v (.c (.b false))), (17, .v (.c (.s 5 (cR a1 ++ cR b1 ++ cR a2 ++ cR b2 ++ cR c)))), (18, .v (.c (.i .i64 5))), (19, .v (.c (.i .i64 2)))], [(1, 32, (cR a1 ++ cR b1 ++ cR a2 ++ cR b2 ++ cR c))]⟩ _
    refine dw_seq ?_
    -- region 2
    refine dw_region (by kernel_rfl) ?_
    refine dl_r (sem_cmp rfl rfl rfl rfl) ?_
    refine dl_end ?_
    refine dw_seq ?_
    refine dw_true rfl ?_
    refine dw_skip ?_
    refine dw_seq ?_
    refine dw_block ?_
    refine dw_seq ?_
    -- region 3
    refine dw_region (by kernel_rfl) ?_
    refine dl_r (sem_index sl66 rfl rfl (by decide) rfl rfl rfl) ?_
    refine dl_r (sem_loadq (us := cR a2) ty26 rfl rfl rfl rfl) ?_
    refine dl_new (sem_alloc zc26 rfl) rfl ?_
    refine dl_st (sem_store_a ty26 rfl rfl rfl rfl rfl rfl) ?_
    refine dl_end ?_
    refine dw_seq ?_
    -- region 4
    refine dw_region (by kernel_rfl) ?_
    refine dl_r (sem_load (us := cR a2) ty26 rfl rfl rfl rfl rfl) ?_
    refine dl_r (sem_call rfl rfl (pValid_R (by first | assumption | exact Rz.mono ha2 (by decide))) rfl) ?_
    refine dl_r (sem_not rfl rfl) ?_
    refine dl_end ?_
    refine dw_false rfl ?_
    refine dw_skip ?_
    -- region 6
    refine dw_region (by kernel_rfl) ?_
    refine dl_r (sem_ari (r := 3) rfl rfl rfl rfl) ?_
    refine dl_r (sem_move rfl rfl) ?_
    refine dl_end ?_
    exact ⟨3, sub_of ⟨rfl, rfl, rfl, rfl, rfl, trivial⟩ ⟨rfl, trivial⟩ rfl, by show 5 - 3 < 5 - 2; decide⟩
  | 3 =>
    show Dw _ _ ⟨55, [(1, .p 1 0), (2, .v (.c (.b false))), (17, .v (.c (.s 5 (cR a1 ++ cR b1 ++ cR a2 ++ cR b2 ++ cR c)))), (18, .v (.c (.i .i64 5))), (19, .v (.c (.i .i64 3)))], [(1, 32, (cR a1 ++ cR b1 ++ cR a2 ++ cR b2 ++ cR c))]⟩ _
    refine dw_seq ?_
    -- region 2
    refine dw_region (by kernel_rfl) ?_
    refine dl_r (sem_cmp rfl rfl rfl rfl) ?_
    refine dl_end ?_
    refine dw_seq ?_
    refine dw_true rfl ?_
    refine dw_skip ?_
    refine dw_seq ?_
    refine dw_block ?_
    refine dw_seq ?_
    -- region 3
    refine dw_region (by kernel_rfl) ?_
    refine dl_r (sem_index sl66 rfl rfl (by decide) rfl rfl rfl) ?_
    refine dl_r (sem_loadq (us := cR b2) ty26 rfl rfl rfl rfl) ?_
    refine dl_new (sem_alloc zc26 rfl) rfl ?_
    refine dl_st (sem_store_a ty26 rfl rfl rfl rfl rfl rfl) ?_
    refine dl_end ?_
    refine dw_seq ?_
    -- region 4
    refine dw_region (by kernel_rfl) ?_
    refine dl_r (sem_load (us := cR b2) ty26 rfl rfl rfl rfl rfl) ?_
    refine dl_r (sem_call rfl rfl (pValid_R (by first | assumption | exact Rz.mono hb2 (by decide))) rfl) ?_
    refine dl_r (sem_not rfl rfl) ?_
    refine dl_end ?_
    refine dw_false rfl ?_
    refine dw_skip ?_
    -- region 6
    refine dw_region (by kernel_rfl) ?_
    refine dl_r (sem_ari (r := 4) rfl rfl rfl rfl) ?_
    refine dl_r (sem_move rfl rfl) ?_
    refine dl_end ?_
    exact ⟨4, sub_of ⟨rfl, rfl, rfl, rfl, rfl, trivial⟩ ⟨rfl, trivial⟩ rfl, by show 5 - 4 < 5 - 3; decide⟩
  | 4 =>
    show Dw _ _ ⟨55, [(1, .p 1 0), (2, .v (.c (.b false))), (17, .v (.c (.s 5 (cR a1 ++ cR b1 ++ cR a2 ++ cR b2 ++ cR c)))), (18, .v (.c (.i .i64 5))), (19, .v (.c (.i .i64 4)))], [(1, 32, (cR a1 ++ cR b1 ++ cR a2 ++ cR b2 ++ cR c))]⟩ _
    refine dw_seq ?_
    -- region 2
    refine dw_region (by kernel_rfl) ?_
    refine dl_r (sem_cmp rfl rfl rfl rfl) ?_
    refine dl_end ?_
    refine dw_seq ?_
    refine dw_true rfl ?_
    refine dw_skip ?_
    refine dw_seq ?_
    refine dw_block ?_
    refine dw_seq ?_
    -- region 3
    refine dw_region (by kernel_rfl) ?_
    refine dl_r (sem_index sl66 rfl rfl (by decide) rfl rfl rfl) ?_
    refine dl_r (sem_loadq (us := cR c) ty26 rfl rfl rfl rfl) ?_
    refine dl_new (sem_alloc zc26 rfl) rfl ?_
    refine dl_st (sem_store_a ty26 rfl rfl rfl rfl rfl rfl) ?_
    refine dl_end ?_
    refine dw_seq ?_
    -- region 4
    refine dw_region (by kernel_rfl) ?_
    refine dl_r (sem_load (us := cR c) ty26 rfl rfl rfl rfl rfl) ?_
    refine dl_r (sem_call rfl rfl (pValid_R (by first | assumption | exact Rz.mono hc (by decide))) rfl) ?_
    refine dl_r (sem_not rfl rfl) ?_
    refine dl_end ?_
    refine dw_false rfl ?_
    refine dw_skip ?_
    -- region 6
    refine dw_region (by kernel_rfl) ?_
    refine dl_r (sem_ari (r := 5) rfl rfl rfl rfl) ?_
    refine dl_r (sem_move rfl rfl) ?_
    refine dl_end ?_
    exact ⟨5, sub_of ⟨rfl, rfl, rfl, rfl, rfl, trivial⟩ ⟨rfl, trivial⟩ rfl, by show 5 - 5 < 5 - 4; decide⟩
  | z + 5 =>
    show Dw _ _ ⟨55, [(1, .p 1 0), (2, .v (.c (.b false))), (17, .v (.c (.s 5 (cR a1 ++ cR b1 ++ cR a2 ++ cR b2 ++ cR c)))), (18, .v (.c (.i .i64 5))), (19, .v (.c (.i .i64 5)))], [(1, 32, (cR a1 ++ cR b1 ++ cR a2 ++ cR b2 ++ cR c))]⟩ _
    refine dw_seq ?_
    -- region 2
    refine dw_region (by kernel_rfl) ?_
    refine dl_r (sem_cmp rfl rfl rfl rfl) ?_
    refine dl_end ?_
    refine dw_seq ?_
    refine dw_false rfl ?_
    refine dw_exit ?_
    refine dw_seq ?_
    refine dw_seq ?_
    -- region 7
    refine dw_region (by kernel_rfl) ?_
    refine dl_r (sem_field fd32_1 rfl rfl) ?_
    refine dl_r (sem_load (us := cR b1) ty26 rfl rfl rfl rfl rfl) ?_
    refine dl_r (sem_call rfl rfl (pSign_ok) rfl) ?_
    refine dl_r (sem_cmp rfl rfl rfl rfl) ?_
    refine dl_rb (sem_move rfl rfl) (fun c1 hb1 => ?_)
    cases c1
    · refine dl_skip (sem_skip rfl) ?_
      refine dl_skip (sem_skip rfl) ?_
      refine dl_skip (sem_skip rfl) ?_
      refine dl_skip (sem_skip rfl) ?_
      refine dl_r (sem_pick rfl rfl rfl rfl) ?_
      refine dl_end ?_
      refine dw_false rfl ?_
      refine dw_skip ?_
      refine dw_seq ?_
      -- region 9
      refine dw_region (by kernel_rfl) ?_
      refine dl_r (sem_field fd32_4 rfl rfl) ?_
      refine dl_r (sem_load (us := cR c) ty26 rfl rfl rfl rfl rfl) ?_
      refine dl_r (sem_call rfl rfl (pSqrt_ok (by first | assumption | exact Rz.mono hc (by decide))) rfl) ?_
      refine dl_r (sem_move rfl rfl) ?_
      refine dl_r (sem_extract rfl rfl rfl) ?_
      refine dl_r (sem_extract rfl rfl rfl) ?_
      refine dl_new (sem_alloc zc26 rfl) rfl ?_
      refine dl_st (sem_store_a ty26 rfl rfl rfl rfl rfl rfl) ?_
      refine dl_r (sem_assign rfl rfl) ?_
      refine dl_end ?_
      refine dw_seq ?_
      -- region 10
      refine dw_region (by kernel_rfl) ?_
      refine dl_r (sem_field fd32_4 rfl rfl) ?_
      refine dl_r (sem_load (us := cR c) ty26 rfl rfl rfl rfl rfl) ?_
      refine dl_r (sem_call rfl rfl (pSign_ok) rfl) ?_
      refine dl_r (sem_cmp rfl rfl rfl rfl) ?_
      refine dl_rb (sem_move rfl rfl) (fun c2 hb2 => ?_)
      cases c2
      · refine dl_skip (sem_skip rfl) ?_
        refine dl_skip (sem_skip rfl) ?_
        refine dl_r (sem_pick rfl rfl rfl rfl) ?_
        refine dl_r (sem_assign rfl rfl) ?_
        refine dl_end ?_
        refine dw_ret ?_
        -- path L5ff
        rw [vPt_1 hb1, hb2, Bool.false_and]
        exact ⟨.inr rfl, (resL_tmp rfl resL_nil)⟩
      · refine dl_r (sem_move rfl rfl) ?_
        refine dl_r (sem_not rfl rfl) ?_
        refine dl_r (sem_pick rfl rfl rfl rfl) ?_
        refine dl_r (sem_assign rfl rfl) ?_
        refine dl_end ?_
        refine dw_ret ?_
        -- path L5ft
        rw [vPt_1 hb1, hb2, Bool.true_and]
        exact ⟨.inr rfl, (resL_tmp rfl resL_nil)⟩
    · refine dl_r (sem_field fd32_3 rfl rfl) ?_
      refine dl_r (sem_load (us := cR b2) ty26 rfl rfl rfl rfl rfl) ?_
      refine dl_r (sem_call rfl rfl (pSign_ok) rfl) ?_
      refine dl_r (sem_cmp rfl rfl rfl rfl) ?_
      refine dl_r (sem_pick rfl rfl rfl rfl) ?_
      refine dl_end ?_
      refine dw_cond rfl (fun hc3 => ?_) (fun hc3 => ?_)
      · refine dw_seq ?_
        -- region 8
        refine dw_region (by kernel_rfl) ?_
        refine dl_r (sem_field fd32_4 rfl rfl) ?_
        refine dl_r (sem_load (us := cR c) ty26 rfl rfl rfl rfl rfl) ?_
        refine dl_r (sem_call rfl rfl (pSign_ok) rfl) ?_
        refine dl_r (sem_cmp rfl rfl rfl rfl) ?_
        refine dl_r (sem_assign rfl rfl) ?_
        refine dl_end ?_
        refine dw_ret ?_
        -- path L5tT
        rw [vPt_z hb1 hc3]
        exact ⟨.inr rfl, (resL_tmp rfl resL_nil)⟩
      · refine dw_skip ?_
        refine dw_seq ?_
        -- region 9
        refine dw_region (by kernel_rfl) ?_
        refine dl_r (sem_field fd32_4 rfl rfl) ?_
        refine dl_r (sem_load (us := cR c) ty26 rfl rfl rfl rfl rfl) ?_
        refine dl_r (sem_call rfl rfl (pSqrt_ok (by first | assumption | exact Rz.mono hc (by decide))) rfl) ?_
        refine dl_r (sem_move rfl rfl) ?_
        refine dl_r (sem_extract rfl rfl rfl) ?_
        refine dl_r (sem_extract rfl rfl rfl) ?_
        refine dl_new (sem_alloc zc26 rfl) rfl ?_
        refine dl_st (sem_store_a ty26 rfl rfl rfl rfl rfl rfl) ?_
        refine dl_r (sem_assign rfl rfl) ?_
        refine dl_end ?_
        refine dw_seq ?_
        -- region 10
        refine dw_region (by kernel_rfl) ?_
        refine dl_r (sem_field fd32_4 rfl rfl) ?_
        refine dl_r (sem_load (us := cR c) ty26 rfl rfl rfl rfl rfl) ?_
        refine dl_r (sem_call rfl rfl (pSign_ok) rfl) ?_
        refine dl_r (sem_cmp rfl rfl rfl rfl) ?_
        refine dl_rb (sem_move rfl rfl) (fun c4 hb4 => ?_)
        cases c4
        · refine dl_skip (sem_skip rfl) ?_
          refine dl_skip (sem_skip rfl) ?_
          refine dl_r (sem_pick rfl rfl rfl rfl) ?_
          refine dl_r (sem_assign rfl rfl) ?_
          refine dl_end ?_
          refine dw_ret ?_
          -- path L5tFf
          rw [vPt_2 hc3, hb4, Bool.false_and]
          exact ⟨.inr rfl, (resL_tmp rfl resL_nil)⟩
        · refine dl_r (sem_move rfl rfl) ?_
          refine dl_r (sem_not rfl rfl) ?_
          refine dl_r (sem_pick rfl rfl rfl rfl) ?_
          refine dl_r (sem_assign rfl rfl) ?_
          refine dl_end ?_
          refine dw_ret ?_
          -- path L5tFt
          rw [vPt_2 hc3, hb4, Bool.true_and]
          exact ⟨.inr rfl, (resL_tmp rfl resL_nil)⟩
end Go.Proofs.YthpalcfhhicmgaaGreat
