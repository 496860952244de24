/- Ways: directions, ranges. -/
import Derived.Test.YtonjlikaacengaaMaG
namespace Go.Proofs.Ytonjlikaacengaa
open Go Go.RowKit
theorem tCmp_ok {a b : Int} : Ok Try.prog 37 [.c (.i .i64 a), .c (.i .i64 b)] [.c (.i .i64 (dsg b a))] := by
  refine Ok.of (by kernel_rfl) Try.func37 rfl rfl ?_
  rw [show Try.f37.ntmps = 13 from rfl, show Try.f37.results.toList = [.tmp 4] from rfl]
  refine dw_seq ?_
  -- region 0
  refine dw_region (by kernel_rfl) ?_
  refine dl_r (sem_assign rfl rfl) ?_
  refine dl_end ?_
  refine dw_seq ?_
  refine dw_block ?_
  refine dw_seq ?_
  -- region 1
  refine dw_region (by kernel_rfl) ?_
  refine dl_r (sem_move rfl rfl) ?_
  refine dl_r (sem_move rfl rfl) ?_
  refine dl_r (sem_cmp rfl rfl rfl rfl) ?_
  refine dl_r (sem_assign rfl rfl) ?_
  refine dl_end ?_
  refine dw_cond rfl (fun hc1 => ?_) (fun hc1 => ?_)
  · refine dw_seq ?_
    -- region 2
    refine dw_region (by kernel_rfl) ?_
    refine dl_r (sem_assign rfl rfl) ?_
    refine dl_end ?_
    refine dw_ret ?_
    -- path T
    rw [dsg_p (show decide (b < a) = true from hc1)]
    exact ⟨.inr rfl, (resL_tmp rfl resL_nil)⟩
  · refine dw_seq ?_
    -- region 3
    refine dw_region (by kernel_rfl) ?_
    refine dl_r (sem_move rfl rfl) ?_
    refine dl_r (sem_move rfl rfl) ?_
    refine dl_r (sem_cmp rfl rfl rfl rfl) ?_
    refine dl_r (sem_assign rfl rfl) ?_
    refine dl_end ?_
    refine dw_cond rfl (fun hc2 => ?_) (fun hc2 => ?_)
    · refine dw_seq ?_
      -- region 4
      refine dw_region (by kernel_rfl) ?_
      refine dl_r (sem_assign rfl rfl) ?_
      refine dl_end ?_
      refine dw_ret ?_
      -- path FT
      rw [dsg_m (show decide (b > a) = true from hc2)]
      exact ⟨.inr rfl, (resL_tmp rfl resL_nil)⟩
    · refine dw_skip ?_
      refine dw_seq ?_
      -- region 5
      refine dw_region (by kernel_rfl) ?_
      refine dl_r (sem_assign rfl rfl) ?_
      refine dl_end ?_
      refine dw_ret ?_
      -- path FF
      rw [dsg_z (show decide (b < a) = false from hc1) (show decide (b > a) = false from hc2)]
      exact ⟨.inr rfl, (resL_tmp rfl resL_nil)⟩
theorem tSign_ok {n : Int} (h0 : -1 ≤ n) (h1 : n ≤ 1) : Ok Try.prog 36 [.c (.i .i64 n)] [.c (.i .i64 n)] := by
  refine Ok.of (by kernel_rfl) Try.func36 rfl rfl ?_
  rw [show Try.f36.ntmps = 6 from rfl, show Try.f36.results.toList = [.tmp 2] from rfl]
  refine dw_seq ?_
  -- region 0
  refine dw_region (by kernel_rfl) ?_
  refine dl_r (sem_assign rfl rfl) ?_
  refine dl_end ?_
  refine dw_seq ?_
  -- region 1
  refine dw_region (by kernel_rfl) ?_
  refine dl_r (sem_move rfl rfl) ?_
  refine dl_r (sem_max rfl rfl rfl) ?_
  refine dl_r (sem_casti (c := n) (sem_min rfl rfl rfl) (by omega)) ?_
  refine dl_r (sem_assign rfl rfl) ?_
  refine dl_end ?_
  refine dw_ret ?_
  -- path 
  exact ⟨.inr rfl, (resL_tmp rfl resL_nil)⟩
theorem tDir_ok {a1 a2 b1 b2 : Int} : Ok Try.prog 19 [.a ([.i .i64 a1] ++ [.i .i64 a2]), .a ([.i .i64 b1] ++ [.i .i64 b2])] [.a ([.i .i64 (dsg a1 b1)] ++ [.i .i64 (dsg a2 b2)]), .c (.b (dok a1 a2 b1 b2))] := by
  refine Ok.of (by kernel_rfl) Try.func19 rfl rfl ?_
  rw [show Try.f19.ntmps = 28 from rfl, show Try.f19.results.toList = [.cell 4 23, .tmp 5] from rfl]
  refine dw_seq ?_
  -- region 0
  refine dw_region (by kernel_rfl) ?_
  refine dl_new (sem_box_a rfl rfl) rfl ?_
  refine dl_new (sem_box_a rfl rfl) rfl ?_
  refine dl_new (sem_alloc zc23 rfl) rfl ?_
  refine dl_r (sem_assign rfl rfl) ?_
  refine dl_end ?_
  refine dw_seq ?_
  -- region 1
  refine dw_draw 14 [] follows_mixed (by kernel_rfl) rfl rfl ?_
  refine dq_r (sem_field fd23_0 rfl rfl) ?_
  refine dq_r (sem_load1 ty2 rfl rfl rfl rfl) ?_
  refine dq_r (sem_field fd23_0 rfl rfl) ?_
  refine dq_r (sem_load1 ty2 rfl rfl rfl rfl) ?_
  refine dq_r (sem_call rfl rfl (tCmp_ok) rfl) ?_
  refine dq_r (sem_call rfl rfl (tSign_ok (dsg_bd _ _).1 (dsg_bd _ _).2) rfl) ?_
  refine dq_r (sem_field fd23_1 rfl rfl) ?_
  refine dq_r (sem_load1 ty2 rfl rfl rfl rfl) ?_
  refine dq_r (sem_field fd23_1 rfl rfl) ?_
  refine dq_r (sem_load1 ty2 rfl rfl rfl rfl) ?_
  refine dq_r (sem_call rfl rfl (tCmp_ok) rfl) ?_
  refine dq_r (sem_call rfl rfl (tSign_ok (dsg_bd _ _).1 (dsg_bd _ _).2) rfl) ?_
  refine dq_r (sem_build (us := ([.i .i64 (dsg a1 b1)] ++ [.i .i64 (dsg a2 b2)])) fs23 zc23 rfl rfl rfl) ?_
  refine dq_new (sem_alloc zc23 rfl) rfl ?_
  refine dq_end ?_
  refine dl_start1 ?_
  refine dl_st (sem_store_a ty23 rfl rfl rfl rfl rfl rfl) ?_
  refine dl_end ?_
  refine dw_seq ?_
  -- region 2
  refine dw_draw 10 [4] follows_mixed (by kernel_rfl) rfl rfl ?_
  refine dq_r (sem_load (us := ([.i .i64 (dsg a1 b1)] ++ [.i .i64 (dsg a2 b2)])) ty23 rfl rfl rfl rfl rfl) ?_
  refine dq_r (sem_field fd23_0 rfl rfl) ?_
  refine dq_r (sem_load1 ty2 rfl rfl rfl rfl) ?_
  refine dq_r (sem_cmp rfl rfl rfl rfl) ?_
  refine dq_r (sem_field fd23_1 rfl rfl) ?_
  refine dq_r (sem_load1 ty2 rfl rfl rfl rfl) ?_
  refine dq_r (sem_cmp rfl rfl rfl rfl) ?_
  refine dq_r (sem_bneq rfl rfl ty_bool rfl) ?_
  refine dq_st (sem_store_a ty23 rfl rfl rfl rfl rfl rfl) rfl rfl rfl ?_
  refine dq_r (sem_assign rfl rfl) ?_
  refine dq_end ?_
  refine dl_start1 ?_
  refine dl_end ?_
  refine dw_ret ?_
  -- path 
  exact ⟨.inr rfl, (resL_cell (us := ([.i .i64 (dsg a1 b1)] ++ [.i .i64 (dsg a2 b2)])) ty23 rfl rfl rfl rfl (resL_tmp rfl resL_nil))⟩
theorem rSide_ok {a b : Int} : Ok Try.prog 40 [.c (.i .i64 a), .c (.i .i64 b)] [.c (.i .i64 (dsg a b))] := by
  refine Ok.of (by kernel_rfl) Try.func40 rfl rfl ?_
  rw [show Try.f40.ntmps = 11 from rfl, show Try.f40.results.toList = [.tmp 4] from rfl]
  refine dw_seq ?_
  -- region 0
  refine dw_region (by kernel_rfl) ?_
  refine dl_r (sem_assign rfl rfl) ?_
  refine dl_end ?_
  refine dw_seq ?_
  refine dw_seq ?_
  -- region 1
  refine dw_region (by kernel_rfl) ?_
  refine dl_r (sem_move rfl rfl) ?_
  refine dl_r (sem_move rfl rfl) ?_
  refine dl_r (sem_cmp rfl rfl rfl rfl) ?_
  refine dl_end ?_
  refine dw_cond rfl (fun hc1 => ?_) (fun hc1 => ?_)
  · refine dw_seq ?_
    -- region 2
    refine dw_region (by kernel_rfl) ?_
    refine dl_r (sem_assign rfl rfl) ?_
    refine dl_end ?_
    refine dw_ret ?_
    -- path T
    rw [dsg_p hc1]
    exact ⟨.inr rfl, (resL_tmp rfl resL_nil)⟩
  · refine dw_skip ?_
    refine dw_seq ?_
    refine dw_seq ?_
    -- region 3
    refine dw_region (by kernel_rfl) ?_
    refine dl_r (sem_move rfl rfl) ?_
    refine dl_r (sem_move rfl rfl) ?_
    refine dl_r (sem_cmp rfl rfl rfl rfl) ?_
    refine dl_end ?_
    refine dw_cond rfl (fun hc2 => ?_) (fun hc2 => ?_)
    · refine dw_seq ?_
      -- region 4
      refine dw_region (by kernel_rfl) ?_
      refine dl_r (sem_assign rfl rfl) ?_
      refine dl_end ?_
      refine dw_ret ?_
      -- path FT
      rw [dsg_m hc2]
      exact ⟨.inr rfl, (resL_tmp rfl resL_nil)⟩
    · refine dw_skip ?_
      refine dw_seq ?_
      -- region 5
      refine dw_region (by kernel_rfl) ?_
      refine dl_r (sem_assign rfl rfl) ?_
      refine dl_end ?_
      refine dw_ret ?_
      -- path FF
      rw [dsg_z hc1 hc2]
      exact ⟨.inr rfl, (resL_tmp rfl resL_nil)⟩
theorem rDir_ok {a1 a2 b1 b2 : Int} : Ok Try.prog 23 [.a ([.i .i64 a1] ++ [.i .i64 a2]), .a ([.i .i64 b1] ++ [.i .i64 b2])] [.a ([.i .i64 (dsg a1 b1)] ++ [.i .i64 (dsg a2 b2)]), .c (.b (dok a1 a2 b1 b2))] := by
  refine Ok.of (by kernel_rfl) Try.func23 rfl rfl ?_
  rw [show Try.f23.ntmps = 26 from rfl, show Try.f23.results.toList = [.cell 4 23, .tmp 5] from rfl]
  refine dw_seq ?_
  -- region 0
  refine dw_region (by kernel_rfl) ?_
  refine dl_new (sem_box_a rfl rfl) rfl ?_
  refine dl_new (sem_box_a rfl rfl) rfl ?_
  refine dl_new (sem_alloc zc23 rfl) rfl ?_
  refine dl_r (sem_assign rfl rfl) ?_
  refine dl_end ?_
  refine dw_seq ?_
  -- region 1
  refine dw_draw 12 [] follows_mixed (by kernel_rfl) rfl rfl ?_
  refine dq_r (sem_field fd23_0 rfl rfl) ?_
  refine dq_r (sem_load1 ty2 rfl rfl rfl rfl) ?_
  refine dq_r (sem_field fd23_0 rfl rfl) ?_
  refine dq_r (sem_load1 ty2 rfl rfl rfl rfl) ?_
  refine dq_r (sem_call rfl rfl (rSide_ok) rfl) ?_
  refine dq_r (sem_field fd23_1 rfl rfl) ?_
  refine dq_r (sem_load1 ty2 rfl rfl rfl rfl) ?_
  refine dq_r (sem_field fd23_1 rfl rfl) ?_
  refine dq_r (sem_load1 ty2 rfl rfl rfl rfl) ?_
  refine dq_r (sem_call rfl rfl (rSide_ok) rfl) ?_
  refine dq_r (sem_build (us := ([.i .i64 (dsg a1 b1)] ++ [.i .i64 (dsg a2 b2)])) fs23 zc23 rfl rfl rfl) ?_
  refine dq_new (sem_alloc zc23 rfl) rfl ?_
  refine dq_end ?_
  refine dl_start1 ?_
  refine dl_st (sem_store_a ty23 rfl rfl rfl rfl rfl rfl) ?_
  refine dl_end ?_
  refine dw_seq ?_
  -- region 2
  refine dw_draw 10 [4] follows_mixed (by kernel_rfl) rfl rfl ?_
  refine dq_r (sem_load (us := ([.i .i64 (dsg a1 b1)] ++ [.i .i64 (dsg a2 b2)])) ty23 rfl rfl rfl rfl rfl) ?_
  refine dq_r (sem_field fd23_0 rfl rfl) ?_
  refine dq_r (sem_load1 ty2 rfl rfl rfl rfl) ?_
  refine dq_r (sem_cmp rfl rfl rfl rfl) ?_
  refine dq_r (sem_field fd23_1 rfl rfl) ?_
  refine dq_r (sem_load1 ty2 rfl rfl rfl rfl) ?_
  refine dq_r (sem_cmp rfl rfl rfl rfl) ?_
  refine dq_r (sem_bneq rfl rfl ty_bool rfl) ?_
  refine dq_st (sem_store_a ty23 rfl rfl rfl rfl rfl rfl) rfl rfl rfl ?_
  refine dq_r (sem_assign rfl rfl) ?_
  refine dq_end ?_
  refine dl_start1 ?_
  refine dl_end ?_
  refine dw_ret ?_
  -- path 
  exact ⟨.inr rfl, (resL_cell (us := ([.i .i64 (dsg a1 b1)] ++ [.i .i64 (dsg a2 b2)])) ty23 rfl rfl rfl rfl (resL_tmp rfl resL_nil))⟩
theorem rFar_ok {x : Int} : Ok Try.prog 39 [.c (.i .i64 x)] [.c (.b (far x))] := by
  refine Ok.of (by kernel_rfl) Try.func39 rfl rfl ?_
  rw [show Try.f39.ntmps = 9 from rfl, show Try.f39.results.toList = [.tmp 2] from rfl]
  refine dw_seq ?_
  -- region 0
  refine dw_region (by kernel_rfl) ?_
  refine dl_r (sem_assign rfl rfl) ?_
  refine dl_end ?_
  refine dw_seq ?_
  -- region 1
  refine dw_region (by kernel_rfl) ?_
  refine dl_r (sem_move rfl rfl) ?_
  refine dl_r (sem_cmp rfl rfl rfl rfl) ?_
  refine dl_rb (sem_move rfl rfl) (fun c1 hb1 => ?_)
  cases c1
  · refine dl_r (sem_move rfl rfl) ?_
    refine dl_r (sem_cmp rfl rfl rfl rfl) ?_
    refine dl_r (sem_pick rfl rfl rfl rfl) ?_
    refine dl_r (sem_assign rfl rfl) ?_
    refine dl_end ?_
    refine dw_ret ?_
    -- path f
    rw [far_f hb1]
    exact ⟨.inr rfl, (resL_tmp rfl resL_nil)⟩
  · refine dl_skip (sem_skip rfl) ?_
    refine dl_skip (sem_skip rfl) ?_
    refine dl_r (sem_pick rfl rfl rfl rfl) ?_
    refine dl_r (sem_assign rfl rfl) ?_
    refine dl_end ?_
    refine dw_ret ?_
    -- path t
    rw [far_t hb1]
    exact ⟨.inr rfl, (resL_tmp rfl resL_nil)⟩
theorem tFar_ok {x : Int} : Ok Try.prog 42 [.c (.i .i64 x)] [.c (.b (far x))] := by
  refine Ok.of (by kernel_rfl) Try.func42 rfl rfl ?_
  rw [show Try.f42.ntmps = 9 from rfl, show Try.f42.results.toList = [.tmp 2] from rfl]
  refine dw_seq ?_
  -- region 0
  refine dw_region (by kernel_rfl) ?_
  refine dl_r (sem_assign rfl rfl) ?_
  refine dl_end ?_
  refine dw_seq ?_
  -- region 1
  refine dw_region (by kernel_rfl) ?_
  refine dl_r (sem_move rfl rfl) ?_
  refine dl_r (sem_cmp rfl rfl rfl rfl) ?_
  refine dl_rb (sem_move rfl rfl) (fun c1 hb1 => ?_)
  cases c1
  · refine dl_r (sem_move rfl rfl) ?_
    refine dl_r (sem_cmp rfl rfl rfl rfl) ?_
    refine dl_r (sem_pick rfl rfl rfl rfl) ?_
    refine dl_r (sem_assign rfl rfl) ?_
    refine dl_end ?_
    refine dw_ret ?_
    -- path f
    rw [far_f hb1]
    exact ⟨.inr rfl, (resL_tmp rfl resL_nil)⟩
  · refine dl_skip (sem_skip rfl) ?_
    refine dl_skip (sem_skip rfl) ?_
    refine dl_r (sem_pick rfl rfl rfl rfl) ?_
    refine dl_r (sem_assign rfl rfl) ?_
    refine dl_end ?_
    refine dw_ret ?_
    -- path t
    rw [far_t hb1]
    exact ⟨.inr rfl, (resL_tmp rfl resL_nil)⟩
theorem tIdx1_0 {x0 : Int} (z0 : far x0 = true) : Ok Try.prog 49 [.c (.s 1 ([.i .i64 x0])), .c (.f 42)] [.c (.i .i64 0)] := by
  refine Ok.of (by kernel_rfl) Try.func49 rfl rfl ?_
  rw [show Try.f49.ntmps = 19 from rfl, show Try.f49.results.toList = [.tmp 4] from rfl]
  refine dw_seq ?_
  -- region 0
  refine dw_region (by kernel_rfl) ?_
  refine dl_r (sem_assign rfl rfl) ?_
  refine dl_end ?_
  refine dw_seq ?_
  refine dw_seq ?_
  -- region 1
  refine dw_region (by kernel_rfl) ?_
  refine dl_r (sem_move rfl rfl) ?_
  refine dl_r (sem_len sl62 rfl rfl) ?_
  refine dl_r (sem_move rfl rfl) ?_
  refine dl_end ?_
  refine dw_block ?_
  refine dw_loop (ι := Nat) (fun i => match i with | _ => ⟨19, [(0, .v (.c (.s 1 ([.i .i64 x0])))), (1, .v (.c (.f 42))), (7, .v (.c (.i .i64 1))), (8, .v (.c (.i .i64 0))), (4, .v (.c (.i .i64 0)))], []⟩) (fun i => 0 - i) 0 (sub_of ⟨rfl, rfl, rfl, rfl, rfl, trivial⟩ trivial rfl) ?_
  intro i
  match i with
  | _ =>
    show Dw _ _ ⟨19, [(0, .v (.c (.s 1 ([.i .i64 x0])))), (1, .v (.c (.f 42))), (7, .v (.c (.i .i64 1))), (8, .v (.c (.i .i64 0))), (4, .v (.c (.i .i64 0)))], []⟩ _
    refine dw_seq ?_
    -- region 2
    refine dw_region (by kernel_rfl) ?_
    refine dl_r (sem_cmp rfl rfl rfl rfl) ?_
    refine dl_end ?_
    refine dw_seq ?_
    refine dw_true rfl ?_
    refine dw_skip ?_
    refine dw_seq ?_
    refine dw_block ?_
    refine dw_seq ?_
    -- region 3
    refine dw_region (by kernel_rfl) ?_
    refine dl_r (sem_move rfl rfl) ?_
    refine dl_r (sem_assign rfl rfl) ?_
    refine dl_end ?_
    refine dw_seq ?_
    -- region 4
    refine dw_region (by kernel_rfl) ?_
    refine dl_r (sem_move rfl rfl) ?_
    refine dl_r (sem_move rfl rfl) ?_
    refine dl_r (sem_move rfl rfl) ?_
    refine dl_r (sem_index sl62 rfl rfl (by decide) rfl rfl rfl) ?_
    refine dl_r (sem_loadq1 ty2 rfl rfl rfl) ?_
    refine dl_r (sem_call rfl rfl (rcastb tFar_ok z0) rfl) ?_
    refine dl_end ?_
    refine dw_true rfl ?_
    refine dw_seq ?_
    -- region 5
    refine dw_region (by kernel_rfl) ?_
    refine dl_r (sem_move rfl rfl) ?_
    refine dl_r (sem_assign rfl rfl) ?_
    refine dl_end ?_
    refine dw_ret ?_
    -- path L0
    exact ⟨.inr rfl, (resL_tmp rfl resL_nil)⟩
theorem tCnt1_0 {x0 : Int} (z0 : far x0 = true) : Ok Try.prog 41 [.c (.s 1 ([.i .i64 x0])), .c (.f 42)] [.c (.b true)] := by
  refine Ok.of (by kernel_rfl) Try.func41 rfl rfl ?_
  rw [show Try.f41.ntmps = 9 from rfl, show Try.f41.results.toList = [.tmp 4] from rfl]
  refine dw_seq ?_
  -- region 0
  refine dw_region (by kernel_rfl) ?_
  refine dl_r (sem_assign rfl rfl) ?_
  refine dl_end ?_
  refine dw_seq ?_
  -- region 1
  refine dw_region (by kernel_rfl) ?_
  refine dl_r (sem_move rfl rfl) ?_
  refine dl_r (sem_move rfl rfl) ?_
  refine dl_r (sem_call rfl rfl (tIdx1_0 z0) rfl) ?_
  refine dl_r (sem_cmp rfl rfl rfl rfl) ?_
  refine dl_r (sem_assign rfl rfl) ?_
  refine dl_end ?_
  refine dw_ret ?_
  -- path 
  exact ⟨.inr rfl, (resL_tmp rfl resL_nil)⟩
theorem tGrid1_0 {x0 : Int} (z0 : far x0 = true) : Ok Try.prog 26 [.c (.s 1 ([.i .i64 x0]))] [.c (.b false)] := by
  refine Ok.of (by kernel_rfl) Try.func26 rfl rfl ?_
  rw [show Try.f26.ntmps = 6 from rfl, show Try.f26.results.toList = [.tmp 2] from rfl]
  refine dw_seq ?_
  -- region 0
  refine dw_region (by kernel_rfl) ?_
  refine dl_r (sem_assign rfl rfl) ?_
  refine dl_end ?_
  refine dw_seq ?_
  -- region 1
  refine dw_region (by kernel_rfl) ?_
  refine dl_r (sem_move rfl rfl) ?_
  refine dl_r (sem_call rfl rfl (tCnt1_0 z0) rfl) ?_
  refine dl_r (sem_not rfl rfl) ?_
  refine dl_r (sem_assign rfl rfl) ?_
  refine dl_end ?_
  refine dw_ret ?_
  -- path 
  exact ⟨.inr rfl, (resL_tmp rfl resL_nil)⟩
theorem tIdx1_1 {x0 : Int} (z0 : far x0 = false) : Ok Try.prog 49 [.c (.s 1 ([.i .i64 x0])), .c (.f 42)] [.c (.i .i64 (-1))] := by
  refine Ok.of (by kernel_rfl) Try.func49 rfl rfl ?_
  rw [show Try.f49.ntmps = 19 from rfl, show Try.f49.results.toList = [.tmp 4] from rfl]
  refine dw_seq ?_
  -- region 0
  refine dw_region (by kernel_rfl) ?_
  refine dl_r (sem_assign rfl rfl) ?_
  refine dl_end ?_
  refine dw_seq ?_
  refine dw_seq ?_
  -- region 1
  refine dw_region (by kernel_rfl) ?_
  refine dl_r (sem_move rfl rfl) ?_
  refine dl_r (sem_len sl62 rfl rfl) ?_
  refine dl_r (sem_move rfl rfl) ?_
  refine dl_end ?_
  refine dw_block ?_
  refine dw_loop (ι := Nat) (fun i => match i with | 0 => ⟨19, [(0, .v (.c (.s 1 ([.i .i64 x0])))), (1, .v (.c (.f 42))), (7, .v (.c (.i .i64 1))), (8, .v (.c (.i .i64 0))), (4, .v (.c (.i .i64 0)))], []⟩ | _ + 1 => ⟨19, [(0, .v (.c (.s 1 ([.i .i64 x0])))), (1, .v (.c (.f 42))), (7, .v (.c (.i .i64 1))), (8, .v (.c (.i .i64 1))), (4, .v (.c (.i .i64 0)))], []⟩) (fun i => 1 - i) 0 (sub_of ⟨rfl, rfl, rfl, rfl, rfl, trivial⟩ trivial rfl) ?_
  intro i
  match i with
  | 0 =>
    show Dw _ _ ⟨19, [(0, .v (.c (.s 1 ([.i .i64 x0])))), (1, .v (.c (.f 42))), (7, .v (.c (.i .i64 1))), (8, .v (.c (.i .i64 0))), (4, .v (.c (.i .i64 0)))], []⟩ _
    refine dw_seq ?_
    -- region 2
    refine dw_region (by kernel_rfl) ?_
    refine dl_r (sem_cmp rfl rfl rfl rfl) ?_
    refine dl_end ?_
    refine dw_seq ?_
    refine dw_true rfl ?_
    refine dw_skip ?_
    refine dw_seq ?_
    refine dw_block ?_
    refine dw_seq ?_
    -- region 3
    refine dw_region (by kernel_rfl) ?_
    refine dl_r (sem_move rfl rfl) ?_
    refine dl_r (sem_assign rfl rfl) ?_
    refine dl_end ?_
    refine dw_seq ?_
    -- region 4
    refine dw_region (by kernel_rfl) ?_
    refine dl_r (sem_move rfl rfl) ?_
    refine dl_r (sem_move rfl rfl) ?_
    refine dl_r (sem_move rfl rfl) ?_
    refine dl_r (sem_index sl62 rfl rfl (by decide) rfl rfl rfl) ?_
    refine dl_r (sem_loadq1 ty2 rfl rfl rfl) ?_
    refine dl_r (sem_call rfl rfl (rcastb tFar_ok z0) rfl) ?_
    refine dl_end ?_
    refine dw_false rfl ?_
    refine dw_skip ?_
    -- region 6
    refine dw_region (by kernel_rfl) ?_
    refine dl_r (sem_ari (r := 1) rfl rfl rfl rfl) ?_
    refine dl_r (sem_move rfl rfl) ?_
    refine dl_end ?_
    exact ⟨1, sub_of ⟨rfl, rfl, rfl, rfl, rfl, trivial⟩ trivial rfl, by show 1 - 1 < 1 - 0; decide⟩
  | z + 1 =>
    show Dw _ _ ⟨19, [(0, .v (.c (.s 1 ([.i .i64 x0])))), (1, .v (.c (.f 42))), (7, .v (.c (.i .i64 1))), (8, .v (.c (.i .i64 1))), (4, .v (.c (.i .i64 0)))], []⟩ _
    refine dw_seq ?_
    -- region 2
    refine dw_region (by kernel_rfl) ?_
    refine dl_r (sem_cmp rfl rfl rfl rfl) ?_
    refine dl_end ?_
    refine dw_seq ?_
    refine dw_false rfl ?_
    refine dw_exit ?_
    refine dw_seq ?_
    -- region 7
    refine dw_region (by kernel_rfl) ?_
    refine dl_r (sem_assign rfl rfl) ?_
    refine dl_end ?_
    refine dw_ret ?_
    -- path L1
    exact ⟨.inr rfl, (resL_tmp rfl resL_nil)⟩
theorem tCnt1_1 {x0 : Int} (z0 : far x0 = false) : Ok Try.prog 41 [.c (.s 1 ([.i .i64 x0])), .c (.f 42)] [.c (.b false)] := by
  refine Ok.of (by kernel_rfl) Try.func41 rfl rfl ?_
  rw [show Try.f41.ntmps = 9 from rfl, show Try.f41.results.toList = [.tmp 4] from rfl]
  refine dw_seq ?_
  -- region 0
  refine dw_region (by kernel_rfl) ?_
  refine dl_r (sem_assign rfl rfl) ?_
  refine dl_end ?_
  refine dw_seq ?_
  -- region 1
  refine dw_region (by kernel_rfl) ?_
  refine dl_r (sem_move rfl rfl) ?_
  refine dl_r (sem_move rfl rfl) ?_
  refine dl_r (sem_call rfl rfl (tIdx1_1 z0) rfl) ?_
  refine dl_r (sem_cmp rfl rfl rfl rfl) ?_
  refine dl_r (sem_assign rfl rfl) ?_
  refine dl_end ?_
  refine dw_ret ?_
  -- path 
  exact ⟨.inr rfl, (resL_tmp rfl resL_nil)⟩
theorem tGrid1_1 {x0 : Int} (z0 : far x0 = false) : Ok Try.prog 26 [.c (.s 1 ([.i .i64 x0]))] [.c (.b true)] := by
  refine Ok.of (by kernel_rfl) Try.func26 rfl rfl ?_
  rw [show Try.f26.ntmps = 6 from rfl, show Try.f26.results.toList = [.tmp 2] from rfl]
  refine dw_seq ?_
  -- region 0
  refine dw_region (by kernel_rfl) ?_
  refine dl_r (sem_assign rfl rfl) ?_
  refine dl_end ?_
  refine dw_seq ?_
  -- region 1
  refine dw_region (by kernel_rfl) ?_
  refine dl_r (sem_move rfl rfl) ?_
  refine dl_r (sem_call rfl rfl (tCnt1_1 z0) rfl) ?_
  refine dl_r (sem_not rfl rfl) ?_
  refine dl_r (sem_assign rfl rfl) ?_
  refine dl_end ?_
  refine dw_ret ?_
  -- path 
  exact ⟨.inr rfl, (resL_tmp rfl resL_nil)⟩
theorem tGrid1 {x0 : Int} : Ok Try.prog 26 [.c (.s 1 ([.i .i64 x0]))] [.c (.b (!far x0))] := by
  cases z0 : far x0 with
  | true => exact rcastb (tGrid1_0 z0) (by simp)
  | false =>
  exact rcastb (tGrid1_1 z0) (by simp)
theorem tIdx2_0 {x0 x1 : Int} (z0 : far x0 = true) : Ok Try.prog 49 [.c (.s 2 ([.i .i64 x0] ++ [.i .i64 x1])), .c (.f 42)] [.c (.i .i64 0)] := by
  refine Ok.of (by kernel_rfl) Try.func49 rfl rfl ?_
  rw [show Try.f49.ntmps = 19 from rfl, show Try.f49.results.toList = [.tmp 4] from rfl]
  refine dw_seq ?_
  -- region 0
  refine dw_region (by kernel_rfl) ?_
  refine dl_r (sem_assign rfl rfl) ?_
  refine dl_end ?_
  refine dw_seq ?_
  refine dw_seq ?_
  -- region 1
  refine dw_region (by kernel_rfl) ?_
  refine dl_r (sem_move rfl rfl) ?_
  refine dl_r (sem_len sl62 rfl rfl) ?_
  refine dl_r (sem_move rfl rfl) ?_
  refine dl_end ?_
  refine dw_block ?_
  refine dw_loop (ι := Nat) (fun i => match i with | _ => ⟨19, [(0, .v (.c (.s 2 ([.i .i64 x0] ++ [.i .i64 x1])))), (1, .v (.c (.f 42))), (7, .v (.c (.i .i64 2))), (8, .v (.c (.i .i64 0))), (4, .v (.c (.i .i64 0)))], []⟩) (fun i => 0 - i) 0 (sub_of ⟨rfl, rfl, rfl, rfl, rfl, trivial⟩ trivial rfl) ?_
  intro i
  match i with
  | _ =>
    show Dw _ _ ⟨19, [(0, .v (.c (.s 2 ([.i .i64 x0] ++ [.i .i64 x1])))), (1, .v (.c (.f 42))), (7, .v (.c (.i .i64 2))), (8, .v (.c (.i .i64 0))), (4, .v (.c (.i .i64 0)))], []⟩ _
    refine dw_seq ?_
    -- region 2
    refine dw_region (by kernel_rfl) ?_
    refine dl_r (sem_cmp rfl rfl rfl rfl) ?_
    refine dl_end ?_
    refine dw_seq ?_
    refine dw_true rfl ?_
    refine dw_skip ?_
    refine dw_seq ?_
    refine dw_block ?_
    refine dw_seq ?_
    -- region 3
    refine dw_region (by kernel_rfl) ?_
    refine dl_r (sem_move rfl rfl) ?_
    refine dl_r (sem_assign rfl rfl) ?_
    refine dl_end ?_
    refine dw_seq ?_
    -- region 4
    refine dw_region (by kernel_rfl) ?_
    refine dl_r (sem_move rfl rfl) ?_
    refine dl_r (sem_move rfl rfl) ?_
    refine dl_r (sem_move rfl rfl) ?_
    refine dl_r (sem_index sl62 rfl rfl (by decide) rfl rfl rfl) ?_
    refine dl_r (sem_loadq1 ty2 rfl rfl rfl) ?_
    refine dl_r (sem_call rfl rfl (rcastb tFar_ok z0) rfl) ?_
    refine dl_end ?_
    refine dw_true rfl ?_
    refine dw_seq ?_
    -- region 5
    refine dw_region (by kernel_rfl) ?_
    refine dl_r (sem_move rfl rfl) ?_
    refine dl_r (sem_assign rfl rfl) ?_
    refine dl_end ?_
    refine dw_ret ?_
    -- path L0
    exact ⟨.inr rfl, (resL_tmp rfl resL_nil)⟩
theorem tCnt2_0 {x0 x1 : Int} (z0 : far x0 = true) : Ok Try.prog 41 [.c (.s 2 ([.i .i64 x0] ++ [.i .i64 x1])), .c (.f 42)] [.c (.b true)] := by
  refine Ok.of (by kernel_rfl) Try.func41 rfl rfl ?_
  rw [show Try.f41.ntmps = 9 from rfl, show Try.f41.results.toList = [.tmp 4] from rfl]
  refine dw_seq ?_
  -- region 0
  refine dw_region (by kernel_rfl) ?_
  refine dl_r (sem_assign rfl rfl) ?_
  refine dl_end ?_
  refine dw_seq ?_
  -- region 1
  refine dw_region (by kernel_rfl) ?_
  refine dl_r (sem_move rfl rfl) ?_
  refine dl_r (sem_move rfl rfl) ?_
  refine dl_r (sem_call rfl rfl (tIdx2_0 z0) rfl) ?_
  refine dl_r (sem_cmp rfl rfl rfl rfl) ?_
  refine dl_r (sem_assign rfl rfl) ?_
  refine dl_end ?_
  refine dw_ret ?_
  -- path 
  exact ⟨.inr rfl, (resL_tmp rfl resL_nil)⟩
theorem tGrid2_0 {x0 x1 : Int} (z0 : far x0 = true) : Ok Try.prog 26 [.c (.s 2 ([.i .i64 x0] ++ [.i .i64 x1]))] [.c (.b false)] := by
  refine Ok.of (by kernel_rfl) Try.func26 rfl rfl ?_
  rw [show Try.f26.ntmps = 6 from rfl, show Try.f26.results.toList = [.tmp 2] from rfl]
  refine dw_seq ?_
  -- region 0
  refine dw_region (by kernel_rfl) ?_
  refine dl_r (sem_assign rfl rfl) ?_
  refine dl_end ?_
  refine dw_seq ?_
  -- region 1
  refine dw_region (by kernel_rfl) ?_
  refine dl_r (sem_move rfl rfl) ?_
  refine dl_r (sem_call rfl rfl (tCnt2_0 z0) rfl) ?_
  refine dl_r (sem_not rfl rfl) ?_
  refine dl_r (sem_assign rfl rfl) ?_
  refine dl_end ?_
  refine dw_ret ?_
  -- path 
  exact ⟨.inr rfl, (resL_tmp rfl resL_nil)⟩
theorem tIdx2_1 {x0 x1 : Int} (z0 : far x0 = false) (z1 : far x1 = true) : Ok Try.prog 49 [.c (.s 2 ([.i .i64 x0] ++ [.i .i64 x1])), .c (.f 42)] [.c (.i .i64 1)] := by
  refine Ok.of (by kernel_rfl) Try.func49 rfl rfl ?_
  rw [show Try.f49.ntmps = 19 from rfl, show Try.f49.results.toList = [.tmp 4] from rfl]
  refine dw_seq ?_
  -- region 0
  refine dw_region (by kernel_rfl) ?_
  refine dl_r (sem_assign rfl rfl) ?_
  refine dl_end ?_
  refine dw_seq ?_
  refine dw_seq ?_
  -- region 1
  refine dw_region (by kernel_rfl) ?_
  refine dl_r (sem_move rfl rfl) ?_
  refine dl_r (sem_len sl62 rfl rfl) ?_
  refine dl_r (sem_move rfl rfl) ?_
  refine dl_end ?_
  refine dw_block ?_
  refine dw_loop (ι := Nat) (fun i => match i with | 0 => ⟨19, [(0, .v (.c (.s 2 ([.i .i64 x0] ++ [.i .i64 x1])))), (1, .v (.c (.f 42))), (7, .v (.c (.i .i64 2))), (8, .v (.c (.i .i64 0))), (4, .v (.c (.i .i64 0)))], []⟩ | _ + 1 => ⟨19, [(0, .v (.c (.s 2 ([.i .i64 x0] ++ [.i .i64 x1])))), (1, .v (.c (.f 42))), (7, .v (.c (.i .i64 2))), (8, .v (.c (.i .i64 1))), (4, .v (.c (.i .i64 0)))], []⟩) (fun i => 1 - i) 0 (sub_of ⟨rfl, rfl, rfl, rfl, rfl, trivial⟩ trivial rfl) ?_
  intro i
  match i with
  | 0 =>
    show Dw _ _ ⟨19, [(0, .v (.c (.s 2 ([.i .i64 x0] ++ [.i .i64 x1])))), (1, .v (.c (.f 42))), (7, .v (.c (.i .i64 2))), (8, .v (.c (.i .i64 0))), (4, .v (.c (.i .i64 0)))], []⟩ _
    refine dw_seq ?_
    -- region 2
    refine dw_region (by kernel_rfl) ?_
    refine dl_r (sem_cmp rfl rfl rfl rfl) ?_
    refine dl_end ?_
    refine dw_seq ?_
    refine dw_true rfl ?_
    refine dw_skip ?_
    refine dw_seq ?_
    refine dw_block ?_
    refine dw_seq ?_
    -- region 3
    refine dw_region (by kernel_rfl) ?_
    refine dl_r (sem_move rfl rfl) ?_
    refine dl_r (sem_assign rfl rfl) ?_
    refine dl_end ?_
    refine dw_seq ?_
    -- region 4
    refine dw_region (by kernel_rfl) ?_
    refine dl_r (sem_move rfl rfl) ?_
    refine dl_r (sem_move rfl rfl) ?_
    refine dl_r (sem_move rfl rfl) ?_
    refine dl_r (sem_index sl62 rfl rfl (by decide) rfl rfl rfl) ?_
    refine dl_r (sem_loadq1 ty2 rfl rfl rfl) ?_
    refine dl_r (sem_call rfl rfl (rcastb tFar_ok z0) rfl) ?_
    refine dl_end ?_
    refine dw_false rfl ?_
    refine dw_skip ?_
    -- region 6
    refine dw_region (by kernel_rfl) ?_
    refine dl_r (sem_ari (r := 1) rfl rfl rfl rfl) ?_
    refine dl_r (sem_move rfl rfl) ?_
    refine dl_end ?_
    exact ⟨1, sub_of ⟨rfl, rfl, rfl, rfl, rfl, trivial⟩ trivial rfl, by show 1 - 1 < 1 - 0; decide⟩
  | z + 1 =>
    show Dw _ _ ⟨19, [(0, .v (.c (.s 2 ([.i .i64 x0] ++ [.i .i64 x1])))), (1, .v (.c (.f 42))), (7, .v (.c (.i .i64 2))), (8, .v (.c (.i .i64 1))), (4, .v (.c (.i .i64 0)))], []⟩ _
    refine dw_seq ?_
    -- region 2
    refine dw_region (by kernel_rfl) ?_
    refine dl_r (sem_cmp rfl rfl rfl rfl) ?_
    refine dl_end ?_
    refine dw_seq ?_
    refine dw_true rfl ?_
    refine dw_skip ?_
    refine dw_seq ?_
    refine dw_block ?_
    refine dw_seq ?_
    -- region 3
    refine dw_region (by kernel_rfl) ?_
    refine dl_r (sem_move rfl rfl) ?_
    refine dl_r (sem_assign rfl rfl) ?_
    refine dl_end ?_
    refine dw_seq ?_
    -- region 4
    refine dw_region (by kernel_rfl) ?_
    refine dl_r (sem_move rfl rfl) ?_
    refine dl_r (sem_move rfl rfl) ?_
    refine dl_r (sem_move rfl rfl) ?_
    refine dl_r (sem_index sl62 rfl rfl (by decide) rfl rfl rfl) ?_
    refine dl_r (sem_loadq1 ty2 rfl rfl rfl) ?_
    refine dl_r (sem_call rfl rfl (rcastb tFar_ok z1) rfl) ?_
    refine dl_end ?_
    refine dw_true rfl ?_
    refine dw_seq ?_
    -- region 5
    refine dw_region (by kernel_rfl) ?_
    refine dl_r (sem_move rfl rfl) ?_
    refine dl_r (sem_assign rfl rfl) ?_
    refine dl_end ?_
    refine dw_ret ?_
    -- path L1
    exact ⟨.inr rfl, (resL_tmp rfl resL_nil)⟩
theorem tCnt2_1 {x0 x1 : Int} (z0 : far x0 = false) (z1 : far x1 = true) : Ok Try.prog 41 [.c (.s 2 ([.i .i64 x0] ++ [.i .i64 x1])), .c (.f 42)] [.c (.b true)] := by
  refine Ok.of (by kernel_rfl) Try.func41 rfl rfl ?_
  rw [show Try.f41.ntmps = 9 from rfl, show Try.f41.results.toList = [.tmp 4] from rfl]
  refine dw_seq ?_
  -- region 0
  refine dw_region (by kernel_rfl) ?_
  refine dl_r (sem_assign rfl rfl) ?_
  refine dl_end ?_
  refine dw_seq ?_
  -- region 1
  refine dw_region (by kernel_rfl) ?_
  refine dl_r (sem_move rfl rfl) ?_
  refine dl_r (sem_move rfl rfl) ?_
  refine dl_r (sem_call rfl rfl (tIdx2_1 z0 z1) rfl) ?_
  refine dl_r (sem_cmp rfl rfl rfl rfl) ?_
  refine dl_r (sem_assign rfl rfl) ?_
  refine dl_end ?_
  refine dw_ret ?_
  -- path 
  exact ⟨.inr rfl, (resL_tmp rfl resL_nil)⟩
theorem tGrid2_1 {x0 x1 : Int} (z0 : far x0 = false) (z1 : far x1 = true) : Ok Try.prog 26 [.c (.s 2 ([.i .i64 x0] ++ [.i .i64 x1]))] [.c (.b false)] := by
  refine Ok.of (by kernel_rfl) Try.func26 rfl rfl ?_
  rw [show Try.f26.ntmps = 6 from rfl, show Try.f26.results.toList = [.tmp 2] from rfl]
  refine dw_seq ?_
  -- region 0
  refine dw_region (by kernel_rfl) ?_
  refine dl_r (sem_assign rfl rfl) ?_
  refine dl_end ?_
  refine dw_seq ?_
  -- region 1
  refine dw_region (by kernel_rfl) ?_
  refine dl_r (sem_move rfl rfl) ?_
  refine dl_r (sem_call rfl rfl (tCnt2_1 z0 z1) rfl) ?_
  refine dl_r (sem_not rfl rfl) ?_
  refine dl_r (sem_assign rfl rfl) ?_
  refine dl_end ?_
  refine dw_ret ?_
  -- path 
  exact ⟨.inr rfl, (resL_tmp rfl resL_nil)⟩
theorem tIdx2_2 {x0 x1 : Int} (z0 : far x0 = false) (z1 : far x1 = false) : Ok Try.prog 49 [.c (.s 2 ([.i .i64 x0] ++ [.i .i64 x1])), .c (.f 42)] [.c (.i .i64 (-1))] := by
  refine Ok.of (by kernel_rfl) Try.func49 rfl rfl ?_
  rw [show Try.f49.ntmps = 19 from rfl, show Try.f49.results.toList = [.tmp 4] from rfl]
  refine dw_seq ?_
  -- region 0
  refine dw_region (by kernel_rfl) ?_
  refine dl_r (sem_assign rfl rfl) ?_
  refine dl_end ?_
  refine dw_seq ?_
  refine dw_seq ?_
  -- region 1
  refine dw_region (by kernel_rfl) ?_
  refine dl_r (sem_move rfl rfl) ?_
  refine dl_r (sem_len sl62 rfl rfl) ?_
  refine dl_r (sem_move rfl rfl) ?_
  refine dl_end ?_
  refine dw_block ?_
  refine dw_loop (ι := Nat) (fun i => match i with | 0 => ⟨19, [(0, .v (.c (.s 2 ([.i .i64 x0] ++ [.i .i64 x1])))), (1, .v (.c (.f 42))), (7, .v (.c (.i .i64 2))), (8, .v (.c (.i .i64 0))), (4, .v (.c (.i .i64 0)))], []⟩ | 1 => ⟨19, [(0, .v (.c (.s 2 ([.i .i64 x0] ++ [.i .i64 x1])))), (1, .v (.c (.f 42))), (7, .v (.c (.i .i64 2))), (8, .v (.c (.i .i64 1))), (4, .v (.c (.i .i64 0)))], []⟩ | _ + 2 => ⟨19, [(0, .v (.c (.s 2 ([.i .i64 x0] ++ [.i .i64 x1])))), (1, .v (.c (.f 42))), (7, .v (.c (.i .i64 2))), (8, .v (.c (.i .i64 2))), (4, .v (.c (.i .i64 0)))], []⟩) (fun i => 2 - i) 0 (sub_of ⟨rfl, rfl, rfl, rfl, rfl, trivial⟩ trivial rfl) ?_
  intro i
  match i with
  | 0 =>
    show Dw _ _ ⟨19, [(0, .v (.c (.s 2 ([.i .i64 x0] ++ [.i .i64 x1])))), (1, .v (.c (.f 42))), (7, .v (.c (.i .i64 2))), (8, .v (.c (.i .i64 0))), (4, .v (.c (.i .i64 0)))], []⟩ _
    refine dw_seq ?_
    -- region 2
    refine dw_region (by kernel_rfl) ?_
    refine dl_r (sem_cmp rfl rfl rfl rfl) ?_
    refine dl_end ?_
    refine dw_seq ?_
    refine dw_true rfl ?_
    refine dw_skip ?_
    refine dw_seq ?_
    refine dw_block ?_
    refine dw_seq ?_
    -- region 3
    refine dw_region (by kernel_rfl) ?_
    refine dl_r (sem_move rfl rfl) ?_
    refine dl_r (sem_assign rfl rfl) ?_
    refine dl_end ?_
    refine dw_seq ?_
    -- region 4
    refine dw_region (by kernel_rfl) ?_
    refine dl_r (sem_move rfl rfl) ?_
    refine dl_r (sem_move rfl rfl) ?_
    refine dl_r (sem_move rfl rfl) ?_
    refine dl_r (sem_index sl62 rfl rfl (by decide) rfl rfl rfl) ?_
    refine dl_r (sem_loadq1 ty2 rfl rfl rfl) ?_
    refine dl_r (sem_call rfl rfl (rcastb tFar_ok z0) rfl) ?_
    refine dl_end ?_
    refine dw_false rfl ?_
    refine dw_skip ?_
    -- region 6
    refine dw_region (by kernel_rfl) ?_
    refine dl_r (sem_ari (r := 1) rfl rfl rfl rfl) ?_
    refine dl_r (sem_move rfl rfl) ?_
    refine dl_end ?_
    exact ⟨1, sub_of ⟨rfl, rfl, rfl, rfl, rfl, trivial⟩ trivial rfl, by show 2 - 1 < 2 - 0; decide⟩
  | 1 =>
    show Dw _ _ ⟨19, [(0, .v (.c (.s 2 ([.i .i64 x0] ++ [.i .i64 x1])))), (1, .v (.c (.f 42))), (7, .v (.c (.i .i64 2))), (8, .v (.c (.i .i64 1))), (4, .v (.c (.i .i64 0)))], []⟩ _
    refine dw_seq ?_
    -- region 2
    refine dw_region (by kernel_rfl) ?_
    refine dl_r (sem_cmp rfl rfl rfl rfl) ?_
    refine dl_end ?_
    refine dw_seq ?_
    refine dw_true rfl ?_
    refine dw_skip ?_
    refine dw_seq ?_
    refine dw_block ?_
    refine dw_seq ?_
    -- region 3
    refine dw_region (by kernel_rfl) ?_
    refine dl_r (sem_move rfl rfl) ?_
    refine dl_r (sem_assign rfl rfl) ?_
    refine dl_end ?_
    refine dw_seq ?_
    -- region 4
    refine dw_region (by kernel_rfl) ?_
    refine dl_r (sem_move rfl rfl) ?_
    refine dl_r (sem_move rfl rfl) ?_
    refine dl_r (sem_move rfl rfl) ?_
    refine dl_r (sem_index sl62 rfl rfl (by decide) rfl rfl rfl) ?_
    refine dl_r (sem_loadq1 ty2 rfl rfl rfl) ?_
    refine dl_r (sem_call rfl rfl (rcastb tFar_ok z1) rfl) ?_
    refine dl_end ?_
    refine dw_false rfl ?_
    refine dw_skip ?_
    -- region 6
    refine dw_region (by kernel_rfl) ?_
    refine dl_r (sem_ari (r := 2) rfl rfl rfl rfl) ?_
    refine dl_r (sem_move rfl rfl) ?_
    refine dl_end ?_
    exact ⟨2, sub_of ⟨rfl, rfl, rfl, rfl, rfl, trivial⟩ trivial rfl, by show 2 - 2 < 2 - 1; decide⟩
  | z + 2 =>
    show Dw _ _ ⟨19, [(0, .v (.c (.s 2 ([.i .i64 x0] ++ [.i .i64 x1])))), (1, .v (.c (.f 42))), (7, .v (.c (.i .i64 2))), (8, .v (.c (.i .i64 2))), (4, .v (.c (.i .i64 0)))], []⟩ _
    refine dw_seq ?_
    -- region 2
    refine dw_region (by kernel_rfl) ?_
    refine dl_r (sem_cmp rfl rfl rfl rfl) ?_
    refine dl_end ?_
    refine dw_seq ?_
    refine dw_false rfl ?_
    refine dw_exit ?_
    refine dw_seq ?_
    -- region 7
    refine dw_region (by kernel_rfl) ?_
    refine dl_r (sem_assign rfl rfl) ?_
    refine dl_end ?_
    refine dw_ret ?_
    -- path L2
    exact ⟨.inr rfl, (resL_tmp rfl resL_nil)⟩
theorem tCnt2_2 {x0 x1 : Int} (z0 : far x0 = false) (z1 : far x1 = false) : Ok Try.prog 41 [.c (.s 2 ([.i .i64 x0] ++ [.i .i64 x1])), .c (.f 42)] [.c (.b false)] := by
  refine Ok.of (by kernel_rfl) Try.func41 rfl rfl ?_
  rw [show Try.f41.ntmps = 9 from rfl, show Try.f41.results.toList = [.tmp 4] from rfl]
  refine dw_seq ?_
  -- region 0
  refine dw_region (by kernel_rfl) ?_
  refine dl_r (sem_assign rfl rfl) ?_
  refine dl_end ?_
  refine dw_seq ?_
  -- region 1
  refine dw_region (by kernel_rfl) ?_
  refine dl_r (sem_move rfl rfl) ?_
  refine dl_r (sem_move rfl rfl) ?_
  refine dl_r (sem_call rfl rfl (tIdx2_2 z0 z1) rfl) ?_
  refine dl_r (sem_cmp rfl rfl rfl rfl) ?_
  refine dl_r (sem_assign rfl rfl) ?_
  refine dl_end ?_
  refine dw_ret ?_
  -- path 
  exact ⟨.inr rfl, (resL_tmp rfl resL_nil)⟩
theorem tGrid2_2 {x0 x1 : Int} (z0 : far x0 = false) (z1 : far x1 = false) : Ok Try.prog 26 [.c (.s 2 ([.i .i64 x0] ++ [.i .i64 x1]))] [.c (.b true)] := by
  refine Ok.of (by kernel_rfl) Try.func26 rfl rfl ?_
  rw [show Try.f26.ntmps = 6 from rfl, show Try.f26.results.toList = [.tmp 2] from rfl]
  refine dw_seq ?_
  -- region 0
  refine dw_region (by kernel_rfl) ?_
  refine dl_r (sem_assign rfl rfl) ?_
  refine dl_end ?_
  refine dw_seq ?_
  -- region 1
  refine dw_region (by kernel_rfl) ?_
  refine dl_r (sem_move rfl rfl) ?_
  refine dl_r (sem_call rfl rfl (tCnt2_2 z0 z1) rfl) ?_
  refine dl_r (sem_not rfl rfl) ?_
  refine dl_r (sem_assign rfl rfl) ?_
  refine dl_end ?_
  refine dw_ret ?_
  -- path 
  exact ⟨.inr rfl, (resL_tmp rfl resL_nil)⟩
theorem tGrid2 {x0 x1 : Int} : Ok Try.prog 26 [.c (.s 2 ([.i .i64 x0] ++ [.i .i64 x1]))] [.c (.b (!(far x0 || far x1)))] := by
  cases z0 : far x0 with
  | true => exact rcastb (tGrid2_0 z0) (by simp)
  | false =>
  cases z1 : far x1 with
  | true => exact rcastb (tGrid2_1 z0 z1) (by simp)
  | false =>
  exact rcastb (tGrid2_2 z0 z1) (by simp)
theorem tIdx4_0 {x0 x1 x2 x3 : Int} (z0 : far x0 = true) : Ok Try.prog 49 [.c (.s 4 ([.i .i64 x0] ++ [.i .i64 x1] ++ [.i .i64 x2] ++ [.i .i64 x3])), .c (.f 42)] [.c (.i .i64 0)] := by
  refine Ok.of (by kernel_rfl) Try.func49 rfl rfl ?_
  rw [show Try.f49.ntmps = 19 from rfl, show Try.f49.results.toList = [.tmp 4] from rfl]
  refine dw_seq ?_
  -- region 0
  refine dw_region (by kernel_rfl) ?_
  refine dl_r (sem_assign rfl rfl) ?_
  refine dl_end ?_
  refine dw_seq ?_
  refine dw_seq ?_
  -- region 1
  refine dw_region (by kernel_rfl) ?_
  refine dl_r (sem_move rfl rfl) ?_
  refine dl_r (sem_len sl62 rfl rfl) ?_
  refine dl_r (sem_move rfl rfl) ?_
  refine dl_end ?_
  refine dw_block ?_
  refine dw_loop (ι := Nat) (fun i => match i with | _ => ⟨19, [(0, .v (.c (.s 4 ([.i .i64 x0] ++ [.i .i64 x1] ++ [.i .i64 x2] ++ [.i .i64 x3])))), (1, .v (.c (.f 42))), (7, .v (.c (.i .i64 4))), (8, .v (.c (.i .i64 0))), (4, .v (.c (.i .i64 0)))], []⟩) (fun i => 0 - i) 0 (sub_of ⟨rfl, rfl, rfl, rfl, rfl, trivial⟩ trivial rfl) ?_
  intro i
  match i with
  | _ =>
    show Dw _ _ ⟨19, [(0, .v (.c (.s 4 ([.i .i64 x0] ++ [.i .i64 x1] ++ [.i .i64 x2] ++ [.i .i64 x3])))), (1, .v (.c (.f 42))), (7, .v (.c (.i .i64 4))), (8, .v (.c (.i .i64 0))), (4, .v (.c (.i .i64 0)))], []⟩ _
    refine dw_seq ?_
    -- region 2
    refine dw_region (by kernel_rfl) ?_
    refine dl_r (sem_cmp rfl rfl rfl rfl) ?_
    refine dl_end ?_
    refine dw_seq ?_
    refine dw_true rfl ?_
    refine dw_skip ?_
    refine dw_seq ?_
    refine dw_block ?_
    refine dw_seq ?_
    -- region 3
    refine dw_region (by kernel_rfl) ?_
    refine dl_r (sem_move rfl rfl) ?_
    refine dl_r (sem_assign rfl rfl) ?_
    refine dl_end ?_
    refine dw_seq ?_
    -- region 4
    refine dw_region (by kernel_rfl) ?_
    refine dl_r (sem_move rfl rfl) ?_
    refine dl_r (sem_move rfl rfl) ?_
    refine dl_r (sem_move rfl rfl) ?_
    refine dl_r (sem_index sl62 rfl rfl (by decide) rfl rfl rfl) ?_
    refine dl_r (sem_loadq1 ty2 rfl rfl rfl) ?_
    refine dl_r (sem_call rfl rfl (rcastb tFar_ok z0) rfl) ?_
    refine dl_end ?_
    refine dw_true rfl ?_
    refine dw_seq ?_
    -- region 5
    refine dw_region (by kernel_rfl) ?_
    refine dl_r (sem_move rfl rfl) ?_
    refine dl_r (sem_assign rfl rfl) ?_
    refine dl_end ?_
    refine dw_ret ?_
    -- path L0
    exact ⟨.inr rfl, (resL_tmp rfl resL_nil)⟩
theorem tCnt4_0 {x0 x1 x2 x3 : Int} (z0 : far x0 = true) : Ok Try.prog 41 [.c (.s 4 ([.i .i64 x0] ++ [.i .i64 x1] ++ [.i .i64 x2] ++ [.i .i64 x3])), .c (.f 42)] [.c (.b true)] := by
  refine Ok.of (by kernel_rfl) Try.func41 rfl rfl ?_
  rw [show Try.f41.ntmps = 9 from rfl, show Try.f41.results.toList = [.tmp 4] from rfl]
  refine dw_seq ?_
  -- region 0
  refine dw_region (by kernel_rfl) ?_
  refine dl_r (sem_assign rfl rfl) ?_
  refine dl_end ?_
  refine dw_seq ?_
  -- region 1
  refine dw_region (by kernel_rfl) ?_
  refine dl_r (sem_move rfl rfl) ?_
  refine dl_r (sem_move rfl rfl) ?_
  refine dl_r (sem_call rfl rfl (tIdx4_0 z0) rfl) ?_
  refine dl_r (sem_cmp rfl rfl rfl rfl) ?_
  refine dl_r (sem_assign rfl rfl) ?_
  refine dl_end ?_
  refine dw_ret ?_
  -- path 
  exact ⟨.inr rfl, (resL_tmp rfl resL_nil)⟩
theorem tGrid4_0 {x0 x1 x2 x3 : Int} (z0 : far x0 = true) : Ok Try.prog 26 [.c (.s 4 ([.i .i64 x0] ++ [.i .i64 x1] ++ [.i .i64 x2] ++ [.i .i64 x3]))] [.c (.b false)] := by
  refine Ok.of (by kernel_rfl) Try.func26 rfl rfl ?_
  rw [show Try.f26.ntmps = 6 from rfl, show Try.f26.results.toList = [.tmp 2] from rfl]
  refine dw_seq ?_
  -- region 0
  refine dw_region (by kernel_rfl) ?_
  refine dl_r (sem_assign rfl rfl) ?_
  refine dl_end ?_
  refine dw_seq ?_
  -- region 1
  refine dw_region (by kernel_rfl) ?_
  refine dl_r (sem_move rfl rfl) ?_
  refine dl_r (sem_call rfl rfl (tCnt4_0 z0) rfl) ?_
  refine dl_r (sem_not rfl rfl) ?_
  refine dl_r (sem_assign rfl rfl) ?_
  refine dl_end ?_
  refine dw_ret ?_
  -- path 
  exact ⟨.inr rfl, (resL_tmp rfl resL_nil)⟩
theorem tIdx4_1 {x0 x1 x2 x3 : Int} (z0 : far x0 = false) (z1 : far x1 = true) : Ok Try.prog 49 [.c (.s 4 ([.i .i64 x0] ++ [.i .i64 x1] ++ [.i .i64 x2] ++ [.i .i64 x3])), .c (.f 42)] [.c (.i .i64 1)] := by
  refine Ok.of (by kernel_rfl) Try.func49 rfl rfl ?_
  rw [show Try.f49.ntmps = 19 from rfl, show Try.f49.results.toList = [.tmp 4] from rfl]
  refine dw_seq ?_
  -- region 0
  refine dw_region (by kernel_rfl) ?_
  refine dl_r (sem_assign rfl rfl) ?_
  refine dl_end ?_
  refine dw_seq ?_
  refine dw_seq ?_
  -- region 1
  refine dw_region (by kernel_rfl) ?_
  refine dl_r (sem_move rfl rfl) ?_
  refine dl_r (sem_len sl62 rfl rfl) ?_
  refine dl_r (sem_move rfl rfl) ?_
  refine dl_end ?_
  refine dw_block ?_
  refine dw_loop (ι := Nat) (fun i => match i with | 0 => ⟨19, [(0, .v (.c (.s 4 ([.i .i64 x0] ++ [.i .i64 x1] ++ [.i .i64 x2] ++ [.i .i64 x3])))), (1, .v (.c (.f 42))), (7, .v (.c (.i .i64 4))), (8, .v (.c (.i .i64 0))), (4, .v (.c (.i .i64 0)))], []⟩ | _ + 1 => ⟨19, [(0, .v (.c (.s 4 ([.i .i64 x0] ++ [.i .i64 x1] ++ [.i .i64 x2] ++ [.i .i64 x3])))), (1, .v (.c (.f 42))), (7, .v (.c (.i .i64 4))), (8, .v (.c (.i .i64 1))), (4, .v (.c (.i .i64 0)))], []⟩) (fun i => 1 - i) 0 (sub_of ⟨rfl, rfl, rfl, rfl, rfl, trivial⟩ trivial rfl) ?_
  intro i
  match i with
  | 0 =>
    show Dw _ _ ⟨19, [(0, .v (.c (.s 4 ([.i .i64 x0] ++ [.i .i64 x1] ++ [.i .i64 x2] ++ [.i .i64 x3])))), (1, .v (.c (.f 42))), (7, .v (.c (.i .i64 4))), (8, .v (.c (.i .i64 0))), (4, .v (.c (.i .i64 0)))], []⟩ _
    refine dw_seq ?_
    -- region 2
    refine dw_region (by kernel_rfl) ?_
    refine dl_r (sem_cmp rfl rfl rfl rfl) ?_
    refine dl_end ?_
    refine dw_seq ?_
    refine dw_true rfl ?_
    refine dw_skip ?_
    refine dw_seq ?_
    refine dw_block ?_
    refine dw_seq ?_
    -- region 3
    refine dw_region (by kernel_rfl) ?_
    refine dl_r (sem_move rfl rfl) ?_
    refine dl_r (sem_assign rfl rfl) ?_
    refine dl_end ?_
    refine dw_seq ?_
    -- region 4
    refine dw_region (by kernel_rfl) ?_
    refine dl_r (sem_move rfl rfl) ?_
    refine dl_r (sem_move rfl rfl) ?_
    refine dl_r (sem_move rfl rfl) ?_
    refine dl_r (sem_index sl62 rfl rfl (by decide) rfl rfl rfl) ?_
    refine dl_r (sem_loadq1 ty2 rfl rfl rfl) ?_
    refine dl_r (sem_call rfl rfl (rcastb tFar_ok z0) rfl) ?_
    refine dl_end ?_
    refine dw_false rfl ?_
    refine dw_skip ?_
    -- region 6
    refine dw_region (by kernel_rfl) ?_
    refine dl_r (sem_ari (r := 1) rfl rfl rfl rfl) ?_
    refine dl_r (sem_move rfl rfl) ?_
    refine dl_end ?_
    exact ⟨1, sub_of ⟨rfl, rfl, rfl, rfl, rfl, trivial⟩ trivial rfl, by show 1 - 1 < 1 - 0; decide⟩
  | z + 1 =>
    show Dw _ _ ⟨19, [(0, .v (.c (.s 4 ([.i .i64 x0] ++ [.i .i64 x1] ++ [.i .i64 x2] ++ [.i .i64 x3])))), (1, .v (.c (.f 42))), (7, .v (.c (.i .i64 4))), (8, .v (.c (.i .i64 1))), (4, .v (.c (.i .i64 0)))], []⟩ _
    refine dw_seq ?_
    -- region 2
    refine dw_region (by kernel_rfl) ?_
    refine dl_r (sem_cmp rfl rfl rfl rfl) ?_
    refine dl_end ?_
    refine dw_seq ?_
    refine dw_true rfl ?_
    refine dw_skip ?_
    refine dw_seq ?_
    refine dw_block ?_
    refine dw_seq ?_
    -- region 3
    refine dw_region (by kernel_rfl) ?_
    refine dl_r (sem_move rfl rfl) ?_
    refine dl_r (sem_assign rfl rfl) ?_
    refine dl_end ?_
    refine dw_seq ?_
    -- region 4
    refine dw_region (by kernel_rfl) ?_
    refine dl_r (sem_move rfl rfl) ?_
    refine dl_r (sem_move rfl rfl) ?_
    refine dl_r (sem_move rfl rfl) ?_
    refine dl_r (sem_index sl62 rfl rfl (by decide) rfl rfl rfl) ?_
    refine dl_r (sem_loadq1 ty2 rfl rfl rfl) ?_
    refine dl_r (sem_call rfl rfl (rcastb tFar_ok z1) rfl) ?_
    refine dl_end ?_
    refine dw_true rfl ?_
    refine dw_seq ?_
    -- region 5
    refine dw_region (by kernel_rfl) ?_
    refine dl_r (sem_move rfl rfl) ?_
    refine dl_r (sem_assign rfl rfl) ?_
    refine dl_end ?_
    refine dw_ret ?_
    -- path L1
    exact ⟨.inr rfl, (resL_tmp rfl resL_nil)⟩
theorem tCnt4_1 {x0 x1 x2 x3 : Int} (z0 : far x0 = false) (z1 : far x1 = true) : Ok Try.prog 41 [.c (.s 4 ([.i .i64 x0] ++ [.i .i64 x1] ++ [.i .i64 x2] ++ [.i .i64 x3])), .c (.f 42)] [.c (.b true)] := by
  refine Ok.of (by kernel_rfl) Try.func41 rfl rfl ?_
  rw [show Try.f41.ntmps = 9 from rfl, show Try.f41.results.toList = [.tmp 4] from rfl]
  refine dw_seq ?_
  -- region 0
  refine dw_region (by kernel_rfl) ?_
  refine dl_r (sem_assign rfl rfl) ?_
  refine dl_end ?_
  refine dw_seq ?_
  -- region 1
  refine dw_region (by kernel_rfl) ?_
  refine dl_r (sem_move rfl rfl) ?_
  refine dl_r (sem_move rfl rfl) ?_
  refine dl_r (sem_call rfl rfl (tIdx4_1 z0 z1) rfl) ?_
  refine dl_r (sem_cmp rfl rfl rfl rfl) ?_
  refine dl_r (sem_assign rfl rfl) ?_
  refine dl_end ?_
  refine dw_ret ?_
  -- path 
  exact ⟨.inr rfl, (resL_tmp rfl resL_nil)⟩
theorem tGrid4_1 {x0 x1 x2 x3 : Int} (z0 : far x0 = false) (z1 : far x1 = true) : Ok Try.prog 26 [.c (.s 4 ([.i .i64 x0] ++ [.i .i64 x1] ++ [.i .i64 x2] ++ [.i .i64 x3]))] [.c (.b false)] := by
  refine Ok.of (by kernel_rfl) Try.func26 rfl rfl ?_
  rw [show Try.f26.ntmps = 6 from rfl, show Try.f26.results.toList = [.tmp 2] from rfl]
  refine dw_seq ?_
  -- region 0
  refine dw_region (by kernel_rfl) ?_
  refine dl_r (sem_assign rfl rfl) ?_
  refine dl_end ?_
  refine dw_seq ?_
  -- region 1
  refine dw_region (by kernel_rfl) ?_
  refine dl_r (sem_move rfl rfl) ?_
  refine dl_r (sem_call rfl rfl (tCnt4_1 z0 z1) rfl) ?_
  refine dl_r (sem_not rfl rfl) ?_
  refine dl_r (sem_assign rfl rfl) ?_
  refine dl_end ?_
  refine dw_ret ?_
  -- path 
  exact ⟨.inr rfl, (resL_tmp rfl resL_nil)⟩
theorem tIdx4_2 {x0 x1 x2 x3 : Int} (z0 : far x0 = false) (z1 : far x1 = false) (z2 : far x2 = true) : Ok Try.prog 49 [.c (.s 4 ([.i .i64 x0] ++ [.i .i64 x1] ++ [.i .i64 x2] ++ [.i .i64 x3])), .c (.f 42)] [.c (.i .i64 2)] := by
  refine Ok.of (by kernel_rfl) Try.func49 rfl rfl ?_
  rw [show Try.f49.ntmps = 19 from rfl, show Try.f49.results.toList = [.tmp 4] from rfl]
  refine dw_seq ?_
  -- region 0
  refine dw_region (by kernel_rfl) ?_
  refine dl_r (sem_assign rfl rfl) ?_
  refine dl_end ?_
  refine dw_seq ?_
  refine dw_seq ?_
  -- region 1
  refine dw_region (by kernel_rfl) ?_
  refine dl_r (sem_move rfl rfl) ?_
  refine dl_r (sem_len sl62 rfl rfl) ?_
  refine dl_r (sem_move rfl rfl) ?_
  refine dl_end ?_
  refine dw_block ?_
  refine dw_loop (ι := Nat) (fun i => match i with | 0 => ⟨19, [(0, .v (.c (.s 4 ([.i .i64 x0] ++ [.i .i64 x1] ++ [.i .i64 x2] ++ [.i .i64 x3])))), (1, .v (.c (.f 42))), (7, .v (.c (.i .i64 4))), (8, .v (.c (.i .i64 0))), (4, .v (.c (.i .i64 0)))], []⟩ | 1 => ⟨19, [(0, .v (.c (.s 4 ([.i .i64 x0] ++ [.i .i64 x1] ++ [.i .i64 x2] ++ [.i .i64 x3])))), (1, .v (.c (.f 42))), (7, .v (.c (.i .i64 4))), (8, .v (.c (.i .i64 1))), (4, .v (.c (.i .i64 0)))], []⟩ | _ + 2 => ⟨19, [(0, .v (.c (.s 4 ([.i .i64 x0] ++ [.i .i64 x1] ++ [.i .i64 x2] ++ [.i .i64 x3])))), (1, .v (.c (.f 42))), (7, .v (.c (.i .i64 4))), (8, .v (.c (.i .i64 2))), (4, .v (.c (.i .i64 0)))], []⟩) (fun i => 2 - i) 0 (sub_of ⟨rfl, rfl, rfl, rfl, rfl, trivial⟩ trivial rfl) ?_
  intro i
  match i with
  | 0 =>
    show Dw _ _ ⟨19, [(0, .v (.c (.s 4 ([.i .i64 x0] ++ [.i .i64 x1] ++ [.i .i64 x2] ++ [.i .i64 x3])))), (1, .v (.c (.f 42))), (7, .v (.c (.i .i64 4))), (8, .v (.c (.i .i64 0))), (4, .v (.c (.i .i64 0)))], []⟩ _
    refine dw_seq ?_
    -- region 2
    refine dw_region (by kernel_rfl) ?_
    refine dl_r (sem_cmp rfl rfl rfl rfl) ?_
    refine dl_end ?_
    refine dw_seq ?_
    refine dw_true rfl ?_
    refine dw_skip ?_
    refine dw_seq ?_
    refine dw_block ?_
    refine dw_seq ?_
    -- region 3
    refine dw_region (by kernel_rfl) ?_
    refine dl_r (sem_move rfl rfl) ?_
    refine dl_r (sem_assign rfl rfl) ?_
    refine dl_end ?_
    refine dw_seq ?_
    -- region 4
    refine dw_region (by kernel_rfl) ?_
    refine dl_r (sem_move rfl rfl) ?_
    refine dl_r (sem_move rfl rfl) ?_
    refine dl_r (sem_move rfl rfl) ?_
    refine dl_r (sem_index sl62 rfl rfl (by decide) rfl rfl rfl) ?_
    refine dl_r (sem_loadq1 ty2 rfl rfl rfl) ?_
    refine dl_r (sem_call rfl rfl (rcastb tFar_ok z0) rfl) ?_
    refine dl_end ?_
    refine dw_false rfl ?_
    refine dw_skip ?_
    -- region 6
    refine dw_region (by kernel_rfl) ?_
    refine dl_r (sem_ari (r := 1) rfl rfl rfl rfl) ?_
    refine dl_r (sem_move rfl rfl) ?_
    refine dl_end ?_
    exact ⟨1, sub_of ⟨rfl, rfl, rfl, rfl, rfl, trivial⟩ trivial rfl, by show 2 - 1 < 2 - 0; decide⟩
  | 1 =>
    show Dw _ _ ⟨19, [(0, .v (.c (.s 4 ([.i .i64 x0] ++ [.i .i64 x1] ++ [.i .i64 x2] ++ [.i .i64 x3])))), (1, .v (.c (.f 42))), (7, .v (.c (.i .i64 4))), (8, .v (.c (.i .i64 1))), (4, .v (.c (.i .i64 0)))], []⟩ _
    refine dw_seq ?_
    -- region 2
    refine dw_region (by kernel_rfl) ?_
    refine dl_r (sem_cmp rfl rfl rfl rfl) ?_
    refine dl_end ?_
    refine dw_seq ?_
    refine dw_true rfl ?_
    refine dw_skip ?_
    refine dw_seq ?_
    refine dw_block ?_
    refine dw_seq ?_
    -- region 3
    refine dw_region (by kernel_rfl) ?_
    refine dl_r (sem_move rfl rfl) ?_
    refine dl_r (sem_assign rfl rfl) ?_
    refine dl_end ?_
    refine dw_seq ?_
    -- region 4
    refine dw_region (by kernel_rfl) ?_
    refine dl_r (sem_move rfl rfl) ?_
    refine dl_r (sem_move rfl rfl) ?_
    refine dl_r (sem_move rfl rfl) ?_
    refine dl_r (sem_index sl62 rfl rfl (by decide) rfl rfl rfl) ?_
    refine dl_r (sem_loadq1 ty2 rfl rfl rfl) ?_
    refine dl_r (sem_call rfl rfl (rcastb tFar_ok z1) rfl) ?_
    refine dl_end ?_
    refine dw_false rfl ?_
    refine dw_skip ?_
    -- region 6
    refine dw_region (by kernel_rfl) ?_
    refine dl_r (sem_ari (r := 2) rfl rfl rfl rfl) ?_
    refine dl_r (sem_move rfl rfl) ?_
    refine dl_end ?_
    exact ⟨2, sub_of ⟨rfl, rfl, rfl, rfl, rfl, trivial⟩ trivial rfl, by show 2 - 2 < 2 - 1; decide⟩
  | z + 2 =>
    show Dw _ _ ⟨19, [(0, .v (.c (.s 4 ([.i .i64 x0] ++ [.i .i64 x1] ++ [.i .i64 x2] ++ [.i .i64 x3])))), (1, .v (.c (.f 42))), (7, .v (.c (.i .i64 4))), (8, .v (.c (.i .i64 2))), (4, .v (.c (.i .i64 0)))], []⟩ _
    refine dw_seq ?_
    -- region 2
    refine dw_region (by kernel_rfl) ?_
    refine dl_r (sem_cmp rfl rfl rfl rfl) ?_
    refine dl_end ?_
    refine dw_seq ?_
    refine dw_true rfl ?_
    refine dw_skip ?_
    refine dw_seq ?_
    refine dw_block ?_
    refine dw_seq ?_
    -- region 3
    refine dw_region (by kernel_rfl) ?_
    refine dl_r (sem_move rfl rfl) ?_
    refine dl_r (sem_assign rfl rfl) ?_
    refine dl_end ?_
    refine dw_seq ?_
    -- region 4
    refine dw_region (by kernel_rfl) ?_
    refine dl_r (sem_move rfl rfl) ?_
    refine dl_r (sem_move rfl rfl) ?_
    refine dl_r (sem_move rfl rfl) ?_
    refine dl_r (sem_index sl62 rfl rfl (by decide) rfl rfl rfl) ?_
    refine dl_r (sem_loadq1 ty2 rfl rfl rfl) ?_
    refine dl_r (sem_call rfl rfl (rcastb tFar_ok z2) rfl) ?_
    refine dl_end ?_
    refine dw_true rfl ?_
    refine dw_seq ?_
    -- region 5
    refine dw_region (by kernel_rfl) ?_
    refine dl_r (sem_move rfl rfl) ?_
    refine dl_r (sem_assign rfl rfl) ?_
    refine dl_end ?_
    refine dw_ret ?_
    -- path L2
    exact ⟨.inr rfl, (resL_tmp rfl resL_nil)⟩
theorem tCnt4_2 {x0 x1 x2 x3 : Int} (z0 : far x0 = false) (z1 : far x1 = false) (z2 : far x2 = true) : Ok Try.prog 41 [.c (.s 4 ([.i .i64 x0] ++ [.i .i64 x1] ++ [.i .i64 x2] ++ [.i .i64 x3])), .c (.f 42)] [.c (.b true)] := by
  refine Ok.of (by kernel_rfl) Try.func41 rfl rfl ?_
  rw [show Try.f41.ntmps = 9 from rfl, show Try.f41.results.toList = [.tmp 4] from rfl]
  refine dw_seq ?_
  -- region 0
  refine dw_region (by kernel_rfl) ?_
  refine dl_r (sem_assign rfl rfl) ?_
  refine dl_end ?_
  refine dw_seq ?_
  -- region 1
  refine dw_region (by kernel_rfl) ?_
  refine dl_r (sem_move rfl rfl) ?_
  refine dl_r (sem_move rfl rfl) ?_
  refine dl_r (sem_call rfl rfl (tIdx4_2 z0 z1 z2) rfl) ?_
  refine dl_r (sem_cmp rfl rfl rfl rfl) ?_
  refine dl_r (sem_assign rfl rfl) ?_
  refine dl_end ?_
  refine dw_ret ?_
  -- path 
  exact ⟨.inr rfl, (resL_tmp rfl resL_nil)⟩
theorem tGrid4_2 {x0 x1 x2 x3 : Int} (z0 : far x0 = false) (z1 : far x1 = false) (z2 : far x2 = true) : Ok Try.prog 26 [.c (.s 4 ([.i .i64 x0] ++ [.i .i64 x1] ++ [.i .i64 x2] ++ [.i .i64 x3]))] [.c (.b false)] := by
  refine Ok.of (by kernel_rfl) Try.func26 rfl rfl ?_
  rw [show Try.f26.ntmps = 6 from rfl, show Try.f26.results.toList = [.tmp 2] from rfl]
  refine dw_seq ?_
  -- region 0
  refine dw_region (by kernel_rfl) ?_
  refine dl_r (sem_assign rfl rfl) ?_
  refine dl_end ?_
  refine dw_seq ?_
  -- region 1
  refine dw_region (by kernel_rfl) ?_
  refine dl_r (sem_move rfl rfl) ?_
  refine dl_r (sem_call rfl rfl (tCnt4_2 z0 z1 z2) rfl) ?_
  refine dl_r (sem_not rfl rfl) ?_
  refine dl_r (sem_assign rfl rfl) ?_
  refine dl_end ?_
  refine dw_ret ?_
  -- path 
  exact ⟨.inr rfl, (resL_tmp rfl resL_nil)⟩
theorem tIdx4_3 {x0 x1 x2 x3 : Int} (z0 : far x0 = false) (z1 : far x1 = false) (z2 : far x2 = false) (z3 : far x3 = true) : Ok Try.prog 49 [.c (.s 4 ([.i .i64 x0] ++ [.i .i64 x1] ++ [.i .i64 x2] ++ [.i .i64 x3])), .c (.f 42)] [.c (.i .i64 3)] := by
  refine Ok.of (by kernel_rfl) Try.func49 rfl rfl ?_
  rw [show Try.f49.ntmps = 19 from rfl, show Try.f49.results.toList = [.tmp 4] from rfl]
  refine dw_seq ?_
  -- region 0
  refine dw_region (by kernel_rfl) ?_
  refine dl_r (sem_assign rfl rfl) ?_
  refine dl_end ?_
  refine dw_seq ?_
  refine dw_seq ?_
  -- region 1
  refine dw_region (by kernel_rfl) ?_
  refine dl_r (sem_move rfl rfl) ?_
  refine dl_r (sem_len sl62 rfl rfl) ?_
  refine dl_r (sem_move rfl rfl) ?_
  refine dl_end ?_
  refine dw_block ?_
  refine dw_loop (ι := Nat) (fun i => match i with | 0 => ⟨19, [(0, .v (.c (.s 4 ([.i .i64 x0] ++ [.i .i64 x1] ++ [.i .i64 x2] ++ [.i .i64 x3])))), (1, .v (.c (.f 42))), (7, .v (.c (.i .i64 4))), (8, .v (.c (.i .i64 0))), (4, .v (.c (.i .i64 0)))], []⟩ | 1 => ⟨19, [(0, .v (.c (.s 4 ([.i .i64 x0] ++ [.i .i64 x1] ++ [.i .i64 x2] ++ [.i .i64 x3])))), (1, .v (.c (.f 42))), (7, .v (.c (.i .i64 4))), (8, .v (.c (.i .i64 1))), (4, .v (.c (.i .i64 0)))], []⟩ | 2 => ⟨19, [(0, .v (.c (.s 4 ([.i .i64 x0] ++ [.i .i64 x1] ++ [.i .i64 x2] ++ [.i .i64 x3])))), (1, .v (.c (.f 42))), (7, .v (.c (.i .i64 4))), (8, .v (.c (.i .i64 2))), (4, .v (.c (.i .i64 0)))], []⟩ | _ + 3 => ⟨19, [(0, .v (.c (.s 4 ([.i .i64 x0] ++ [.i .i64 x1] ++ [.i .i64 x2] ++ [.i .i64 x3])))), (1, .v (.c (.f 42))), (7, .v (.c (.i .i64 4))), (8, .v (.c (.i .i64 3))), (4, .v (.c (.i .i64 0)))], []⟩) (fun i => 3 - i) 0 (sub_of ⟨rfl, rfl, rfl, rfl, rfl, trivial⟩ trivial rfl) ?_
  intro i
  match i with
  | 0 =>
    show Dw _ _ ⟨19, [(0, .v (.c (.s 4 ([.i .i64 x0] ++ [.i .i64 x1] ++ [.i .i64 x2] ++ [.i .i64 x3])))), (1, .v (.c (.f 42))), (7, .v (.c (.i .i64 4))), (8, .v (.c (.i .i64 0))), (4, .v (.c (.i .i64 0)))], []⟩ _
    refine dw_seq ?_
    -- region 2
    refine dw_region (by kernel_rfl) ?_
    refine dl_r (sem_cmp rfl rfl rfl rfl) ?_
    refine dl_end ?_
    refine dw_seq ?_
    refine dw_true rfl ?_
    refine dw_skip ?_
    refine dw_seq ?_
    refine dw_block ?_
    refine dw_seq ?_
    -- region 3
    refine dw_region (by kernel_rfl) ?_
    refine dl_r (sem_move rfl rfl) ?_
    refine dl_r (sem_assign rfl rfl) ?_
    refine dl_end ?_
    refine dw_seq ?_
    -- region 4
    refine dw_region (by kernel_rfl) ?_
    refine dl_r (sem_move rfl rfl) ?_
    refine dl_r (sem_move rfl rfl) ?_
    refine dl_r (sem_move rfl rfl) ?_
    refine dl_r (sem_index sl62 rfl rfl (by decide) rfl rfl rfl) ?_
    refine dl_r (sem_loadq1 ty2 rfl rfl rfl) ?_
    refine dl_r (sem_call rfl rfl (rcastb tFar_ok z0) rfl) ?_
    refine dl_end ?_
    refine dw_false rfl ?_
    refine dw_skip ?_
    -- region 6
    refine dw_region (by kernel_rfl) ?_
    refine dl_r (sem_ari (r := 1) rfl rfl rfl rfl) ?_
    refine dl_r (sem_move rfl rfl) ?_
    refine dl_end ?_
    exact ⟨1, sub_of ⟨rfl, rfl, rfl, rfl, rfl, trivial⟩ trivial rfl, by show 3 - 1 < 3 - 0; decide⟩
  | 1 =>
    show Dw _ _ ⟨19, [(0, .v (.c (.s 4 ([.i .i64 x0] ++ [.i .i64 x1] ++ [.i .i64 x2] ++ [.i .i64 x3])))), (1, .v (.c (.f 42))), (7, .v (.c (.i .i64 4))), (8, .v (.c (.i .i64 1))), (4, .v (.c (.i .i64 0)))], []⟩ _
    refine dw_seq ?_
    -- region 2
    refine dw_region (by kernel_rfl) ?_
    refine dl_r (sem_cmp rfl rfl rfl rfl) ?_
    refine dl_end ?_
    refine dw_seq ?_
    refine dw_true rfl ?_
    refine dw_skip ?_
    refine dw_seq ?_
    refine dw_block ?_
    refine dw_seq ?_
    -- region 3
    refine dw_region (by kernel_rfl) ?_
    refine dl_r (sem_move rfl rfl) ?_
    refine dl_r (sem_assign rfl rfl) ?_
    refine dl_end ?_
    refine dw_seq ?_
    -- region 4
    refine dw_region (by kernel_rfl) ?_
    refine dl_r (sem_move rfl rfl) ?_
    refine dl_r (sem_move rfl rfl) ?_
    refine dl_r (sem_move rfl rfl) ?_
    refine dl_r (sem_index sl62 rfl rfl (by decide) rfl rfl rfl) ?_
    refine dl_r (sem_loadq1 ty2 rfl rfl rfl) ?_
    refine dl_r (sem_call rfl rfl (rcastb tFar_ok z1) rfl) ?_
    refine dl_end ?_
    refine dw_false rfl ?_
    refine dw_skip ?_
    -- region 6
    refine dw_region (by kernel_rfl) ?_
    refine dl_r (sem_ari (r := 2) rfl rfl rfl rfl) ?_
    refine dl_r (sem_move rfl rfl) ?_
    refine dl_end ?_
    exact ⟨2, sub_of ⟨rfl, rfl, rfl, rfl, rfl, trivial⟩ trivial rfl, by show 3 - 2 < 3 - 1; decide⟩
  | 2 =>
    show Dw _ _ ⟨19, [(0, .v (.c (.s 4 ([.i .i64 x0] ++ [.i .i64 x1] ++ [.i .i64 x2] ++ [.i .i64 x3])))), (1, .v (.c (.f 42))), (7, .v (.c (.i .i64 4))), (8, .v (.c (.i .i64 2))), (4, .v (.c (.i .i64 0)))], []⟩ _
    refine dw_seq ?_
    -- region 2
    refine dw_region (by kernel_rfl) ?_
    refine dl_r (sem_cmp rfl rfl rfl rfl) ?_
    refine dl_end ?_
    refine dw_seq ?_
    refine dw_true rfl ?_
    refine dw_skip ?_
    refine dw_seq ?_
    refine dw_block ?_
    refine dw_seq ?_
    -- region 3
    refine dw_region (by kernel_rfl) ?_
    refine dl_r (sem_move rfl rfl) ?_
    refine dl_r (sem_assign rfl rfl) ?_
    refine dl_end ?_
    refine dw_seq ?_
    -- region 4
    refine dw_region (by kernel_rfl) ?_
    refine dl_r (sem_move rfl rfl) ?_
    refine dl_r (sem_move rfl rfl) ?_
    refine dl_r (sem_move rfl rfl) ?_
    refine dl_r (sem_index sl62 rfl rfl (by decide) rfl rfl rfl) ?_
    refine dl_r (sem_loadq1 ty2 rfl rfl rfl) ?_
    refine dl_r (sem_call rfl rfl (rcastb tFar_ok z2) rfl) ?_
    refine dl_end ?_
    refine dw_false rfl ?_
    refine dw_skip ?_
    -- region 6
    refine dw_region (by kernel_rfl) ?_
    refine dl_r (sem_ari (r := 3) rfl rfl rfl rfl) ?_
    refine dl_r (sem_move rfl rfl) ?_
    refine dl_end ?_
    exact ⟨3, sub_of ⟨rfl, rfl, rfl, rfl, rfl, trivial⟩ trivial rfl, by show 3 - 3 < 3 - 2; decide⟩
  | z + 3 =>
    show Dw _ _ ⟨19, [(0, .v (.c (.s 4 ([.i .i64 x0] ++ [.i .i64 x1] ++ [.i .i64 x2] ++ [.i .i64 x3])))), (1, .v (.c (.f 42))), (7, .v (.c (.i .i64 4))), (8, .v (.c (.i .i64 3))), (4, .v (.c (.i .i64 0)))], []⟩ _
    refine dw_seq ?_
    -- region 2
    refine dw_region (by kernel_rfl) ?_
    refine dl_r (sem_cmp rfl rfl rfl rfl) ?_
    refine dl_end ?_
    refine dw_seq ?_
    refine dw_true rfl ?_
    refine dw_skip ?_
    refine dw_seq ?_
    refine dw_block ?_
    refine dw_seq ?_
    -- region 3
    refine dw_region (by kernel_rfl) ?_
    refine dl_r (sem_move rfl rfl) ?_
    refine dl_r (sem_assign rfl rfl) ?_
    refine dl_end ?_
    refine dw_seq ?_
    -- region 4
    refine dw_region (by kernel_rfl) ?_
    refine dl_r (sem_move rfl rfl) ?_
    refine dl_r (sem_move rfl rfl) ?_
    refine dl_r (sem_move rfl rfl) ?_
    refine dl_r (sem_index sl62 rfl rfl (by decide) rfl rfl rfl) ?_
    refine dl_r (sem_loadq1 ty2 rfl rfl rfl) ?_
    refine dl_r (sem_call rfl rfl (rcastb tFar_ok z3) rfl) ?_
    refine dl_end ?_
    refine dw_true rfl ?_
    refine dw_seq ?_
    -- region 5
    refine dw_region (by kernel_rfl) ?_
    refine dl_r (sem_move rfl rfl) ?_
    refine dl_r (sem_assign rfl rfl) ?_
    refine dl_end ?_
    refine dw_ret ?_
    -- path L3
    exact ⟨.inr rfl, (resL_tmp rfl resL_nil)⟩
theorem tCnt4_3 {x0 x1 x2 x3 : Int} (z0 : far x0 = false) (z1 : far x1 = false) (z2 : far x2 = false) (z3 : far x3 = true) : Ok Try.prog 41 [.c (.s 4 ([.i .i64 x0] ++ [.i .i64 x1] ++ [.i .i64 x2] ++ [.i .i64 x3])), .c (.f 42)] [.c (.b true)] := by
  refine Ok.of (by kernel_rfl) Try.func41 rfl rfl ?_
  rw [show Try.f41.ntmps = 9 from rfl, show Try.f41.results.toList = [.tmp 4] from rfl]
  refine dw_seq ?_
  -- region 0
  refine dw_region (by kernel_rfl) ?_
  refine dl_r (sem_assign rfl rfl) ?_
  refine dl_end ?_
  refine dw_seq ?_
  -- region 1
  refine dw_region (by kernel_rfl) ?_
  refine dl_r (sem_move rfl rfl) ?_
  refine dl_r (sem_move rfl rfl) ?_
  refine dl_r (sem_call rfl rfl (tIdx4_3 z0 z1 z2 z3) rfl) ?_
  refine dl_r (sem_cmp rfl rfl rfl rfl) ?_
  refine dl_r (sem_assign rfl rfl) ?_
  refine dl_end ?_
  refine dw_ret ?_
  -- path 
  exact ⟨.inr rfl, (resL_tmp rfl resL_nil)⟩
theorem tGrid4_3 {x0 x1 x2 x3 : Int} (z0 : far x0 = false) (z1 : far x1 = false) (z2 : far x2 = false) (z3 : far x3 = true) : Ok Try.prog 26 [.c (.s 4 ([.i .i64 x0] ++ [.i .i64 x1] ++ [.i .i64 x2] ++ [.i .i64 x3]))] [.c (.b false)] := by
  refine Ok.of (by kernel_rfl) Try.func26 rfl rfl ?_
  rw [show Try.f26.ntmps = 6 from rfl, show Try.f26.results.toList = [.tmp 2] from rfl]
  refine dw_seq ?_
  -- region 0
  refine dw_region (by kernel_rfl) ?_
  refine dl_r (sem_assign rfl rfl) ?_
  refine dl_end ?_
  refine dw_seq ?_
  -- region 1
  refine dw_region (by kernel_rfl) ?_
  refine dl_r (sem_move rfl rfl) ?_
  refine dl_r (sem_call rfl rfl (tCnt4_3 z0 z1 z2 z3) rfl) ?_
  refine dl_r (sem_not rfl rfl) ?_
  refine dl_r (sem_assign rfl rfl) ?_
  refine dl_end ?_
  refine dw_ret ?_
  -- path 
  exact ⟨.inr rfl, (resL_tmp rfl resL_nil)⟩
theorem tIdx4_4 {x0 x1 x2 x3 : Int} (z0 : far x0 = false) (z1 : far x1 = false) (z2 : far x2 = false) (z3 : far x3 = false) : Ok Try.prog 49 [.c (.s 4 ([.i .i64 x0] ++ [.i .i64 x1] ++ [.i .i64 x2] ++ [.i .i64 x3])), .c (.f 42)] [.c (.i .i64 (-1))] := by
  refine Ok.of (by kernel_rfl) Try.func49 rfl rfl ?_
  rw [show Try.f49.ntmps = 19 from rfl, show Try.f49.results.toList = [.tmp 4] from rfl]
  refine dw_seq ?_
  -- region 0
  refine dw_region (by kernel_rfl) ?_
  refine dl_r (sem_assign rfl rfl) ?_
  refine dl_end ?_
  refine dw_seq ?_
  refine dw_seq ?_
  -- region 1
  refine dw_region (by kernel_rfl) ?_
  refine dl_r (sem_move rfl rfl) ?_
  refine dl_r (sem_len sl62 rfl rfl) ?_
  refine dl_r (sem_move rfl rfl) ?_
  refine dl_end ?_
  refine dw_block ?_
  refine dw_loop (ι := Nat) (fun i => match i with | 0 => ⟨19, [(0, .v (.c (.s 4 ([.i .i64 x0] ++ [.i .i64 x1] ++ [.i .i64 x2] ++ [.i .i64 x3])))), (1, .v (.c (.f 42))), (7, .v (.c (.i .i64 4))), (8, .v (.c (.i .i64 0))), (4, .v (.c (.i .i64 0)))], []⟩ | 1 => ⟨19, [(0, .v (.c (.s 4 ([.i .i64 x0] ++ [.i .i64 x1] ++ [.i .i64 x2] ++ [.i .i64 x3])))), (1, .v (.c (.f 42))), (7, .v (.c (.i .i64 4))), (8, .v (.c (.i .i64 1))), (4, .v (.c (.i .i64 0)))], []⟩ | 2 => ⟨19, [(0, .v (.c (.s 4 ([.i .i64 x0] ++ [.i .i64 x1] ++ [.i .i64 x2] ++ [.i .i64 x3])))), (1, .v (.c (.f 42))), (7, .v (.c (.i .i64 4))), (8, .v (.c (.i .i64 2))), (4, .v (.c (.i .i64 0)))], []⟩ | 3 => ⟨19, [(0, .v (.c (.s 4 ([.i .i64 x0] ++ [.i .i64 x1] ++ [.i .i64 x2] ++ [.i .i64 x3])))), (1, .v (.c (.f 42))), (7, .v (.c (.i .i64 4))), (8, .v (.c (.i .i64 3))), (4, .v (.c (.i .i64 0)))], []⟩ | _ + 4 => ⟨19, [(0, .v (.c (.s 4 ([.i .i64 x0] ++ [.i .i64 x1] ++ [.i .i64 x2] ++ [.i .i64 x3])))), (1, .v (.c (.f 42))), (7, .v (.c (.i .i64 4))), (8, .v (.c (.i .i64 4))), (4, .v (.c (.i .i64 0)))], []⟩) (fun i => 4 - i) 0 (sub_of ⟨rfl, rfl, rfl, rfl, rfl, trivial⟩ trivial rfl) ?_
  intro i
  match i with
  | 0 =>
    show Dw _ _ ⟨19, [(0, .v (.c (.s 4 ([.i .i64 x0] ++ [.i .i64 x1] ++ [.i .i64 x2] ++ [.i .i64 x3])))), (1, .v (.c (.f 42))), (7, .v (.c (.i .i64 4))), (8, .v (.c (.i .i64 0))), (4, .v (.c (.i .i64 0)))], []⟩ _
    refine dw_seq ?_
    -- region 2
    refine dw_region (by kernel_rfl) ?_
    refine dl_r (sem_cmp rfl rfl rfl rfl) ?_
    refine dl_end ?_
    refine dw_seq ?_
    refine dw_true rfl ?_
    refine dw_skip ?_
    refine dw_seq ?_
    refine dw_block ?_
    refine dw_seq ?_
    -- region 3
    refine dw_region (by kernel_rfl) ?_
    refine dl_r (sem_move rfl rfl) ?_
    refine dl_r (sem_assign rfl rfl) ?_
    refine dl_end ?_
    refine dw_seq ?_
    -- region 4
    refine dw_region (by kernel_rfl) ?_
    refine dl_r (sem_move rfl rfl) ?_
    refine dl_r (sem_move rfl rfl) ?_
    refine dl_r (sem_move rfl rfl) ?_
    refine dl_r (sem_index sl62 rfl rfl (by decide) rfl rfl rfl) ?_
    refine dl_r (sem_loadq1 ty2 rfl rfl rfl) ?_
    refine dl_r (sem_call rfl rfl (rcastb tFar_ok z0) rfl) ?_
    refine dl_end ?_
    refine dw_false rfl ?_
    refine dw_skip ?_
    -- region 6
    refine dw_region (by kernel_rfl) ?_
    refine dl_r (sem_ari (r := 1) rfl rfl rfl rfl) ?_
    refine dl_r (sem_move rfl rfl) ?_
    refine dl_end ?_
    exact ⟨1, sub_of ⟨rfl, rfl, rfl, rfl, rfl, trivial⟩ trivial rfl, by show 4 - 1 < 4 - 0; decide⟩
  | 1 =>
    show Dw _ _ ⟨19, [(0, .v (.c (.s 4 ([.i .i64 x0] ++ [.i .i64 x1] ++ [.i .i64 x2] ++ [.i .i64 x3])))), (1, .v (.c (.f 42))), (7, .v (.c (.i .i64 4))), (8, .v (.c (.i .i64 1))), (4, .v (.c (.i .i64 0)))], []⟩ _
    refine dw_seq ?_
    -- region 2
    refine dw_region (by kernel_rfl) ?_
    refine dl_r (sem_cmp rfl rfl rfl rfl) ?_
    refine dl_end ?_
    refine dw_seq ?_
    refine dw_true rfl ?_
    refine dw_skip ?_
    refine dw_seq ?_
    refine dw_block ?_
    refine dw_seq ?_
    -- region 3
    refine dw_region (by kernel_rfl) ?_
    refine dl_r (sem_move rfl rfl) ?_
    refine dl_r (sem_assign rfl rfl) ?_
    refine dl_end ?_
    refine dw_seq ?_
    -- region 4
    refine dw_region (by kernel_rfl) ?_
    refine dl_r (sem_move rfl rfl) ?_
    refine dl_r (sem_move rfl rfl) ?_
    refine dl_r (sem_move rfl rfl) ?_
    refine dl_r (sem_index sl62 rfl rfl (by decide) rfl rfl rfl) ?_
    refine dl_r (sem_loadq1 ty2 rfl rfl rfl) ?_
    refine dl_r (sem_call rfl rfl (rcastb tFar_ok z1) rfl) ?_
    refine dl_end ?_
    refine dw_false rfl ?_
    refine dw_skip ?_
    -- region 6
    refine dw_region (by kernel_rfl) ?_
    refine dl_r (sem_ari (r := 2) rfl rfl rfl rfl) ?_
    refine dl_r (sem_move rfl rfl) ?_
    refine dl_end ?_
    exact ⟨2, sub_of ⟨rfl, rfl, rfl, rfl, rfl, trivial⟩ trivial rfl, by show 4 - 2 < 4 - 1; decide⟩
  | 2 =>
    show Dw _ _ ⟨19, [(0, .v (.c (.s 4 ([.i .i64 x0] ++ [.i .i64 x1] ++ [.i .i64 x2] ++ [.i .i64 x3])))), (1, .v (.c (.f 42))), (7, .v (.c (.i .i64 4))), (8, .v (.c (.i .i64 2))), (4, .v (.c (.i .i64 0)))], []⟩ _
    refine dw_seq ?_
    -- region 2
    refine dw_region (by kernel_rfl) ?_
    refine dl_r (sem_cmp rfl rfl rfl rfl) ?_
    refine dl_end ?_
    refine dw_seq ?_
    refine dw_true rfl ?_
    refine dw_skip ?_
    refine dw_seq ?_
    refine dw_block ?_
    refine dw_seq ?_
    -- region 3
    refine dw_region (by kernel_rfl) ?_
    refine dl_r (sem_move rfl rfl) ?_
    refine dl_r (sem_assign rfl rfl) ?_
    refine dl_end ?_
    refine dw_seq ?_
    -- region 4
    refine dw_region (by kernel_rfl) ?_
    refine dl_r (sem_move rfl rfl) ?_
    refine dl_r (sem_move rfl rfl) ?_
    refine dl_r (sem_move rfl rfl) ?_
    refine dl_r (sem_index sl62 rfl rfl (by decide) rfl rfl rfl) ?_
    refine dl_r (sem_loadq1 ty2 rfl rfl rfl) ?_
    refine dl_r (sem_call rfl rfl (rcastb tFar_ok z2) rfl) ?_
    refine dl_end ?_
    refine dw_false rfl ?_
    refine dw_skip ?_
    -- region 6
    refine dw_region (by kernel_rfl) ?_
    refine dl_r (sem_ari (r := 3) rfl rfl rfl rfl) ?_
    refine dl_r (sem_move rfl rfl) ?_
    refine dl_end ?_
    exact ⟨3, sub_of ⟨rfl, rfl, rfl, rfl, rfl, trivial⟩ trivial rfl, by show 4 - 3 < 4 - 2; decide⟩
  | 3 =>
    show Dw _ _ ⟨19, [(0, .v (.c (.s 4 ([.i .i64 x0] ++ [.i .i64 x1] ++ [.i .i64 x2] ++ [.i .i64 x3])))), (1, .v (.c (.f 42))), (7, .v (.c (.i .i64 4))), (8, .v (.c (.i .i64 3))), (4, .v (.c (.i .i64 0)))], []⟩ _
    refine dw_seq ?_
    -- region 2
    refine dw_region (by kernel_rfl) ?_
    refine dl_r (sem_cmp rfl rfl rfl rfl) ?_
    refine dl_end ?_
    refine dw_seq ?_
    refine dw_true rfl ?_
    refine dw_skip ?_
    refine dw_seq ?_
    refine dw_block ?_
    refine dw_seq ?_
    -- region 3
    refine dw_region (by kernel_rfl) ?_
    refine dl_r (sem_move rfl rfl) ?_
    refine dl_r (sem_assign rfl rfl) ?_
    refine dl_end ?_
    refine dw_seq ?_
    -- region 4
    refine dw_region (by kernel_rfl) ?_
    refine dl_r (sem_move rfl rfl) ?_
    refine dl_r (sem_move rfl rfl) ?_
    refine dl_r (sem_move rfl rfl) ?_
    refine dl_r (sem_index sl62 rfl rfl (by decide) rfl rfl rfl) ?_
    refine dl_r (sem_loadq1 ty2 rfl rfl rfl) ?_
    refine dl_r (sem_call rfl rfl (rcastb tFar_ok z3) rfl) ?_
    refine dl_end ?_
    refine dw_false rfl ?_
    refine dw_skip ?_
    -- region 6
    refine dw_region (by kernel_rfl) ?_
    refine dl_r (sem_ari (r := 4) rfl rfl rfl rfl) ?_
    refine dl_r (sem_move rfl rfl) ?_
    refine dl_end ?_
    exact ⟨4, sub_of ⟨rfl, rfl, rfl, rfl, rfl, trivial⟩ trivial rfl, by show 4 - 4 < 4 - 3; decide⟩
  | z + 4 =>
    show Dw _ _ ⟨19, [(0, .v (.c (.s 4 ([.i .i64 x0] ++ [.i .i64 x1] ++ [.i .i64 x2] ++ [.i .i64 x3])))), (1, .v (.c (.f 42))), (7, .v (.c (.i .i64 4))), (8, .v (.c (.i .i64 4))), (4, .v (.c (.i .i64 0)))], []⟩ _
    refine dw_seq ?_
    -- region 2
    refine dw_region (by kernel_rfl) ?_
    refine dl_r (sem_cmp rfl rfl rfl rfl) ?_
    refine dl_end ?_
    refine dw_seq ?_
    refine dw_false rfl ?_
    refine dw_exit ?_
    refine dw_seq ?_
    -- region 7
    refine dw_region (by kernel_rfl) ?_
    refine dl_r (sem_assign rfl rfl) ?_
    refine dl_end ?_
    refine dw_ret ?_
    -- path L4
    exact ⟨.inr rfl, (resL_tmp rfl resL_nil)⟩
theorem tCnt4_4 {x0 x1 x2 x3 : Int} (z0 : far x0 = false) (z1 : far x1 = false) (z2 : far x2 = false) (z3 : far x3 = false) : Ok Try.prog 41 [.c (.s 4 ([.i .i64 x0] ++ [.i .i64 x1] ++ [.i .i64 x2] ++ [.i .i64 x3])), .c (.f 42)] [.c (.b false)] := by
  refine Ok.of (by kernel_rfl) Try.func41 rfl rfl ?_
  rw [show Try.f41.ntmps = 9 from rfl, show Try.f41.results.toList = [.tmp 4] from rfl]
  refine dw_seq ?_
  -- region 0
  refine dw_region (by kernel_rfl) ?_
  refine dl_r (sem_assign rfl rfl) ?_
  refine dl_end ?_
  refine dw_seq ?_
  -- region 1
  refine dw_region (by kernel_rfl) ?_
  refine dl_r (sem_move rfl rfl) ?_
  refine dl_r (sem_move rfl rfl) ?_
  refine dl_r (sem_call rfl rfl (tIdx4_4 z0 z1 z2 z3) rfl) ?_
  refine dl_r (sem_cmp rfl rfl rfl rfl) ?_
  refine dl_r (sem_assign rfl rfl) ?_
  refine dl_end ?_
  refine dw_ret ?_
  -- path 
  exact ⟨.inr rfl, (resL_tmp rfl resL_nil)⟩
theorem tGrid4_4 {x0 x1 x2 x3 : Int} (z0 : far x0 = false) (z1 : far x1 = false) (z2 : far x2 = false) (z3 : far x3 = false) : Ok Try.prog 26 [.c (.s 4 ([.i .i64 x0] ++ [.i .i64 x1] ++ [.i .i64 x2] ++ [.i .i64 x3]))] [.c (.b true)] := by
  refine Ok.of (by kernel_rfl) Try.func26 rfl rfl ?_
  rw [show Try.f26.ntmps = 6 from rfl, show Try.f26.results.toList = [.tmp 2] from rfl]
  refine dw_seq ?_
  -- region 0
  refine dw_region (by kernel_rfl) ?_
  refine dl_r (sem_assign rfl rfl) ?_
  refine dl_end ?_
  refine dw_seq ?_
  -- region 1
  refine dw_region (by kernel_rfl) ?_
  refine dl_r (sem_move rfl rfl) ?_
  refine dl_r (sem_call rfl rfl (tCnt4_4 z0 z1 z2 z3) rfl) ?_
  refine dl_r (sem_not rfl rfl) ?_
  refine dl_r (sem_assign rfl rfl) ?_
  refine dl_end ?_
  refine dw_ret ?_
  -- path 
  exact ⟨.inr rfl, (resL_tmp rfl resL_nil)⟩
theorem tGrid4 {x0 x1 x2 x3 : Int} : Ok Try.prog 26 [.c (.s 4 ([.i .i64 x0] ++ [.i .i64 x1] ++ [.i .i64 x2] ++ [.i .i64 x3]))] [.c (.b (!(far x0 || (far x1 || (far x2 || far x3)))))] := by
  cases z0 : far x0 with
  | true => exact rcastb (tGrid4_0 z0) (by simp)
  | false =>
  cases z1 : far x1 with
  | true => exact rcastb (tGrid4_1 z0 z1) (by simp)
  | false =>
  cases z2 : far x2 with
  | true => exact rcastb (tGrid4_2 z0 z1 z2) (by simp)
  | false =>
  cases z3 : far x3 with
  | true => exact rcastb (tGrid4_3 z0 z1 z2 z3) (by simp)
  | false =>
  exact rcastb (tGrid4_4 z0 z1 z2 z3) (by simp)
theorem tRound_ok {x y r : Int} (hr : 0 ≤ r) : Ok Try.prog 20 [.a ([.i .i64 x] ++ [.i .i64 y]), .c (.i .i64 r)] [.c (.b (rnd x y r))] := by
  refine Ok.of (by kernel_rfl) Try.func20 rfl rfl ?_
  rw [show Try.f20.ntmps = 35 from rfl, show Try.f20.results.toList = [.tmp 4] from rfl]
  refine dw_seq ?_
  -- region 0
  refine dw_region (by kernel_rfl) ?_
  refine dl_new (sem_box_a rfl rfl) rfl ?_
  refine dl_r (sem_assign rfl rfl) ?_
  refine dl_end ?_
  refine dw_seq ?_
  -- region 1
  refine dw_region (by kernel_rfl) ?_
  refine dl_r (sem_field fd23_0 rfl rfl) ?_
  refine dl_r (sem_load1 ty2 rfl rfl rfl rfl) ?_
  refine dl_r (sem_field fd23_1 rfl rfl) ?_
  refine dl_r (sem_load1 ty2 rfl rfl rfl rfl) ?_
  refine dl_r (sem_slit_D (n := 2) (us := [.i .i64 x] ++ [.i .i64 y]) el62 rfl rfl rfl (by decide) (by decide) rfl) ?_
  refine dl_r (sem_call rfl rfl (tGrid2) rfl) ?_
  refine dl_rb (sem_move rfl rfl) (fun c1 hb1 => ?_)
  cases c1
  · refine dl_skip (sem_skip rfl) ?_
    refine dl_skip (sem_skip rfl) ?_
    refine dl_r (sem_pick rfl rfl rfl rfl) ?_
    refine dl_r (sem_move rfl rfl) ?_
    refine dl_skip (sem_skip rfl) ?_
    refine dl_skip (sem_skip rfl) ?_
    refine dl_skip (sem_skip rfl) ?_
    refine dl_skip (sem_skip rfl) ?_
    refine dl_skip (sem_skip rfl) ?_
    refine dl_skip (sem_skip rfl) ?_
    refine dl_skip (sem_skip rfl) ?_
    refine dl_skip (sem_skip rfl) ?_
    refine dl_skip (sem_skip rfl) ?_
    refine dl_skip (sem_skip rfl) ?_
    refine dl_skip (sem_skip rfl) ?_
    refine dl_skip (sem_skip rfl) ?_
    refine dl_skip (sem_skip rfl) ?_
    refine dl_skip (sem_skip rfl) ?_
    refine dl_skip (sem_skip rfl) ?_
    refine dl_skip (sem_skip rfl) ?_
    refine dl_skip (sem_skip rfl) ?_
    refine dl_skip (sem_skip rfl) ?_
    refine dl_r (sem_pick rfl rfl rfl rfl) ?_
    refine dl_r (sem_assign rfl rfl) ?_
    refine dl_end ?_
    refine dw_ret ?_
    -- path f
    unfold rnd
    rw [hb1]
    exact ⟨.inr rfl, (resL_tmp rfl resL_nil)⟩
  · have g1 : far x = false ∧ far y = false := by simpa using hb1
    have g2 := far_n g1.1
    have g3 := far_n g1.2
    refine dl_r (sem_move rfl rfl) ?_
    refine dl_r (sem_cmp rfl rfl rfl rfl) ?_
    refine dl_r (sem_pick rfl rfl rfl rfl) ?_
    refine dl_rb (sem_move rfl rfl) (fun c2 hb2 => ?_)
    cases c2
    · refine dl_skip (sem_skip rfl) ?_
      refine dl_skip (sem_skip rfl) ?_
      refine dl_skip (sem_skip rfl) ?_
      refine dl_skip (sem_skip rfl) ?_
      refine dl_skip (sem_skip rfl) ?_
      refine dl_skip (sem_skip rfl) ?_
      refine dl_skip (sem_skip rfl) ?_
      refine dl_skip (sem_skip rfl) ?_
      refine dl_skip (sem_skip rfl) ?_
      refine dl_skip (sem_skip rfl) ?_
      refine dl_skip (sem_skip rfl) ?_
      refine dl_skip (sem_skip rfl) ?_
      refine dl_skip (sem_skip rfl) ?_
      refine dl_skip (sem_skip rfl) ?_
      refine dl_skip (sem_skip rfl) ?_
      refine dl_skip (sem_skip rfl) ?_
      refine dl_skip (sem_skip rfl) ?_
      refine dl_skip (sem_skip rfl) ?_
      refine dl_r (sem_pick rfl rfl rfl rfl) ?_
      refine dl_r (sem_assign rfl rfl) ?_
      refine dl_end ?_
      refine dw_ret ?_
      -- path tf
      unfold rnd
      rw [hb1, hb2]
      exact ⟨.inr rfl, (resL_tmp rfl resL_nil)⟩
    · have g4 := of_decide_eq_true hb2
      refine dl_r (sem_field fd23_0 rfl rfl) ?_
      refine dl_r (sem_load1 ty2 rfl rfl rfl rfl) ?_
      refine dl_r (sem_move rfl rfl) ?_
      refine dl_r (sem_ari (r := x - r) rfl rfl (ari_i64_sub (by omega) (by omega)) rfl) ?_
      refine dl_r (sem_field fd23_0 rfl rfl) ?_
      refine dl_r (sem_load1 ty2 rfl rfl rfl rfl) ?_
      refine dl_r (sem_move rfl rfl) ?_
      refine dl_r (sem_ari (r := x + r) rfl rfl (ari_i64_add (by omega) (by omega)) rfl) ?_
      refine dl_r (sem_field fd23_1 rfl rfl) ?_
      refine dl_r (sem_load1 ty2 rfl rfl rfl rfl) ?_
      refine dl_r (sem_move rfl rfl) ?_
      refine dl_r (sem_ari (r := y - r) rfl rfl (ari_i64_sub (by omega) (by omega)) rfl) ?_
      refine dl_r (sem_field fd23_1 rfl rfl) ?_
      refine dl_r (sem_load1 ty2 rfl rfl rfl rfl) ?_
      refine dl_r (sem_move rfl rfl) ?_
      refine dl_r (sem_ari (r := y + r) rfl rfl (ari_i64_add (by omega) (by omega)) rfl) ?_
      refine dl_r (sem_slit_D (n := 4) (us := [.i .i64 (x - r)] ++ [.i .i64 (x + r)] ++ [.i .i64 (y - r)] ++ [.i .i64 (y + r)]) el62 rfl rfl rfl (by decide) (by decide) rfl) ?_
      refine dl_r (sem_call rfl rfl (tGrid4) rfl) ?_
      refine dl_r (sem_pick rfl rfl rfl rfl) ?_
      refine dl_r (sem_assign rfl rfl) ?_
      refine dl_end ?_
      refine dw_ret ?_
      -- path tt
      unfold rnd
      rw [hb1, hb2]
      exact ⟨.inr rfl, (resL_tmp rfl resL_nil)⟩
theorem rOut_ok {x y r : Int} : Ok Try.prog 38 [.a ([.i .i64 x] ++ [.i .i64 y]), .c (.i .i64 r)] [.c (.b (outb x y r))] := by
  refine Ok.of (by kernel_rfl) Try.func38 rfl rfl ?_
  rw [show Try.f38.ntmps = 43 from rfl, show Try.f38.results.toList = [.tmp 4] from rfl]
  refine dw_seq ?_
  -- region 0
  refine dw_region (by kernel_rfl) ?_
  refine dl_new (sem_box_a rfl rfl) rfl ?_
  refine dl_r (sem_assign rfl rfl) ?_
  refine dl_end ?_
  refine dw_seq ?_
  refine dw_seq ?_
  -- region 1
  refine dw_region (by kernel_rfl) ?_
  refine dl_r (sem_field fd23_0 rfl rfl) ?_
  refine dl_r (sem_load1 ty2 rfl rfl rfl rfl) ?_
  refine dl_r (sem_call rfl rfl (rFar_ok) rfl) ?_
  refine dl_rb (sem_move rfl rfl) (fun c1 hb1 => ?_)
  cases c1
  · refine dl_r (sem_field fd23_1 rfl rfl) ?_
    refine dl_r (sem_load1 ty2 rfl rfl rfl rfl) ?_
    refine dl_r (sem_call rfl rfl (rFar_ok) rfl) ?_
    refine dl_r (sem_pick rfl rfl rfl rfl) ?_
    refine dl_rb (sem_move rfl rfl) (fun c2 hb2 => ?_)
    cases c2
    · refine dl_r (sem_move rfl rfl) ?_
      refine dl_r (sem_call rfl rfl (rFar_ok) rfl) ?_
      refine dl_r (sem_pick rfl rfl rfl rfl) ?_
      refine dl_end ?_
      refine dw_cond rfl (fun hc3 => ?_) (fun hc3 => ?_)
      · refine dw_seq ?_
        -- region 2
        refine dw_region (by kernel_rfl) ?_
        refine dl_r (sem_assign rfl rfl) ?_
        refine dl_end ?_
        refine dw_ret ?_
        -- path ffT
        rw [show outb x y r = true from by unfold outb; simp [hb1, hb2, hc3]]
        exact ⟨.inr rfl, (resL_tmp rfl resL_nil)⟩
      · have g1 := far_n hb1
        have g2 := far_n hb2
        have g3 := far_n hc3
        refine dw_skip ?_
        refine dw_seq ?_
        -- region 3
        refine dw_region (by kernel_rfl) ?_
        refine dl_r (sem_field fd23_0 rfl rfl) ?_
        refine dl_r (sem_load1 ty2 rfl rfl rfl rfl) ?_
        refine dl_r (sem_move rfl rfl) ?_
        refine dl_r (sem_ari (r := x + r) rfl rfl (ari_i64_add (by omega) (by omega)) rfl) ?_
        refine dl_r (sem_call rfl rfl (rFar_ok) rfl) ?_
        refine dl_rb (sem_move rfl rfl) (fun c4 hb4 => ?_)
        cases c4
        · refine dl_r (sem_field fd23_0 rfl rfl) ?_
          refine dl_r (sem_load1 ty2 rfl rfl rfl rfl) ?_
          refine dl_r (sem_move rfl rfl) ?_
          refine dl_r (sem_ari (r := x - r) rfl rfl (ari_i64_sub (by omega) (by omega)) rfl) ?_
          refine dl_r (sem_call rfl rfl (rFar_ok) rfl) ?_
          refine dl_r (sem_pick rfl rfl rfl rfl) ?_
          refine dl_rb (sem_move rfl rfl) (fun c5 hb5 => ?_)
          cases c5
          · refine dl_r (sem_field fd23_1 rfl rfl) ?_
            refine dl_r (sem_load1 ty2 rfl rfl rfl rfl) ?_
            refine dl_r (sem_move rfl rfl) ?_
            refine dl_r (sem_ari (r := y + r) rfl rfl (ari_i64_add (by omega) (by omega)) rfl) ?_
            refine dl_r (sem_call rfl rfl (rFar_ok) rfl) ?_
            refine dl_r (sem_pick rfl rfl rfl rfl) ?_
            refine dl_rb (sem_move rfl rfl) (fun c6 hb6 => ?_)
            cases c6
            · refine dl_r (sem_field fd23_1 rfl rfl) ?_
              refine dl_r (sem_load1 ty2 rfl rfl rfl rfl) ?_
              refine dl_r (sem_move rfl rfl) ?_
              refine dl_r (sem_ari (r := y - r) rfl rfl (ari_i64_sub (by omega) (by omega)) rfl) ?_
              refine dl_r (sem_call rfl rfl (rFar_ok) rfl) ?_
              refine dl_r (sem_pick rfl rfl rfl rfl) ?_
              refine dl_r (sem_assign rfl rfl) ?_
              refine dl_end ?_
              refine dw_ret ?_
              -- path ffFfff
              rw [show outb x y r = far (y - r) from by unfold outb; simp [hb1, hb2, hc3, hb4, hb5, hb6]]
              exact ⟨.inr rfl, (resL_tmp rfl resL_nil)⟩
            · refine dl_skip (sem_skip rfl) ?_
              refine dl_skip (sem_skip rfl) ?_
              refine dl_skip (sem_skip rfl) ?_
              refine dl_skip (sem_skip rfl) ?_
              refine dl_skip (sem_skip rfl) ?_
              refine dl_r (sem_pick rfl rfl rfl rfl) ?_
              refine dl_r (sem_assign rfl rfl) ?_
              refine dl_end ?_
              refine dw_ret ?_
              -- path ffFfft
              rw [show outb x y r = true from by unfold outb; simp [hb1, hb2, hc3, hb4, hb5, hb6]]
              exact ⟨.inr rfl, (resL_tmp rfl resL_nil)⟩
          · refine dl_skip (sem_skip rfl) ?_
            refine dl_skip (sem_skip rfl) ?_
            refine dl_skip (sem_skip rfl) ?_
            refine dl_skip (sem_skip rfl) ?_
            refine dl_skip (sem_skip rfl) ?_
            refine dl_r (sem_pick rfl rfl rfl rfl) ?_
            refine dl_r (sem_move rfl rfl) ?_
            refine dl_skip (sem_skip rfl) ?_
            refine dl_skip (sem_skip rfl) ?_
            refine dl_skip (sem_skip rfl) ?_
            refine dl_skip (sem_skip rfl) ?_
            refine dl_skip (sem_skip rfl) ?_
            refine dl_r (sem_pick rfl rfl rfl rfl) ?_
            refine dl_r (sem_assign rfl rfl) ?_
            refine dl_end ?_
            refine dw_ret ?_
            -- path ffFft
            rw [show outb x y r = true from by unfold outb; simp [hb1, hb2, hc3, hb4, hb5]]
            exact ⟨.inr rfl, (resL_tmp rfl resL_nil)⟩
        · refine dl_skip (sem_skip rfl) ?_
          refine dl_skip (sem_skip rfl) ?_
          refine dl_skip (sem_skip rfl) ?_
          refine dl_skip (sem_skip rfl) ?_
          refine dl_skip (sem_skip rfl) ?_
          refine dl_r (sem_pick rfl rfl rfl rfl) ?_
          refine dl_r (sem_move rfl rfl) ?_
          refine dl_skip (sem_skip rfl) ?_
          refine dl_skip (sem_skip rfl) ?_
          refine dl_skip (sem_skip rfl) ?_
          refine dl_skip (sem_skip rfl) ?_
          refine dl_skip (sem_skip rfl) ?_
          refine dl_r (sem_pick rfl rfl rfl rfl) ?_
          refine dl_r (sem_move rfl rfl) ?_
          refine dl_skip (sem_skip rfl) ?_
          refine dl_skip (sem_skip rfl) ?_
          refine dl_skip (sem_skip rfl) ?_
          refine dl_skip (sem_skip rfl) ?_
          refine dl_skip (sem_skip rfl) ?_
          refine dl_r (sem_pick rfl rfl rfl rfl) ?_
          refine dl_r (sem_assign rfl rfl) ?_
          refine dl_end ?_
          refine dw_ret ?_
          -- path ffFt
          rw [show outb x y r = true from by unfold outb; simp [hb1, hb2, hc3, hb4]]
          exact ⟨.inr rfl, (resL_tmp rfl resL_nil)⟩
    · refine dl_skip (sem_skip rfl) ?_
      refine dl_skip (sem_skip rfl) ?_
      refine dl_r (sem_pick rfl rfl rfl rfl) ?_
      refine dl_end ?_
      refine dw_true rfl ?_
      refine dw_seq ?_
      -- region 2
      refine dw_region (by kernel_rfl) ?_
      refine dl_r (sem_assign rfl rfl) ?_
      refine dl_end ?_
      refine dw_ret ?_
      -- path ft
      rw [show outb x y r = true from by unfold outb; simp [hb1, hb2]]
      exact ⟨.inr rfl, (resL_tmp rfl resL_nil)⟩
  · refine dl_skip (sem_skip rfl) ?_
    refine dl_skip (sem_skip rfl) ?_
    refine dl_skip (sem_skip rfl) ?_
    refine dl_r (sem_pick rfl rfl rfl rfl) ?_
    refine dl_r (sem_move rfl rfl) ?_
    refine dl_skip (sem_skip rfl) ?_
    refine dl_skip (sem_skip rfl) ?_
    refine dl_r (sem_pick rfl rfl rfl rfl) ?_
    refine dl_end ?_
    refine dw_true rfl ?_
    refine dw_seq ?_
    -- region 2
    refine dw_region (by kernel_rfl) ?_
    refine dl_r (sem_assign rfl rfl) ?_
    refine dl_end ?_
    refine dw_ret ?_
    -- path t
    rw [show outb x y r = true from by unfold outb; simp [hb1]]
    exact ⟨.inr rfl, (resL_tmp rfl resL_nil)⟩
end Go.Proofs.Ytonjlikaacengaa
/- Plain: lists of positions as cells; the centers of a way, the moves of a path. -/
namespace Go.Proofs.Ytonjlikaacengaa
open Go Go.RowKit
/-- The number in cell i. -/
def ci (us : List CellD) (i : Nat) : Int := match us[i]? with
  | some (.i _ x) => x
  | _ => 0
def isJ : CellD → Bool
  | .i .i64 _ => true
  | _ => false
def bdJ : CellD → Bool
  | .i .i64 x => decide (-10000000 ≤ x) && decide (x ≤ 10000000)
  | _ => false
theorem bdJ_isJ {us : List CellD} (h : us.all bdJ = true) : us.all isJ = true := by
  rw [List.all_eq_true] at *
  intro c hc
  have h1 := h c hc
  cases c with
  | i k x => cases k <;> first | rfl | cases h1
  | _ => cases h1
theorem ci_get {us : List CellD} (h : us.all isJ = true) {i : Nat} (hi : i < us.length) : us[i] = .i .i64 (ci us i) := by
  have h1 := List.all_eq_true.1 h _ (List.getElem_mem hi)
  unfold ci
  rw [List.getElem?_eq_getElem hi]
  generalize us[i] = c at h1
  cases c with
  | i k x => cases k <;> first | rfl | cases h1
  | _ => cases h1
theorem ci_bd {us : List CellD} (h : us.all bdJ = true) (i : Nat) : -10000000 ≤ ci us i ∧ ci us i ≤ 10000000 := by
  by_cases hi : i < us.length
  · have h1 := List.all_eq_true.1 h _ (List.getElem_mem hi)
    unfold ci
    rw [List.getElem?_eq_getElem hi]
    generalize us[i] = c at h1
    cases c with
    | i k x => cases k <;> first | (have h2 : (decide (-10000000 ≤ x) && decide (x ≤ 10000000)) = true := h1; rw [Bool.and_eq_true, decide_eq_true_eq, decide_eq_true_eq] at h2; exact h2) | cases h1
    | _ => cases h1
  · unfold ci
    rw [List.getElem?_eq_none (by omega)]
    exact ⟨by decide, by decide⟩
theorem ci_drop2 {us : List CellD} {n : Nat} (hl : us.length = n * 2) (hJ : us.all isJ = true) {j : Nat} (hj : j < n) : us.drop (j * 2) = ([.i .i64 (ci us (j * 2))] ++ [.i .i64 (ci us (j * 2 + 1))]) ++ us.drop (j * 2 + 2) := by
  rw [List.drop_eq_getElem_cons (show j * 2 < us.length by omega), List.drop_eq_getElem_cons (show j * 2 + 1 < us.length by omega), ci_get hJ, ci_get hJ]
  rfl
theorem ci_drop7 {us : List CellD} {n : Nat} (hl : us.length = n * 7) (hJ : us.all isJ = true) {j : Nat} (hj : j < n) : us.drop (j * 7) =
    ([.i .i64 (ci us (j * 7))] ++ ([.i .i64 (ci us (j * 7 + 1))] ++ [.i .i64 (ci us (j * 7 + 2))] ++ [.i .i64 (ci us (j * 7 + 3))]) ++ ([.i .i64 (ci us (j * 7 + 4))] ++ [.i .i64 (ci us (j * 7 + 5))]) ++ [.i .i64 (ci us (j * 7 + 6))]) ++ us.drop (j * 7 + 7) := by
  rw [List.drop_eq_getElem_cons (show j * 7 < us.length by omega), List.drop_eq_getElem_cons (show j * 7 + 1 < us.length by omega), List.drop_eq_getElem_cons (show j * 7 + 1 + 1 < us.length by omega),
    List.drop_eq_getElem_cons (show j * 7 + 1 + 1 + 1 < us.length by omega), List.drop_eq_getElem_cons (show j * 7 + 1 + 1 + 1 + 1 < us.length by omega), List.drop_eq_getElem_cons (show j * 7 + 1 + 1 + 1 + 1 + 1 < us.length by omega),
    List.drop_eq_getElem_cons (show j * 7 + 1 + 1 + 1 + 1 + 1 + 1 < us.length by omega), ci_get hJ, ci_get hJ, ci_get hJ, ci_get hJ, ci_get hJ, ci_get hJ, ci_get hJ]
  rfl
/-- All centers. -/
def ctb (a1 a2 dx dy L s : Int) (k : Nat) : List CellD := ctr a1 a2 dx dy s k ++ ([.i .i64 (a1 + L * dx)] ++ [.i .i64 (a2 + L * dy)])
theorem ctb_len {a1 a2 dx dy L s : Int} {k : Nat} : (ctb a1 a2 dx dy L s k).length = (k + 1 + 1) * 2 := by
  unfold ctb
  rw [List.length_append, ctr_len]
  show (k + 1) * 2 + 2 = _
  omega
theorem ctr_bd {a1 a2 dx dy L s : Int} {k : Nat} (hd : Dir dx dy) (hs : 1 ≤ s) (hk : (k : Int) = (L - 1) / s) (r1 : -10000000 ≤ a1 ∧ a1 ≤ 10000000) (r2 : -10000000 ≤ a2 ∧ a2 ≤ 10000000) (r3 : -10000000 ≤ a1 + L * dx ∧ a1 + L * dx ≤ 10000000) (r4 : -10000000 ≤ a2 + L * dy ∧ a2 + L * dy ≤ 10000000) :
    ∀ i, i ≤ k → (ctr a1 a2 dx dy s i).all bdJ = true
  | 0, _ => by
    show (decide _ && decide _ && (decide _ && decide _ && true)) = true
    simp only [Bool.and_true, Bool.and_eq_true, decide_eq_true_eq]
    omega
  | i + 1, h => by
    show (ctr a1 a2 dx dy s i ++ _).all bdJ = true
    rw [List.all_append, ctr_bd hd hs hk r1 r2 r3 r4 i (by omega), Bool.true_and]
    have h1 := (ct_iff hs hk i).2 (by omega)
    have h2 := ct_nn hs (i + 1)
    show (decide _ && decide _ && (decide _ && decide _ && true)) = true
    simp only [Bool.and_true, Bool.and_eq_true, decide_eq_true_eq]
    generalize ((i + 1 : Nat) : Int) * s = q at *
    rcases hd with ⟨rfl, rfl⟩ | ⟨rfl, rfl⟩ | ⟨rfl, rfl⟩ | ⟨rfl, rfl⟩ <;> omega
theorem ctb_bd {a1 a2 dx dy L s : Int} {k : Nat} (hd : Dir dx dy) (hs : 1 ≤ s) (hk : (k : Int) = (L - 1) / s) (r1 : -10000000 ≤ a1 ∧ a1 ≤ 10000000) (r2 : -10000000 ≤ a2 ∧ a2 ≤ 10000000) (r3 : -10000000 ≤ a1 + L * dx ∧ a1 + L * dx ≤ 10000000) (r4 : -10000000 ≤ a2 + L * dy ∧ a2 + L * dy ≤ 10000000) :
    (ctb a1 a2 dx dy L s k).all bdJ = true := by
  unfold ctb
  rw [List.all_append, ctr_bd hd hs hk r1 r2 r3 r4 k (Nat.le_refl _), Bool.true_and]
  show (decide _ && decide _ && (decide _ && decide _ && true)) = true
  simp only [Bool.and_true, Bool.and_eq_true, decide_eq_true_eq]
  omega
theorem min_ctb {a1 a2 dx dy L s : Int} {k : Nat} (hL : 1 ≤ L) (hs : 1 ≤ s) (hk : (k : Int) = (L - 1) / s) : ctb a1 a2 dx dy L (min s L) k = ctb a1 a2 dx dy L s k := by
  unfold ctb
  rw [min_ctr hL hs hk]
/-- The moves to, and around, center j. -/
def mvf (us : List CellD) (dx dy r z f : Int) (j : Nat) : List CellD := [.i .i64 2] ++ ([.i .i64 (ci us (j * 2) - dx * r)] ++ [.i .i64 (ci us (j * 2 + 1) - dy * r)] ++ [.i .i64 z]) ++ ([.i .i64 0] ++ [.i .i64 0]) ++ [.i .i64 f]
def mva (us : List CellD) (dx dy r z f : Int) (j : Nat) : List CellD := [.i .i64 4] ++ ([.i .i64 (ci us (j * 2) - dx * r)] ++ [.i .i64 (ci us (j * 2 + 1) - dy * r)] ++ [.i .i64 z]) ++ ([.i .i64 (ci us (j * 2))] ++ [.i .i64 (ci us (j * 2 + 1))]) ++ [.i .i64 f]
def pth (us : List CellD) (dx dy r z f : Int) : Nat → List CellD
  | 0 => mva us dx dy r z f 0
  | j + 1 => (pth us dx dy r z f j ++ mvf us dx dy r z f (j + 1)) ++ mva us dx dy r z f (j + 1)
theorem pth_len {us : List CellD} {dx dy r z f : Int} : ∀ j, (pth us dx dy r z f j).length = (2 * j + 1) * 7
  | 0 => rfl
  | j + 1 => by
    show ((pth us dx dy r z f j ++ _) ++ _).length = _
    rw [List.length_append, List.length_append, pth_len j]
    show (2 * j + 1) * 7 + 7 + 7 = _
    omega
theorem pth_J {us : List CellD} {dx dy r z f : Int} : ∀ j, (pth us dx dy r z f j).all isJ = true
  | 0 => rfl
  | j + 1 => by
    show ((pth us dx dy r z f j ++ _) ++ _).all isJ = true
    rw [List.all_append, List.all_append, pth_J j]
    rfl
theorem eq_g2r (a b : Int) (d : Nat) (w : World) : (Op.equalIn (d + 1 + 1) 23 (.agg #[.int .i64 a, .int .i64 b]) (.agg #[.int .i64 a, .int .i64 b])).run Try.prog w = .ok true w := by
  rw [run_equalIn_agg w _ _ _ _ (by kernel_rfl) (by kernel_rfl),
    show (Try.prog.fieldsOf 23).toList = [(Try.prog.fieldsOf 23)[0]!, (Try.prog.fieldsOf 23)[1]!] from by kernel_rfl,
    eqf_step (x := .int .i64 a) (y := .int .i64 a) (r := true) (of_decide_eq_true (by kernel_rfl)) (by kernel_rfl) (by kernel_rfl) ((run_equalIn_int w _ _ .i64 .i64 a a (by kernel_rfl)).trans (by rw [beq_self_eq_true])),
    eqf_step (x := .int .i64 b) (y := .int .i64 b) (r := true) (of_decide_eq_true (by kernel_rfl)) (by kernel_rfl) (by kernel_rfl) ((run_equalIn_int w _ _ .i64 .i64 b b (by kernel_rfl)).trans (by rw [beq_self_eq_true]))]
  rfl
theorem eq_move (k x y z a b f : Int) (w : World) : (Op.equalIn 10000 42 (.agg #[.int .i64 k, .int .i64 x, .int .i64 y, .int .i64 z, .int .i64 a, .int .i64 b, .int .i64 f]) (.agg #[.int .i64 k, .int .i64 x, .int .i64 y, .int .i64 z, .int .i64 a, .int .i64 b, .int .i64 f])).run Try.prog w = .ok true w := by
  rw [show (10000 : Nat) = 9997 + 1 + 1 + 1 from rfl, run_equalIn_agg w _ _ _ _ (by kernel_rfl) (by kernel_rfl),
    show (Try.prog.fieldsOf 42).toList = [(Try.prog.fieldsOf 42)[0]!, (Try.prog.fieldsOf 42)[1]!, (Try.prog.fieldsOf 42)[2]!, (Try.prog.fieldsOf 42)[3]!] from by kernel_rfl,
    eqf_step (x := .int .i64 k) (y := .int .i64 k) (r := true) (of_decide_eq_true (by kernel_rfl)) (by kernel_rfl) (by kernel_rfl) ((run_equalIn_int w _ _ .i64 .i64 k k (by kernel_rfl)).trans (by rw [beq_self_eq_true])),
    eqf_step (x := .agg #[.int .i64 x, .int .i64 y, .int .i64 z]) (y := .agg #[.int .i64 x, .int .i64 y, .int .i64 z]) (r := true) (of_decide_eq_true (by kernel_rfl)) (by kernel_rfl) (by kernel_rfl) (by rw [show ((Try.prog.fieldsOf 42)[1]!).type = 37 from by kernel_rfl]; exact eq_pos x y z 9997 w),
    eqf_step (x := .agg #[.int .i64 a, .int .i64 b]) (y := .agg #[.int .i64 a, .int .i64 b]) (r := true) (of_decide_eq_true (by kernel_rfl)) (by kernel_rfl) (by kernel_rfl) (by rw [show ((Try.prog.fieldsOf 42)[2]!).type = 23 from by kernel_rfl]; exact eq_g2r a b 9997 w),
    eqf_step (x := .int .i64 f) (y := .int .i64 f) (r := true) (of_decide_eq_true (by kernel_rfl)) (by kernel_rfl) (by kernel_rfl) ((run_equalIn_int w _ _ .i64 .i64 f f (by kernel_rfl)).trans (by rw [beq_self_eq_true]))]
  rfl
end Go.Proofs.Ytonjlikaacengaa
