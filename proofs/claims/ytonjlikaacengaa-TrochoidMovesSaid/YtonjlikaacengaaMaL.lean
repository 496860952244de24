/- Engaged: the program. -/
import Derived.Test.YtonjlikaacengaaMaK
import Derived.Test.YtonjlikaacengaaRows
import Derived.Deep.Slices
import Derived.ProofKit
import Derived.OpenShut
import Derived.Carry
namespace Go.Proofs.Ytonjlikaacengaa
open Go Go.RowKit
theorem tEg_bad {n : Nat} {us : List CellD} (_hl : us.length = n * 2) (_hJ : us.all isJ = true) {a t : Int} {c : Rat} (hc : Rz 20 c) (hA : a < 1 ∨ a > t ∨ t > 10000000 ∨ cosB c = false) : Ok Try.prog 17 [.c (.s n us), .c (.i .i64 a), .c (.i .i64 t), dR c] [.c (.b false)] := by
  refine Ok.of (by kernel_rfl) Try.func17 rfl rfl ?_
  rw [show Try.f17.ntmps = 134 from rfl, show Try.f17.results.toList = [.tmp 8] from rfl]
  refine dw_seq ?_
  -- region 0
  refine dw_region (by kernel_rfl) ?_
  refine dl_new (sem_box_a rfl rfl) rfl ?_
  refine dl_r (sem_assign rfl rfl) ?_
  refine dl_end ?_
  refine dw_seq ?_
  refine dw_seq ?_
  -- region 1
  refine dw_region (by kernel_rfl) ?_
  refine dl_r (sem_move rfl rfl) ?_
  refine dl_r (sem_cmp rfl rfl rfl rfl) ?_
  refine dl_rb (sem_move rfl rfl) (fun c1 hb1 => ?_)
  cases c1
  · refine dl_r (sem_move rfl rfl) ?_
    refine dl_r (sem_move rfl rfl) ?_
    refine dl_r (sem_cmp rfl rfl rfl rfl) ?_
    refine dl_r (sem_pick rfl rfl rfl rfl) ?_
    refine dl_rb (sem_move rfl rfl) (fun c2 hb2 => ?_)
    cases c2
    · refine dl_r (sem_move rfl rfl) ?_
      refine dl_r (sem_cmp rfl rfl rfl rfl) ?_
      refine dl_r (sem_pick rfl rfl rfl rfl) ?_
      refine dl_rb (sem_move rfl rfl) (fun c3 hb3 => ?_)
      cases c3
      · refine dl_r (sem_load (us := cR c) ty49 rfl rfl rfl rfl rfl) ?_
        refine dl_r (sem_call rfl rfl (tCos_ok (by first | assumption | exact Rz.mono hc (by decide))) rfl) ?_
        refine dl_r (sem_not rfl rfl) ?_
        refine dl_r (sem_pick rfl rfl rfl rfl) ?_
        refine dl_end ?_
        refine dw_cond rfl (fun hc4 => ?_) (fun hc4 => ?_)
        · refine dw_seq ?_
          -- region 2
          refine dw_region (by kernel_rfl) ?_
          refine dl_r (sem_assign rfl rfl) ?_
          refine dl_end ?_
          refine dw_ret ?_
          -- path fffT
          exact ⟨.inr rfl, (resL_tmp rfl resL_nil)⟩
        · rcases hA with h | h | h | h
          · exact absurd h (of_decide_eq_false hb1)
          · exact absurd h (of_decide_eq_false hb2)
          · exact absurd h (of_decide_eq_false hb3)
          · simp [h] at hc4
      · refine dl_skip (sem_skip rfl) ?_
        refine dl_skip (sem_skip rfl) ?_
        refine dl_skip (sem_skip rfl) ?_
        refine dl_r (sem_pick rfl rfl rfl rfl) ?_
        refine dl_end ?_
        refine dw_true rfl ?_
        refine dw_seq ?_
        -- region 2
        refine dw_region (by kernel_rfl) ?_
        refine dl_r (sem_assign rfl rfl) ?_
        refine dl_end ?_
        refine dw_ret ?_
        -- path fft
        exact ⟨.inr rfl, (resL_tmp rfl resL_nil)⟩
    · refine dl_skip (sem_skip rfl) ?_
      refine dl_skip (sem_skip rfl) ?_
      refine dl_r (sem_pick rfl rfl rfl rfl) ?_
      refine dl_r (sem_move rfl rfl) ?_
      refine dl_skip (sem_skip rfl) ?_
      refine dl_skip (sem_skip rfl) ?_
      refine dl_skip (sem_skip rfl) ?_
      refine dl_r (sem_pick rfl rfl rfl rfl) ?_
      refine dl_end ?_
      refine dw_true rfl ?_
      refine dw_seq ?_
      -- region 2
      refine dw_region (by kernel_rfl) ?_
      refine dl_r (sem_assign rfl rfl) ?_
      refine dl_end ?_
      refine dw_ret ?_
      -- path ft
      exact ⟨.inr rfl, (resL_tmp rfl resL_nil)⟩
  · refine dl_skip (sem_skip rfl) ?_
    refine dl_skip (sem_skip rfl) ?_
    refine dl_skip (sem_skip rfl) ?_
    refine dl_r (sem_pick rfl rfl rfl rfl) ?_
    refine dl_r (sem_move rfl rfl) ?_
    refine dl_skip (sem_skip rfl) ?_
    refine dl_skip (sem_skip rfl) ?_
    refine dl_r (sem_pick rfl rfl rfl rfl) ?_
    refine dl_r (sem_move rfl rfl) ?_
    refine dl_skip (sem_skip rfl) ?_
    refine dl_skip (sem_skip rfl) ?_
    refine dl_skip (sem_skip rfl) ?_
    refine dl_r (sem_pick rfl rfl rfl rfl) ?_
    refine dl_end ?_
    refine dw_true rfl ?_
    refine dw_seq ?_
    -- region 2
    refine dw_region (by kernel_rfl) ?_
    refine dl_r (sem_assign rfl rfl) ?_
    refine dl_end ?_
    refine dw_ret ?_
    -- path t
    exact ⟨.inr rfl, (resL_tmp rfl resL_nil)⟩
theorem tEg_few {n : Nat} {us : List CellD} (hl : us.length = n * 2) (_hJ : us.all isJ = true) (hn : n ≤ 9000000000000000000) {a t : Int} {c : Rat} (hc : Rz 20 c) (ha : 1 ≤ a) (hat : a ≤ t) (ht2 : t ≤ 10000000) (hcos : cosB c = true) (hn2 : n < 2) : Ok Try.prog 17 [.c (.s n us), .c (.i .i64 a), .c (.i .i64 t), dR c] [.c (.b true)] := by
  refine Ok.of (by kernel_rfl) Try.func17 rfl rfl ?_
  rw [show Try.f17.ntmps = 134 from rfl, show Try.f17.results.toList = [.tmp 8] from rfl]
  refine dw_seq ?_
  -- region 0
  refine dw_region (by kernel_rfl) ?_
  refine dl_new (sem_box_a rfl rfl) rfl ?_
  refine dl_r (sem_assign rfl rfl) ?_
  refine dl_end ?_
  refine dw_seq ?_
  refine dw_seq ?_
  -- region 1
  refine dw_region (by kernel_rfl) ?_
  refine dl_r (sem_move rfl rfl) ?_
  refine dl_r (sem_castb (c := false) (sem_cmp rfl rfl rfl rfl) (decide_eq_false (by omega))) ?_
  refine dl_r (sem_move rfl rfl) ?_
  refine dl_r (sem_move rfl rfl) ?_
  refine dl_r (sem_move rfl rfl) ?_
  refine dl_r (sem_castb (c := false) (sem_cmp rfl rfl rfl rfl) (decide_eq_false (by omega))) ?_
  refine dl_r (sem_pick rfl rfl rfl rfl) ?_
  refine dl_r (sem_move rfl rfl) ?_
  refine dl_r (sem_move rfl rfl) ?_
  refine dl_r (sem_castb (c := false) (sem_cmp rfl rfl rfl rfl) (decide_eq_false (by omega))) ?_
  refine dl_r (sem_pick rfl rfl rfl rfl) ?_
  refine dl_r (sem_move rfl rfl) ?_
  refine dl_r (sem_load (us := cR c) ty49 rfl rfl rfl rfl rfl) ?_
  refine dl_r (sem_call rfl rfl (rcastb (tCos_ok (by first | assumption | exact Rz.mono hc (by decide))) hcos) rfl) ?_
  refine dl_r (sem_not rfl rfl) ?_
  refine dl_r (sem_pick rfl rfl rfl rfl) ?_
  refine dl_end ?_
  refine dw_false rfl ?_
  refine dw_skip ?_
  refine dw_seq ?_
  refine dw_seq ?_
  -- region 3
  refine dw_region (by kernel_rfl) ?_
  refine dl_r (sem_move rfl rfl) ?_
  refine dl_r (sem_len sl27 rfl rfl) ?_
  refine dl_r (sem_castb (c := true) (sem_cmp rfl rfl rfl rfl) (decide_eq_true (by omega))) ?_
  refine dl_end ?_
  refine dw_true rfl ?_
  refine dw_seq ?_
  -- region 4
  refine dw_region (by kernel_rfl) ?_
  refine dl_r (sem_assign rfl rfl) ?_
  refine dl_end ?_
  refine dw_ret ?_
  -- path 
  exact ⟨.inr rfl, (resL_tmp rfl resL_nil)⟩
theorem tEg_no {n : Nat} {us : List CellD} (hl : us.length = n * 2) (hJ : us.all isJ = true) (hn : n ≤ 9000000000000000000) {a t : Int} {c : Rat} (hc : Rz 20 c) (ha : 1 ≤ a) (hat : a ≤ t) (ht2 : t ≤ 10000000) (hcos : cosB c = true) (hn2 : 2 ≤ n) (hok : dk us 1 = false) : Ok Try.prog 17 [.c (.s n us), .c (.i .i64 a), .c (.i .i64 t), dR c] [.c (.b false)] := by
  refine Ok.of (by kernel_rfl) Try.func17 rfl rfl ?_
  rw [show Try.f17.ntmps = 134 from rfl, show Try.f17.results.toList = [.tmp 8] from rfl]
  refine dw_seq ?_
  -- region 0
  refine dw_region (by kernel_rfl) ?_
  refine dl_new (sem_box_a rfl rfl) rfl ?_
  refine dl_r (sem_assign rfl rfl) ?_
  refine dl_end ?_
  refine dw_seq ?_
  refine dw_seq ?_
  -- region 1
  refine dw_region (by kernel_rfl) ?_
  refine dl_r (sem_move rfl rfl) ?_
  refine dl_r (sem_castb (c := false) (sem_cmp rfl rfl rfl rfl) (decide_eq_false (by omega))) ?_
  refine dl_r (sem_move rfl rfl) ?_
  refine dl_r (sem_move rfl rfl) ?_
  refine dl_r (sem_move rfl rfl) ?_
  refine dl_r (sem_castb (c := false) (sem_cmp rfl rfl rfl rfl) (decide_eq_false (by omega))) ?_
  refine dl_r (sem_pick rfl rfl rfl rfl) ?_
  refine dl_r (sem_move rfl rfl) ?_
  refine dl_r (sem_move rfl rfl) ?_
  refine dl_r (sem_castb (c := false) (sem_cmp rfl rfl rfl rfl) (decide_eq_false (by omega))) ?_
  refine dl_r (sem_pick rfl rfl rfl rfl) ?_
  refine dl_r (sem_move rfl rfl) ?_
  refine dl_r (sem_load (us := cR c) ty49 rfl rfl rfl rfl rfl) ?_
  refine dl_r (sem_call rfl rfl (rcastb (tCos_ok (by first | assumption | exact Rz.mono hc (by decide))) hcos) rfl) ?_
  refine dl_r (sem_not rfl rfl) ?_
  refine dl_r (sem_pick rfl rfl rfl rfl) ?_
  refine dl_end ?_
  refine dw_false rfl ?_
  refine dw_skip ?_
  refine dw_seq ?_
  refine dw_seq ?_
  -- region 3
  refine dw_region (by kernel_rfl) ?_
  refine dl_r (sem_move rfl rfl) ?_
  refine dl_r (sem_len sl27 rfl rfl) ?_
  refine dl_r (sem_castb (c := false) (sem_cmp rfl rfl rfl rfl) (decide_eq_false (by omega))) ?_
  refine dl_end ?_
  refine dw_false rfl ?_
  refine dw_skip ?_
  refine dw_seq ?_
  -- region 5
  refine dw_draw 13 [9] follows_mixed (by kernel_rfl) rfl rfl ?_
  refine dq_r (sem_move rfl rfl) ?_
  refine dq_r (sem_index (us := [.i .i64 (ci us (0 * 2))] ++ [.i .i64 (ci us (0 * 2 + 1))] ++ us.drop (0 * 2 + 2)) sl27 rfl rfl (by omega) (hl) (ci_drop2 hl hJ (by omega)) rfl) ?_
  refine dq_r (sem_loadq (us := ([.i .i64 (ci us (0 * 2))] ++ [.i .i64 (ci us (0 * 2 + 1))])) ty23 rfl rfl rfl rfl) ?_
  refine dq_r (sem_move rfl rfl) ?_
  refine dq_r (sem_index (us := [.i .i64 (ci us (1 * 2))] ++ [.i .i64 (ci us (1 * 2 + 1))] ++ us.drop (1 * 2 + 2)) sl27 rfl rfl (by omega) (hl) (ci_drop2 hl hJ (by omega)) rfl) ?_
  refine dq_r (sem_loadq (us := ([.i .i64 (ci us (1 * 2))] ++ [.i .i64 (ci us (1 * 2 + 1))])) ty23 rfl rfl rfl rfl) ?_
  refine dq_r (sem_call rfl rfl (icast2b tDir_ok (x' := dX us 1) (y' := dY us 1) rfl rfl hok) rfl) ?_
  refine dq_r (sem_move rfl rfl) ?_
  refine dq_r (sem_extract rfl rfl rfl) ?_
  refine dq_r (sem_extract rfl rfl rfl) ?_
  refine dq_new (sem_alloc zc23 rfl) rfl ?_
  refine dq_sn (sem_store_a ty23 rfl rfl rfl rfl rfl rfl) rfl rfl rfl ?_
  refine dq_r (sem_assign rfl rfl) ?_
  refine dq_end ?_
  refine dl_start2 ?_
  refine dl_end ?_
  refine dw_seq ?_
  -- region 6
  refine dw_region (by kernel_rfl) ?_
  refine dl_r (sem_assign rfl rfl) ?_
  refine dl_end ?_
  refine dw_seq ?_
  refine dw_seq ?_
  -- region 7
  refine dw_region (by kernel_rfl) ?_
  refine dl_r (sem_move rfl rfl) ?_
  refine dl_r (sem_len sl27 rfl rfl) ?_
  refine dl_r (sem_move rfl rfl) ?_
  refine dl_end ?_
  refine dw_block ?_
  refine dw_loop (ι := Nat) (fun i => match i with | _ => ⟨134, [(0, .v (.c (.s n us))), (10, .v (.c (.b false))), (46, .v (.c (.s n us))), (47, .v (.c (.i .i64 (n : Int)))), (48, .v (.c (.i .i64 0)))], []⟩) (fun i => 0 - i) 0 (sub_of ⟨rfl, rfl, rfl, rfl, rfl, trivial⟩ trivial rfl) ?_
  intro i
  match i with
  | _ =>
    show Dw _ _ ⟨134, [(0, .v (.c (.s n us))), (10, .v (.c (.b false))), (46, .v (.c (.s n us))), (47, .v (.c (.i .i64 (n : Int)))), (48, .v (.c (.i .i64 0)))], []⟩ _
    refine dw_seq ?_
    -- region 8
    refine dw_region (by kernel_rfl) ?_
    refine dl_r (sem_castb (c := true) (sem_cmp rfl rfl rfl rfl) (decide_eq_true (by omega))) ?_
    refine dl_end ?_
    refine dw_seq ?_
    refine dw_true rfl ?_
    refine dw_skip ?_
    refine dw_seq ?_
    refine dw_block ?_
    refine dw_seq ?_
    -- region 9
    refine dw_region (by kernel_rfl) ?_
    refine dl_r (sem_move rfl rfl) ?_
    refine dl_r (sem_index (us := [.i .i64 (ci us (0 * 2))] ++ [.i .i64 (ci us (0 * 2 + 1))] ++ us.drop (0 * 2 + 2)) sl27 rfl rfl (by omega) (hl) (ci_drop2 hl hJ (by omega)) rfl) ?_
    refine dl_r (sem_loadq (us := ([.i .i64 (ci us (0 * 2))] ++ [.i .i64 (ci us (0 * 2 + 1))])) ty23 rfl rfl rfl rfl) ?_
    refine dl_new (sem_alloc zc23 rfl) rfl ?_
    refine dl_r (sem_assign rfl rfl) ?_
    refine dl_st (sem_store_a ty23 rfl rfl rfl rfl rfl rfl) ?_
    refine dl_end ?_
    refine dw_seq ?_
    refine dw_seq ?_
    -- region 10
    refine dw_region (by kernel_rfl) ?_
    refine dl_r (sem_move rfl rfl) ?_
    refine dl_r (sem_not rfl rfl) ?_
    refine dl_r (sem_move rfl rfl) ?_
    refine dl_skip (sem_skip rfl) ?_
    refine dl_skip (sem_skip rfl) ?_
    refine dl_skip (sem_skip rfl) ?_
    refine dl_skip (sem_skip rfl) ?_
    refine dl_skip (sem_skip rfl) ?_
    refine dl_skip (sem_skip rfl) ?_
    refine dl_skip (sem_skip rfl) ?_
    refine dl_r (sem_pick rfl rfl rfl rfl) ?_
    refine dl_end ?_
    refine dw_true rfl ?_
    refine dw_seq ?_
    -- region 11
    refine dw_region (by kernel_rfl) ?_
    refine dl_r (sem_assign rfl rfl) ?_
    refine dl_end ?_
    refine dw_ret ?_
    -- path L0
    exact ⟨.inr rfl, (resL_tmp rfl resL_nil)⟩
theorem tEg_ok {n : Nat} {us : List CellD} (hl : us.length = n * 2) (hJ : us.all isJ = true) (hn : n ≤ 9000000000000000000) {a t : Int} {c : Rat} (hc : Rz 20 c) (ha : 1 ≤ a) (hat : a ≤ t) (ht2 : t ≤ 10000000) (hcos : cosB c = true) (hn2 : 2 ≤ n) (hok : dk us 1 = true) : Ok Try.prog 17 [.c (.s n us), .c (.i .i64 a), .c (.i .i64 t), dR c] [.c (.b (engB us n a t c))] := by
  refine Ok.of (by kernel_rfl) Try.func17 rfl rfl ?_
  rw [show Try.f17.ntmps = 134 from rfl, show Try.f17.results.toList = [.tmp 8] from rfl]
  refine dw_seq ?_
  -- region 0
  refine dw_region (by kernel_rfl) ?_
  refine dl_new (sem_box_a rfl rfl) rfl ?_
  refine dl_r (sem_assign rfl rfl) ?_
  refine dl_end ?_
  refine dw_seq ?_
  refine dw_seq ?_
  -- region 1
  refine dw_region (by kernel_rfl) ?_
  refine dl_r (sem_move rfl rfl) ?_
  refine dl_r (sem_castb (c := false) (sem_cmp rfl rfl rfl rfl) (decide_eq_false (by omega))) ?_
  refine dl_r (sem_move rfl rfl) ?_
  refine dl_r (sem_move rfl rfl) ?_
  refine dl_r (sem_move rfl rfl) ?_
  refine dl_r (sem_castb (c := false) (sem_cmp rfl rfl rfl rfl) (decide_eq_false (by omega))) ?_
  refine dl_r (sem_pick rfl rfl rfl rfl) ?_
  refine dl_r (sem_move rfl rfl) ?_
  refine dl_r (sem_move rfl rfl) ?_
  refine dl_r (sem_castb (c := false) (sem_cmp rfl rfl rfl rfl) (decide_eq_false (by omega))) ?_
  refine dl_r (sem_pick rfl rfl rfl rfl) ?_
  refine dl_r (sem_move rfl rfl) ?_
  refine dl_r (sem_load (us := cR c) ty49 rfl rfl rfl rfl rfl) ?_
  refine dl_r (sem_call rfl rfl (rcastb (tCos_ok (by first | assumption | exact Rz.mono hc (by decide))) hcos) rfl) ?_
  refine dl_r (sem_not rfl rfl) ?_
  refine dl_r (sem_pick rfl rfl rfl rfl) ?_
  refine dl_end ?_
  refine dw_false rfl ?_
  refine dw_skip ?_
  refine dw_seq ?_
  refine dw_seq ?_
  -- region 3
  refine dw_region (by kernel_rfl) ?_
  refine dl_r (sem_move rfl rfl) ?_
  refine dl_r (sem_len sl27 rfl rfl) ?_
  refine dl_r (sem_castb (c := false) (sem_cmp rfl rfl rfl rfl) (decide_eq_false (by omega))) ?_
  refine dl_end ?_
  refine dw_false rfl ?_
  refine dw_skip ?_
  refine dw_seq ?_
  -- region 5
  refine dw_draw 13 [9] follows_mixed (by kernel_rfl) rfl rfl ?_
  refine dq_r (sem_move rfl rfl) ?_
  refine dq_r (sem_index (us := [.i .i64 (ci us (0 * 2))] ++ [.i .i64 (ci us (0 * 2 + 1))] ++ us.drop (0 * 2 + 2)) sl27 rfl rfl (by omega) (hl) (ci_drop2 hl hJ (by omega)) rfl) ?_
  refine dq_r (sem_loadq (us := ([.i .i64 (ci us (0 * 2))] ++ [.i .i64 (ci us (0 * 2 + 1))])) ty23 rfl rfl rfl rfl) ?_
  refine dq_r (sem_move rfl rfl) ?_
  refine dq_r (sem_index (us := [.i .i64 (ci us (1 * 2))] ++ [.i .i64 (ci us (1 * 2 + 1))] ++ us.drop (1 * 2 + 2)) sl27 rfl rfl (by omega) (hl) (ci_drop2 hl hJ (by omega)) rfl) ?_
  refine dq_r (sem_loadq (us := ([.i .i64 (ci us (1 * 2))] ++ [.i .i64 (ci us (1 * 2 + 1))])) ty23 rfl rfl rfl rfl) ?_
  refine dq_r (sem_call rfl rfl (icast2b tDir_ok (x' := dX us 1) (y' := dY us 1) rfl rfl hok) rfl) ?_
  refine dq_r (sem_move rfl rfl) ?_
  refine dq_r (sem_extract rfl rfl rfl) ?_
  refine dq_r (sem_extract rfl rfl rfl) ?_
  refine dq_new (sem_alloc zc23 rfl) rfl ?_
  refine dq_sn (sem_store_a ty23 rfl rfl rfl rfl rfl rfl) rfl rfl rfl ?_
  refine dq_r (sem_assign rfl rfl) ?_
  refine dq_end ?_
  refine dl_start2 ?_
  refine dl_end ?_
  refine dw_seq ?_
  -- region 6
  refine dw_region (by kernel_rfl) ?_
  refine dl_r (sem_assign rfl rfl) ?_
  refine dl_end ?_
  refine dw_seq ?_
  refine dw_seq ?_
  -- region 7
  refine dw_region (by kernel_rfl) ?_
  refine dl_r (sem_move rfl rfl) ?_
  refine dl_r (sem_len sl27 rfl rfl) ?_
  refine dl_r (sem_move rfl rfl) ?_
  refine dl_end ?_
  refine dw_block ?_
  refine dw_loop (ι := {j : Nat // j ≤ n ∧ ∀ i, i < j → eg us a i = false}) (fun i => ⟨134, [(0, .v (.c (.s n us))), (1, .v (.c (.i .i64 a))), (2, .v (.c (.i .i64 t))), (7, .p 7 0), (9, .p 9 0), (10, .v (.c (.b true))), (11, .v (.c (.i .i64 (gmx us i.1)))), (46, .v (.c (.s n us))), (47, .v (.c (.i .i64 (n : Int)))), (48, .v (.c (.i .i64 (i.1 : Int))))], [(7, 49, cR c), (9, 23, ([.i .i64 (dX us 1)] ++ [.i .i64 (dY us 1)]))]⟩) (fun i => n - i.1) ⟨0, Nat.zero_le _, fun i hi => absurd hi (Nat.not_lt_zero i)⟩ (sub_of ⟨rfl, rfl, rfl, rfl, rfl, rfl, rfl, rfl, rfl, rfl, trivial⟩ ⟨rfl, rfl, trivial⟩ rfl) ?_
  rintro ⟨j, h2, h3⟩
  replace h2 : j ≤ n := h2
  replace h3 : ∀ i, i < j → eg us a i = false := h3
  show Dw _ _ ⟨134, [(0, .v (.c (.s n us))), (1, .v (.c (.i .i64 a))), (2, .v (.c (.i .i64 t))), (7, .p 7 0), (9, .p 9 0), (10, .v (.c (.b true))), (11, .v (.c (.i .i64 (gmx us j)))), (46, .v (.c (.s n us))), (47, .v (.c (.i .i64 (n : Int)))), (48, .v (.c (.i .i64 (j : Int))))], [(7, 49, cR c), (9, 23, ([.i .i64 (dX us 1)] ++ [.i .i64 (dY us 1)]))]⟩ _
  refine dw_seq ?_
  -- region 8
  refine dw_region (by kernel_rfl) ?_
  refine dl_r (sem_cmp rfl rfl rfl rfl) ?_
  refine dl_end ?_
  refine dw_seq ?_
  refine dw_cond rfl (fun hc1 => ?_) (fun hc1 => ?_)
  · have g1 : j < n := by have := of_decide_eq_true hc1; omega
    refine dw_skip ?_
    refine dw_seq ?_
    refine dw_block ?_
    refine dw_seq ?_
    -- region 9
    refine dw_region (by kernel_rfl) ?_
    refine dl_r (sem_move rfl rfl) ?_
    refine dl_r (sem_index (us := [.i .i64 (ci us (j * 2))] ++ [.i .i64 (ci us (j * 2 + 1))] ++ us.drop (j * 2 + 2)) sl27 rfl rfl (by omega) (hl) (ci_drop2 hl hJ (by omega)) rfl) ?_
    refine dl_r (sem_loadq (us := ([.i .i64 (ci us (j * 2))] ++ [.i .i64 (ci us (j * 2 + 1))])) ty23 rfl rfl rfl rfl) ?_
    refine dl_new (sem_alloc zc23 rfl) rfl ?_
    refine dl_r (sem_assign rfl rfl) ?_
    refine dl_st (sem_store_a ty23 rfl rfl rfl rfl rfl rfl) ?_
    refine dl_end ?_
    refine dw_seq ?_
    refine dw_seq ?_
    -- region 10
    refine dw_region (by kernel_rfl) ?_
    refine dl_r (sem_move rfl rfl) ?_
    refine dl_r (sem_not rfl rfl) ?_
    refine dl_r (sem_move rfl rfl) ?_
    refine dl_r (sem_field fd23_0 rfl rfl) ?_
    refine dl_r (sem_load1 ty2 rfl rfl rfl rfl) ?_
    refine dl_r (sem_field fd23_1 rfl rfl) ?_
    refine dl_r (sem_load1 ty2 rfl rfl rfl rfl) ?_
    refine dl_r (sem_slit_D (n := 2) (us := [.i .i64 (ci us (j * 2))] ++ [.i .i64 (ci us (j * 2 + 1))]) el62 rfl rfl rfl (by decide) (by decide) rfl) ?_
    refine dl_r (sem_call rfl rfl (tGrid2) rfl) ?_
    refine dl_r (sem_not rfl rfl) ?_
    refine dl_r (sem_pick rfl rfl rfl rfl) ?_
    refine dl_end ?_
    refine dw_cond rfl (fun hc2 => ?_) (fun hc2 => ?_)
    · have e1 := eg_1 (a := a) hc2
      refine dw_seq ?_
      -- region 11
      refine dw_region (by kernel_rfl) ?_
      refine dl_r (sem_assign rfl rfl) ?_
      refine dl_end ?_
      refine dw_ret ?_
      -- path TT
      rw [engB_f g1 e1]
      exact ⟨.inr rfl, (resL_tmp rfl resL_nil)⟩
    · have e1 := fr_1 hc2
      refine dw_skip ?_
      refine dw_seq ?_
      refine dw_seq ?_
      -- region 12
      refine dw_region (by kernel_rfl) ?_
      refine dl_r (sem_move rfl rfl) ?_
      refine dl_r (sem_cmp rfl rfl rfl rfl) ?_
      refine dl_end ?_
      refine dw_cond rfl (fun hc3 => ?_) (fun hc3 => ?_)
      · have e2 : j = 0 := by have := eq_of_beq hc3; omega
        have e3 := eg_0 (a := a) e1 e2
        refine dw_exit ?_
        -- region 18
        refine dw_region (by kernel_rfl) ?_
        refine dl_r (sem_ari (r := ((j + 1 : Nat) : Int)) rfl rfl ((ari_i64_add (by omega) (by omega)).trans (congrArg some (by omega))) rfl) ?_
        refine dl_r (sem_move rfl rfl) ?_
        refine dl_end ?_
        exact ⟨⟨j + 1, by omega, fun i hi => (Nat.lt_or_ge i j).elim (h3 i) (fun h9 => by rw [show i = j by omega]; exact e3)⟩, sub_of ⟨rfl, rfl, rfl, rfl, rfl, rfl, by rw [← gmx_0 e2]; rfl, rfl, rfl, rfl, trivial⟩ ⟨rfl, rfl, trivial⟩ rfl, by show n - (j + 1) < n - j; omega⟩
      · have e2 : j ≠ 0 := by intro h0; subst h0; simp at hc3
        have b1 := far_n e1.1
        have b2 := far_n e1.2
        have b3 := eg_far (h3 (j - 1) (by omega))
        refine dw_skip ?_
        refine dw_seq ?_
        -- region 13
        refine dw_draw 13 [14] follows_mixed (by kernel_rfl) rfl rfl ?_
        refine dq_r (sem_move rfl rfl) ?_
        refine dq_r (sem_move rfl rfl) ?_
        refine dq_r (sem_ari (r := ((j - 1 : Nat) : Int)) rfl rfl ((ari_i64_sub (by omega) (by omega)).trans (congrArg some (by omega))) rfl) ?_
        refine dq_r (sem_index (us := [.i .i64 (ci us ((j - 1) * 2))] ++ [.i .i64 (ci us ((j - 1) * 2 + 1))] ++ us.drop ((j - 1) * 2 + 2)) sl27 rfl rfl (by omega) (hl) (ci_drop2 hl hJ (by omega)) rfl) ?_
        refine dq_r (sem_loadq (us := ([.i .i64 (ci us ((j - 1) * 2))] ++ [.i .i64 (ci us ((j - 1) * 2 + 1))])) ty23 rfl rfl rfl rfl) ?_
        refine dq_r (sem_load (us := ([.i .i64 (ci us (j * 2))] ++ [.i .i64 (ci us (j * 2 + 1))])) ty23 rfl rfl rfl rfl rfl) ?_
        refine dq_r (sem_call rfl rfl (icast2b tDir_ok (x' := dX us j) (y' := dY us j) (c := dk us j) rfl rfl rfl) rfl) ?_
        refine dq_r (sem_move rfl rfl) ?_
        refine dq_r (sem_extract rfl rfl rfl) ?_
        refine dq_r (sem_extract rfl rfl rfl) ?_
        refine dq_new (sem_alloc zc23 rfl) rfl ?_
        refine dq_sn (sem_store_a ty23 rfl rfl rfl rfl rfl rfl) rfl rfl rfl ?_
        refine dq_r (sem_assign rfl rfl) ?_
        refine dq_end ?_
        refine dl_start2 ?_
        refine dl_end ?_
        refine dw_seq ?_
        -- region 14
        refine dw_draw 38 [] follows_mixed (by kernel_rfl) rfl rfl ?_
        refine dq_r (sem_field fd23_0 rfl rfl) ?_
        refine dq_r (sem_load1 ty2 rfl rfl rfl rfl) ?_
        refine dq_r (sem_move rfl rfl) ?_
        refine dq_r (sem_move rfl rfl) ?_
        refine dq_r (sem_ari (r := ((j - 1 : Nat) : Int)) rfl rfl ((ari_i64_sub (by omega) (by omega)).trans (congrArg some (by omega))) rfl) ?_
        refine dq_r (sem_index (us := [.i .i64 (ci us ((j - 1) * 2))] ++ [.i .i64 (ci us ((j - 1) * 2 + 1))] ++ us.drop ((j - 1) * 2 + 2)) sl27 rfl rfl (by omega) (hl) (ci_drop2 hl hJ (by omega)) rfl) ?_
        refine dq_r (sem_fieldq fd23_0 rfl rfl rfl) ?_
        refine dq_r (sem_loadq1 ty2 rfl rfl rfl) ?_
        refine dq_r (sem_ari (r := ci us (j * 2) - ci us ((j - 1) * 2)) rfl rfl (ari_i64_sub (by omega) (by omega)) rfl) ?_
        refine dq_r (sem_move rfl rfl) ?_
        refine dq_r (sem_move rfl rfl) ?_
        refine dq_r (sem_ari (r := ((j - 1 : Nat) : Int)) rfl rfl ((ari_i64_sub (by omega) (by omega)).trans (congrArg some (by omega))) rfl) ?_
        refine dq_r (sem_index (us := [.i .i64 (ci us ((j - 1) * 2))] ++ [.i .i64 (ci us ((j - 1) * 2 + 1))] ++ us.drop ((j - 1) * 2 + 2)) sl27 rfl rfl (by omega) (hl) (ci_drop2 hl hJ (by omega)) rfl) ?_
        refine dq_r (sem_fieldq fd23_0 rfl rfl rfl) ?_
        refine dq_r (sem_loadq1 ty2 rfl rfl rfl) ?_
        refine dq_r (sem_field fd23_0 rfl rfl) ?_
        refine dq_r (sem_load1 ty2 rfl rfl rfl rfl) ?_
        refine dq_r (sem_ari (r := ci us ((j - 1) * 2) - ci us (j * 2)) rfl rfl (ari_i64_sub (by omega) (by omega)) rfl) ?_
        refine dq_r (sem_field fd23_1 rfl rfl) ?_
        refine dq_r (sem_load1 ty2 rfl rfl rfl rfl) ?_
        refine dq_r (sem_move rfl rfl) ?_
        refine dq_r (sem_move rfl rfl) ?_
        refine dq_r (sem_ari (r := ((j - 1 : Nat) : Int)) rfl rfl ((ari_i64_sub (by omega) (by omega)).trans (congrArg some (by omega))) rfl) ?_
        refine dq_r (sem_index (us := [.i .i64 (ci us ((j - 1) * 2))] ++ [.i .i64 (ci us ((j - 1) * 2 + 1))] ++ us.drop ((j - 1) * 2 + 2)) sl27 rfl rfl (by omega) (hl) (ci_drop2 hl hJ (by omega)) rfl) ?_
        refine dq_r (sem_fieldq fd23_1 rfl rfl rfl) ?_
        refine dq_r (sem_loadq1 ty2 rfl rfl rfl) ?_
        refine dq_r (sem_ari (r := ci us (j * 2 + 1) - ci us ((j - 1) * 2 + 1)) rfl rfl (ari_i64_sub (by omega) (by omega)) rfl) ?_
        refine dq_r (sem_move rfl rfl) ?_
        refine dq_r (sem_move rfl rfl) ?_
        refine dq_r (sem_ari (r := ((j - 1 : Nat) : Int)) rfl rfl ((ari_i64_sub (by omega) (by omega)).trans (congrArg some (by omega))) rfl) ?_
        refine dq_r (sem_index (us := [.i .i64 (ci us ((j - 1) * 2))] ++ [.i .i64 (ci us ((j - 1) * 2 + 1))] ++ us.drop ((j - 1) * 2 + 2)) sl27 rfl rfl (by omega) (hl) (ci_drop2 hl hJ (by omega)) rfl) ?_
        refine dq_r (sem_fieldq fd23_1 rfl rfl rfl) ?_
        refine dq_r (sem_loadq1 ty2 rfl rfl rfl) ?_
        refine dq_r (sem_field fd23_1 rfl rfl) ?_
        refine dq_r (sem_load1 ty2 rfl rfl rfl rfl) ?_
        refine dq_r (sem_ari (r := ci us ((j - 1) * 2 + 1) - ci us (j * 2 + 1)) rfl rfl (ari_i64_sub (by omega) (by omega)) rfl) ?_
        refine dq_r (sem_casti (c := stp us j) (sem_max4 rfl rfl rfl rfl rfl) rfl) ?_
        refine dq_r (sem_assign rfl rfl) ?_
        refine dq_end ?_
        refine dl_start0 ?_
        refine dl_end ?_
        refine dw_seq ?_
        refine dw_seq ?_
        -- region 15
        refine dw_region (by kernel_rfl) ?_
        refine dl_r (sem_move rfl rfl) ?_
        refine dl_r (sem_not rfl rfl) ?_
        refine dl_rb (sem_move rfl rfl) (fun c4 hb4 => ?_)
        cases c4
        · refine dl_r (sem_load (us := ([.i .i64 (dX us j)] ++ [.i .i64 (dY us j)])) ty23 rfl rfl rfl rfl rfl) ?_
          refine dl_r (sem_load (us := ([.i .i64 (dX us 1)] ++ [.i .i64 (dY us 1)])) ty23 rfl rfl rfl rfl rfl) ?_
          refine dl_r (sem_sne rfl rfl rfl rfl (by kernel_rfl) (fun w => eq_g2 (dX us j) (dY us j) (dX us 1) (dY us 1) w) rfl) ?_
          refine dl_r (sem_pick rfl rfl rfl rfl) ?_
          refine dl_rb (sem_move rfl rfl) (fun c5 hb5 => ?_)
          cases c5
          · refine dl_r (sem_move rfl rfl) ?_
            refine dl_r (sem_move rfl rfl) ?_
            refine dl_r (sem_cmp rfl rfl rfl rfl) ?_
            refine dl_r (sem_pick rfl rfl rfl rfl) ?_
            refine dl_end ?_
            refine dw_cond rfl (fun hc6 => ?_) (fun hc6 => ?_)
            · have e3 := eg_4 e2 hc6
              refine dw_seq ?_
              -- region 16
              refine dw_region (by kernel_rfl) ?_
              refine dl_r (sem_assign rfl rfl) ?_
              refine dl_end ?_
              refine dw_ret ?_
              -- path TFFffT
              rw [engB_f g1 e3]
              exact ⟨.inr rfl, (resL_tmp rfl resL_nil)⟩
            · have e3 := eg_5 e1 hb4 hb5 hc6
              refine dw_skip ?_
              -- region 17
              refine dw_region (by kernel_rfl) ?_
              refine dl_r (sem_move rfl rfl) ?_
              refine dl_r (sem_move rfl rfl) ?_
              refine dl_r (sem_max rfl rfl rfl) ?_
              refine dl_r (sem_assign rfl rfl) ?_
              refine dl_end ?_
              -- region 18
              refine dw_region (by kernel_rfl) ?_
              refine dl_r (sem_ari (r := ((j + 1 : Nat) : Int)) rfl rfl ((ari_i64_add (by omega) (by omega)).trans (congrArg some (by omega))) rfl) ?_
              refine dl_r (sem_move rfl rfl) ?_
              refine dl_end ?_
              exact ⟨⟨j + 1, by omega, fun i hi => (Nat.lt_or_ge i j).elim (h3 i) (fun h9 => by rw [show i = j by omega]; exact e3)⟩, sub_of ⟨rfl, rfl, rfl, rfl, rfl, rfl, by rw [← gmx_s e2]; rfl, rfl, rfl, rfl, trivial⟩ ⟨rfl, rfl, trivial⟩ rfl, by show n - (j + 1) < n - j; omega⟩
          · have e3 := eg_3 (a := a) e2 hb5
            refine dl_skip (sem_skip rfl) ?_
            refine dl_skip (sem_skip rfl) ?_
            refine dl_skip (sem_skip rfl) ?_
            refine dl_r (sem_pick rfl rfl rfl rfl) ?_
            refine dl_end ?_
            refine dw_true rfl ?_
            refine dw_seq ?_
            -- region 16
            refine dw_region (by kernel_rfl) ?_
            refine dl_r (sem_assign rfl rfl) ?_
            refine dl_end ?_
            refine dw_ret ?_
            -- path TFFft
            rw [engB_f g1 e3]
            exact ⟨.inr rfl, (resL_tmp rfl resL_nil)⟩
        · have e3 := eg_2 (a := a) e2 hb4
          refine dl_skip (sem_skip rfl) ?_
          refine dl_skip (sem_skip rfl) ?_
          refine dl_skip (sem_skip rfl) ?_
          refine dl_r (sem_pick rfl rfl rfl rfl) ?_
          refine dl_r (sem_move rfl rfl) ?_
          refine dl_skip (sem_skip rfl) ?_
          refine dl_skip (sem_skip rfl) ?_
          refine dl_skip (sem_skip rfl) ?_
          refine dl_r (sem_pick rfl rfl rfl rfl) ?_
          refine dl_end ?_
          refine dw_true rfl ?_
          refine dw_seq ?_
          -- region 16
          refine dw_region (by kernel_rfl) ?_
          refine dl_r (sem_assign rfl rfl) ?_
          refine dl_end ?_
          refine dw_ret ?_
          -- path TFFt
          rw [engB_f g1 e3]
          exact ⟨.inr rfl, (resL_tmp rfl resL_nil)⟩
  · have hj : j = n := by have := of_decide_eq_false hc1; omega
    subst hj
    have m1 := gmx_le (a := a) (by omega) _ h3
    have m2 := gmx_ge hn2 h3
    refine dw_exit ?_
    refine dw_seq ?_
    -- region 19
    refine dw_region (by kernel_rfl) ?_
    refine dl_r (sem_move rfl rfl) ?_
    refine dl_r (sem_move rfl rfl) ?_
    refine dl_r (sem_move rfl rfl) ?_
    refine dl_r (sem_load (us := cR c) ty49 rfl rfl rfl rfl rfl) ?_
    refine dl_r (sem_call rfl rfl (tBnd_ok hc ha (by omega) (by omega) ht2 hcos m2 (by omega)) rfl) ?_
    refine dl_r (sem_assign rfl rfl) ?_
    refine dl_end ?_
    refine dw_ret ?_
    -- path F
    rw [engB_t h3]
    exact ⟨.inr rfl, (resL_tmp rfl resL_nil)⟩
end Go.Proofs.Ytonjlikaacengaa
/- awake. -/
namespace Go.Proofs.Ytonjlikaacengaa
open Go Go.RowKit
theorem lNum_ok {n : Int} (h0 : -9223372036854775808 ≤ n) (h1 : n ≤ 9223372036854775807) : Ok Try.prog 18 [.c (.i .i64 n)] [dR (((n : Int) : Rat))] := by
  refine Ok.of (by kernel_rfl) Try.func18 rfl rfl ?_
  rw [show Try.f18.ntmps = 5 from rfl, show Try.f18.results.toList = [.cell 2 49] from rfl]
  refine dw_seq ?_
  -- region 0
  refine dw_region (by kernel_rfl) ?_
  refine dl_new (sem_alloc zc49 rfl) rfl ?_
  refine dl_end ?_
  refine dw_seq ?_
  -- region 1
  refine dw_region (by kernel_rfl) ?_
  refine dl_r (sem_move rfl rfl) ?_
  refine dl_r (sem_call rfl rfl (sFrom_ok (by omega) (by omega)) rfl) ?_
  refine dl_st (sem_store_a ty49 rfl rfl rfl rfl rfl rfl) ?_
  refine dl_end ?_
  refine dw_ret ?_
  -- path 
  exact ⟨.inr rfl, (resL_cell (us := cR (((n : Int) : Rat))) ty49 rfl rfl rfl rfl resL_nil)⟩
theorem awR0 : Rz 20 ((0 : Int) : Rat) := (Rz.num (by decide) (by decide)).mono (by decide)
theorem awC : Ok Try.prog 8 [.a ([.i .i64 0] ++ [.i .i64 0]), .a ([.i .i64 0] ++ [.i .i64 25]), .c (.i .i64 10)] [.c (.s 4 (([.i .i64 0] ++ [.i .i64 0]) ++ ([.i .i64 0] ++ [.i .i64 10]) ++ ([.i .i64 0] ++ [.i .i64 20]) ++ ([.i .i64 0] ++ [.i .i64 25]))), .c (.i .i64 0)] := by
  have h := tC_f (a1 := 0) (a2 := 0) (L := 25) (dx := 0) (dy := 1) (s := 10) (k := 2) (by decide) (.inr (.inr (.inl ⟨rfl, rfl⟩))) (by decide) (by decide) (by decide) (by decide) (by decide) (by decide) (by decide) (by decide)
  have e : ctb 0 0 0 1 25 10 2 = ([.i .i64 0] ++ [.i .i64 0]) ++ ([.i .i64 0] ++ [.i .i64 10]) ++ ([.i .i64 0] ++ [.i .i64 20]) ++ ([.i .i64 0] ++ [.i .i64 25]) := by unfold ctb; simp [ctr]
  rw [e] at h
  exact h
theorem awP : Ok Try.prog 11 [.a ([.i .i64 0] ++ [.i .i64 0]), .a ([.i .i64 0] ++ [.i .i64 25]), .c (.i .i64 10), .c (.i .i64 10), .c (.i .i64 0), .c (.i .i64 7)] [.c (.s 7 (pth (ctb 0 0 0 1 25 10 2) 0 1 10 0 7 (2 + 1))), .c (.i .i64 0)] :=
  tP_ok (a1 := 0) (a2 := 0) (L := 25) (dx := 0) (dy := 1) (r := 10) (s := 10) (z := 0) (f := 7) (k := 2) (by decide) (.inr (.inr (.inl ⟨rfl, rfl⟩))) (by decide) (by decide) (by decide) (by decide) (by decide) (by decide) (by decide) (by decide) (by decide)
theorem awS : Ok Try.prog 13 [.a ([.i .i64 0] ++ [.i .i64 0]), .a ([.i .i64 0] ++ [.i .i64 25]), .c (.i .i64 10), .c (.i .i64 0)] [.a ([.i .i64 0] ++ [.i .i64 (-10)] ++ [.i .i64 0]), .c (.i .i64 0)] :=
  tS_ok (a1 := 0) (a2 := 0) (L := 25) (dx := 0) (dy := 1) (r := 10) (z := 0) (by decide) (.inr (.inr (.inl ⟨rfl, rfl⟩))) (by decide) (by decide) (by decide) (by decide)
theorem lAwake_ok  : Ok Try.prog 6 [] [.c (.b true)] := by
  refine Ok.of (by kernel_rfl) Try.func6 rfl rfl ?_
  rw [show Try.f6.ntmps = 69 from rfl, show Try.f6.results.toList = [.tmp 0] from rfl]
  refine dw_seq ?_
  -- region 0
  refine dw_region (by kernel_rfl) ?_
  refine dl_r (sem_assign rfl rfl) ?_
  refine dl_end ?_
  refine dw_seq ?_
  -- region 1
  refine dw_region (by kernel_rfl) ?_
  refine dl_r (sem_build (us := ([.i .i64 0] ++ [.i .i64 0])) fs23 zc23 rfl rfl rfl) ?_
  refine dl_r (sem_build (us := ([.i .i64 0] ++ [.i .i64 25])) fs23 zc23 rfl rfl rfl) ?_
  refine dl_r (sem_call rfl rfl (awC) rfl) ?_
  refine dl_r (sem_move rfl rfl) ?_
  refine dl_r (sem_extract rfl rfl rfl) ?_
  refine dl_r (sem_extract rfl rfl rfl) ?_
  refine dl_r (sem_assign rfl rfl) ?_
  refine dl_r (sem_assign rfl rfl) ?_
  refine dl_end ?_
  refine dw_seq ?_
  -- region 2
  refine dw_region (by kernel_rfl) ?_
  refine dl_r (sem_build (us := ([.i .i64 0] ++ [.i .i64 0])) fs23 zc23 rfl rfl rfl) ?_
  refine dl_r (sem_build (us := ([.i .i64 0] ++ [.i .i64 25])) fs23 zc23 rfl rfl rfl) ?_
  refine dl_r (sem_call rfl rfl (awP) rfl) ?_
  refine dl_r (sem_move rfl rfl) ?_
  refine dl_r (sem_extract rfl rfl rfl) ?_
  refine dl_r (sem_extract rfl rfl rfl) ?_
  refine dl_r (sem_assign rfl rfl) ?_
  refine dl_r (sem_assign rfl rfl) ?_
  refine dl_end ?_
  refine dw_seq ?_
  -- region 3
  refine dw_region (by kernel_rfl) ?_
  refine dl_r (sem_build (us := ([.i .i64 0] ++ [.i .i64 0])) fs23 zc23 rfl rfl rfl) ?_
  refine dl_r (sem_build (us := ([.i .i64 0] ++ [.i .i64 25])) fs23 zc23 rfl rfl rfl) ?_
  refine dl_r (sem_call rfl rfl (awS) rfl) ?_
  refine dl_r (sem_move rfl rfl) ?_
  refine dl_r (sem_extract rfl rfl rfl) ?_
  refine dl_r (sem_extract rfl rfl rfl) ?_
  refine dl_new (sem_alloc zc37 rfl) rfl ?_
  refine dl_st (sem_store_a ty37 rfl rfl rfl rfl rfl rfl) ?_
  refine dl_r (sem_assign rfl rfl) ?_
  refine dl_end ?_
  refine dw_seq ?_
  -- region 4
  refine dw_region (by kernel_rfl) ?_
  refine dl_r (sem_move rfl rfl) ?_
  refine dl_r (sem_cmp rfl rfl rfl rfl) ?_
  refine dl_r (sem_move rfl rfl) ?_
  refine dl_r (sem_move rfl rfl) ?_
  refine dl_r (sem_build (us := ([.i .i64 0] ++ [.i .i64 0])) fs23 zc23 rfl rfl rfl) ?_
  refine dl_r (sem_build (us := ([.i .i64 0] ++ [.i .i64 10])) fs23 zc23 rfl rfl rfl) ?_
  refine dl_r (sem_build (us := ([.i .i64 0] ++ [.i .i64 20])) fs23 zc23 rfl rfl rfl) ?_
  refine dl_r (sem_build (us := ([.i .i64 0] ++ [.i .i64 25])) fs23 zc23 rfl rfl rfl) ?_
  refine dl_r (sem_slit_D (n := 4) (us := ([.i .i64 0] ++ [.i .i64 0]) ++ ([.i .i64 0] ++ [.i .i64 10]) ++ ([.i .i64 0] ++ [.i .i64 20]) ++ ([.i .i64 0] ++ [.i .i64 25])) el27 rfl rfl rfl (by decide) (by decide) rfl) ?_
  refine dl_r (sem_call rfl rfl (rSame2_ok (n := 4) (us := ([.i .i64 0] ++ [.i .i64 0]) ++ ([.i .i64 0] ++ [.i .i64 10]) ++ ([.i .i64 0] ++ [.i .i64 20]) ++ ([.i .i64 0] ++ [.i .i64 25])) rfl rfl (by decide)) rfl) ?_
  refine dl_r (sem_pick rfl rfl rfl rfl) ?_
  refine dl_r (sem_move rfl rfl) ?_
  refine dl_r (sem_move rfl rfl) ?_
  refine dl_r (sem_cmp rfl rfl rfl rfl) ?_
  refine dl_r (sem_pick rfl rfl rfl rfl) ?_
  refine dl_r (sem_move rfl rfl) ?_
  refine dl_r (sem_move rfl rfl) ?_
  refine dl_r (sem_len sl33 rfl rfl) ?_
  refine dl_r (sem_cmp rfl rfl rfl rfl) ?_
  refine dl_r (sem_pick rfl rfl rfl rfl) ?_
  refine dl_r (sem_move rfl rfl) ?_
  refine dl_r (sem_move rfl rfl) ?_
  refine dl_r (sem_cmp rfl rfl rfl rfl) ?_
  refine dl_r (sem_pick rfl rfl rfl rfl) ?_
  refine dl_r (sem_move rfl rfl) ?_
  refine dl_r (sem_load (us := ([.i .i64 0] ++ [.i .i64 (-10)] ++ [.i .i64 0])) ty37 rfl rfl rfl rfl rfl) ?_
  refine dl_r (sem_build (us := ([.i .i64 0] ++ [.i .i64 (-10)] ++ [.i .i64 0])) fs37 zc37 rfl rfl rfl) ?_
  refine dl_r (sem_seq (r := true) rfl rfl rfl rfl (by kernel_rfl) (fun w => eq_pos 0 (-10) 0 9998 w) rfl) ?_
  refine dl_r (sem_pick rfl rfl rfl rfl) ?_
  refine dl_r (sem_move rfl rfl) ?_
  refine dl_r (sem_build (us := ([.i .i64 0] ++ [.i .i64 0])) fs23 zc23 rfl rfl rfl) ?_
  refine dl_r (sem_build (us := ([.i .i64 100] ++ [.i .i64 0])) fs23 zc23 rfl rfl rfl) ?_
  refine dl_r (sem_slit_D (n := 2) (us := ([.i .i64 0] ++ [.i .i64 0]) ++ ([.i .i64 100] ++ [.i .i64 0])) el27 rfl rfl rfl (by decide) (by decide) rfl) ?_
  refine dl_r (sem_call rfl rfl (lNum_ok (by omega) (by omega)) rfl) ?_
  refine dl_r (sem_call rfl rfl (rcastb (tEg_ok (n := 2) (us := ([.i .i64 0] ++ [.i .i64 0]) ++ ([.i .i64 100] ++ [.i .i64 0])) (a := 1000) (t := 3000) (c := ((0 : Int) : Rat)) rfl rfl (by decide) awR0 (by decide) (by decide) (by decide) (by decide +kernel) (by decide) (by decide)) (c := true) (by decide +kernel)) rfl) ?_
  refine dl_r (sem_pick rfl rfl rfl rfl) ?_
  refine dl_r (sem_move rfl rfl) ?_
  refine dl_r (sem_build (us := ([.i .i64 0] ++ [.i .i64 0])) fs23 zc23 rfl rfl rfl) ?_
  refine dl_r (sem_build (us := ([.i .i64 1000] ++ [.i .i64 0])) fs23 zc23 rfl rfl rfl) ?_
  refine dl_r (sem_slit_D (n := 2) (us := ([.i .i64 0] ++ [.i .i64 0]) ++ ([.i .i64 1000] ++ [.i .i64 0])) el27 rfl rfl rfl (by decide) (by decide) rfl) ?_
  refine dl_r (sem_call rfl rfl (lNum_ok (by omega) (by omega)) rfl) ?_
  refine dl_r (sem_call rfl rfl (rcastb (tEg_ok (n := 2) (us := ([.i .i64 0] ++ [.i .i64 0]) ++ ([.i .i64 1000] ++ [.i .i64 0])) (a := 1000) (t := 3000) (c := ((0 : Int) : Rat)) rfl rfl (by decide) awR0 (by decide) (by decide) (by decide) (by decide +kernel) (by decide) (by decide)) (c := false) (by decide +kernel)) rfl) ?_
  refine dl_r (sem_not rfl rfl) ?_
  refine dl_r (sem_pick rfl rfl rfl rfl) ?_
  refine dl_r (sem_assign rfl rfl) ?_
  refine dl_end ?_
  refine dw_ret ?_
  -- path 
  exact ⟨.inr rfl, (resL_tmp rfl resL_nil)⟩
end Go.Proofs.Ytonjlikaacengaa
/- few; the laws of Centers and Path at any answers that agree. -/
namespace Go.Proofs.Ytonjlikaacengaa
open Go Go.RowKit
theorem lFew_e {a1 a2 b1 b2 r s z f : Int} {n : Nat} {us : List CellD} {e : Int} (he : e ≠ 0) (hR : Ok Try.prog 9 [.a ([.i .i64 a1] ++ [.i .i64 a2]), .a ([.i .i64 b1] ++ [.i .i64 b2]), .c (.i .i64 s)] [.c (.s n us), .c (.i .i64 e)]) : Ok Try.prog 7 [.a (([.i .i64 a1] ++ [.i .i64 a2]) ++ ([.i .i64 b1] ++ [.i .i64 b2]) ++ [.i .i64 r] ++ [.i .i64 s] ++ [.i .i64 z] ++ [.i .i64 f])] [.c (.b true)] := by
  refine Ok.of (by kernel_rfl) Try.func7 rfl rfl ?_
  rw [show Try.f7.ntmps = 27 from rfl, show Try.f7.results.toList = [.tmp 2] from rfl]
  refine dw_seq ?_
  -- region 0
  refine dw_region (by kernel_rfl) ?_
  refine dl_new (sem_box_a rfl rfl) rfl ?_
  refine dl_r (sem_assign rfl rfl) ?_
  refine dl_end ?_
  refine dw_seq ?_
  -- region 1
  refine dw_region (by kernel_rfl) ?_
  refine dl_r (sem_field fd25_0 rfl rfl) ?_
  refine dl_r (sem_load (us := ([.i .i64 a1] ++ [.i .i64 a2])) ty23 rfl rfl rfl rfl rfl) ?_
  refine dl_r (sem_field fd25_1 rfl rfl) ?_
  refine dl_r (sem_load (us := ([.i .i64 b1] ++ [.i .i64 b2])) ty23 rfl rfl rfl rfl rfl) ?_
  refine dl_r (sem_field fd25_3 rfl rfl) ?_
  refine dl_r (sem_load1 ty2 rfl rfl rfl rfl) ?_
  refine dl_r (sem_call rfl rfl (hR) rfl) ?_
  refine dl_r (sem_move rfl rfl) ?_
  refine dl_r (sem_extract rfl rfl rfl) ?_
  refine dl_r (sem_extract rfl rfl rfl) ?_
  refine dl_r (sem_assign rfl rfl) ?_
  refine dl_r (sem_assign rfl rfl) ?_
  refine dl_end ?_
  refine dw_seq ?_
  -- region 2
  refine dw_region (by kernel_rfl) ?_
  refine dl_r (sem_move rfl rfl) ?_
  refine dl_r (sem_castb (c := true) (sem_cmp rfl rfl rfl rfl) (by simp [he])) ?_
  refine dl_r (sem_move rfl rfl) ?_
  refine dl_skip (sem_skip rfl) ?_
  refine dl_skip (sem_skip rfl) ?_
  refine dl_skip (sem_skip rfl) ?_
  refine dl_r (sem_pick rfl rfl rfl rfl) ?_
  refine dl_r (sem_move rfl rfl) ?_
  refine dl_skip (sem_skip rfl) ?_
  refine dl_skip (sem_skip rfl) ?_
  refine dl_skip (sem_skip rfl) ?_
  refine dl_r (sem_pick rfl rfl rfl rfl) ?_
  refine dl_r (sem_assign rfl rfl) ?_
  refine dl_end ?_
  refine dw_ret ?_
  -- path 
  exact ⟨.inr rfl, (resL_tmp rfl resL_nil)⟩
theorem lFew_0 {a1 a2 b1 b2 r s z f : Int} {n : Nat} {us : List CellD} (hR : Ok Try.prog 9 [.a ([.i .i64 a1] ++ [.i .i64 a2]), .a ([.i .i64 b1] ++ [.i .i64 b2]), .c (.i .i64 s)] [.c (.s n us), .c (.i .i64 0)]) : Ok Try.prog 7 [.a (([.i .i64 a1] ++ [.i .i64 a2]) ++ ([.i .i64 b1] ++ [.i .i64 b2]) ++ [.i .i64 r] ++ [.i .i64 s] ++ [.i .i64 z] ++ [.i .i64 f])] [.c (.b (decide ((n : Int) ≤ 60) || decide ((n : Int) ≥ 9990)))] := by
  refine Ok.of (by kernel_rfl) Try.func7 rfl rfl ?_
  rw [show Try.f7.ntmps = 27 from rfl, show Try.f7.results.toList = [.tmp 2] from rfl]
  refine dw_seq ?_
  -- region 0
  refine dw_region (by kernel_rfl) ?_
  refine dl_new (sem_box_a rfl rfl) rfl ?_
  refine dl_r (sem_assign rfl rfl) ?_
  refine dl_end ?_
  refine dw_seq ?_
  -- region 1
  refine dw_region (by kernel_rfl) ?_
  refine dl_r (sem_field fd25_0 rfl rfl) ?_
  refine dl_r (sem_load (us := ([.i .i64 a1] ++ [.i .i64 a2])) ty23 rfl rfl rfl rfl rfl) ?_
  refine dl_r (sem_field fd25_1 rfl rfl) ?_
  refine dl_r (sem_load (us := ([.i .i64 b1] ++ [.i .i64 b2])) ty23 rfl rfl rfl rfl rfl) ?_
  refine dl_r (sem_field fd25_3 rfl rfl) ?_
  refine dl_r (sem_load1 ty2 rfl rfl rfl rfl) ?_
  refine dl_r (sem_call rfl rfl (hR) rfl) ?_
  refine dl_r (sem_move rfl rfl) ?_
  refine dl_r (sem_extract rfl rfl rfl) ?_
  refine dl_r (sem_extract rfl rfl rfl) ?_
  refine dl_r (sem_assign rfl rfl) ?_
  refine dl_r (sem_assign rfl rfl) ?_
  refine dl_end ?_
  refine dw_seq ?_
  -- region 2
  refine dw_region (by kernel_rfl) ?_
  refine dl_r (sem_move rfl rfl) ?_
  refine dl_r (sem_cmp rfl rfl rfl rfl) ?_
  refine dl_r (sem_move rfl rfl) ?_
  refine dl_r (sem_move rfl rfl) ?_
  refine dl_r (sem_len sl27 rfl rfl) ?_
  refine dl_r (sem_cmp rfl rfl rfl rfl) ?_
  refine dl_r (sem_pick rfl rfl rfl rfl) ?_
  refine dl_rb (sem_move rfl rfl) (fun c1 hb1 => ?_)
  cases c1
  · refine dl_r (sem_move rfl rfl) ?_
    refine dl_r (sem_len sl27 rfl rfl) ?_
    refine dl_r (sem_cmp rfl rfl rfl rfl) ?_
    refine dl_r (sem_pick rfl rfl rfl rfl) ?_
    refine dl_r (sem_assign rfl rfl) ?_
    refine dl_end ?_
    refine dw_ret ?_
    -- path f
    rw [hb1, Bool.false_or]
    exact ⟨.inr rfl, (resL_tmp rfl resL_nil)⟩
  · refine dl_skip (sem_skip rfl) ?_
    refine dl_skip (sem_skip rfl) ?_
    refine dl_skip (sem_skip rfl) ?_
    refine dl_r (sem_pick rfl rfl rfl rfl) ?_
    refine dl_r (sem_assign rfl rfl) ?_
    refine dl_end ?_
    refine dw_ret ?_
    -- path t
    rw [hb1, Bool.true_or]
    exact ⟨.inr rfl, (resL_tmp rfl resL_nil)⟩
theorem lCen_any {a1 a2 b1 b2 r s z f : Int} {n : Nat} {us : List CellD} {e : Int} {β : Bool} (hF : Ok Try.prog 7 [.a (([.i .i64 a1] ++ [.i .i64 a2]) ++ ([.i .i64 b1] ++ [.i .i64 b2]) ++ [.i .i64 r] ++ [.i .i64 s] ++ [.i .i64 z] ++ [.i .i64 f])] [.c (.b β)]) (hP : Ok Try.prog 8 [.a ([.i .i64 a1] ++ [.i .i64 a2]), .a ([.i .i64 b1] ++ [.i .i64 b2]), .c (.i .i64 s)] [.c (.s n us), .c (.i .i64 e)]) (hR : Ok Try.prog 9 [.a ([.i .i64 a1] ++ [.i .i64 a2]), .a ([.i .i64 b1] ++ [.i .i64 b2]), .c (.i .i64 s)] [.c (.s n us), .c (.i .i64 e)]) (hl : us.length = n * 2) (hJ : us.all isJ = true) (hn : n ≤ 1000000) : Ok Try.prog 3 [.a (([.i .i64 a1] ++ [.i .i64 a2]) ++ ([.i .i64 b1] ++ [.i .i64 b2]) ++ [.i .i64 r] ++ [.i .i64 s] ++ [.i .i64 z] ++ [.i .i64 f])] [.c (.b true)] := by
  refine Ok.of (by kernel_rfl) Try.func3 rfl rfl ?_
  rw [show Try.f3.ntmps = 43 from rfl, show Try.f3.results.toList = [.tmp 2] from rfl]
  refine dw_seq ?_
  -- region 0
  refine dw_region (by kernel_rfl) ?_
  refine dl_new (sem_box_a rfl rfl) rfl ?_
  refine dl_r (sem_assign rfl rfl) ?_
  refine dl_end ?_
  refine dw_seq ?_
  refine dw_seq ?_
  -- region 1
  refine dw_region (by kernel_rfl) ?_
  refine dl_r (sem_call rfl rfl (lAwake_ok) rfl) ?_
  refine dl_r (sem_not rfl rfl) ?_
  refine dl_r (sem_move rfl rfl) ?_
  refine dl_r (sem_load (us := (([.i .i64 a1] ++ [.i .i64 a2]) ++ ([.i .i64 b1] ++ [.i .i64 b2]) ++ [.i .i64 r] ++ [.i .i64 s] ++ [.i .i64 z] ++ [.i .i64 f])) ty25 rfl rfl rfl rfl rfl) ?_
  refine dl_r (sem_call rfl rfl (hF) rfl) ?_
  refine dl_r (sem_not rfl rfl) ?_
  refine dl_r (sem_pick rfl rfl rfl rfl) ?_
  refine dl_end ?_
  refine dw_cond rfl (fun hc1 => ?_) (fun hc1 => ?_)
  · refine dw_seq ?_
    -- region 2
    refine dw_region (by kernel_rfl) ?_
    refine dl_r (sem_call rfl rfl (lAwake_ok) rfl) ?_
    refine dl_r (sem_assign rfl rfl) ?_
    refine dl_end ?_
    refine dw_ret ?_
    -- path T
    exact ⟨.inr rfl, (resL_tmp rfl resL_nil)⟩
  · refine dw_skip ?_
    refine dw_seq ?_
    -- region 3
    refine dw_region (by kernel_rfl) ?_
    refine dl_r (sem_field fd25_0 rfl rfl) ?_
    refine dl_r (sem_load (us := ([.i .i64 a1] ++ [.i .i64 a2])) ty23 rfl rfl rfl rfl rfl) ?_
    refine dl_r (sem_field fd25_1 rfl rfl) ?_
    refine dl_r (sem_load (us := ([.i .i64 b1] ++ [.i .i64 b2])) ty23 rfl rfl rfl rfl rfl) ?_
    refine dl_r (sem_field fd25_3 rfl rfl) ?_
    refine dl_r (sem_load1 ty2 rfl rfl rfl rfl) ?_
    refine dl_r (sem_call rfl rfl (hP) rfl) ?_
    refine dl_r (sem_move rfl rfl) ?_
    refine dl_r (sem_extract rfl rfl rfl) ?_
    refine dl_r (sem_extract rfl rfl rfl) ?_
    refine dl_r (sem_assign rfl rfl) ?_
    refine dl_r (sem_assign rfl rfl) ?_
    refine dl_end ?_
    refine dw_seq ?_
    -- region 4
    refine dw_region (by kernel_rfl) ?_
    refine dl_r (sem_field fd25_0 rfl rfl) ?_
    refine dl_r (sem_load (us := ([.i .i64 a1] ++ [.i .i64 a2])) ty23 rfl rfl rfl rfl rfl) ?_
    refine dl_r (sem_field fd25_1 rfl rfl) ?_
    refine dl_r (sem_load (us := ([.i .i64 b1] ++ [.i .i64 b2])) ty23 rfl rfl rfl rfl rfl) ?_
    refine dl_r (sem_field fd25_3 rfl rfl) ?_
    refine dl_r (sem_load1 ty2 rfl rfl rfl rfl) ?_
    refine dl_r (sem_call rfl rfl (hR) rfl) ?_
    refine dl_r (sem_move rfl rfl) ?_
    refine dl_r (sem_extract rfl rfl rfl) ?_
    refine dl_r (sem_extract rfl rfl rfl) ?_
    refine dl_r (sem_assign rfl rfl) ?_
    refine dl_r (sem_assign rfl rfl) ?_
    refine dl_end ?_
    refine dw_seq ?_
    -- region 5
    refine dw_region (by kernel_rfl) ?_
    refine dl_r (sem_move rfl rfl) ?_
    refine dl_r (sem_move rfl rfl) ?_
    refine dl_r (sem_castb (c := true) (sem_cmp rfl rfl rfl rfl) (by simp)) ?_
    refine dl_r (sem_move rfl rfl) ?_
    refine dl_r (sem_move rfl rfl) ?_
    refine dl_r (sem_move rfl rfl) ?_
    refine dl_r (sem_call rfl rfl (rSame2_ok hl hJ hn) rfl) ?_
    refine dl_r (sem_pick rfl rfl rfl rfl) ?_
    refine dl_r (sem_assign rfl rfl) ?_
    refine dl_end ?_
    refine dw_ret ?_
    -- path F
    exact ⟨.inr rfl, (resL_tmp rfl resL_nil)⟩
theorem lPth_any {a1 a2 b1 b2 r s z f : Int} {n : Nat} {us : List CellD} {e g x y u : Int} {β : Bool} (hF : Ok Try.prog 7 [.a (([.i .i64 a1] ++ [.i .i64 a2]) ++ ([.i .i64 b1] ++ [.i .i64 b2]) ++ [.i .i64 r] ++ [.i .i64 s] ++ [.i .i64 z] ++ [.i .i64 f])] [.c (.b β)]) (hP : Ok Try.prog 11 [.a ([.i .i64 a1] ++ [.i .i64 a2]), .a ([.i .i64 b1] ++ [.i .i64 b2]), .c (.i .i64 r), .c (.i .i64 s), .c (.i .i64 z), .c (.i .i64 f)] [.c (.s n us), .c (.i .i64 e)]) (hR : Ok Try.prog 12 [.a ([.i .i64 a1] ++ [.i .i64 a2]), .a ([.i .i64 b1] ++ [.i .i64 b2]), .c (.i .i64 r), .c (.i .i64 s), .c (.i .i64 z), .c (.i .i64 f)] [.c (.s n us), .c (.i .i64 e)]) (hPS : Ok Try.prog 13 [.a ([.i .i64 a1] ++ [.i .i64 a2]), .a ([.i .i64 b1] ++ [.i .i64 b2]), .c (.i .i64 r), .c (.i .i64 z)] [.a ([.i .i64 x] ++ [.i .i64 y] ++ [.i .i64 u]), .c (.i .i64 g)]) (hRS : Ok Try.prog 14 [.a ([.i .i64 a1] ++ [.i .i64 a2]), .a ([.i .i64 b1] ++ [.i .i64 b2]), .c (.i .i64 r), .c (.i .i64 z)] [.a ([.i .i64 x] ++ [.i .i64 y] ++ [.i .i64 u]), .c (.i .i64 g)]) (hl : us.length = n * 7) (hJ : us.all isJ = true) (hn : n ≤ 1000000) : Ok Try.prog 4 [.a (([.i .i64 a1] ++ [.i .i64 a2]) ++ ([.i .i64 b1] ++ [.i .i64 b2]) ++ [.i .i64 r] ++ [.i .i64 s] ++ [.i .i64 z] ++ [.i .i64 f])] [.c (.b true)] := by
  refine Ok.of (by kernel_rfl) Try.func4 rfl rfl ?_
  rw [show Try.f4.ntmps = 93 from rfl, show Try.f4.results.toList = [.tmp 2] from rfl]
  refine dw_seq ?_
  -- region 0
  refine dw_region (by kernel_rfl) ?_
  refine dl_new (sem_box_a rfl rfl) rfl ?_
  refine dl_r (sem_assign rfl rfl) ?_
  refine dl_end ?_
  refine dw_seq ?_
  refine dw_seq ?_
  -- region 1
  refine dw_region (by kernel_rfl) ?_
  refine dl_r (sem_call rfl rfl (lAwake_ok) rfl) ?_
  refine dl_r (sem_not rfl rfl) ?_
  refine dl_r (sem_move rfl rfl) ?_
  refine dl_r (sem_load (us := (([.i .i64 a1] ++ [.i .i64 a2]) ++ ([.i .i64 b1] ++ [.i .i64 b2]) ++ [.i .i64 r] ++ [.i .i64 s] ++ [.i .i64 z] ++ [.i .i64 f])) ty25 rfl rfl rfl rfl rfl) ?_
  refine dl_r (sem_call rfl rfl (hF) rfl) ?_
  refine dl_r (sem_not rfl rfl) ?_
  refine dl_r (sem_pick rfl rfl rfl rfl) ?_
  refine dl_end ?_
  refine dw_cond rfl (fun hc1 => ?_) (fun hc1 => ?_)
  · refine dw_seq ?_
    -- region 2
    refine dw_region (by kernel_rfl) ?_
    refine dl_r (sem_call rfl rfl (lAwake_ok) rfl) ?_
    refine dl_r (sem_assign rfl rfl) ?_
    refine dl_end ?_
    refine dw_ret ?_
    -- path T
    exact ⟨.inr rfl, (resL_tmp rfl resL_nil)⟩
  · refine dw_skip ?_
    refine dw_seq ?_
    -- region 3
    refine dw_region (by kernel_rfl) ?_
    refine dl_r (sem_field fd25_0 rfl rfl) ?_
    refine dl_r (sem_load (us := ([.i .i64 a1] ++ [.i .i64 a2])) ty23 rfl rfl rfl rfl rfl) ?_
    refine dl_r (sem_field fd25_1 rfl rfl) ?_
    refine dl_r (sem_load (us := ([.i .i64 b1] ++ [.i .i64 b2])) ty23 rfl rfl rfl rfl rfl) ?_
    refine dl_r (sem_field fd25_2 rfl rfl) ?_
    refine dl_r (sem_load1 ty2 rfl rfl rfl rfl) ?_
    refine dl_r (sem_field fd25_3 rfl rfl) ?_
    refine dl_r (sem_load1 ty2 rfl rfl rfl rfl) ?_
    refine dl_r (sem_field fd25_4 rfl rfl) ?_
    refine dl_r (sem_load1 ty2 rfl rfl rfl rfl) ?_
    refine dl_r (sem_field fd25_5 rfl rfl) ?_
    refine dl_r (sem_load1 ty2 rfl rfl rfl rfl) ?_
    refine dl_r (sem_call rfl rfl (hP) rfl) ?_
    refine dl_r (sem_move rfl rfl) ?_
    refine dl_r (sem_extract rfl rfl rfl) ?_
    refine dl_r (sem_extract rfl rfl rfl) ?_
    refine dl_r (sem_assign rfl rfl) ?_
    refine dl_r (sem_assign rfl rfl) ?_
    refine dl_end ?_
    refine dw_seq ?_
    -- region 4
    refine dw_region (by kernel_rfl) ?_
    refine dl_r (sem_field fd25_0 rfl rfl) ?_
    refine dl_r (sem_load (us := ([.i .i64 a1] ++ [.i .i64 a2])) ty23 rfl rfl rfl rfl rfl) ?_
    refine dl_r (sem_field fd25_1 rfl rfl) ?_
    refine dl_r (sem_load (us := ([.i .i64 b1] ++ [.i .i64 b2])) ty23 rfl rfl rfl rfl rfl) ?_
    refine dl_r (sem_field fd25_2 rfl rfl) ?_
    refine dl_r (sem_load1 ty2 rfl rfl rfl rfl) ?_
    refine dl_r (sem_field fd25_3 rfl rfl) ?_
    refine dl_r (sem_load1 ty2 rfl rfl rfl rfl) ?_
    refine dl_r (sem_field fd25_4 rfl rfl) ?_
    refine dl_r (sem_load1 ty2 rfl rfl rfl rfl) ?_
    refine dl_r (sem_field fd25_5 rfl rfl) ?_
    refine dl_r (sem_load1 ty2 rfl rfl rfl rfl) ?_
    refine dl_r (sem_call rfl rfl (hR) rfl) ?_
    refine dl_r (sem_move rfl rfl) ?_
    refine dl_r (sem_extract rfl rfl rfl) ?_
    refine dl_r (sem_extract rfl rfl rfl) ?_
    refine dl_r (sem_assign rfl rfl) ?_
    refine dl_r (sem_assign rfl rfl) ?_
    refine dl_end ?_
    refine dw_seq ?_
    -- region 5
    refine dw_region (by kernel_rfl) ?_
    refine dl_r (sem_field fd25_0 rfl rfl) ?_
    refine dl_r (sem_load (us := ([.i .i64 a1] ++ [.i .i64 a2])) ty23 rfl rfl rfl rfl rfl) ?_
    refine dl_r (sem_field fd25_1 rfl rfl) ?_
    refine dl_r (sem_load (us := ([.i .i64 b1] ++ [.i .i64 b2])) ty23 rfl rfl rfl rfl rfl) ?_
    refine dl_r (sem_field fd25_2 rfl rfl) ?_
    refine dl_r (sem_load1 ty2 rfl rfl rfl rfl) ?_
    refine dl_r (sem_field fd25_4 rfl rfl) ?_
    refine dl_r (sem_load1 ty2 rfl rfl rfl rfl) ?_
    refine dl_r (sem_call rfl rfl (hPS) rfl) ?_
    refine dl_r (sem_move rfl rfl) ?_
    refine dl_r (sem_extract rfl rfl rfl) ?_
    refine dl_r (sem_extract rfl rfl rfl) ?_
    refine dl_new (sem_alloc zc37 rfl) rfl ?_
    refine dl_st (sem_store_a ty37 rfl rfl rfl rfl rfl rfl) ?_
    refine dl_r (sem_assign rfl rfl) ?_
    refine dl_end ?_
    refine dw_seq ?_
    -- region 6
    refine dw_region (by kernel_rfl) ?_
    refine dl_r (sem_field fd25_0 rfl rfl) ?_
    refine dl_r (sem_load (us := ([.i .i64 a1] ++ [.i .i64 a2])) ty23 rfl rfl rfl rfl rfl) ?_
    refine dl_r (sem_field fd25_1 rfl rfl) ?_
    refine dl_r (sem_load (us := ([.i .i64 b1] ++ [.i .i64 b2])) ty23 rfl rfl rfl rfl rfl) ?_
    refine dl_r (sem_field fd25_2 rfl rfl) ?_
    refine dl_r (sem_load1 ty2 rfl rfl rfl rfl) ?_
    refine dl_r (sem_field fd25_4 rfl rfl) ?_
    refine dl_r (sem_load1 ty2 rfl rfl rfl rfl) ?_
    refine dl_r (sem_call rfl rfl (hRS) rfl) ?_
    refine dl_r (sem_move rfl rfl) ?_
    refine dl_r (sem_extract rfl rfl rfl) ?_
    refine dl_r (sem_extract rfl rfl rfl) ?_
    refine dl_new (sem_alloc zc37 rfl) rfl ?_
    refine dl_st (sem_store_a ty37 rfl rfl rfl rfl rfl rfl) ?_
    refine dl_r (sem_assign rfl rfl) ?_
    refine dl_end ?_
    refine dw_seq ?_
    -- region 7
    refine dw_region (by kernel_rfl) ?_
    refine dl_r (sem_move rfl rfl) ?_
    refine dl_r (sem_move rfl rfl) ?_
    refine dl_r (sem_castb (c := true) (sem_cmp rfl rfl rfl rfl) (by simp)) ?_
    refine dl_r (sem_move rfl rfl) ?_
    refine dl_r (sem_move rfl rfl) ?_
    refine dl_r (sem_move rfl rfl) ?_
    refine dl_r (sem_call rfl rfl (rSame7_ok hl hJ hn) rfl) ?_
    refine dl_r (sem_pick rfl rfl rfl rfl) ?_
    refine dl_r (sem_move rfl rfl) ?_
    refine dl_r (sem_move rfl rfl) ?_
    refine dl_r (sem_move rfl rfl) ?_
    refine dl_r (sem_castb (c := true) (sem_cmp rfl rfl rfl rfl) (by simp)) ?_
    refine dl_r (sem_pick rfl rfl rfl rfl) ?_
    refine dl_r (sem_move rfl rfl) ?_
    refine dl_r (sem_load (us := ([.i .i64 x] ++ [.i .i64 y] ++ [.i .i64 u])) ty37 rfl rfl rfl rfl rfl) ?_
    refine dl_r (sem_load (us := ([.i .i64 x] ++ [.i .i64 y] ++ [.i .i64 u])) ty37 rfl rfl rfl rfl rfl) ?_
    refine dl_r (sem_seq (r := true) rfl rfl rfl rfl (by kernel_rfl) (fun w => eq_pos x y u 9998 w) rfl) ?_
    refine dl_r (sem_pick rfl rfl rfl rfl) ?_
    refine dl_r (sem_assign rfl rfl) ?_
    refine dl_end ?_
    refine dw_ret ?_
    -- path F
    exact ⟨.inr rfl, (resL_tmp rfl resL_nil)⟩
end Go.Proofs.Ytonjlikaacengaa
/- Both answers agree: Centers, Path, Start of the program and of the reference. -/
namespace Go.Proofs.Ytonjlikaacengaa
open Go Go.RowKit
theorem chk_1 {a1 a2 b1 b2 r z : Int} (h : dok a1 a2 b1 b2 = false) : chkE a1 a2 b1 b2 r z = 1 := by unfold chkE; rw [h]; rfl
theorem chk_11 {a1 a2 b1 b2 r z : Int} (hok : dok a1 a2 b1 b2 = true) (hr : 0 ≤ r) (h : rnd a1 a2 r = false ∨ rnd b1 b2 r = false ∨ far z = true) : chkE a1 a2 b1 b2 r z = 11 := by
  unfold chkE
  rw [if_pos hok, if_pos]
  rw [rnd_out hr, rnd_out hr] at h
  rcases h with h | h | h
  · rw [show outb a1 a2 r = true by simpa using h]; rfl
  · rw [show outb b1 b2 r = true by simpa using h]; simp
  · rw [h]; simp
theorem chk_0 {a1 a2 b1 b2 r z : Int} (hok : dok a1 a2 b1 b2 = true) (hr : 0 ≤ r) (h1 : rnd a1 a2 r = true) (h2 : rnd b1 b2 r = true) (h3 : far z = false) : chkE a1 a2 b1 b2 r z = 0 := by
  unfold chkE
  rw [if_pos hok, if_neg]
  rw [rnd_out hr] at h1 h2
  rw [show outb a1 a2 r = false by simpa using h1, show outb b1 b2 r = false by simpa using h2, h3]
  decide
section
variable {a1 a2 b1 b2 r s z f : Int}
theorem cen_both (hs2 : s ≤ 9223372036854775807) : ∃ (n : Nat) (us : List CellD) (e : Int), us.length = n * 2 ∧ us.all isJ = true ∧ n ≤ 1000000 ∧
    Ok Try.prog 8 [.a ([.i .i64 a1] ++ [.i .i64 a2]), .a ([.i .i64 b1] ++ [.i .i64 b2]), .c (.i .i64 s)] [.c (.s n us), .c (.i .i64 e)] ∧
    Ok Try.prog 9 [.a ([.i .i64 a1] ++ [.i .i64 a2]), .a ([.i .i64 b1] ++ [.i .i64 b2]), .c (.i .i64 s)] [.c (.s n us), .c (.i .i64 e)] := by
  by_cases hs : s ≤ 0
  · refine ⟨0, [], 1, rfl, rfl, by omega, ?_, rC_0 hs⟩
    cases hok : dok a1 a2 b1 b2 with
    | false => exact tC_a hok
    | true => exact tC_b hok hs
  replace hs : 1 ≤ s := by omega
  cases hok : dok a1 a2 b1 b2 with
  | false => exact ⟨0, [], 1, rfl, rfl, by omega, tC_a hok, rC_1 hs (chk_1 hok)⟩
  | true =>
  cases q1 : rnd a1 a2 0 with
  | false => exact ⟨0, [], 11, rfl, rfl, by omega, tC_c hok hs q1, rC_11 hs (chk_11 hok (by omega) (.inl q1))⟩
  | true =>
  cases q2 : rnd b1 b2 0 with
  | false => exact ⟨0, [], 11, rfl, rfl, by omega, tC_d hok hs q1 q2, rC_11 hs (chk_11 hok (by omega) (.inr (.inl q2)))⟩
  | true =>
  obtain ⟨L, dx, dy, hL, hd, rfl, rfl⟩ := dir_of hok
  have g1 := (rnd_iff _ _ _).1 q1
  have g2 := (rnd_iff _ _ _).1 q2
  have r1 : -10000000 ≤ a1 ∧ a1 ≤ 10000000 := by omega
  have r2 : -10000000 ≤ a2 ∧ a2 ≤ 10000000 := by omega
  have r3 : -10000000 ≤ a1 + L * dx ∧ a1 + L * dx ≤ 10000000 := by omega
  have r4 : -10000000 ≤ a2 + L * dy ∧ a2 + L * dy ≤ 10000000 := by omega
  have hq := q_bd hL hs
  obtain ⟨k, hk⟩ : ∃ k : Nat, (k : Int) = (L - 1) / s := ⟨((L - 1) / s).toNat, Int.toNat_of_nonneg hq.1⟩
  have hmq := min_q hL hs
  by_cases hb : 10000 < (L - 1) / s + 2
  · exact ⟨0, [], 3, rfl, rfl, by omega, tC_e hL hd hs hs2 r1 r2 r3 r4 hb, rC_big hL hd hs rfl r1 r2 r3 r4 (by rw [hmq]; omega)⟩
  · refine ⟨k + 1 + 1, ctb a1 a2 dx dy L s k, 0, ctb_len, bdJ_isJ (ctb_bd hd hs hk r1 r2 r3 r4), by omega, tC_f hL hd hs hs2 hk r1 r2 r3 r4 (by omega), ?_⟩
    have h := rC_ok hL hd hs rfl (hk.trans hmq.symm) r1 r2 r3 r4 (by rw [hmq]; omega)
    rw [min_ctb hL hs hk] at h
    exact h
theorem pth_both : ∃ (n : Nat) (us : List CellD) (e : Int), us.length = n * 7 ∧ us.all isJ = true ∧ n ≤ 1000000 ∧
    Ok Try.prog 11 [.a ([.i .i64 a1] ++ [.i .i64 a2]), .a ([.i .i64 b1] ++ [.i .i64 b2]), .c (.i .i64 r), .c (.i .i64 s), .c (.i .i64 z), .c (.i .i64 f)] [.c (.s n us), .c (.i .i64 e)] ∧
    Ok Try.prog 12 [.a ([.i .i64 a1] ++ [.i .i64 a2]), .a ([.i .i64 b1] ++ [.i .i64 b2]), .c (.i .i64 r), .c (.i .i64 s), .c (.i .i64 z), .c (.i .i64 f)] [.c (.s n us), .c (.i .i64 e)] := by
  by_cases hA : dok a1 a2 b1 b2 = false ∨ r ≤ 0 ∨ s ≤ 0 ∨ f ≤ 0 ∨ s > r
  · exact ⟨0, [], 1, rfl, rfl, by omega, tP_1 hA, rP_1 hA⟩
  have hok : dok a1 a2 b1 b2 = true := by
    cases h : dok a1 a2 b1 b2 with
    | false => exact absurd (.inl h) hA
    | true => rfl
  have hr : 1 ≤ r := by omega
  have hs : 1 ≤ s := by omega
  have hf : 1 ≤ f := by omega
  have hsr : s ≤ r := by omega
  clear hA
  by_cases hB : rnd a1 a2 r = false ∨ rnd b1 b2 r = false ∨ far z = true
  · exact ⟨0, [], 11, rfl, rfl, by omega, tP_11 hok hr hs hf hsr hB, rP_11 hok hr hs hf hsr (chk_11 hok (by omega) hB)⟩
  have q1 : rnd a1 a2 r = true := by
    cases h : rnd a1 a2 r with
    | false => exact absurd (.inl h) hB
    | true => rfl
  have q2 : rnd b1 b2 r = true := by
    cases h : rnd b1 b2 r with
    | false => exact absurd (.inr (.inl h)) hB
    | true => rfl
  have q3 : far z = false := by
    cases h : far z with
    | true => exact absurd (.inr (.inr h)) hB
    | false => rfl
  have hE := chk_0 hok (by omega) q1 q2 q3
  obtain ⟨L, dx, dy, hL, hd, rfl, rfl⟩ := dir_of hok
  have g1 := (rnd_iff _ _ _).1 q1
  have g2 := (rnd_iff _ _ _).1 q2
  have r1 : -10000000 ≤ a1 ∧ a1 ≤ 10000000 := by omega
  have r2 : -10000000 ≤ a2 ∧ a2 ≤ 10000000 := by omega
  have r3 : -10000000 ≤ a1 + L * dx ∧ a1 + L * dx ≤ 10000000 := by omega
  have r4 : -10000000 ≤ a2 + L * dy ∧ a2 + L * dy ≤ 10000000 := by omega
  have hq := q_bd hL hs
  obtain ⟨k, hk⟩ : ∃ k : Nat, (k : Int) = (L - 1) / s := ⟨((L - 1) / s).toNat, Int.toNat_of_nonneg hq.1⟩
  have hmq := min_q hL hs
  by_cases hb : 10000 < (L - 1) / s + 2
  · exact ⟨0, [], 3, rfl, rfl, by omega, tP_3 hL hd hr hs hf hsr q1 q2 q3 hb, rP_3 hL hd hr hs hf hsr rfl r1 r2 r3 r4 hE (by rw [hmq]; omega)⟩
  · refine ⟨2 * (k + 1) + 1, pth (ctb a1 a2 dx dy L s k) dx dy r z f (k + 1), 0, pth_len _, pth_J _, by omega, tP_ok hL hd hr hs hf hsr hk q1 q2 q3 (by omega), ?_⟩
    have h := rP_ok hL hd hr hs hf hsr rfl (hk.trans hmq.symm) r1 r2 r3 r4 (by omega) hE (by rw [hmq]; omega)
    rw [min_ctb hL hs hk] at h
    exact h
theorem start_both : ∃ (x y u e : Int),
    Ok Try.prog 13 [.a ([.i .i64 a1] ++ [.i .i64 a2]), .a ([.i .i64 b1] ++ [.i .i64 b2]), .c (.i .i64 r), .c (.i .i64 z)] [.a ([.i .i64 x] ++ [.i .i64 y] ++ [.i .i64 u]), .c (.i .i64 e)] ∧
    Ok Try.prog 14 [.a ([.i .i64 a1] ++ [.i .i64 a2]), .a ([.i .i64 b1] ++ [.i .i64 b2]), .c (.i .i64 r), .c (.i .i64 z)] [.a ([.i .i64 x] ++ [.i .i64 y] ++ [.i .i64 u]), .c (.i .i64 e)] := by
  by_cases hA : dok a1 a2 b1 b2 = false ∨ r ≤ 0
  · exact ⟨0, 0, 0, 1, tS_1 hA, rS_1 hA⟩
  have hok : dok a1 a2 b1 b2 = true := by
    cases h : dok a1 a2 b1 b2 with
    | false => exact absurd (.inl h) hA
    | true => rfl
  have hr : 1 ≤ r := by omega
  clear hA
  by_cases hB : rnd a1 a2 r = false ∨ rnd b1 b2 r = false ∨ far z = true
  · exact ⟨0, 0, 0, 11, tS_11 hok hr hB, rS_11 hok hr (chk_11 hok (by omega) hB)⟩
  have q1 : rnd a1 a2 r = true := by
    cases h : rnd a1 a2 r with
    | false => exact absurd (.inl h) hB
    | true => rfl
  have q2 : rnd b1 b2 r = true := by
    cases h : rnd b1 b2 r with
    | false => exact absurd (.inr (.inl h)) hB
    | true => rfl
  have q3 : far z = false := by
    cases h : far z with
    | true => exact absurd (.inr (.inr h)) hB
    | false => rfl
  have hE := chk_0 hok (by omega) q1 q2 q3
  obtain ⟨L, dx, dy, hL, hd, rfl, rfl⟩ := dir_of hok
  have g1 := (rnd_iff _ _ _).1 q1
  have g2 := (rnd_iff _ _ _).1 q2
  exact ⟨_, _, _, _, tS_ok hL hd hr q1 q2 q3, rS_ok hL hd hr (by omega) (by omega) (by omega) (by omega) (by omega) hE⟩
end
end Go.Proofs.Ytonjlikaacengaa
/- Arguments opened: ways, grid positions, what a contract gives a row. No condition. -/
namespace Go.Proofs.Ytonjlikaacengaa
open Go.ChangeShapes Go.WideShapes Go.ChangeAt Go.RowKit Go.Deep
theorem own : ownKnob Try.prog.godebug = none := by kernel_rfl
theorem laidOut : laidOutB Try.prog = true := by kernel_rfl
def NoB : Nat → Prop := fun _ => False
section
variable {H : Type} {enc : TypeId × Value → H} {w : World} {base : Nat} {spare : Nat → Bool} {held : Bool}
theorem olist_of {α : Type} {p : Nat → α → Prop} : ∀ (n : Nat), (∀ i, i < n → ∃ a, p i a) → ∃ l : List α, l.length = n ∧ ∀ i a, l[i]? = some a → p i a
  | 0, _ => ⟨[], rfl, fun i a h => by simp at h⟩
  | n + 1, h => by
    obtain ⟨l, hl, hp⟩ := olist_of n (fun i hi => h i (by omega))
    obtain ⟨a, ha⟩ := h n (by omega)
    refine ⟨l ++ [a], by simp [hl], fun i b hb => ?_⟩
    rcases Nat.lt_or_ge i n with h1 | h1
    · rw [List.getElem?_append_left (by omega)] at hb; exact hp i b hb
    · rw [List.getElem?_append_right (by omega)] at hb
      have : i = n := by
        rcases Nat.lt_or_ge (i - l.length) 1 with h2 | h2
        · omega
        · rw [List.getElem?_eq_none (by simpa using h2)] at hb; cases hb
      subst this
      rw [hl] at hb; simp at hb; subst hb; exact ha
theorem oadd_at (a : Addr) (k : Nat) (v : Value) (h : w.cell? (a.add k) = some v) : w.cell? ⟨a.block, a.off + k, none⟩ = some v := by
  obtain ⟨b, off, spot⟩ := a
  by_cases hk : k = 0
  · subst hk
    have hs : spot = none := by simpa [Addr.add] using World.cell?_spot h
    subst hs
    simpa [Addr.add] using h
  · simpa [Addr.add, hk] using h
theorem ospot_of (a : Addr) (v : Value) (h : w.cell? (a.add 0) = some v) : a = ⟨a.block, a.off, none⟩ := by
  obtain ⟨b, off, spot⟩ := a
  have hs : spot = none := by simpa [Addr.add] using World.cell?_spot h
  subst hs; rfl
theorem olt_of (b off : Nat) (v : Value) (h : w.cell? ⟨b, off, none⟩ = some v) : b < w.heap.size := World.block_lt_of_cell? w _ h
set_option maxRecDepth 100000 in
theorem grid_of {fuel : Nat} {cs : List Value} {x : DataW H × List MemPlace} (h : DataW.trod enc Try.prog w base spare held fuel 23 cs = some x) :
    ∃ x y : Int, -9223372036854775808 ≤ x ∧ x ≤ 9223372036854775807 ∧ -9223372036854775808 ≤ y ∧ y ≤ 9223372036854775807 ∧ RdCs NoB w cs ([.i .i64 x] ++ [.i .i64 y]) := by
  obtain ⟨xs, n, _, _, hcl, hxl, hf⟩ := DataW.trod_struct (P := Try.prog) Try.underlying23 h
  have hcl : cs.length = 2 := hcl.trans (by kernel_rfl)
  have hxl : xs.length = 2 := hxl.trans (by kernel_rfl)
  match cs, hcl with
  | [c0, c1], _ =>
    have h0 : DataW.trod enc Try.prog w base spare held n 2 [c0] = xs[0]? := hf 0 _ rfl
    have h1 : DataW.trod enc Try.prog w base spare held n 2 [c1] = xs[1]? := hf 1 _ rfl
    rw [List.getElem?_eq_getElem (by omega)] at h0 h1
    obtain ⟨x, e, _, hx⟩ := DataW.trod_int (P := Try.prog) Try.underlying2 h0
    obtain ⟨y, e', _, hy⟩ := DataW.trod_int (P := Try.prog) Try.underlying2 h1
    simp at e e'
    subst e e'
    simp [Lit.wf, IntKind.min, IntKind.max, IntKind.signed, IntKind.bits] at hx hy
    exact ⟨x, y, by omega, by omega, by omega, by omega, RdCs.cons (.i _ _) (RdCs.cons (.i _ _) RdCs.nil)⟩
set_option maxRecDepth 100000 in
theorem way_of {fuel : Nat} {cs : List Value} {x : DataW H × List MemPlace} (h : DataW.trod enc Try.prog w base spare held fuel 25 cs = some x) :
    ∃ a1 a2 b1 b2 r s z f : Int, -9223372036854775808 ≤ s ∧ s ≤ 9223372036854775807 ∧ RdCs NoB w cs (([.i .i64 a1] ++ [.i .i64 a2]) ++ ([.i .i64 b1] ++ [.i .i64 b2]) ++ [.i .i64 r] ++ [.i .i64 s] ++ [.i .i64 z] ++ [.i .i64 f]) := by
  obtain ⟨xs, n, _, _, hcl, hxl, hf⟩ := DataW.trod_struct (P := Try.prog) Try.underlying25 h
  have hcl : cs.length = 8 := hcl.trans (by kernel_rfl)
  have hxl : xs.length = 6 := hxl.trans (by kernel_rfl)
  match cs, hcl with
  | [c0, c1, c2, c3, c4, c5, c6, c7], _ =>
    have h0 : DataW.trod enc Try.prog w base spare held n 23 [c0, c1] = xs[0]? := hf 0 _ rfl
    have h1 : DataW.trod enc Try.prog w base spare held n 23 [c2, c3] = xs[1]? := hf 1 _ rfl
    have h2 : DataW.trod enc Try.prog w base spare held n 2 [c4] = xs[2]? := hf 2 _ rfl
    have h3 : DataW.trod enc Try.prog w base spare held n 2 [c5] = xs[3]? := hf 3 _ rfl
    have h4 : DataW.trod enc Try.prog w base spare held n 2 [c6] = xs[4]? := hf 4 _ rfl
    have h5 : DataW.trod enc Try.prog w base spare held n 2 [c7] = xs[5]? := hf 5 _ rfl
    rw [List.getElem?_eq_getElem (by omega)] at h0 h1 h2 h3 h4 h5
    obtain ⟨a1, a2, _, _, _, _, r0⟩ := grid_of h0
    obtain ⟨b1, b2, _, _, _, _, r1⟩ := grid_of h1
    obtain ⟨r, e2, _, g2⟩ := DataW.trod_int (P := Try.prog) Try.underlying2 h2
    obtain ⟨s, e3, _, g3⟩ := DataW.trod_int (P := Try.prog) Try.underlying2 h3
    obtain ⟨z, e4, _, g4⟩ := DataW.trod_int (P := Try.prog) Try.underlying2 h4
    obtain ⟨f, e5, _, g5⟩ := DataW.trod_int (P := Try.prog) Try.underlying2 h5
    simp at e2 e3 e4 e5
    subst e2 e3 e4 e5
    simp [Lit.wf, IntKind.min, IntKind.max, IntKind.signed, IntKind.bits] at g3
    have k : ∀ q : Int, RdCs NoB w [Value.int .i64 q] [.i .i64 q] := fun q => RdCs.cons (.i _ _) RdCs.nil
    exact ⟨a1, a2, b1, b2, r, s, z, f, by omega, by omega, RdCs.append (RdCs.append (RdCs.append (RdCs.append (RdCs.append r0 r1) (k r)) (k s)) (k z)) (k f)⟩
/-- What a contract gives a row. -/
theorem law_of {f : FuncId} {ds : List D0} {vs : Array Value} {W : World} (h : Ok Try.prog f ds [.c (.b true)]) (hr : RdL NoB W vs.toList ds) : Calls Try.prog f vs W fun e W' => e = .returned (.bool true) ∧ Below W.heap.size W W' :=
  (h.run NoB vs W (fun _ h => h.elim) hr).mono fun e w' ⟨v, e1, h1, h2⟩ => by
    have := RdC.bool_eq h1
    subst this
    exact ⟨e1, h2⟩
end
end Go.Proofs.Ytonjlikaacengaa
