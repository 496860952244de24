/- The centers of a way: the program. -/
import Derived.Test.YtonjlikaacengaaMaH
namespace Go.Proofs.Ytonjlikaacengaa
open Go Go.RowKit
theorem tcen_big {a1 a2 L dx dy s : Int} (hL : 1 ≤ L) (hd : Dir dx dy) (hs : 1 ≤ s) (hs2 : s ≤ 9223372036854775807) (r1 : -10000000 ≤ a1 ∧ a1 ≤ 10000000) (r2 : -10000000 ≤ a2 ∧ a2 ≤ 10000000) (r3 : -10000000 ≤ a1 + L * dx ∧ a1 + L * dx ≤ 10000000) (r4 : -10000000 ≤ a2 + L * dy ∧ a2 + L * dy ≤ 10000000) (hbig : 10000 < (L - 1) / s + 2) : Ok Try.prog 21 [.a ([.i .i64 a1] ++ [.i .i64 a2]), .a ([.i .i64 (a1 + L * dx)] ++ [.i .i64 (a2 + L * dy)]), .a ([.i .i64 dx] ++ [.i .i64 dy]), .c (.i .i64 s)] [.c (.s 0 []), .c (.i .i64 3)] := by
  have hL2 := dir_L hL hd r1 r2 r3 r4
  have hq := q_bd hL hs
  refine Ok.of (by kernel_rfl) Try.func21 rfl rfl ?_
  rw [show Try.f21.ntmps = 68 from rfl, show Try.f21.results.toList = [.tmp 8, .tmp 9] from rfl]
  refine dw_seq ?_
  -- region 0
  refine dw_region (by kernel_rfl) ?_
  refine dl_new (sem_box_a rfl rfl) rfl ?_
  refine dl_new (sem_box_a rfl rfl) rfl ?_
  refine dl_new (sem_box_a rfl rfl) rfl ?_
  refine dl_r (sem_assign rfl rfl) ?_
  refine dl_r (sem_assign rfl rfl) ?_
  refine dl_end ?_
  refine dw_seq ?_
  -- region 1
  refine dw_region (by kernel_rfl) ?_
  refine dl_r (sem_field fd23_0 rfl rfl) ?_
  refine dl_r (sem_load1 ty2 rfl rfl rfl rfl) ?_
  refine dl_r (sem_field fd23_0 rfl rfl) ?_
  refine dl_r (sem_load1 ty2 rfl rfl rfl rfl) ?_
  refine dl_r (sem_ari (r := (a1 + L * dx) - a1) rfl rfl (ari_i64_sub (by rcases hd with ⟨rfl, rfl⟩ | ⟨rfl, rfl⟩ | ⟨rfl, rfl⟩ | ⟨rfl, rfl⟩ <;> omega) (by rcases hd with ⟨rfl, rfl⟩ | ⟨rfl, rfl⟩ | ⟨rfl, rfl⟩ | ⟨rfl, rfl⟩ <;> omega)) rfl) ?_
  refine dl_r (sem_field fd23_0 rfl rfl) ?_
  refine dl_r (sem_load1 ty2 rfl rfl rfl rfl) ?_
  refine dl_r (sem_field fd23_0 rfl rfl) ?_
  refine dl_r (sem_load1 ty2 rfl rfl rfl rfl) ?_
  refine dl_r (sem_ari (r := a1 - (a1 + L * dx)) rfl rfl (ari_i64_sub (by rcases hd with ⟨rfl, rfl⟩ | ⟨rfl, rfl⟩ | ⟨rfl, rfl⟩ | ⟨rfl, rfl⟩ <;> omega) (by rcases hd with ⟨rfl, rfl⟩ | ⟨rfl, rfl⟩ | ⟨rfl, rfl⟩ | ⟨rfl, rfl⟩ <;> omega)) rfl) ?_
  refine dl_r (sem_field fd23_1 rfl rfl) ?_
  refine dl_r (sem_load1 ty2 rfl rfl rfl rfl) ?_
  refine dl_r (sem_field fd23_1 rfl rfl) ?_
  refine dl_r (sem_load1 ty2 rfl rfl rfl rfl) ?_
  refine dl_r (sem_ari (r := (a2 + L * dy) - a2) rfl rfl (ari_i64_sub (by rcases hd with ⟨rfl, rfl⟩ | ⟨rfl, rfl⟩ | ⟨rfl, rfl⟩ | ⟨rfl, rfl⟩ <;> omega) (by rcases hd with ⟨rfl, rfl⟩ | ⟨rfl, rfl⟩ | ⟨rfl, rfl⟩ | ⟨rfl, rfl⟩ <;> omega)) rfl) ?_
  refine dl_r (sem_field fd23_1 rfl rfl) ?_
  refine dl_r (sem_load1 ty2 rfl rfl rfl rfl) ?_
  refine dl_r (sem_field fd23_1 rfl rfl) ?_
  refine dl_r (sem_load1 ty2 rfl rfl rfl rfl) ?_
  refine dl_r (sem_ari (r := a2 - (a2 + L * dy)) rfl rfl (ari_i64_sub (by rcases hd with ⟨rfl, rfl⟩ | ⟨rfl, rfl⟩ | ⟨rfl, rfl⟩ | ⟨rfl, rfl⟩ <;> omega) (by rcases hd with ⟨rfl, rfl⟩ | ⟨rfl, rfl⟩ | ⟨rfl, rfl⟩ | ⟨rfl, rfl⟩ <;> omega)) rfl) ?_
  refine dl_r (sem_casti (c := L) (sem_max4 rfl rfl rfl rfl rfl) (by (rcases hd with ⟨rfl, rfl⟩ | ⟨rfl, rfl⟩ | ⟨rfl, rfl⟩ | ⟨rfl, rfl⟩ <;> omega))) ?_
  refine dl_r (sem_assign rfl rfl) ?_
  refine dl_end ?_
  refine dw_seq ?_
  refine dw_seq ?_
  -- region 2
  refine dw_region (by kernel_rfl) ?_
  refine dl_r (sem_move rfl rfl) ?_
  refine dl_r (sem_ari (r := L - 1) rfl rfl (ari_i64_sub (by rcases hd with ⟨rfl, rfl⟩ | ⟨rfl, rfl⟩ | ⟨rfl, rfl⟩ | ⟨rfl, rfl⟩ <;> omega) (by rcases hd with ⟨rfl, rfl⟩ | ⟨rfl, rfl⟩ | ⟨rfl, rfl⟩ | ⟨rfl, rfl⟩ <;> omega)) rfl) ?_
  refine dl_r (sem_move rfl rfl) ?_
  refine dl_r (sem_quo' (r := (L - 1) / s) rfl rfl (by omega) (by rw [Int.tdiv_eq_ediv_of_nonneg (by omega)]; exact nw64 (by omega) (by omega)) rfl) ?_
  refine dl_r (sem_ari (r := ((L - 1) / s) + 2) rfl rfl (ari_i64_add (by rcases hd with ⟨rfl, rfl⟩ | ⟨rfl, rfl⟩ | ⟨rfl, rfl⟩ | ⟨rfl, rfl⟩ <;> omega) (by rcases hd with ⟨rfl, rfl⟩ | ⟨rfl, rfl⟩ | ⟨rfl, rfl⟩ | ⟨rfl, rfl⟩ <;> omega)) rfl) ?_
  refine dl_r (sem_castb (c := true) (sem_cmp rfl rfl rfl rfl) (decide_eq_true (by omega))) ?_
  refine dl_end ?_
  refine dw_true rfl ?_
  refine dw_seq ?_
  -- region 3
  refine dw_region (by kernel_rfl) ?_
  refine dl_r (sem_assign rfl rfl) ?_
  refine dl_r (sem_assign rfl rfl) ?_
  refine dl_end ?_
  refine dw_ret ?_
  -- path 
  exact ⟨.inr rfl, (resL_tmp rfl (resL_tmp rfl resL_nil))⟩
theorem tcen_ok {a1 a2 L dx dy s : Int} (hL : 1 ≤ L) (hd : Dir dx dy) (hs : 1 ≤ s) (hs2 : s ≤ 9223372036854775807) {k : Nat} (hk : (k : Int) = (L - 1) / s) (r1 : -10000000 ≤ a1 ∧ a1 ≤ 10000000) (r2 : -10000000 ≤ a2 ∧ a2 ≤ 10000000) (r3 : -10000000 ≤ a1 + L * dx ∧ a1 + L * dx ≤ 10000000) (r4 : -10000000 ≤ a2 + L * dy ∧ a2 + L * dy ≤ 10000000) (hfit : (L - 1) / s + 2 ≤ 10000) : Ok Try.prog 21 [.a ([.i .i64 a1] ++ [.i .i64 a2]), .a ([.i .i64 (a1 + L * dx)] ++ [.i .i64 (a2 + L * dy)]), .a ([.i .i64 dx] ++ [.i .i64 dy]), .c (.i .i64 s)] [.c (.s (k + 1 + 1) (ctb a1 a2 dx dy L s k)), .c (.i .i64 0)] := by
  have hL2 := dir_L hL hd r1 r2 r3 r4
  have hq := q_bd hL hs
  have hk2 : k ≤ 9998 := by omega
  refine Ok.of (by kernel_rfl) Try.func21 rfl rfl ?_
  rw [show Try.f21.ntmps = 68 from rfl, show Try.f21.results.toList = [.tmp 8, .tmp 9] from rfl]
  refine dw_seq ?_
  -- region 0
  refine dw_region (by kernel_rfl) ?_
  refine dl_new (sem_box_a rfl rfl) rfl ?_
  refine dl_new (sem_box_a rfl rfl) rfl ?_
  refine dl_new (sem_box_a rfl rfl) rfl ?_
  refine dl_r (sem_assign rfl rfl) ?_
  refine dl_r (sem_assign rfl rfl) ?_
  refine dl_end ?_
  refine dw_seq ?_
  -- region 1
  refine dw_region (by kernel_rfl) ?_
  refine dl_r (sem_field fd23_0 rfl rfl) ?_
  refine dl_r (sem_load1 ty2 rfl rfl rfl rfl) ?_
  refine dl_r (sem_field fd23_0 rfl rfl) ?_
  refine dl_r (sem_load1 ty2 rfl rfl rfl rfl) ?_
  refine dl_r (sem_ari (r := (a1 + L * dx) - a1) rfl rfl (ari_i64_sub (by rcases hd with ⟨rfl, rfl⟩ | ⟨rfl, rfl⟩ | ⟨rfl, rfl⟩ | ⟨rfl, rfl⟩ <;> omega) (by rcases hd with ⟨rfl, rfl⟩ | ⟨rfl, rfl⟩ | ⟨rfl, rfl⟩ | ⟨rfl, rfl⟩ <;> omega)) rfl) ?_
  refine dl_r (sem_field fd23_0 rfl rfl) ?_
  refine dl_r (sem_load1 ty2 rfl rfl rfl rfl) ?_
  refine dl_r (sem_field fd23_0 rfl rfl) ?_
  refine dl_r (sem_load1 ty2 rfl rfl rfl rfl) ?_
  refine dl_r (sem_ari (r := a1 - (a1 + L * dx)) rfl rfl (ari_i64_sub (by rcases hd with ⟨rfl, rfl⟩ | ⟨rfl, rfl⟩ | ⟨rfl, rfl⟩ | ⟨rfl, rfl⟩ <;> omega) (by rcases hd with ⟨rfl, rfl⟩ | ⟨rfl, rfl⟩ | ⟨rfl, rfl⟩ | ⟨rfl, rfl⟩ <;> omega)) rfl) ?_
  refine dl_r (sem_field fd23_1 rfl rfl) ?_
  refine dl_r (sem_load1 ty2 rfl rfl rfl rfl) ?_
  refine dl_r (sem_field fd23_1 rfl rfl) ?_
  refine dl_r (sem_load1 ty2 rfl rfl rfl rfl) ?_
  refine dl_r (sem_ari (r := (a2 + L * dy) - a2) rfl rfl (ari_i64_sub (by rcases hd with ⟨rfl, rfl⟩ | ⟨rfl, rfl⟩ | ⟨rfl, rfl⟩ | ⟨rfl, rfl⟩ <;> omega) (by rcases hd with ⟨rfl, rfl⟩ | ⟨rfl, rfl⟩ | ⟨rfl, rfl⟩ | ⟨rfl, rfl⟩ <;> omega)) rfl) ?_
  refine dl_r (sem_field fd23_1 rfl rfl) ?_
  refine dl_r (sem_load1 ty2 rfl rfl rfl rfl) ?_
  refine dl_r (sem_field fd23_1 rfl rfl) ?_
  refine dl_r (sem_load1 ty2 rfl rfl rfl rfl) ?_
  refine dl_r (sem_ari (r := a2 - (a2 + L * dy)) rfl rfl (ari_i64_sub (by rcases hd with ⟨rfl, rfl⟩ | ⟨rfl, rfl⟩ | ⟨rfl, rfl⟩ | ⟨rfl, rfl⟩ <;> omega) (by rcases hd with ⟨rfl, rfl⟩ | ⟨rfl, rfl⟩ | ⟨rfl, rfl⟩ | ⟨rfl, rfl⟩ <;> omega)) rfl) ?_
  refine dl_r (sem_casti (c := L) (sem_max4 rfl rfl rfl rfl rfl) (by (rcases hd with ⟨rfl, rfl⟩ | ⟨rfl, rfl⟩ | ⟨rfl, rfl⟩ | ⟨rfl, rfl⟩ <;> omega))) ?_
  refine dl_r (sem_assign rfl rfl) ?_
  refine dl_end ?_
  refine dw_seq ?_
  refine dw_seq ?_
  -- region 2
  refine dw_region (by kernel_rfl) ?_
  refine dl_r (sem_move rfl rfl) ?_
  refine dl_r (sem_ari (r := L - 1) rfl rfl (ari_i64_sub (by rcases hd with ⟨rfl, rfl⟩ | ⟨rfl, rfl⟩ | ⟨rfl, rfl⟩ | ⟨rfl, rfl⟩ <;> omega) (by rcases hd with ⟨rfl, rfl⟩ | ⟨rfl, rfl⟩ | ⟨rfl, rfl⟩ | ⟨rfl, rfl⟩ <;> omega)) rfl) ?_
  refine dl_r (sem_move rfl rfl) ?_
  refine dl_r (sem_quo' (r := (L - 1) / s) rfl rfl (by omega) (by rw [Int.tdiv_eq_ediv_of_nonneg (by omega)]; exact nw64 (by omega) (by omega)) rfl) ?_
  refine dl_r (sem_ari (r := ((L - 1) / s) + 2) rfl rfl (ari_i64_add (by rcases hd with ⟨rfl, rfl⟩ | ⟨rfl, rfl⟩ | ⟨rfl, rfl⟩ | ⟨rfl, rfl⟩ <;> omega) (by rcases hd with ⟨rfl, rfl⟩ | ⟨rfl, rfl⟩ | ⟨rfl, rfl⟩ | ⟨rfl, rfl⟩ <;> omega)) rfl) ?_
  refine dl_r (sem_castb (c := false) (sem_cmp rfl rfl rfl rfl) (decide_eq_false (by omega))) ?_
  refine dl_end ?_
  refine dw_false rfl ?_
  refine dw_skip ?_
  refine dw_seq ?_
  -- region 4
  refine dw_region (by kernel_rfl) ?_
  refine dl_r (sem_assign_z rfl) ?_
  refine dl_end ?_
  refine dw_seq ?_
  refine dw_seq ?_
  -- region 5
  refine dw_region (by kernel_rfl) ?_
  refine dl_r (sem_assign rfl rfl) ?_
  refine dl_end ?_
  refine dw_block ?_
  refine dw_loop1 (ι := {t : Nat × Nat × List CellD // t.1 ≤ k ∧ t.1 + 1 ≤ t.2.1 ∧ t.2.1 ≤ maxLen ∧ t.2.2.length = (t.2.1 - (t.1 + 1)) * 2}) (fun i => ⟨68, [(11, .o 63 (i.1.1 + 1) i.1.2.1), (3, .v (.c (.i .i64 s))), (4, .p 4 0), (5, .p 5 0), (6, .p 6 0), (10, .v (.c (.i .i64 L))), (12, .v (.c (.i .i64 (((i.1.1 + 1 : Nat) : Int) * s))))], [(4, 23, ([.i .i64 a1] ++ [.i .i64 a2])), (5, 23, ([.i .i64 (a1 + L * dx)] ++ [.i .i64 (a2 + L * dy)])), (6, 23, ([.i .i64 dx] ++ [.i .i64 dy])), (63, 23, ctr a1 a2 dx dy s i.1.1 ++ i.1.2.2)]⟩) (fun i => k - i.1.1) (k + 1) ?_ ?_
  · refine dw_seq ?_
    refine dw_seq ?_
    -- region 6
    refine dw_region (by kernel_rfl) ?_
    refine dl_r (sem_move rfl rfl) ?_
    refine dl_r (sem_move rfl rfl) ?_
    refine dl_r (sem_cmp rfl rfl rfl rfl) ?_
    refine dl_end ?_
    refine dw_cond rfl (fun hc1 => ?_) (fun hc1 => ?_)
    · refine dw_skip ?_
      refine dw_seq ?_
      refine dw_block ?_
      -- region 8
      refine dw_region (by kernel_rfl) ?_
      refine dl_r (sem_move rfl rfl) ?_
      refine dl_r (sem_field fd23_0 rfl rfl) ?_
      refine dl_r (sem_load1 ty2 rfl rfl rfl rfl) ?_
      refine dl_r (sem_field fd23_0 rfl rfl) ?_
      refine dl_r (sem_load1 ty2 rfl rfl rfl rfl) ?_
      refine dl_r (sem_move rfl rfl) ?_
      refine dl_r (sem_ari (r := dx * 0) rfl rfl (ari_i64_mul (by rcases hd with ⟨rfl, rfl⟩ | ⟨rfl, rfl⟩ | ⟨rfl, rfl⟩ | ⟨rfl, rfl⟩ <;> omega) (by rcases hd with ⟨rfl, rfl⟩ | ⟨rfl, rfl⟩ | ⟨rfl, rfl⟩ | ⟨rfl, rfl⟩ <;> omega)) rfl) ?_
      refine dl_r (sem_ari (r := a1) rfl rfl ((ari_i64_add (by (rcases hd with ⟨rfl, rfl⟩ | ⟨rfl, rfl⟩ | ⟨rfl, rfl⟩ | ⟨rfl, rfl⟩ <;> omega)) (by (rcases hd with ⟨rfl, rfl⟩ | ⟨rfl, rfl⟩ | ⟨rfl, rfl⟩ | ⟨rfl, rfl⟩ <;> omega))).trans (congrArg some (by (rcases hd with ⟨rfl, rfl⟩ | ⟨rfl, rfl⟩ | ⟨rfl, rfl⟩ | ⟨rfl, rfl⟩ <;> omega)))) rfl) ?_
      refine dl_r (sem_field fd23_1 rfl rfl) ?_
      refine dl_r (sem_load1 ty2 rfl rfl rfl rfl) ?_
      refine dl_r (sem_field fd23_1 rfl rfl) ?_
      refine dl_r (sem_load1 ty2 rfl rfl rfl rfl) ?_
      refine dl_r (sem_move rfl rfl) ?_
      refine dl_r (sem_ari (r := dy * 0) rfl rfl (ari_i64_mul (by rcases hd with ⟨rfl, rfl⟩ | ⟨rfl, rfl⟩ | ⟨rfl, rfl⟩ | ⟨rfl, rfl⟩ <;> omega) (by rcases hd with ⟨rfl, rfl⟩ | ⟨rfl, rfl⟩ | ⟨rfl, rfl⟩ | ⟨rfl, rfl⟩ <;> omega)) rfl) ?_
      refine dl_r (sem_ari (r := a2) rfl rfl ((ari_i64_add (by (rcases hd with ⟨rfl, rfl⟩ | ⟨rfl, rfl⟩ | ⟨rfl, rfl⟩ | ⟨rfl, rfl⟩ <;> omega)) (by (rcases hd with ⟨rfl, rfl⟩ | ⟨rfl, rfl⟩ | ⟨rfl, rfl⟩ | ⟨rfl, rfl⟩ <;> omega))).trans (congrArg some (by (rcases hd with ⟨rfl, rfl⟩ | ⟨rfl, rfl⟩ | ⟨rfl, rfl⟩ | ⟨rfl, rfl⟩ <;> omega)))) rfl) ?_
      refine dl_r (sem_build (us := ([.i .i64 a1] ++ [.i .i64 a2])) fs23 zc23 rfl rfl rfl) ?_
      refine dl_r (sem_slit_D (n := 1) (us := ([.i .i64 a1] ++ [.i .i64 a2])) el27 rfl rfl rfl (by decide) (by decide) rfl) ?_
      refine dl_grow0 (ys := ([.i .i64 a1] ++ [.i .i64 a2])) el27 rfl rfl rfl (by decide) (by decide) (by decide) rfl rfl (fun cg2 rg2 hga2 hgb2 hgc2 => ?_)
      refine dl_r (sem_assign rfl rfl) ?_
      refine dl_end ?_
      -- region 7
      refine dw_region (by kernel_rfl) ?_
      refine dl_r (sem_move rfl rfl) ?_
      refine dl_r (sem_move rfl rfl) ?_
      refine dl_r (sem_ari (r := ((0 + 1 : Nat) : Int) * s) rfl rfl ((ari_i64_add (by omega) (by omega)).trans (congrArg some (by simp))) rfl) ?_
      refine dl_r (sem_assign rfl rfl) ?_
      refine dl_end ?_
      exact ⟨⟨⟨0, cg2, rg2⟩, by omega, by omega, hgb2, hgc2⟩, sub_of ⟨rfl, rfl, rfl, rfl, rfl, rfl, rfl, trivial⟩ ⟨rfl, rfl, rfl, rfl, trivial⟩ rfl, by show k - 0 < k + 1; omega⟩
    · exact (of_decide_eq_false hc1 (by omega)).elim
  · rintro ⟨⟨j, c, rs⟩, h2, h3, h4, h5⟩
    dsimp only at h2 h3 h4 h5
    show Dw _ _ ⟨68, [(11, .o 63 (j + 1) c), (3, .v (.c (.i .i64 s))), (4, .p 4 0), (5, .p 5 0), (6, .p 6 0), (10, .v (.c (.i .i64 L))), (12, .v (.c (.i .i64 (((j + 1 : Nat) : Int) * s))))], [(4, 23, ([.i .i64 a1] ++ [.i .i64 a2])), (5, 23, ([.i .i64 (a1 + L * dx)] ++ [.i .i64 (a2 + L * dy)])), (6, 23, ([.i .i64 dx] ++ [.i .i64 dy])), (63, 23, ctr a1 a2 dx dy s j ++ rs)]⟩ _
    refine dw_seq ?_
    refine dw_seq ?_
    -- region 6
    refine dw_region (by kernel_rfl) ?_
    refine dl_r (sem_move rfl rfl) ?_
    refine dl_r (sem_move rfl rfl) ?_
    refine dl_r (sem_cmp rfl rfl rfl rfl) ?_
    refine dl_end ?_
    refine dw_cond rfl (fun hc3 => ?_) (fun hc3 => ?_)
    · have g1 := (ct_iff hs hk j).1 (of_decide_eq_true hc3)
      have g2 := ct_nn hs (j + 1)
      have g3 := ct_ge hs j
      have g4 := of_decide_eq_true hc3
      refine dw_skip ?_
      refine dw_seq ?_
      refine dw_block ?_
      -- region 8
      refine dw_region (by kernel_rfl) ?_
      refine dl_r (sem_move rfl rfl) ?_
      refine dl_r (sem_field fd23_0 rfl rfl) ?_
      refine dl_r (sem_load1 ty2 rfl rfl rfl rfl) ?_
      refine dl_r (sem_field fd23_0 rfl rfl) ?_
      refine dl_r (sem_load1 ty2 rfl rfl rfl rfl) ?_
      refine dl_r (sem_move rfl rfl) ?_
      refine dl_r (sem_ari (r := dx * (((j + 1 : Nat) : Int) * s)) rfl rfl (ari_i64_mul (by rcases hd with ⟨rfl, rfl⟩ | ⟨rfl, rfl⟩ | ⟨rfl, rfl⟩ | ⟨rfl, rfl⟩ <;> omega) (by rcases hd with ⟨rfl, rfl⟩ | ⟨rfl, rfl⟩ | ⟨rfl, rfl⟩ | ⟨rfl, rfl⟩ <;> omega)) rfl) ?_
      refine dl_r (sem_ari (r := a1 + (dx * (((j + 1 : Nat) : Int) * s))) rfl rfl (ari_i64_add (by rcases hd with ⟨rfl, rfl⟩ | ⟨rfl, rfl⟩ | ⟨rfl, rfl⟩ | ⟨rfl, rfl⟩ <;> omega) (by rcases hd with ⟨rfl, rfl⟩ | ⟨rfl, rfl⟩ | ⟨rfl, rfl⟩ | ⟨rfl, rfl⟩ <;> omega)) rfl) ?_
      refine dl_r (sem_field fd23_1 rfl rfl) ?_
      refine dl_r (sem_load1 ty2 rfl rfl rfl rfl) ?_
      refine dl_r (sem_field fd23_1 rfl rfl) ?_
      refine dl_r (sem_load1 ty2 rfl rfl rfl rfl) ?_
      refine dl_r (sem_move rfl rfl) ?_
      refine dl_r (sem_ari (r := dy * (((j + 1 : Nat) : Int) * s)) rfl rfl (ari_i64_mul (by rcases hd with ⟨rfl, rfl⟩ | ⟨rfl, rfl⟩ | ⟨rfl, rfl⟩ | ⟨rfl, rfl⟩ <;> omega) (by rcases hd with ⟨rfl, rfl⟩ | ⟨rfl, rfl⟩ | ⟨rfl, rfl⟩ | ⟨rfl, rfl⟩ <;> omega)) rfl) ?_
      refine dl_r (sem_ari (r := a2 + (dy * (((j + 1 : Nat) : Int) * s))) rfl rfl (ari_i64_add (by rcases hd with ⟨rfl, rfl⟩ | ⟨rfl, rfl⟩ | ⟨rfl, rfl⟩ | ⟨rfl, rfl⟩ <;> omega) (by rcases hd with ⟨rfl, rfl⟩ | ⟨rfl, rfl⟩ | ⟨rfl, rfl⟩ | ⟨rfl, rfl⟩ <;> omega)) rfl) ?_
      refine dl_r (sem_build (us := ([.i .i64 (a1 + (dx * (((j + 1 : Nat) : Int) * s)))] ++ [.i .i64 (a2 + (dy * (((j + 1 : Nat) : Int) * s)))])) fs23 zc23 rfl rfl rfl) ?_
      refine dl_r (sem_slit_D (n := 1) (us := ([.i .i64 (a1 + (dx * (((j + 1 : Nat) : Int) * s)))] ++ [.i .i64 (a2 + (dy * (((j + 1 : Nat) : Int) * s)))])) el27 rfl rfl rfl (by decide) (by decide) rfl) ?_
      refine dl_grow (us := ctr a1 a2 dx dy s j) (rest := rs) (ys := ([.i .i64 (a1 + (dx * (((j + 1 : Nat) : Int) * s)))] ++ [.i .i64 (a2 + (dy * (((j + 1 : Nat) : Int) * s)))])) el27 rfl rfl rfl (by first | exact ctr_len _ | (rw [List.length_append, ctr_len]; show _ + 2 = _; omega)) (by assumption) rfl (by decide) (by omega) (by assumption) (by omega) (g_max (by omega)) (.inl rfl) rfl (fun cg4 rg4 hga4 hgb4 hgc4 => ?_)
      refine dl_r (sem_assign rfl rfl) ?_
      refine dl_end ?_
      -- region 7
      refine dw_region (by kernel_rfl) ?_
      refine dl_r (sem_move rfl rfl) ?_
      refine dl_r (sem_move rfl rfl) ?_
      refine dl_r (sem_ari (r := (((j + 1) + 1 : Nat) : Int) * s) rfl rfl ((ari_i64_add (by omega) (by omega)).trans (congrArg some (ct_nx (j + 1)).symm)) rfl) ?_
      refine dl_r (sem_assign rfl rfl) ?_
      refine dl_end ?_
      exact ⟨⟨⟨j + 1, cg4, rg4⟩, g1, by omega, hgb4, hgc4⟩, sub_of ⟨rfl, rfl, rfl, rfl, rfl, rfl, rfl, trivial⟩ ⟨rfl, rfl, rfl, rfl, trivial⟩ rfl, by show k - (j + 1) < k - j; omega⟩
    · have g1 : ¬ j < k := fun h => absurd ((ct_iff hs hk j).2 h) (of_decide_eq_false hc3)
      obtain rfl : j = k := by omega
      refine dw_exit ?_
      refine dw_seq ?_
      -- region 9
      refine dw_region (by kernel_rfl) ?_
      refine dl_r (sem_move rfl rfl) ?_
      refine dl_r (sem_load (us := ([.i .i64 (a1 + L * dx)] ++ [.i .i64 (a2 + L * dy)])) ty23 rfl rfl rfl rfl rfl) ?_
      refine dl_r (sem_slit_D (n := 1) (us := ([.i .i64 (a1 + L * dx)] ++ [.i .i64 (a2 + L * dy)])) el27 rfl rfl rfl (by decide) (by decide) rfl) ?_
      refine dl_grow (us := ctr a1 a2 dx dy s j) (rest := rs) (ys := ([.i .i64 (a1 + L * dx)] ++ [.i .i64 (a2 + L * dy)])) el27 rfl rfl rfl (by first | exact ctr_len _ | (rw [List.length_append, ctr_len]; show _ + 2 = _; omega)) (by assumption) rfl (by decide) (by omega) (by assumption) (by omega) (g_max (by omega)) (.inr rfl) rfl (fun cg5 rg5 hga5 hgb5 hgc5 => ?_)
      refine dl_r (sem_assign rfl rfl) ?_
      refine dl_r (sem_assign rfl rfl) ?_
      refine dl_end ?_
      refine dw_release (t := 8) (m := 2) (us := ctr a1 a2 dx dy s j ++ (([.i .i64 (a1 + L * dx)] ++ [.i .i64 (a2 + L * dy)]))) rfl rfl (g_len (n := (j + 1) + 1) (by first | exact ctr_len _ | (rw [List.length_append, ctr_len]; show _ + 2 = _; omega)) (by assumption) (by omega)) (by omega) (by assumption) (g_take (by first | exact ctr_len _ | (rw [List.length_append, ctr_len]; show _ + 2 = _; omega))) ?_
      refine dw_ret ?_
      -- path LF
      exact ⟨.inr rfl, (resL_tmp rfl (resL_tmp rfl resL_nil))⟩
end Go.Proofs.Ytonjlikaacengaa
/- Centers, program and reference. -/
namespace Go.Proofs.Ytonjlikaacengaa
open Go Go.RowKit
theorem tC_a {a1 a2 b1 b2 s : Int} (hok : dok a1 a2 b1 b2 = false) : Ok Try.prog 8 [.a ([.i .i64 a1] ++ [.i .i64 a2]), .a ([.i .i64 b1] ++ [.i .i64 b2]), .c (.i .i64 s)] [.c (.s 0 []), .c (.i .i64 1)] := by
  refine Ok.of (by kernel_rfl) Try.func8 rfl rfl ?_
  rw [show Try.f8.ntmps = 37 from rfl, show Try.f8.results.toList = [.tmp 6, .tmp 7] from rfl]
  refine dw_seq ?_
  -- region 0
  refine dw_region (by kernel_rfl) ?_
  refine dl_new (sem_box_a rfl rfl) rfl ?_
  refine dl_new (sem_box_a rfl rfl) rfl ?_
  refine dl_r (sem_assign rfl rfl) ?_
  refine dl_r (sem_assign rfl rfl) ?_
  refine dl_end ?_
  refine dw_seq ?_
  -- region 1
  refine dw_region (by kernel_rfl) ?_
  refine dl_r (sem_load (us := ([.i .i64 a1] ++ [.i .i64 a2])) ty23 rfl rfl rfl rfl rfl) ?_
  refine dl_r (sem_load (us := ([.i .i64 b1] ++ [.i .i64 b2])) ty23 rfl rfl rfl rfl rfl) ?_
  refine dl_r (sem_call rfl rfl (icast2b tDir_ok rfl rfl hok) rfl) ?_
  refine dl_r (sem_move rfl rfl) ?_
  refine dl_r (sem_extract rfl rfl rfl) ?_
  refine dl_r (sem_extract rfl rfl rfl) ?_
  refine dl_new (sem_alloc zc23 rfl) rfl ?_
  refine dl_st (sem_store_a ty23 rfl rfl rfl rfl rfl rfl) ?_
  refine dl_r (sem_assign rfl rfl) ?_
  refine dl_end ?_
  refine dw_seq ?_
  refine dw_seq ?_
  -- region 2
  refine dw_region (by kernel_rfl) ?_
  refine dl_r (sem_move rfl rfl) ?_
  refine dl_r (sem_not rfl rfl) ?_
  refine dl_r (sem_move rfl rfl) ?_
  refine dl_skip (sem_skip rfl) ?_
  refine dl_skip (sem_skip rfl) ?_
  refine dl_r (sem_pick rfl rfl rfl rfl) ?_
  refine dl_end ?_
  refine dw_true rfl ?_
  refine dw_seq ?_
  -- region 3
  refine dw_region (by kernel_rfl) ?_
  refine dl_r (sem_assign rfl rfl) ?_
  refine dl_r (sem_assign rfl rfl) ?_
  refine dl_end ?_
  refine dw_ret ?_
  -- path 
  exact ⟨.inr rfl, (resL_tmp rfl (resL_tmp rfl resL_nil))⟩
theorem tC_b {a1 a2 b1 b2 s : Int} (hok : dok a1 a2 b1 b2 = true) (hs : s ≤ 0) : Ok Try.prog 8 [.a ([.i .i64 a1] ++ [.i .i64 a2]), .a ([.i .i64 b1] ++ [.i .i64 b2]), .c (.i .i64 s)] [.c (.s 0 []), .c (.i .i64 1)] := by
  refine Ok.of (by kernel_rfl) Try.func8 rfl rfl ?_
  rw [show Try.f8.ntmps = 37 from rfl, show Try.f8.results.toList = [.tmp 6, .tmp 7] from rfl]
  refine dw_seq ?_
  -- region 0
  refine dw_region (by kernel_rfl) ?_
  refine dl_new (sem_box_a rfl rfl) rfl ?_
  refine dl_new (sem_box_a rfl rfl) rfl ?_
  refine dl_r (sem_assign rfl rfl) ?_
  refine dl_r (sem_assign rfl rfl) ?_
  refine dl_end ?_
  refine dw_seq ?_
  -- region 1
  refine dw_region (by kernel_rfl) ?_
  refine dl_r (sem_load (us := ([.i .i64 a1] ++ [.i .i64 a2])) ty23 rfl rfl rfl rfl rfl) ?_
  refine dl_r (sem_load (us := ([.i .i64 b1] ++ [.i .i64 b2])) ty23 rfl rfl rfl rfl rfl) ?_
  refine dl_r (sem_call rfl rfl (icast2b tDir_ok rfl rfl hok) rfl) ?_
  refine dl_r (sem_move rfl rfl) ?_
  refine dl_r (sem_extract rfl rfl rfl) ?_
  refine dl_r (sem_extract rfl rfl rfl) ?_
  refine dl_new (sem_alloc zc23 rfl) rfl ?_
  refine dl_st (sem_store_a ty23 rfl rfl rfl rfl rfl rfl) ?_
  refine dl_r (sem_assign rfl rfl) ?_
  refine dl_end ?_
  refine dw_seq ?_
  refine dw_seq ?_
  -- region 2
  refine dw_region (by kernel_rfl) ?_
  refine dl_r (sem_move rfl rfl) ?_
  refine dl_r (sem_not rfl rfl) ?_
  refine dl_r (sem_move rfl rfl) ?_
  refine dl_r (sem_move rfl rfl) ?_
  refine dl_r (sem_castb (c := true) (sem_cmp rfl rfl rfl rfl) (decide_eq_true (by omega))) ?_
  refine dl_r (sem_pick rfl rfl rfl rfl) ?_
  refine dl_end ?_
  refine dw_true rfl ?_
  refine dw_seq ?_
  -- region 3
  refine dw_region (by kernel_rfl) ?_
  refine dl_r (sem_assign rfl rfl) ?_
  refine dl_r (sem_assign rfl rfl) ?_
  refine dl_end ?_
  refine dw_ret ?_
  -- path 
  exact ⟨.inr rfl, (resL_tmp rfl (resL_tmp rfl resL_nil))⟩
theorem tC_c {a1 a2 b1 b2 s : Int} (hok : dok a1 a2 b1 b2 = true) (hs : 1 ≤ s) (hf1 : rnd a1 a2 0 = false) : Ok Try.prog 8 [.a ([.i .i64 a1] ++ [.i .i64 a2]), .a ([.i .i64 b1] ++ [.i .i64 b2]), .c (.i .i64 s)] [.c (.s 0 []), .c (.i .i64 11)] := by
  refine Ok.of (by kernel_rfl) Try.func8 rfl rfl ?_
  rw [show Try.f8.ntmps = 37 from rfl, show Try.f8.results.toList = [.tmp 6, .tmp 7] from rfl]
  refine dw_seq ?_
  -- region 0
  refine dw_region (by kernel_rfl) ?_
  refine dl_new (sem_box_a rfl rfl) rfl ?_
  refine dl_new (sem_box_a rfl rfl) rfl ?_
  refine dl_r (sem_assign rfl rfl) ?_
  refine dl_r (sem_assign rfl rfl) ?_
  refine dl_end ?_
  refine dw_seq ?_
  -- region 1
  refine dw_region (by kernel_rfl) ?_
  refine dl_r (sem_load (us := ([.i .i64 a1] ++ [.i .i64 a2])) ty23 rfl rfl rfl rfl rfl) ?_
  refine dl_r (sem_load (us := ([.i .i64 b1] ++ [.i .i64 b2])) ty23 rfl rfl rfl rfl rfl) ?_
  refine dl_r (sem_call rfl rfl (icast2b tDir_ok rfl rfl hok) rfl) ?_
  refine dl_r (sem_move rfl rfl) ?_
  refine dl_r (sem_extract rfl rfl rfl) ?_
  refine dl_r (sem_extract rfl rfl rfl) ?_
  refine dl_new (sem_alloc zc23 rfl) rfl ?_
  refine dl_st (sem_store_a ty23 rfl rfl rfl rfl rfl rfl) ?_
  refine dl_r (sem_assign rfl rfl) ?_
  refine dl_end ?_
  refine dw_seq ?_
  refine dw_seq ?_
  -- region 2
  refine dw_region (by kernel_rfl) ?_
  refine dl_r (sem_move rfl rfl) ?_
  refine dl_r (sem_not rfl rfl) ?_
  refine dl_r (sem_move rfl rfl) ?_
  refine dl_r (sem_move rfl rfl) ?_
  refine dl_r (sem_castb (c := false) (sem_cmp rfl rfl rfl rfl) (decide_eq_false (by omega))) ?_
  refine dl_r (sem_pick rfl rfl rfl rfl) ?_
  refine dl_end ?_
  refine dw_false rfl ?_
  refine dw_skip ?_
  refine dw_seq ?_
  refine dw_seq ?_
  -- region 4
  refine dw_region (by kernel_rfl) ?_
  refine dl_r (sem_load (us := ([.i .i64 a1] ++ [.i .i64 a2])) ty23 rfl rfl rfl rfl rfl) ?_
  refine dl_r (sem_call rfl rfl (rcastb (tRound_ok (by omega)) hf1) rfl) ?_
  refine dl_r (sem_not rfl rfl) ?_
  refine dl_r (sem_move rfl rfl) ?_
  refine dl_skip (sem_skip rfl) ?_
  refine dl_skip (sem_skip rfl) ?_
  refine dl_skip (sem_skip rfl) ?_
  refine dl_r (sem_pick rfl rfl rfl rfl) ?_
  refine dl_end ?_
  refine dw_true rfl ?_
  refine dw_seq ?_
  -- region 5
  refine dw_region (by kernel_rfl) ?_
  refine dl_r (sem_assign rfl rfl) ?_
  refine dl_r (sem_assign rfl rfl) ?_
  refine dl_end ?_
  refine dw_ret ?_
  -- path 
  exact ⟨.inr rfl, (resL_tmp rfl (resL_tmp rfl resL_nil))⟩
theorem tC_d {a1 a2 b1 b2 s : Int} (hok : dok a1 a2 b1 b2 = true) (hs : 1 ≤ s) (hr1 : rnd a1 a2 0 = true) (hf2 : rnd b1 b2 0 = false) : Ok Try.prog 8 [.a ([.i .i64 a1] ++ [.i .i64 a2]), .a ([.i .i64 b1] ++ [.i .i64 b2]), .c (.i .i64 s)] [.c (.s 0 []), .c (.i .i64 11)] := by
  refine Ok.of (by kernel_rfl) Try.func8 rfl rfl ?_
  rw [show Try.f8.ntmps = 37 from rfl, show Try.f8.results.toList = [.tmp 6, .tmp 7] from rfl]
  refine dw_seq ?_
  -- region 0
  refine dw_region (by kernel_rfl) ?_
  refine dl_new (sem_box_a rfl rfl) rfl ?_
  refine dl_new (sem_box_a rfl rfl) rfl ?_
  refine dl_r (sem_assign rfl rfl) ?_
  refine dl_r (sem_assign rfl rfl) ?_
  refine dl_end ?_
  refine dw_seq ?_
  -- region 1
  refine dw_region (by kernel_rfl) ?_
  refine dl_r (sem_load (us := ([.i .i64 a1] ++ [.i .i64 a2])) ty23 rfl rfl rfl rfl rfl) ?_
  refine dl_r (sem_load (us := ([.i .i64 b1] ++ [.i .i64 b2])) ty23 rfl rfl rfl rfl rfl) ?_
  refine dl_r (sem_call rfl rfl (icast2b tDir_ok rfl rfl hok) rfl) ?_
  refine dl_r (sem_move rfl rfl) ?_
  refine dl_r (sem_extract rfl rfl rfl) ?_
  refine dl_r (sem_extract rfl rfl rfl) ?_
  refine dl_new (sem_alloc zc23 rfl) rfl ?_
  refine dl_st (sem_store_a ty23 rfl rfl rfl rfl rfl rfl) ?_
  refine dl_r (sem_assign rfl rfl) ?_
  refine dl_end ?_
  refine dw_seq ?_
  refine dw_seq ?_
  -- region 2
  refine dw_region (by kernel_rfl) ?_
  refine dl_r (sem_move rfl rfl) ?_
  refine dl_r (sem_not rfl rfl) ?_
  refine dl_r (sem_move rfl rfl) ?_
  refine dl_r (sem_move rfl rfl) ?_
  refine dl_r (sem_castb (c := false) (sem_cmp rfl rfl rfl rfl) (decide_eq_false (by omega))) ?_
  refine dl_r (sem_pick rfl rfl rfl rfl) ?_
  refine dl_end ?_
  refine dw_false rfl ?_
  refine dw_skip ?_
  refine dw_seq ?_
  refine dw_seq ?_
  -- region 4
  refine dw_region (by kernel_rfl) ?_
  refine dl_r (sem_load (us := ([.i .i64 a1] ++ [.i .i64 a2])) ty23 rfl rfl rfl rfl rfl) ?_
  refine dl_r (sem_call rfl rfl (rcastb (tRound_ok (by omega)) hr1) rfl) ?_
  refine dl_r (sem_not rfl rfl) ?_
  refine dl_r (sem_move rfl rfl) ?_
  refine dl_r (sem_load (us := ([.i .i64 b1] ++ [.i .i64 b2])) ty23 rfl rfl rfl rfl rfl) ?_
  refine dl_r (sem_call rfl rfl (rcastb (tRound_ok (by omega)) hf2) rfl) ?_
  refine dl_r (sem_not rfl rfl) ?_
  refine dl_r (sem_pick rfl rfl rfl rfl) ?_
  refine dl_end ?_
  refine dw_true rfl ?_
  refine dw_seq ?_
  -- region 5
  refine dw_region (by kernel_rfl) ?_
  refine dl_r (sem_assign rfl rfl) ?_
  refine dl_r (sem_assign rfl rfl) ?_
  refine dl_end ?_
  refine dw_ret ?_
  -- path 
  exact ⟨.inr rfl, (resL_tmp rfl (resL_tmp rfl resL_nil))⟩
theorem tC_e {a1 a2 L dx dy s : Int} (hL : 1 ≤ L) (hd : Dir dx dy) (hs : 1 ≤ s) (hs2 : s ≤ 9223372036854775807) (r1 : -10000000 ≤ a1 ∧ a1 ≤ 10000000) (r2 : -10000000 ≤ a2 ∧ a2 ≤ 10000000) (r3 : -10000000 ≤ a1 + L * dx ∧ a1 + L * dx ≤ 10000000) (r4 : -10000000 ≤ a2 + L * dy ∧ a2 + L * dy ≤ 10000000) (hbig : 10000 < (L - 1) / s + 2) : Ok Try.prog 8 [.a ([.i .i64 a1] ++ [.i .i64 a2]), .a ([.i .i64 (a1 + L * dx)] ++ [.i .i64 (a2 + L * dy)]), .c (.i .i64 s)] [.c (.s 0 []), .c (.i .i64 3)] := by
  refine Ok.of (by kernel_rfl) Try.func8 rfl rfl ?_
  rw [show Try.f8.ntmps = 37 from rfl, show Try.f8.results.toList = [.tmp 6, .tmp 7] from rfl]
  refine dw_seq ?_
  -- region 0
  refine dw_region (by kernel_rfl) ?_
  refine dl_new (sem_box_a rfl rfl) rfl ?_
  refine dl_new (sem_box_a rfl rfl) rfl ?_
  refine dl_r (sem_assign rfl rfl) ?_
  refine dl_r (sem_assign rfl rfl) ?_
  refine dl_end ?_
  refine dw_seq ?_
  -- region 1
  refine dw_region (by kernel_rfl) ?_
  refine dl_r (sem_load (us := ([.i .i64 a1] ++ [.i .i64 a2])) ty23 rfl rfl rfl rfl rfl) ?_
  refine dl_r (sem_load (us := ([.i .i64 (a1 + L * dx)] ++ [.i .i64 (a2 + L * dy)])) ty23 rfl rfl rfl rfl rfl) ?_
  refine dl_r (sem_call rfl rfl (icast2b tDir_ok (dsg_dir hL hd.x) (dsg_dir hL hd.y) (dok_dir hL hd)) rfl) ?_
  refine dl_r (sem_move rfl rfl) ?_
  refine dl_r (sem_extract rfl rfl rfl) ?_
  refine dl_r (sem_extract rfl rfl rfl) ?_
  refine dl_new (sem_alloc zc23 rfl) rfl ?_
  refine dl_st (sem_store_a ty23 rfl rfl rfl rfl rfl rfl) ?_
  refine dl_r (sem_assign rfl rfl) ?_
  refine dl_end ?_
  refine dw_seq ?_
  refine dw_seq ?_
  -- region 2
  refine dw_region (by kernel_rfl) ?_
  refine dl_r (sem_move rfl rfl) ?_
  refine dl_r (sem_not rfl rfl) ?_
  refine dl_r (sem_move rfl rfl) ?_
  refine dl_r (sem_move rfl rfl) ?_
  refine dl_r (sem_castb (c := false) (sem_cmp rfl rfl rfl rfl) (decide_eq_false (by omega))) ?_
  refine dl_r (sem_pick rfl rfl rfl rfl) ?_
  refine dl_end ?_
  refine dw_false rfl ?_
  refine dw_skip ?_
  refine dw_seq ?_
  refine dw_seq ?_
  -- region 4
  refine dw_region (by kernel_rfl) ?_
  refine dl_r (sem_load (us := ([.i .i64 a1] ++ [.i .i64 a2])) ty23 rfl rfl rfl rfl rfl) ?_
  refine dl_r (sem_call rfl rfl (rcastb (tRound_ok (by omega)) ((rnd_iff _ _ _).2 (by omega))) rfl) ?_
  refine dl_r (sem_not rfl rfl) ?_
  refine dl_r (sem_move rfl rfl) ?_
  refine dl_r (sem_load (us := ([.i .i64 (a1 + L * dx)] ++ [.i .i64 (a2 + L * dy)])) ty23 rfl rfl rfl rfl rfl) ?_
  refine dl_r (sem_call rfl rfl (rcastb (tRound_ok (by omega)) ((rnd_iff _ _ _).2 (by omega))) rfl) ?_
  refine dl_r (sem_not rfl rfl) ?_
  refine dl_r (sem_pick rfl rfl rfl rfl) ?_
  refine dl_end ?_
  refine dw_false rfl ?_
  refine dw_skip ?_
  refine dw_seq ?_
  -- region 6
  refine dw_region (by kernel_rfl) ?_
  refine dl_r (sem_load (us := ([.i .i64 a1] ++ [.i .i64 a2])) ty23 rfl rfl rfl rfl rfl) ?_
  refine dl_r (sem_load (us := ([.i .i64 (a1 + L * dx)] ++ [.i .i64 (a2 + L * dy)])) ty23 rfl rfl rfl rfl rfl) ?_
  refine dl_r (sem_load (us := ([.i .i64 dx] ++ [.i .i64 dy])) ty23 rfl rfl rfl rfl rfl) ?_
  refine dl_r (sem_move rfl rfl) ?_
  refine dl_r (sem_call rfl rfl (tcen_big hL hd hs hs2 r1 r2 r3 r4 hbig) rfl) ?_
  refine dl_r (sem_extract rfl rfl rfl) ?_
  refine dl_r (sem_extract rfl rfl rfl) ?_
  refine dl_r (sem_assign rfl rfl) ?_
  refine dl_r (sem_assign rfl rfl) ?_
  refine dl_end ?_
  refine dw_ret ?_
  -- path 
  exact ⟨.inr rfl, (resL_tmp rfl (resL_tmp rfl resL_nil))⟩
theorem tC_f {a1 a2 L dx dy s : Int} (hL : 1 ≤ L) (hd : Dir dx dy) (hs : 1 ≤ s) (hs2 : s ≤ 9223372036854775807) {k : Nat} (hk : (k : Int) = (L - 1) / s) (r1 : -10000000 ≤ a1 ∧ a1 ≤ 10000000) (r2 : -10000000 ≤ a2 ∧ a2 ≤ 10000000) (r3 : -10000000 ≤ a1 + L * dx ∧ a1 + L * dx ≤ 10000000) (r4 : -10000000 ≤ a2 + L * dy ∧ a2 + L * dy ≤ 10000000) (hfit : (L - 1) / s + 2 ≤ 10000) : Ok Try.prog 8 [.a ([.i .i64 a1] ++ [.i .i64 a2]), .a ([.i .i64 (a1 + L * dx)] ++ [.i .i64 (a2 + L * dy)]), .c (.i .i64 s)] [.c (.s (k + 1 + 1) (ctb a1 a2 dx dy L s k)), .c (.i .i64 0)] := by
  refine Ok.of (by kernel_rfl) Try.func8 rfl rfl ?_
  rw [show Try.f8.ntmps = 37 from rfl, show Try.f8.results.toList = [.tmp 6, .tmp 7] from rfl]
  refine dw_seq ?_
  -- region 0
  refine dw_region (by kernel_rfl) ?_
  refine dl_new (sem_box_a rfl rfl) rfl ?_
  refine dl_new (sem_box_a rfl rfl) rfl ?_
  refine dl_r (sem_assign rfl rfl) ?_
  refine dl_r (sem_assign rfl rfl) ?_
  refine dl_end ?_
  refine dw_seq ?_
  -- region 1
  refine dw_region (by kernel_rfl) ?_
  refine dl_r (sem_load (us := ([.i .i64 a1] ++ [.i .i64 a2])) ty23 rfl rfl rfl rfl rfl) ?_
  refine dl_r (sem_load (us := ([.i .i64 (a1 + L * dx)] ++ [.i .i64 (a2 + L * dy)])) ty23 rfl rfl rfl rfl rfl) ?_
  refine dl_r (sem_call rfl rfl (icast2b tDir_ok (dsg_dir hL hd.x) (dsg_dir hL hd.y) (dok_dir hL hd)) rfl) ?_
  refine dl_r (sem_move rfl rfl) ?_
  refine dl_r (sem_extract rfl rfl rfl) ?_
  refine dl_r (sem_extract rfl rfl rfl) ?_
  refine dl_new (sem_alloc zc23 rfl) rfl ?_
  refine dl_st (sem_store_a ty23 rfl rfl rfl rfl rfl rfl) ?_
  refine dl_r (sem_assign rfl rfl) ?_
  refine dl_end ?_
  refine dw_seq ?_
  refine dw_seq ?_
  -- region 2
  refine dw_region (by kernel_rfl) ?_
  refine dl_r (sem_move rfl rfl) ?_
  refine dl_r (sem_not rfl rfl) ?_
  refine dl_r (sem_move rfl rfl) ?_
  refine dl_r (sem_move rfl rfl) ?_
  refine dl_r (sem_castb (c := false) (sem_cmp rfl rfl rfl rfl) (decide_eq_false (by omega))) ?_
  refine dl_r (sem_pick rfl rfl rfl rfl) ?_
  refine dl_end ?_
  refine dw_false rfl ?_
  refine dw_skip ?_
  refine dw_seq ?_
  refine dw_seq ?_
  -- region 4
  refine dw_region (by kernel_rfl) ?_
  refine dl_r (sem_load (us := ([.i .i64 a1] ++ [.i .i64 a2])) ty23 rfl rfl rfl rfl rfl) ?_
  refine dl_r (sem_call rfl rfl (rcastb (tRound_ok (by omega)) ((rnd_iff _ _ _).2 (by omega))) rfl) ?_
  refine dl_r (sem_not rfl rfl) ?_
  refine dl_r (sem_move rfl rfl) ?_
  refine dl_r (sem_load (us := ([.i .i64 (a1 + L * dx)] ++ [.i .i64 (a2 + L * dy)])) ty23 rfl rfl rfl rfl rfl) ?_
  refine dl_r (sem_call rfl rfl (rcastb (tRound_ok (by omega)) ((rnd_iff _ _ _).2 (by omega))) rfl) ?_
  refine dl_r (sem_not rfl rfl) ?_
  refine dl_r (sem_pick rfl rfl rfl rfl) ?_
  refine dl_end ?_
  refine dw_false rfl ?_
  refine dw_skip ?_
  refine dw_seq ?_
  -- region 6
  refine dw_region (by kernel_rfl) ?_
  refine dl_r (sem_load (us := ([.i .i64 a1] ++ [.i .i64 a2])) ty23 rfl rfl rfl rfl rfl) ?_
  refine dl_r (sem_load (us := ([.i .i64 (a1 + L * dx)] ++ [.i .i64 (a2 + L * dy)])) ty23 rfl rfl rfl rfl rfl) ?_
  refine dl_r (sem_load (us := ([.i .i64 dx] ++ [.i .i64 dy])) ty23 rfl rfl rfl rfl rfl) ?_
  refine dl_r (sem_move rfl rfl) ?_
  refine dl_r (sem_call rfl rfl (tcen_ok hL hd hs hs2 hk r1 r2 r3 r4 hfit) rfl) ?_
  refine dl_r (sem_extract rfl rfl rfl) ?_
  refine dl_r (sem_extract rfl rfl rfl) ?_
  refine dl_r (sem_assign rfl rfl) ?_
  refine dl_r (sem_assign rfl rfl) ?_
  refine dl_end ?_
  refine dw_ret ?_
  -- path 
  exact ⟨.inr rfl, (resL_tmp rfl (resL_tmp rfl resL_nil))⟩
def chkE (a1 a2 b1 b2 r z : Int) : Int := if dok a1 a2 b1 b2 = true then (if (outb a1 a2 r || (outb b1 b2 r || far z)) = true then 11 else 0) else 1
theorem pj_bd {L s : Int} {k j : Nat} (hs : 1 ≤ s) (hk : (k : Int) = (L - 1) / s) (h2 : j ≤ k) : ((j + 1 : Nat) : Int) * s ≤ L - 1 + s := by
  rw [ct_nx]
  have h := Int.le_ediv_iff_mul_le (a := (j : Int)) (b := L - 1) (c := s) (by omega)
  have := h.1 (by omega)
  omega
theorem rChk_ok {a1 a2 b1 b2 r z : Int} : Ok Try.prog 22 [.a ([.i .i64 a1] ++ [.i .i64 a2]), .a ([.i .i64 b1] ++ [.i .i64 b2]), .c (.i .i64 r), .c (.i .i64 z)] [.c (.i .i64 (chkE a1 a2 b1 b2 r z))] := by
  refine Ok.of (by kernel_rfl) Try.func22 rfl rfl ?_
  rw [show Try.f22.ntmps = 31 from rfl, show Try.f22.results.toList = [.tmp 8] from rfl]
  refine dw_seq ?_
  -- region 0
  refine dw_region (by kernel_rfl) ?_
  refine dl_new (sem_box_a rfl rfl) rfl ?_
  refine dl_new (sem_box_a rfl rfl) rfl ?_
  refine dl_r (sem_assign rfl rfl) ?_
  refine dl_end ?_
  refine dw_seq ?_
  refine dw_seq ?_
  -- region 1
  refine dw_region (by kernel_rfl) ?_
  refine dl_r (sem_load (us := ([.i .i64 a1] ++ [.i .i64 a2])) ty23 rfl rfl rfl rfl rfl) ?_
  refine dl_r (sem_load (us := ([.i .i64 b1] ++ [.i .i64 b2])) ty23 rfl rfl rfl rfl rfl) ?_
  refine dl_r (sem_call rfl rfl (rDir_ok) rfl) ?_
  refine dl_r (sem_move rfl rfl) ?_
  refine dl_r (sem_extract rfl rfl rfl) ?_
  refine dl_r (sem_extract rfl rfl rfl) ?_
  refine dl_new (sem_alloc zc23 rfl) rfl ?_
  refine dl_st (sem_store_a ty23 rfl rfl rfl rfl rfl rfl) ?_
  refine dl_r (sem_assign rfl rfl) ?_
  refine dl_end ?_
  refine dw_seq ?_
  -- region 2
  refine dw_region (by kernel_rfl) ?_
  refine dl_r (sem_move rfl rfl) ?_
  refine dl_r (sem_not rfl rfl) ?_
  refine dl_end ?_
  refine dw_cond rfl (fun hc1 => ?_) (fun hc1 => ?_)
  · refine dw_seq ?_
    -- region 3
    refine dw_region (by kernel_rfl) ?_
    refine dl_r (sem_assign rfl rfl) ?_
    refine dl_end ?_
    refine dw_ret ?_
    -- path T
    rw [show chkE a1 a2 b1 b2 r z = 1 from by unfold chkE; simp [show dok a1 a2 b1 b2 = false from by simpa using hc1]]
    exact ⟨.inr rfl, (resL_tmp rfl resL_nil)⟩
  · refine dw_skip ?_
    refine dw_seq ?_
    refine dw_seq ?_
    -- region 4
    refine dw_region (by kernel_rfl) ?_
    refine dl_r (sem_load (us := ([.i .i64 a1] ++ [.i .i64 a2])) ty23 rfl rfl rfl rfl rfl) ?_
    refine dl_r (sem_move rfl rfl) ?_
    refine dl_r (sem_call rfl rfl (rOut_ok) rfl) ?_
    refine dl_rb (sem_move rfl rfl) (fun c2 hb2 => ?_)
    cases c2
    · refine dl_r (sem_load (us := ([.i .i64 b1] ++ [.i .i64 b2])) ty23 rfl rfl rfl rfl rfl) ?_
      refine dl_r (sem_move rfl rfl) ?_
      refine dl_r (sem_call rfl rfl (rOut_ok) rfl) ?_
      refine dl_r (sem_pick rfl rfl rfl rfl) ?_
      refine dl_rb (sem_move rfl rfl) (fun c3 hb3 => ?_)
      cases c3
      · refine dl_r (sem_move rfl rfl) ?_
        refine dl_r (sem_call rfl rfl (rFar_ok) rfl) ?_
        refine dl_r (sem_pick rfl rfl rfl rfl) ?_
        refine dl_end ?_
        refine dw_cond rfl (fun hc4 => ?_) (fun hc4 => ?_)
        · refine dw_seq ?_
          -- region 5
          refine dw_region (by kernel_rfl) ?_
          refine dl_r (sem_assign rfl rfl) ?_
          refine dl_end ?_
          refine dw_ret ?_
          -- path FffT
          rw [show chkE a1 a2 b1 b2 r z = 11 from by unfold chkE; simp [show dok a1 a2 b1 b2 = true from by simpa using hc1, hb2, hb3, hc4]]
          exact ⟨.inr rfl, (resL_tmp rfl resL_nil)⟩
        · refine dw_skip ?_
          refine dw_seq ?_
          -- region 6
          refine dw_region (by kernel_rfl) ?_
          refine dl_r (sem_assign rfl rfl) ?_
          refine dl_end ?_
          refine dw_ret ?_
          -- path FffF
          rw [show chkE a1 a2 b1 b2 r z = 0 from by unfold chkE; simp [show dok a1 a2 b1 b2 = true from by simpa using hc1, hb2, hb3, hc4]]
          exact ⟨.inr rfl, (resL_tmp rfl resL_nil)⟩
      · refine dl_skip (sem_skip rfl) ?_
        refine dl_skip (sem_skip rfl) ?_
        refine dl_r (sem_pick rfl rfl rfl rfl) ?_
        refine dl_end ?_
        refine dw_true rfl ?_
        refine dw_seq ?_
        -- region 5
        refine dw_region (by kernel_rfl) ?_
        refine dl_r (sem_assign rfl rfl) ?_
        refine dl_end ?_
        refine dw_ret ?_
        -- path Fft
        rw [show chkE a1 a2 b1 b2 r z = 11 from by unfold chkE; simp [show dok a1 a2 b1 b2 = true from by simpa using hc1, hb2, hb3]]
        exact ⟨.inr rfl, (resL_tmp rfl resL_nil)⟩
    · refine dl_skip (sem_skip rfl) ?_
      refine dl_skip (sem_skip rfl) ?_
      refine dl_skip (sem_skip rfl) ?_
      refine dl_r (sem_pick rfl rfl rfl rfl) ?_
      refine dl_r (sem_move rfl rfl) ?_
      refine dl_skip (sem_skip rfl) ?_
      refine dl_skip (sem_skip rfl) ?_
      refine dl_r (sem_pick rfl rfl rfl rfl) ?_
      refine dl_end ?_
      refine dw_true rfl ?_
      refine dw_seq ?_
      -- region 5
      refine dw_region (by kernel_rfl) ?_
      refine dl_r (sem_assign rfl rfl) ?_
      refine dl_end ?_
      refine dw_ret ?_
      -- path Ft
      rw [show chkE a1 a2 b1 b2 r z = 11 from by unfold chkE; simp [show dok a1 a2 b1 b2 = true from by simpa using hc1, hb2]]
      exact ⟨.inr rfl, (resL_tmp rfl resL_nil)⟩
theorem rAt_ok {x y dx dy n : Int} (hd : Dir dx dy) (q1 : -20000000 ≤ x ∧ x ≤ 20000000) (q2 : -20000000 ≤ y ∧ y ≤ 20000000) (q3 : -9000000000000000000 ≤ n ∧ n ≤ 9000000000000000000) : Ok Try.prog 25 [.a ([.i .i64 x] ++ [.i .i64 y]), .a ([.i .i64 dx] ++ [.i .i64 dy]), .c (.i .i64 n)] [.a ([.i .i64 (x + n * dx)] ++ [.i .i64 (y + n * dy)])] := by
  refine Ok.of (by kernel_rfl) Try.func25 rfl rfl ?_
  rw [show Try.f25.ntmps = 22 from rfl, show Try.f25.results.toList = [.cell 6 23] from rfl]
  refine dw_seq ?_
  -- region 0
  refine dw_region (by kernel_rfl) ?_
  refine dl_new (sem_box_a rfl rfl) rfl ?_
  refine dl_new (sem_box_a rfl rfl) rfl ?_
  refine dl_new (sem_alloc zc23 rfl) rfl ?_
  refine dl_end ?_
  refine dw_seq ?_
  -- region 1
  refine dw_region (by kernel_rfl) ?_
  refine dl_r (sem_field fd23_0 rfl rfl) ?_
  refine dl_r (sem_load1 ty2 rfl rfl rfl rfl) ?_
  refine dl_r (sem_move rfl rfl) ?_
  refine dl_r (sem_field fd23_0 rfl rfl) ?_
  refine dl_r (sem_load1 ty2 rfl rfl rfl rfl) ?_
  refine dl_r (sem_ari (r := n * dx) rfl rfl (ari_i64_mul (by rcases hd with ⟨rfl, rfl⟩ | ⟨rfl, rfl⟩ | ⟨rfl, rfl⟩ | ⟨rfl, rfl⟩ <;> omega) (by rcases hd with ⟨rfl, rfl⟩ | ⟨rfl, rfl⟩ | ⟨rfl, rfl⟩ | ⟨rfl, rfl⟩ <;> omega)) rfl) ?_
  refine dl_r (sem_ari (r := x + (n * dx)) rfl rfl (ari_i64_add (by rcases hd with ⟨rfl, rfl⟩ | ⟨rfl, rfl⟩ | ⟨rfl, rfl⟩ | ⟨rfl, rfl⟩ <;> omega) (by rcases hd with ⟨rfl, rfl⟩ | ⟨rfl, rfl⟩ | ⟨rfl, rfl⟩ | ⟨rfl, rfl⟩ <;> omega)) rfl) ?_
  refine dl_r (sem_field fd23_1 rfl rfl) ?_
  refine dl_r (sem_load1 ty2 rfl rfl rfl rfl) ?_
  refine dl_r (sem_move rfl rfl) ?_
  refine dl_r (sem_field fd23_1 rfl rfl) ?_
  refine dl_r (sem_load1 ty2 rfl rfl rfl rfl) ?_
  refine dl_r (sem_ari (r := n * dy) rfl rfl (ari_i64_mul (by rcases hd with ⟨rfl, rfl⟩ | ⟨rfl, rfl⟩ | ⟨rfl, rfl⟩ | ⟨rfl, rfl⟩ <;> omega) (by rcases hd with ⟨rfl, rfl⟩ | ⟨rfl, rfl⟩ | ⟨rfl, rfl⟩ | ⟨rfl, rfl⟩ <;> omega)) rfl) ?_
  refine dl_r (sem_ari (r := y + (n * dy)) rfl rfl (ari_i64_add (by rcases hd with ⟨rfl, rfl⟩ | ⟨rfl, rfl⟩ | ⟨rfl, rfl⟩ | ⟨rfl, rfl⟩ <;> omega) (by rcases hd with ⟨rfl, rfl⟩ | ⟨rfl, rfl⟩ | ⟨rfl, rfl⟩ | ⟨rfl, rfl⟩ <;> omega)) rfl) ?_
  refine dl_r (sem_build (us := ([.i .i64 (x + (n * dx))] ++ [.i .i64 (y + (n * dy))])) fs23 zc23 rfl rfl rfl) ?_
  refine dl_st (sem_store_a ty23 rfl rfl rfl rfl rfl rfl) ?_
  refine dl_end ?_
  refine dw_ret ?_
  -- path 
  exact ⟨.inr rfl, (resL_cell (us := ([.i .i64 (x + (n * dx))] ++ [.i .i64 (y + (n * dy))])) ty23 rfl rfl rfl rfl resL_nil)⟩
theorem rBef_ok {x y b1 b2 dx dy : Int} (hd : Dir dx dy) (q1 : -30000000 ≤ b1 - x ∧ b1 - x ≤ 30000000) (q2 : -30000000 ≤ b2 - y ∧ b2 - y ≤ 30000000) : Ok Try.prog 24 [.a ([.i .i64 x] ++ [.i .i64 y]), .a ([.i .i64 b1] ++ [.i .i64 b2]), .a ([.i .i64 dx] ++ [.i .i64 dy])] [.c (.b (decide ((b1 - x) * dx + (b2 - y) * dy > 0)))] := by
  refine Ok.of (by kernel_rfl) Try.func24 rfl rfl ?_
  rw [show Try.f24.ntmps = 25 from rfl, show Try.f24.results.toList = [.tmp 6] from rfl]
  refine dw_seq ?_
  -- region 0
  refine dw_region (by kernel_rfl) ?_
  refine dl_new (sem_box_a rfl rfl) rfl ?_
  refine dl_new (sem_box_a rfl rfl) rfl ?_
  refine dl_new (sem_box_a rfl rfl) rfl ?_
  refine dl_r (sem_assign rfl rfl) ?_
  refine dl_end ?_
  refine dw_seq ?_
  -- region 1
  refine dw_region (by kernel_rfl) ?_
  refine dl_r (sem_field fd23_0 rfl rfl) ?_
  refine dl_r (sem_load1 ty2 rfl rfl rfl rfl) ?_
  refine dl_r (sem_field fd23_0 rfl rfl) ?_
  refine dl_r (sem_load1 ty2 rfl rfl rfl rfl) ?_
  refine dl_r (sem_ari (r := b1 - x) rfl rfl (ari_i64_sub (by rcases hd with ⟨rfl, rfl⟩ | ⟨rfl, rfl⟩ | ⟨rfl, rfl⟩ | ⟨rfl, rfl⟩ <;> omega) (by rcases hd with ⟨rfl, rfl⟩ | ⟨rfl, rfl⟩ | ⟨rfl, rfl⟩ | ⟨rfl, rfl⟩ <;> omega)) rfl) ?_
  refine dl_r (sem_field fd23_0 rfl rfl) ?_
  refine dl_r (sem_load1 ty2 rfl rfl rfl rfl) ?_
  refine dl_r (sem_ari (r := (b1 - x) * dx) rfl rfl (ari_i64_mul (by rcases hd with ⟨rfl, rfl⟩ | ⟨rfl, rfl⟩ | ⟨rfl, rfl⟩ | ⟨rfl, rfl⟩ <;> omega) (by rcases hd with ⟨rfl, rfl⟩ | ⟨rfl, rfl⟩ | ⟨rfl, rfl⟩ | ⟨rfl, rfl⟩ <;> omega)) rfl) ?_
  refine dl_r (sem_field fd23_1 rfl rfl) ?_
  refine dl_r (sem_load1 ty2 rfl rfl rfl rfl) ?_
  refine dl_r (sem_field fd23_1 rfl rfl) ?_
  refine dl_r (sem_load1 ty2 rfl rfl rfl rfl) ?_
  refine dl_r (sem_ari (r := b2 - y) rfl rfl (ari_i64_sub (by rcases hd with ⟨rfl, rfl⟩ | ⟨rfl, rfl⟩ | ⟨rfl, rfl⟩ | ⟨rfl, rfl⟩ <;> omega) (by rcases hd with ⟨rfl, rfl⟩ | ⟨rfl, rfl⟩ | ⟨rfl, rfl⟩ | ⟨rfl, rfl⟩ <;> omega)) rfl) ?_
  refine dl_r (sem_field fd23_1 rfl rfl) ?_
  refine dl_r (sem_load1 ty2 rfl rfl rfl rfl) ?_
  refine dl_r (sem_ari (r := (b2 - y) * dy) rfl rfl (ari_i64_mul (by rcases hd with ⟨rfl, rfl⟩ | ⟨rfl, rfl⟩ | ⟨rfl, rfl⟩ | ⟨rfl, rfl⟩ <;> omega) (by rcases hd with ⟨rfl, rfl⟩ | ⟨rfl, rfl⟩ | ⟨rfl, rfl⟩ | ⟨rfl, rfl⟩ <;> omega)) rfl) ?_
  refine dl_r (sem_ari (r := ((b1 - x) * dx) + ((b2 - y) * dy)) rfl rfl (ari_i64_add (by rcases hd with ⟨rfl, rfl⟩ | ⟨rfl, rfl⟩ | ⟨rfl, rfl⟩ | ⟨rfl, rfl⟩ <;> omega) (by rcases hd with ⟨rfl, rfl⟩ | ⟨rfl, rfl⟩ | ⟨rfl, rfl⟩ | ⟨rfl, rfl⟩ <;> omega)) rfl) ?_
  refine dl_r (sem_cmp rfl rfl rfl rfl) ?_
  refine dl_r (sem_assign rfl rfl) ?_
  refine dl_end ?_
  refine dw_ret ?_
  -- path 
  exact ⟨.inr rfl, (resL_tmp rfl resL_nil)⟩
theorem rC_1 {a1 a2 b1 b2 s : Int} (hs : 1 ≤ s) (hE : chkE a1 a2 b1 b2 0 0 = 1) : Ok Try.prog 9 [.a ([.i .i64 a1] ++ [.i .i64 a2]), .a ([.i .i64 b1] ++ [.i .i64 b2]), .c (.i .i64 s)] [.c (.s 0 []), .c (.i .i64 1)] := by
  refine Ok.of (by kernel_rfl) Try.func9 rfl rfl ?_
  rw [show Try.f9.ntmps = 73 from rfl, show Try.f9.results.toList = [.tmp 6, .tmp 7] from rfl]
  refine dw_seq ?_
  -- region 0
  refine dw_region (by kernel_rfl) ?_
  refine dl_new (sem_box_a rfl rfl) rfl ?_
  refine dl_new (sem_box_a rfl rfl) rfl ?_
  refine dl_r (sem_assign rfl rfl) ?_
  refine dl_r (sem_assign rfl rfl) ?_
  refine dl_end ?_
  refine dw_seq ?_
  refine dw_seq ?_
  -- region 1
  refine dw_region (by kernel_rfl) ?_
  refine dl_r (sem_move rfl rfl) ?_
  refine dl_r (sem_castb (c := false) (sem_cmp rfl rfl rfl rfl) (decide_eq_false (by omega))) ?_
  refine dl_end ?_
  refine dw_false rfl ?_
  refine dw_skip ?_
  refine dw_seq ?_
  refine dw_seq ?_
  -- region 3
  refine dw_region (by kernel_rfl) ?_
  refine dl_r (sem_load (us := ([.i .i64 a1] ++ [.i .i64 a2])) ty23 rfl rfl rfl rfl rfl) ?_
  refine dl_r (sem_load (us := ([.i .i64 b1] ++ [.i .i64 b2])) ty23 rfl rfl rfl rfl rfl) ?_
  refine dl_r (sem_call rfl rfl (rcasti rChk_ok hE) rfl) ?_
  refine dl_r (sem_assign rfl rfl) ?_
  refine dl_end ?_
  refine dw_seq ?_
  -- region 4
  refine dw_region (by kernel_rfl) ?_
  refine dl_r (sem_move rfl rfl) ?_
  refine dl_r (sem_cmp rfl rfl rfl rfl) ?_
  refine dl_end ?_
  refine dw_true rfl ?_
  refine dw_seq ?_
  -- region 5
  refine dw_region (by kernel_rfl) ?_
  refine dl_r (sem_move rfl rfl) ?_
  refine dl_r (sem_assign rfl rfl) ?_
  refine dl_r (sem_assign rfl rfl) ?_
  refine dl_end ?_
  refine dw_ret ?_
  -- path 
  exact ⟨.inr rfl, (resL_tmp rfl (resL_tmp rfl resL_nil))⟩
theorem rC_11 {a1 a2 b1 b2 s : Int} (hs : 1 ≤ s) (hE : chkE a1 a2 b1 b2 0 0 = 11) : Ok Try.prog 9 [.a ([.i .i64 a1] ++ [.i .i64 a2]), .a ([.i .i64 b1] ++ [.i .i64 b2]), .c (.i .i64 s)] [.c (.s 0 []), .c (.i .i64 11)] := by
  refine Ok.of (by kernel_rfl) Try.func9 rfl rfl ?_
  rw [show Try.f9.ntmps = 73 from rfl, show Try.f9.results.toList = [.tmp 6, .tmp 7] from rfl]
  refine dw_seq ?_
  -- region 0
  refine dw_region (by kernel_rfl) ?_
  refine dl_new (sem_box_a rfl rfl) rfl ?_
  refine dl_new (sem_box_a rfl rfl) rfl ?_
  refine dl_r (sem_assign rfl rfl) ?_
  refine dl_r (sem_assign rfl rfl) ?_
  refine dl_end ?_
  refine dw_seq ?_
  refine dw_seq ?_
  -- region 1
  refine dw_region (by kernel_rfl) ?_
  refine dl_r (sem_move rfl rfl) ?_
  refine dl_r (sem_castb (c := false) (sem_cmp rfl rfl rfl rfl) (decide_eq_false (by omega))) ?_
  refine dl_end ?_
  refine dw_false rfl ?_
  refine dw_skip ?_
  refine dw_seq ?_
  refine dw_seq ?_
  -- region 3
  refine dw_region (by kernel_rfl) ?_
  refine dl_r (sem_load (us := ([.i .i64 a1] ++ [.i .i64 a2])) ty23 rfl rfl rfl rfl rfl) ?_
  refine dl_r (sem_load (us := ([.i .i64 b1] ++ [.i .i64 b2])) ty23 rfl rfl rfl rfl rfl) ?_
  refine dl_r (sem_call rfl rfl (rcasti rChk_ok hE) rfl) ?_
  refine dl_r (sem_assign rfl rfl) ?_
  refine dl_end ?_
  refine dw_seq ?_
  -- region 4
  refine dw_region (by kernel_rfl) ?_
  refine dl_r (sem_move rfl rfl) ?_
  refine dl_r (sem_cmp rfl rfl rfl rfl) ?_
  refine dl_end ?_
  refine dw_true rfl ?_
  refine dw_seq ?_
  -- region 5
  refine dw_region (by kernel_rfl) ?_
  refine dl_r (sem_move rfl rfl) ?_
  refine dl_r (sem_assign rfl rfl) ?_
  refine dl_r (sem_assign rfl rfl) ?_
  refine dl_end ?_
  refine dw_ret ?_
  -- path 
  exact ⟨.inr rfl, (resL_tmp rfl (resL_tmp rfl resL_nil))⟩
theorem rC_0 {a1 a2 b1 b2 s : Int} (hs : s ≤ 0) : Ok Try.prog 9 [.a ([.i .i64 a1] ++ [.i .i64 a2]), .a ([.i .i64 b1] ++ [.i .i64 b2]), .c (.i .i64 s)] [.c (.s 0 []), .c (.i .i64 1)] := by
  refine Ok.of (by kernel_rfl) Try.func9 rfl rfl ?_
  rw [show Try.f9.ntmps = 73 from rfl, show Try.f9.results.toList = [.tmp 6, .tmp 7] from rfl]
  refine dw_seq ?_
  -- region 0
  refine dw_region (by kernel_rfl) ?_
  refine dl_new (sem_box_a rfl rfl) rfl ?_
  refine dl_new (sem_box_a rfl rfl) rfl ?_
  refine dl_r (sem_assign rfl rfl) ?_
  refine dl_r (sem_assign rfl rfl) ?_
  refine dl_end ?_
  refine dw_seq ?_
  refine dw_seq ?_
  -- region 1
  refine dw_region (by kernel_rfl) ?_
  refine dl_r (sem_move rfl rfl) ?_
  refine dl_r (sem_castb (c := true) (sem_cmp rfl rfl rfl rfl) (decide_eq_true (by omega))) ?_
  refine dl_end ?_
  refine dw_true rfl ?_
  refine dw_seq ?_
  -- region 2
  refine dw_region (by kernel_rfl) ?_
  refine dl_r (sem_assign rfl rfl) ?_
  refine dl_r (sem_assign rfl rfl) ?_
  refine dl_end ?_
  refine dw_ret ?_
  -- path 
  exact ⟨.inr rfl, (resL_tmp rfl (resL_tmp rfl resL_nil))⟩
theorem rC_big {a1 a2 L dx dy s m : Int} (hL : 1 ≤ L) (hd : Dir dx dy) (hs1 : 1 ≤ s) (hmn : min s L = m) (r1 : -10000000 ≤ a1 ∧ a1 ≤ 10000000) (r2 : -10000000 ≤ a2 ∧ a2 ≤ 10000000) (r3 : -10000000 ≤ a1 + L * dx ∧ a1 + L * dx ≤ 10000000) (r4 : -10000000 ≤ a2 + L * dy ∧ a2 + L * dy ≤ 10000000) (hbig : 9999 < (L - 1) / m + 1) : Ok Try.prog 9 [.a ([.i .i64 a1] ++ [.i .i64 a2]), .a ([.i .i64 (a1 + L * dx)] ++ [.i .i64 (a2 + L * dy)]), .c (.i .i64 s)] [.c (.s 0 []), .c (.i .i64 3)] := by
  have hL2 := dir_L hL hd r1 r2 r3 r4
  have hs : 1 ≤ m := by omega
  have hm2 : m ≤ L := by omega
  have hq := q_bd hL hs
  have hE : chkE a1 a2 (a1 + L * dx) (a2 + L * dy) 0 0 = 0 := by
    unfold chkE
    rw [if_pos (dok_dir hL hd), (outb_iff _ _ _).2 (by omega), (outb_iff _ _ _).2 (by omega), far_i (by omega) (by omega)]; rfl
  refine Ok.of (by kernel_rfl) Try.func9 rfl rfl ?_
  rw [show Try.f9.ntmps = 73 from rfl, show Try.f9.results.toList = [.tmp 6, .tmp 7] from rfl]
  refine dw_seq ?_
  -- region 0
  refine dw_region (by kernel_rfl) ?_
  refine dl_new (sem_box_a rfl rfl) rfl ?_
  refine dl_new (sem_box_a rfl rfl) rfl ?_
  refine dl_r (sem_assign rfl rfl) ?_
  refine dl_r (sem_assign rfl rfl) ?_
  refine dl_end ?_
  refine dw_seq ?_
  refine dw_seq ?_
  -- region 1
  refine dw_region (by kernel_rfl) ?_
  refine dl_r (sem_move rfl rfl) ?_
  refine dl_r (sem_castb (c := false) (sem_cmp rfl rfl rfl rfl) (decide_eq_false (by omega))) ?_
  refine dl_end ?_
  refine dw_false rfl ?_
  refine dw_skip ?_
  refine dw_seq ?_
  refine dw_seq ?_
  -- region 3
  refine dw_region (by kernel_rfl) ?_
  refine dl_r (sem_load (us := ([.i .i64 a1] ++ [.i .i64 a2])) ty23 rfl rfl rfl rfl rfl) ?_
  refine dl_r (sem_load (us := ([.i .i64 (a1 + L * dx)] ++ [.i .i64 (a2 + L * dy)])) ty23 rfl rfl rfl rfl rfl) ?_
  refine dl_r (sem_call rfl rfl (rcasti rChk_ok hE) rfl) ?_
  refine dl_r (sem_assign rfl rfl) ?_
  refine dl_end ?_
  refine dw_seq ?_
  -- region 4
  refine dw_region (by kernel_rfl) ?_
  refine dl_r (sem_move rfl rfl) ?_
  refine dl_r (sem_cmp rfl rfl rfl rfl) ?_
  refine dl_end ?_
  refine dw_false rfl ?_
  refine dw_skip ?_
  refine dw_seq ?_
  -- region 6
  refine dw_region (by kernel_rfl) ?_
  refine dl_r (sem_load (us := ([.i .i64 a1] ++ [.i .i64 a2])) ty23 rfl rfl rfl rfl rfl) ?_
  refine dl_r (sem_load (us := ([.i .i64 (a1 + L * dx)] ++ [.i .i64 (a2 + L * dy)])) ty23 rfl rfl rfl rfl rfl) ?_
  refine dl_r (sem_call rfl rfl (icast2b rDir_ok (dsg_dir hL hd.x) (dsg_dir hL hd.y) (dok_dir hL hd)) rfl) ?_
  refine dl_r (sem_move rfl rfl) ?_
  refine dl_r (sem_extract rfl rfl rfl) ?_
  refine dl_r (sem_extract rfl rfl rfl) ?_
  refine dl_new (sem_alloc zc23 rfl) rfl ?_
  refine dl_st (sem_store_a ty23 rfl rfl rfl rfl rfl rfl) ?_
  refine dl_r (sem_assign rfl rfl) ?_
  refine dl_end ?_
  refine dw_seq ?_
  -- region 7
  refine dw_region (by kernel_rfl) ?_
  refine dl_r (sem_field fd23_0 rfl rfl) ?_
  refine dl_r (sem_load1 ty2 rfl rfl rfl rfl) ?_
  refine dl_r (sem_field fd23_0 rfl rfl) ?_
  refine dl_r (sem_load1 ty2 rfl rfl rfl rfl) ?_
  refine dl_r (sem_ari (r := (a1 + L * dx) - a1) rfl rfl (ari_i64_sub (by rcases hd with ⟨rfl, rfl⟩ | ⟨rfl, rfl⟩ | ⟨rfl, rfl⟩ | ⟨rfl, rfl⟩ <;> omega) (by rcases hd with ⟨rfl, rfl⟩ | ⟨rfl, rfl⟩ | ⟨rfl, rfl⟩ | ⟨rfl, rfl⟩ <;> omega)) rfl) ?_
  refine dl_r (sem_field fd23_0 rfl rfl) ?_
  refine dl_r (sem_load1 ty2 rfl rfl rfl rfl) ?_
  refine dl_r (sem_ari (r := ((a1 + L * dx) - a1) * dx) rfl rfl (ari_i64_mul (by rcases hd with ⟨rfl, rfl⟩ | ⟨rfl, rfl⟩ | ⟨rfl, rfl⟩ | ⟨rfl, rfl⟩ <;> omega) (by rcases hd with ⟨rfl, rfl⟩ | ⟨rfl, rfl⟩ | ⟨rfl, rfl⟩ | ⟨rfl, rfl⟩ <;> omega)) rfl) ?_
  refine dl_r (sem_field fd23_1 rfl rfl) ?_
  refine dl_r (sem_load1 ty2 rfl rfl rfl rfl) ?_
  refine dl_r (sem_field fd23_1 rfl rfl) ?_
  refine dl_r (sem_load1 ty2 rfl rfl rfl rfl) ?_
  refine dl_r (sem_ari (r := (a2 + L * dy) - a2) rfl rfl (ari_i64_sub (by rcases hd with ⟨rfl, rfl⟩ | ⟨rfl, rfl⟩ | ⟨rfl, rfl⟩ | ⟨rfl, rfl⟩ <;> omega) (by rcases hd with ⟨rfl, rfl⟩ | ⟨rfl, rfl⟩ | ⟨rfl, rfl⟩ | ⟨rfl, rfl⟩ <;> omega)) rfl) ?_
  refine dl_r (sem_field fd23_1 rfl rfl) ?_
  refine dl_r (sem_load1 ty2 rfl rfl rfl rfl) ?_
  refine dl_r (sem_ari (r := ((a2 + L * dy) - a2) * dy) rfl rfl (ari_i64_mul (by rcases hd with ⟨rfl, rfl⟩ | ⟨rfl, rfl⟩ | ⟨rfl, rfl⟩ | ⟨rfl, rfl⟩ <;> omega) (by rcases hd with ⟨rfl, rfl⟩ | ⟨rfl, rfl⟩ | ⟨rfl, rfl⟩ | ⟨rfl, rfl⟩ <;> omega)) rfl) ?_
  refine dl_r (sem_ari (r := L) rfl rfl ((ari_i64_add (by (rcases hd with ⟨rfl, rfl⟩ | ⟨rfl, rfl⟩ | ⟨rfl, rfl⟩ | ⟨rfl, rfl⟩ <;> omega)) (by (rcases hd with ⟨rfl, rfl⟩ | ⟨rfl, rfl⟩ | ⟨rfl, rfl⟩ | ⟨rfl, rfl⟩ <;> omega))).trans (congrArg some (by (rcases hd with ⟨rfl, rfl⟩ | ⟨rfl, rfl⟩ | ⟨rfl, rfl⟩ | ⟨rfl, rfl⟩ <;> omega)))) rfl) ?_
  refine dl_r (sem_assign rfl rfl) ?_
  refine dl_end ?_
  refine dw_seq ?_
  -- region 8
  refine dw_region (by kernel_rfl) ?_
  refine dl_r (sem_move rfl rfl) ?_
  refine dl_r (sem_move rfl rfl) ?_
  refine dl_r (sem_casti (c := m) (sem_min rfl rfl rfl) hmn) ?_
  refine dl_r (sem_assign rfl rfl) ?_
  refine dl_end ?_
  refine dw_seq ?_
  refine dw_seq ?_
  -- region 9
  refine dw_region (by kernel_rfl) ?_
  refine dl_r (sem_move rfl rfl) ?_
  refine dl_r (sem_move rfl rfl) ?_
  refine dl_r (sem_ari (r := L + m) rfl rfl (ari_i64_add (by rcases hd with ⟨rfl, rfl⟩ | ⟨rfl, rfl⟩ | ⟨rfl, rfl⟩ | ⟨rfl, rfl⟩ <;> omega) (by rcases hd with ⟨rfl, rfl⟩ | ⟨rfl, rfl⟩ | ⟨rfl, rfl⟩ | ⟨rfl, rfl⟩ <;> omega)) rfl) ?_
  refine dl_r (sem_ari (r := (L + m) - 1) rfl rfl (ari_i64_sub (by rcases hd with ⟨rfl, rfl⟩ | ⟨rfl, rfl⟩ | ⟨rfl, rfl⟩ | ⟨rfl, rfl⟩ <;> omega) (by rcases hd with ⟨rfl, rfl⟩ | ⟨rfl, rfl⟩ | ⟨rfl, rfl⟩ | ⟨rfl, rfl⟩ <;> omega)) rfl) ?_
  refine dl_r (sem_move rfl rfl) ?_
  refine dl_r (sem_quo' (r := (L - 1) / m + 1) rfl rfl (by omega) (cl_q hL hL2 hs) rfl) ?_
  refine dl_r (sem_castb (c := true) (sem_cmp rfl rfl rfl rfl) (decide_eq_true (by omega))) ?_
  refine dl_end ?_
  refine dw_true rfl ?_
  refine dw_seq ?_
  -- region 10
  refine dw_region (by kernel_rfl) ?_
  refine dl_r (sem_assign rfl rfl) ?_
  refine dl_r (sem_assign rfl rfl) ?_
  refine dl_end ?_
  refine dw_ret ?_
  -- path 
  exact ⟨.inr rfl, (resL_tmp rfl (resL_tmp rfl resL_nil))⟩
theorem rC_ok {a1 a2 L dx dy s m : Int} (hL : 1 ≤ L) (hd : Dir dx dy) (hs1 : 1 ≤ s) (hmn : min s L = m) {k : Nat} (hk : (k : Int) = (L - 1) / m) (r1 : -10000000 ≤ a1 ∧ a1 ≤ 10000000) (r2 : -10000000 ≤ a2 ∧ a2 ≤ 10000000) (r3 : -10000000 ≤ a1 + L * dx ∧ a1 + L * dx ≤ 10000000) (r4 : -10000000 ≤ a2 + L * dy ∧ a2 + L * dy ≤ 10000000) (hfit : (L - 1) / m + 1 ≤ 9999) : Ok Try.prog 9 [.a ([.i .i64 a1] ++ [.i .i64 a2]), .a ([.i .i64 (a1 + L * dx)] ++ [.i .i64 (a2 + L * dy)]), .c (.i .i64 s)] [.c (.s (k + 1 + 1) (ctb a1 a2 dx dy L m k)), .c (.i .i64 0)] := by
  have hL2 := dir_L hL hd r1 r2 r3 r4
  have hs : 1 ≤ m := by omega
  have hm2 : m ≤ L := by omega
  have hq := q_bd hL hs
  have hE : chkE a1 a2 (a1 + L * dx) (a2 + L * dy) 0 0 = 0 := by
    unfold chkE
    rw [if_pos (dok_dir hL hd), (outb_iff _ _ _).2 (by omega), (outb_iff _ _ _).2 (by omega), far_i (by omega) (by omega)]; rfl
  have hk2 : k ≤ 9998 := by omega
  refine Ok.of (by kernel_rfl) Try.func9 rfl rfl ?_
  rw [show Try.f9.ntmps = 73 from rfl, show Try.f9.results.toList = [.tmp 6, .tmp 7] from rfl]
  refine dw_seq ?_
  -- region 0
  refine dw_region (by kernel_rfl) ?_
  refine dl_new (sem_box_a rfl rfl) rfl ?_
  refine dl_new (sem_box_a rfl rfl) rfl ?_
  refine dl_r (sem_assign rfl rfl) ?_
  refine dl_r (sem_assign rfl rfl) ?_
  refine dl_end ?_
  refine dw_seq ?_
  refine dw_seq ?_
  -- region 1
  refine dw_region (by kernel_rfl) ?_
  refine dl_r (sem_move rfl rfl) ?_
  refine dl_r (sem_castb (c := false) (sem_cmp rfl rfl rfl rfl) (decide_eq_false (by omega))) ?_
  refine dl_end ?_
  refine dw_false rfl ?_
  refine dw_skip ?_
  refine dw_seq ?_
  refine dw_seq ?_
  -- region 3
  refine dw_region (by kernel_rfl) ?_
  refine dl_r (sem_load (us := ([.i .i64 a1] ++ [.i .i64 a2])) ty23 rfl rfl rfl rfl rfl) ?_
  refine dl_r (sem_load (us := ([.i .i64 (a1 + L * dx)] ++ [.i .i64 (a2 + L * dy)])) ty23 rfl rfl rfl rfl rfl) ?_
  refine dl_r (sem_call rfl rfl (rcasti rChk_ok hE) rfl) ?_
  refine dl_r (sem_assign rfl rfl) ?_
  refine dl_end ?_
  refine dw_seq ?_
  -- region 4
  refine dw_region (by kernel_rfl) ?_
  refine dl_r (sem_move rfl rfl) ?_
  refine dl_r (sem_cmp rfl rfl rfl rfl) ?_
  refine dl_end ?_
  refine dw_false rfl ?_
  refine dw_skip ?_
  refine dw_seq ?_
  -- region 6
  refine dw_region (by kernel_rfl) ?_
  refine dl_r (sem_load (us := ([.i .i64 a1] ++ [.i .i64 a2])) ty23 rfl rfl rfl rfl rfl) ?_
  refine dl_r (sem_load (us := ([.i .i64 (a1 + L * dx)] ++ [.i .i64 (a2 + L * dy)])) ty23 rfl rfl rfl rfl rfl) ?_
  refine dl_r (sem_call rfl rfl (icast2b rDir_ok (dsg_dir hL hd.x) (dsg_dir hL hd.y) (dok_dir hL hd)) rfl) ?_
  refine dl_r (sem_move rfl rfl) ?_
  refine dl_r (sem_extract rfl rfl rfl) ?_
  refine dl_r (sem_extract rfl rfl rfl) ?_
  refine dl_new (sem_alloc zc23 rfl) rfl ?_
  refine dl_st (sem_store_a ty23 rfl rfl rfl rfl rfl rfl) ?_
  refine dl_r (sem_assign rfl rfl) ?_
  refine dl_end ?_
  refine dw_seq ?_
  -- region 7
  refine dw_region (by kernel_rfl) ?_
  refine dl_r (sem_field fd23_0 rfl rfl) ?_
  refine dl_r (sem_load1 ty2 rfl rfl rfl rfl) ?_
  refine dl_r (sem_field fd23_0 rfl rfl) ?_
  refine dl_r (sem_load1 ty2 rfl rfl rfl rfl) ?_
  refine dl_r (sem_ari (r := (a1 + L * dx) - a1) rfl rfl (ari_i64_sub (by rcases hd with ⟨rfl, rfl⟩ | ⟨rfl, rfl⟩ | ⟨rfl, rfl⟩ | ⟨rfl, rfl⟩ <;> omega) (by rcases hd with ⟨rfl, rfl⟩ | ⟨rfl, rfl⟩ | ⟨rfl, rfl⟩ | ⟨rfl, rfl⟩ <;> omega)) rfl) ?_
  refine dl_r (sem_field fd23_0 rfl rfl) ?_
  refine dl_r (sem_load1 ty2 rfl rfl rfl rfl) ?_
  refine dl_r (sem_ari (r := ((a1 + L * dx) - a1) * dx) rfl rfl (ari_i64_mul (by rcases hd with ⟨rfl, rfl⟩ | ⟨rfl, rfl⟩ | ⟨rfl, rfl⟩ | ⟨rfl, rfl⟩ <;> omega) (by rcases hd with ⟨rfl, rfl⟩ | ⟨rfl, rfl⟩ | ⟨rfl, rfl⟩ | ⟨rfl, rfl⟩ <;> omega)) rfl) ?_
  refine dl_r (sem_field fd23_1 rfl rfl) ?_
  refine dl_r (sem_load1 ty2 rfl rfl rfl rfl) ?_
  refine dl_r (sem_field fd23_1 rfl rfl) ?_
  refine dl_r (sem_load1 ty2 rfl rfl rfl rfl) ?_
  refine dl_r (sem_ari (r := (a2 + L * dy) - a2) rfl rfl (ari_i64_sub (by rcases hd with ⟨rfl, rfl⟩ | ⟨rfl, rfl⟩ | ⟨rfl, rfl⟩ | ⟨rfl, rfl⟩ <;> omega) (by rcases hd with ⟨rfl, rfl⟩ | ⟨rfl, rfl⟩ | ⟨rfl, rfl⟩ | ⟨rfl, rfl⟩ <;> omega)) rfl) ?_
  refine dl_r (sem_field fd23_1 rfl rfl) ?_
  refine dl_r (sem_load1 ty2 rfl rfl rfl rfl) ?_
  refine dl_r (sem_ari (r := ((a2 + L * dy) - a2) * dy) rfl rfl (ari_i64_mul (by rcases hd with ⟨rfl, rfl⟩ | ⟨rfl, rfl⟩ | ⟨rfl, rfl⟩ | ⟨rfl, rfl⟩ <;> omega) (by rcases hd with ⟨rfl, rfl⟩ | ⟨rfl, rfl⟩ | ⟨rfl, rfl⟩ | ⟨rfl, rfl⟩ <;> omega)) rfl) ?_
  refine dl_r (sem_ari (r := L) rfl rfl ((ari_i64_add (by (rcases hd with ⟨rfl, rfl⟩ | ⟨rfl, rfl⟩ | ⟨rfl, rfl⟩ | ⟨rfl, rfl⟩ <;> omega)) (by (rcases hd with ⟨rfl, rfl⟩ | ⟨rfl, rfl⟩ | ⟨rfl, rfl⟩ | ⟨rfl, rfl⟩ <;> omega))).trans (congrArg some (by (rcases hd with ⟨rfl, rfl⟩ | ⟨rfl, rfl⟩ | ⟨rfl, rfl⟩ | ⟨rfl, rfl⟩ <;> omega)))) rfl) ?_
  refine dl_r (sem_assign rfl rfl) ?_
  refine dl_end ?_
  refine dw_seq ?_
  -- region 8
  refine dw_region (by kernel_rfl) ?_
  refine dl_r (sem_move rfl rfl) ?_
  refine dl_r (sem_move rfl rfl) ?_
  refine dl_r (sem_casti (c := m) (sem_min rfl rfl rfl) hmn) ?_
  refine dl_r (sem_assign rfl rfl) ?_
  refine dl_end ?_
  refine dw_seq ?_
  refine dw_seq ?_
  -- region 9
  refine dw_region (by kernel_rfl) ?_
  refine dl_r (sem_move rfl rfl) ?_
  refine dl_r (sem_move rfl rfl) ?_
  refine dl_r (sem_ari (r := L + m) rfl rfl (ari_i64_add (by rcases hd with ⟨rfl, rfl⟩ | ⟨rfl, rfl⟩ | ⟨rfl, rfl⟩ | ⟨rfl, rfl⟩ <;> omega) (by rcases hd with ⟨rfl, rfl⟩ | ⟨rfl, rfl⟩ | ⟨rfl, rfl⟩ | ⟨rfl, rfl⟩ <;> omega)) rfl) ?_
  refine dl_r (sem_ari (r := (L + m) - 1) rfl rfl (ari_i64_sub (by rcases hd with ⟨rfl, rfl⟩ | ⟨rfl, rfl⟩ | ⟨rfl, rfl⟩ | ⟨rfl, rfl⟩ <;> omega) (by rcases hd with ⟨rfl, rfl⟩ | ⟨rfl, rfl⟩ | ⟨rfl, rfl⟩ | ⟨rfl, rfl⟩ <;> omega)) rfl) ?_
  refine dl_r (sem_move rfl rfl) ?_
  refine dl_r (sem_quo' (r := (L - 1) / m + 1) rfl rfl (by omega) (cl_q hL hL2 hs) rfl) ?_
  refine dl_r (sem_castb (c := false) (sem_cmp rfl rfl rfl rfl) (decide_eq_false (by omega))) ?_
  refine dl_end ?_
  refine dw_false rfl ?_
  refine dw_skip ?_
  refine dw_seq ?_
  -- region 11
  refine dw_region (by kernel_rfl) ?_
  refine dl_r (sem_assign_z rfl) ?_
  refine dl_end ?_
  refine dw_seq ?_
  refine dw_seq ?_
  -- region 12
  refine dw_region (by kernel_rfl) ?_
  refine dl_r (sem_load (us := ([.i .i64 a1] ++ [.i .i64 a2])) ty23 rfl rfl rfl rfl rfl) ?_
  refine dl_new (sem_alloc zc23 rfl) rfl ?_
  refine dl_st (sem_store_a ty23 rfl rfl rfl rfl rfl rfl) ?_
  refine dl_end ?_
  refine dw_block ?_
  refine dw_loop1 (ι := {t : Nat × Nat × List CellD // t.1 ≤ k ∧ t.1 + 1 ≤ t.2.1 ∧ t.2.1 ≤ maxLen ∧ t.2.2.length = (t.2.1 - (t.1 + 1)) * 2}) (fun i => ⟨73, [(12, .o 67 (i.1.1 + 1) i.1.2.1), (2, .v (.c (.i .i64 m))), (4, .p 4 0), (9, .p 9 0), (13, .p 13 0)], [(4, 23, ([.i .i64 (a1 + L * dx)] ++ [.i .i64 (a2 + L * dy)])), (9, 23, ([.i .i64 dx] ++ [.i .i64 dy])), (13, 23, ([.i .i64 (a1 + dx * (((i.1.1 + 1 : Nat) : Int) * m))] ++ [.i .i64 (a2 + dy * (((i.1.1 + 1 : Nat) : Int) * m))])), (67, 23, ctr a1 a2 dx dy m i.1.1 ++ i.1.2.2)]⟩) (fun i => k - i.1.1) (k + 1) ?_ ?_
  · refine dw_seq ?_
    refine dw_seq ?_
    -- region 13
    refine dw_region (by kernel_rfl) ?_
    refine dl_r (sem_load (us := ([.i .i64 a1] ++ [.i .i64 a2])) ty23 rfl rfl rfl rfl rfl) ?_
    refine dl_r (sem_load (us := ([.i .i64 (a1 + L * dx)] ++ [.i .i64 (a2 + L * dy)])) ty23 rfl rfl rfl rfl rfl) ?_
    refine dl_r (sem_load (us := ([.i .i64 dx] ++ [.i .i64 dy])) ty23 rfl rfl rfl rfl rfl) ?_
    refine dl_r (sem_call rfl rfl (rcastb (c := true) (rBef_ok hd (by (rcases hd with ⟨rfl, rfl⟩ | ⟨rfl, rfl⟩ | ⟨rfl, rfl⟩ | ⟨rfl, rfl⟩ <;> omega)) (by (rcases hd with ⟨rfl, rfl⟩ | ⟨rfl, rfl⟩ | ⟨rfl, rfl⟩ | ⟨rfl, rfl⟩ <;> omega))) (decide_eq_true (by (rcases hd with ⟨rfl, rfl⟩ | ⟨rfl, rfl⟩ | ⟨rfl, rfl⟩ | ⟨rfl, rfl⟩ <;> omega)))) rfl) ?_
    refine dl_end ?_
    refine dw_true rfl ?_
    refine dw_skip ?_
    refine dw_seq ?_
    refine dw_block ?_
    -- region 15
    refine dw_region (by kernel_rfl) ?_
    refine dl_r (sem_move rfl rfl) ?_
    refine dl_r (sem_load (us := ([.i .i64 a1] ++ [.i .i64 a2])) ty23 rfl rfl rfl rfl rfl) ?_
    refine dl_r (sem_slit_D (n := 1) (us := ([.i .i64 a1] ++ [.i .i64 a2])) el27 rfl rfl rfl (by decide) (by decide) rfl) ?_
    refine dl_grow0 (ys := ([.i .i64 a1] ++ [.i .i64 a2])) el27 rfl rfl rfl (by decide) (by decide) (by decide) rfl rfl (fun cg1 rg1 hga1 hgb1 hgc1 => ?_)
    refine dl_r (sem_assign rfl rfl) ?_
    refine dl_end ?_
    refine dw_seq ?_
    refine dw_seq ?_
    -- region 16
    refine dw_region (by kernel_rfl) ?_
    refine dl_r (sem_load (us := ([.i .i64 a1] ++ [.i .i64 a2])) ty23 rfl rfl rfl rfl rfl) ?_
    refine dl_end ?_
    -- region 17
    refine Dw.weak (σ' := ⟨73, [(0, .v (.a ([.i .i64 a1] ++ [.i .i64 a2]))), (1, .v (.a ([.i .i64 (a1 + L * dx)] ++ [.i .i64 (a2 + L * dy)]))), (2, .v (.c (.i .i64 m))), (3, .p 3 0), (4, .p 4 0), (6, .v (.c (.s 0 []))), (7, .v (.c (.i .i64 0))), (14, .v (.c (.i .i64 s))), (15, .v (.c (.b false))), (16, .v (.a ([.i .i64 a1] ++ [.i .i64 a2]))), (17, .v (.a ([.i .i64 (a1 + L * dx)] ++ [.i .i64 (a2 + L * dy)]))), (18, .v (.c (.i .i64 0))), (8, .v (.c (.i .i64 0))), (19, .v (.c (.i .i64 0))), (20, .v (.c (.b false))), (23, .v (.a ([.i .i64 a1] ++ [.i .i64 a2]))), (24, .v (.a ([.i .i64 (a1 + L * dx)] ++ [.i .i64 (a2 + L * dy)]))), (26, .v (.a ([.i .i64 dx] ++ [.i .i64 dy]))), (27, .v (.c (.b true))), (9, .p 9 0), (10, .v (.c (.b true))), (28, .p 4 0), (29, .v (.c (.i .i64 (a1 + L * dx)))), (30, .p 3 0), (31, .v (.c (.i .i64 a1))), (32, .v (.c (.i .i64 ((a1 + L * dx) - a1)))), (33, .p 9 0), (34, .v (.c (.i .i64 dx))), (35, .v (.c (.i .i64 (((a1 + L * dx) - a1) * dx)))), (36, .p 4 1), (37, .v (.c (.i .i64 (a2 + L * dy)))), (38, .p 3 1), (39, .v (.c (.i .i64 a2))), (40, .v (.c (.i .i64 ((a2 + L * dy) - a2)))), (41, .p 9 1), (42, .v (.c (.i .i64 dy))), (43, .v (.c (.i .i64 (((a2 + L * dy) - a2) * dy)))), (44, .v (.c (.i .i64 L))), (11, .v (.c (.i .i64 L))), (45, .v (.c (.i .i64 s))), (46, .v (.c (.i .i64 L))), (47, .v (.c (.i .i64 m))), (48, .v (.c (.i .i64 L))), (49, .v (.c (.i .i64 m))), (50, .v (.c (.i .i64 (L + m)))), (51, .v (.c (.i .i64 ((L + m) - 1)))), (52, .v (.c (.i .i64 m))), (53, .v (.c (.i .i64 ((L - 1) / m + 1)))), (54, .v (.c (.b false))), (12, .o 67 1 cg1), (55, .v (.a ([.i .i64 a1] ++ [.i .i64 a2]))), (56, .v (.a ([.i .i64 a1] ++ [.i .i64 a2]))), (57, .v (.a ([.i .i64 (a1 + L * dx)] ++ [.i .i64 (a2 + L * dy)]))), (58, .v (.a ([.i .i64 dx] ++ [.i .i64 dy]))), (59, .v (.c (.b true))), (64, .z), (65, .v (.a ([.i .i64 a1] ++ [.i .i64 a2]))), (66, .v (.c (.s 1 (([.i .i64 a1] ++ [.i .i64 a2]))))), (67, .o 67 1 cg1), (68, .v (.a ([.i .i64 a1] ++ [.i .i64 a2])))], [(3, 23, ([.i .i64 a1] ++ [.i .i64 a2])), (4, 23, ([.i .i64 (a1 + L * dx)] ++ [.i .i64 (a2 + L * dy)])), (9, 23, ([.i .i64 dx] ++ [.i .i64 dy])), (67, 23, ([.i .i64 a1] ++ [.i .i64 a2]) ++ rg1)]⟩) (sub_of ⟨rfl, rfl, rfl, rfl, rfl, rfl, rfl, rfl, rfl, rfl, rfl, rfl, rfl, rfl, rfl, rfl, rfl, rfl, rfl, rfl, rfl, rfl, rfl, rfl, rfl, rfl, rfl, rfl, rfl, rfl, rfl, rfl, rfl, rfl, rfl, rfl, rfl, rfl, rfl, rfl, rfl, rfl, rfl, rfl, rfl, rfl, rfl, rfl, rfl, rfl, rfl, rfl, rfl, rfl, rfl, rfl, rfl, rfl, rfl, rfl, trivial⟩ ⟨rfl, rfl, rfl, rfl, trivial⟩ rfl) ?_
    refine dw_region (by kernel_rfl) ?_
    refine dl_new (sem_alloc zc23 rfl) rfl ?_
    refine dl_st (sem_store_a ty23 rfl rfl rfl rfl rfl rfl) ?_
    refine dl_end ?_
    -- region 14
    refine dw_region (by kernel_rfl) ?_
    refine dl_r (sem_load (us := ([.i .i64 a1] ++ [.i .i64 a2])) ty23 rfl rfl rfl rfl rfl) ?_
    refine dl_r (sem_load (us := ([.i .i64 dx] ++ [.i .i64 dy])) ty23 rfl rfl rfl rfl rfl) ?_
    refine dl_r (sem_move rfl rfl) ?_
    refine dl_r (sem_call rfl rfl (icast2 (rAt_ok hd (by omega) (by omega) (by omega)) (x' := a1 + dx * (((0 + 1 : Nat) : Int) * m)) (y' := a2 + dy * (((0 + 1 : Nat) : Int) * m)) (by rw [show ((0 + 1 : Nat) : Int) * m = m from by simp]; rcases hd with ⟨rfl, rfl⟩ | ⟨rfl, rfl⟩ | ⟨rfl, rfl⟩ | ⟨rfl, rfl⟩ <;> omega) (by rw [show ((0 + 1 : Nat) : Int) * m = m from by simp]; rcases hd with ⟨rfl, rfl⟩ | ⟨rfl, rfl⟩ | ⟨rfl, rfl⟩ | ⟨rfl, rfl⟩ <;> omega)) rfl) ?_
    refine dl_st (sem_store_a ty23 rfl rfl rfl rfl rfl rfl) ?_
    refine dl_end ?_
    exact ⟨⟨⟨0, cg1, rg1⟩, by omega, by omega, hgb1, hgc1⟩, sub_of ⟨rfl, rfl, rfl, rfl, rfl, trivial⟩ ⟨rfl, rfl, rfl, rfl, trivial⟩ rfl, by show k - 0 < k + 1; omega⟩
  · rintro ⟨⟨j, c, rs⟩, h2, h3, h4, h5⟩
    dsimp only at h2 h3 h4 h5
    show Dw _ _ ⟨73, [(12, .o 67 (j + 1) c), (2, .v (.c (.i .i64 m))), (4, .p 4 0), (9, .p 9 0), (13, .p 13 0)], [(4, 23, ([.i .i64 (a1 + L * dx)] ++ [.i .i64 (a2 + L * dy)])), (9, 23, ([.i .i64 dx] ++ [.i .i64 dy])), (13, 23, ([.i .i64 (a1 + dx * (((j + 1 : Nat) : Int) * m))] ++ [.i .i64 (a2 + dy * (((j + 1 : Nat) : Int) * m))])), (67, 23, ctr a1 a2 dx dy m j ++ rs)]⟩ _
    refine dw_seq ?_
    refine dw_seq ?_
    -- region 13
    refine dw_region (by kernel_rfl) ?_
    refine dl_r (sem_load (us := ([.i .i64 (a1 + dx * (((j + 1 : Nat) : Int) * m))] ++ [.i .i64 (a2 + dy * (((j + 1 : Nat) : Int) * m))])) ty23 rfl rfl rfl rfl rfl) ?_
    refine dl_r (sem_load (us := ([.i .i64 (a1 + L * dx)] ++ [.i .i64 (a2 + L * dy)])) ty23 rfl rfl rfl rfl rfl) ?_
    refine dl_r (sem_load (us := ([.i .i64 dx] ++ [.i .i64 dy])) ty23 rfl rfl rfl rfl rfl) ?_
    refine dl_r (sem_call rfl rfl (rcastb (c := decide (((j + 1 : Nat) : Int) * m < L)) (rBef_ok hd (by have g9 := ct_nn hs (j + 1); have g8 := pj_bd hs hk h2; rcases hd with ⟨rfl, rfl⟩ | ⟨rfl, rfl⟩ | ⟨rfl, rfl⟩ | ⟨rfl, rfl⟩ <;> omega) (by have g9 := ct_nn hs (j + 1); have g8 := pj_bd hs hk h2; rcases hd with ⟨rfl, rfl⟩ | ⟨rfl, rfl⟩ | ⟨rfl, rfl⟩ | ⟨rfl, rfl⟩ <;> omega)) (decide_eq_decide.2 (by (rcases hd with ⟨rfl, rfl⟩ | ⟨rfl, rfl⟩ | ⟨rfl, rfl⟩ | ⟨rfl, rfl⟩ <;> omega)))) rfl) ?_
    refine dl_end ?_
    refine dw_cond rfl (fun hc2 => ?_) (fun hc2 => ?_)
    · have g1 := (ct_iff hs hk j).1 (of_decide_eq_true hc2)
      have g2 := ct_nn hs (j + 1)
      have g3 := ct_ge hs j
      have g4 := of_decide_eq_true hc2
      refine dw_skip ?_
      refine dw_seq ?_
      refine dw_block ?_
      -- region 15
      refine dw_region (by kernel_rfl) ?_
      refine dl_r (sem_move rfl rfl) ?_
      refine dl_r (sem_load (us := ([.i .i64 (a1 + dx * (((j + 1 : Nat) : Int) * m))] ++ [.i .i64 (a2 + dy * (((j + 1 : Nat) : Int) * m))])) ty23 rfl rfl rfl rfl rfl) ?_
      refine dl_r (sem_slit_D (n := 1) (us := ([.i .i64 (a1 + dx * (((j + 1 : Nat) : Int) * m))] ++ [.i .i64 (a2 + dy * (((j + 1 : Nat) : Int) * m))])) el27 rfl rfl rfl (by decide) (by decide) rfl) ?_
      refine dl_grow (us := ctr a1 a2 dx dy m j) (rest := rs) (ys := ([.i .i64 (a1 + dx * (((j + 1 : Nat) : Int) * m))] ++ [.i .i64 (a2 + dy * (((j + 1 : Nat) : Int) * m))])) el27 rfl rfl rfl (by first | exact ctr_len _ | (rw [List.length_append, ctr_len]; show _ + 2 = _; omega)) (by assumption) rfl (by decide) (by omega) (by assumption) (by omega) (g_max (by omega)) (.inl rfl) rfl (fun cg3 rg3 hga3 hgb3 hgc3 => ?_)
      refine dl_r (sem_assign rfl rfl) ?_
      refine dl_end ?_
      refine dw_seq ?_
      refine dw_seq ?_
      -- region 16
      refine dw_region (by kernel_rfl) ?_
      refine dl_r (sem_load (us := ([.i .i64 (a1 + dx * (((j + 1 : Nat) : Int) * m))] ++ [.i .i64 (a2 + dy * (((j + 1 : Nat) : Int) * m))])) ty23 rfl rfl rfl rfl rfl) ?_
      refine dl_end ?_
      -- region 17
      refine Dw.weak (σ' := ⟨73, [(12, .o 67 ((j + 1) + 1) cg3), (2, .v (.c (.i .i64 m))), (4, .p 4 0), (9, .p 9 0), (56, .v (.a ([.i .i64 (a1 + dx * (((j + 1 : Nat) : Int) * m))] ++ [.i .i64 (a2 + dy * (((j + 1 : Nat) : Int) * m))]))), (57, .v (.a ([.i .i64 (a1 + L * dx)] ++ [.i .i64 (a2 + L * dy)]))), (58, .v (.a ([.i .i64 dx] ++ [.i .i64 dy]))), (59, .v (.c (.b (decide (((j + 1 : Nat) : Int) * m < L))))), (65, .v (.a ([.i .i64 (a1 + dx * (((j + 1 : Nat) : Int) * m))] ++ [.i .i64 (a2 + dy * (((j + 1 : Nat) : Int) * m))]))), (66, .v (.c (.s 1 (([.i .i64 (a1 + dx * (((j + 1 : Nat) : Int) * m))] ++ [.i .i64 (a2 + dy * (((j + 1 : Nat) : Int) * m))]))))), (67, .o 67 ((j + 1) + 1) cg3), (68, .v (.a ([.i .i64 (a1 + dx * (((j + 1 : Nat) : Int) * m))] ++ [.i .i64 (a2 + dy * (((j + 1 : Nat) : Int) * m))])))], [(4, 23, ([.i .i64 (a1 + L * dx)] ++ [.i .i64 (a2 + L * dy)])), (9, 23, ([.i .i64 dx] ++ [.i .i64 dy])), (67, 23, ctr a1 a2 dx dy m j ++ (([.i .i64 (a1 + dx * (((j + 1 : Nat) : Int) * m))] ++ [.i .i64 (a2 + dy * (((j + 1 : Nat) : Int) * m))])) ++ rg3)]⟩) (sub_of ⟨rfl, rfl, rfl, rfl, rfl, rfl, rfl, rfl, rfl, rfl, rfl, rfl, trivial⟩ ⟨rfl, rfl, rfl, trivial⟩ rfl) ?_
      refine dw_region (by kernel_rfl) ?_
      refine dl_new (sem_alloc zc23 rfl) rfl ?_
      refine dl_st (sem_store_a ty23 rfl rfl rfl rfl rfl rfl) ?_
      refine dl_end ?_
      -- region 14
      refine dw_region (by kernel_rfl) ?_
      refine dl_r (sem_load (us := ([.i .i64 (a1 + dx * (((j + 1 : Nat) : Int) * m))] ++ [.i .i64 (a2 + dy * (((j + 1 : Nat) : Int) * m))])) ty23 rfl rfl rfl rfl rfl) ?_
      refine dl_r (sem_load (us := ([.i .i64 dx] ++ [.i .i64 dy])) ty23 rfl rfl rfl rfl rfl) ?_
      refine dl_r (sem_move rfl rfl) ?_
      refine dl_r (sem_call rfl rfl (icast2 (rAt_ok hd (by (rcases hd with ⟨rfl, rfl⟩ | ⟨rfl, rfl⟩ | ⟨rfl, rfl⟩ | ⟨rfl, rfl⟩ <;> omega)) (by (rcases hd with ⟨rfl, rfl⟩ | ⟨rfl, rfl⟩ | ⟨rfl, rfl⟩ | ⟨rfl, rfl⟩ <;> omega)) (by omega)) (x' := a1 + dx * ((((j + 1) + 1 : Nat) : Int) * m)) (y' := a2 + dy * ((((j + 1) + 1 : Nat) : Int) * m)) (by rw [ct_nx (j + 1)]; rcases hd with ⟨rfl, rfl⟩ | ⟨rfl, rfl⟩ | ⟨rfl, rfl⟩ | ⟨rfl, rfl⟩ <;> omega) (by rw [ct_nx (j + 1)]; rcases hd with ⟨rfl, rfl⟩ | ⟨rfl, rfl⟩ | ⟨rfl, rfl⟩ | ⟨rfl, rfl⟩ <;> omega)) rfl) ?_
      refine dl_st (sem_store_a ty23 rfl rfl rfl rfl rfl rfl) ?_
      refine dl_end ?_
      exact ⟨⟨⟨j + 1, cg3, rg3⟩, g1, by omega, hgb3, hgc3⟩, sub_of ⟨rfl, rfl, rfl, rfl, rfl, trivial⟩ ⟨rfl, rfl, rfl, rfl, trivial⟩ rfl, by show k - (j + 1) < k - j; omega⟩
    · have g1 : ¬ j < k := fun h => absurd ((ct_iff hs hk j).2 h) (of_decide_eq_false hc2)
      obtain rfl : j = k := by omega
      refine dw_exit ?_
      refine dw_seq ?_
      -- region 18
      refine dw_region (by kernel_rfl) ?_
      refine dl_r (sem_move rfl rfl) ?_
      refine dl_r (sem_load (us := ([.i .i64 (a1 + L * dx)] ++ [.i .i64 (a2 + L * dy)])) ty23 rfl rfl rfl rfl rfl) ?_
      refine dl_r (sem_slit_D (n := 1) (us := ([.i .i64 (a1 + L * dx)] ++ [.i .i64 (a2 + L * dy)])) el27 rfl rfl rfl (by decide) (by decide) rfl) ?_
      refine dl_grow (us := ctr a1 a2 dx dy m j) (rest := rs) (ys := ([.i .i64 (a1 + L * dx)] ++ [.i .i64 (a2 + L * dy)])) el27 rfl rfl rfl (by first | exact ctr_len _ | (rw [List.length_append, ctr_len]; show _ + 2 = _; omega)) (by assumption) rfl (by decide) (by omega) (by assumption) (by omega) (g_max (by omega)) (.inr rfl) rfl (fun cg4 rg4 hga4 hgb4 hgc4 => ?_)
      refine dl_r (sem_assign rfl rfl) ?_
      refine dl_r (sem_assign rfl rfl) ?_
      refine dl_end ?_
      refine dw_release (t := 6) (m := 2) (us := ctr a1 a2 dx dy m j ++ (([.i .i64 (a1 + L * dx)] ++ [.i .i64 (a2 + L * dy)]))) rfl rfl (g_len (n := (j + 1) + 1) (by first | exact ctr_len _ | (rw [List.length_append, ctr_len]; show _ + 2 = _; omega)) (by assumption) (by omega)) (by omega) (by assumption) (g_take (by first | exact ctr_len _ | (rw [List.length_append, ctr_len]; show _ + 2 = _; omega))) ?_
      refine dw_ret ?_
      -- path LF
      exact ⟨.inr rfl, (resL_tmp rfl (resL_tmp rfl resL_nil))⟩
end Go.Proofs.Ytonjlikaacengaa
