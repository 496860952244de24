/- Paths and their start: the program. -/
import Derived.Test.YtonjlikaacengaaGreatZaL
namespace Go.Proofs.YtonjlikaacengaaGreat
open Go Go.RowKit
theorem at_neg (x r d : Int) : x + -r * d = x - d * r := by grind
theorem tStart_ok {x y dx dy r z : Int} (hd : Dir dx dy) (q1 : -10000000 ≤ x ∧ x ≤ 10000000) (q2 : -10000000 ≤ y ∧ y ≤ 10000000) (hr : 0 ≤ r ∧ r ≤ 20000000) : Ok Tryz.prog 65 [.a ([.i .i64 x] ++ [.i .i64 y]), .a ([.i .i64 dx] ++ [.i .i64 dy]), .c (.i .i64 r), .c (.i .i64 z)] [.a ([.i .i64 (x - dx * r)] ++ [.i .i64 (y - dy * r)] ++ [.i .i64 z])] := by
  refine Ok.of (by kernel_rfl) Tryz.func65 rfl rfl ?_
  rw [show Tryz.f65.ntmps = 25 from rfl, show Tryz.f65.results.toList = [.cell 8 62] from rfl]
  refine dw_seq ?_
  -- region 0
  refine dw_region (by kernel_rfl) ?_
  refine dl_new (sem_box_a rfl rfl) rfl ?_
  refine dl_new (sem_box_a rfl rfl) rfl ?_
  refine dl_new (sem_alloc zc62 rfl) rfl ?_
  refine dl_end ?_
  refine dw_seq ?_
  -- region 1
  refine dw_region (by kernel_rfl) ?_
  refine dl_r (sem_field fd34_0 rfl rfl) ?_
  refine dl_r (sem_load1 ty2 rfl rfl rfl rfl) ?_
  refine dl_r (sem_field fd34_0 rfl rfl) ?_
  refine dl_r (sem_load1 ty2 rfl rfl rfl rfl) ?_
  refine dl_r (sem_move rfl rfl) ?_
  refine dl_r (sem_ari (r := dx * r) rfl rfl (ari_i64_mul (by rcases hd with ⟨rfl, rfl⟩ | ⟨rfl, rfl⟩ | ⟨rfl, rfl⟩ | ⟨rfl, rfl⟩ <;> omega) (by rcases hd with ⟨rfl, rfl⟩ | ⟨rfl, rfl⟩ | ⟨rfl, rfl⟩ | ⟨rfl, rfl⟩ <;> omega)) rfl) ?_
  refine dl_r (sem_ari (r := x - (dx * r)) rfl rfl (ari_i64_sub (by rcases hd with ⟨rfl, rfl⟩ | ⟨rfl, rfl⟩ | ⟨rfl, rfl⟩ | ⟨rfl, rfl⟩ <;> omega) (by rcases hd with ⟨rfl, rfl⟩ | ⟨rfl, rfl⟩ | ⟨rfl, rfl⟩ | ⟨rfl, rfl⟩ <;> omega)) rfl) ?_
  refine dl_r (sem_field fd34_1 rfl rfl) ?_
  refine dl_r (sem_load1 ty2 rfl rfl rfl rfl) ?_
  refine dl_r (sem_field fd34_1 rfl rfl) ?_
  refine dl_r (sem_load1 ty2 rfl rfl rfl rfl) ?_
  refine dl_r (sem_move rfl rfl) ?_
  refine dl_r (sem_ari (r := dy * r) rfl rfl (ari_i64_mul (by rcases hd with ⟨rfl, rfl⟩ | ⟨rfl, rfl⟩ | ⟨rfl, rfl⟩ | ⟨rfl, rfl⟩ <;> omega) (by rcases hd with ⟨rfl, rfl⟩ | ⟨rfl, rfl⟩ | ⟨rfl, rfl⟩ | ⟨rfl, rfl⟩ <;> omega)) rfl) ?_
  refine dl_r (sem_ari (r := y - (dy * r)) rfl rfl (ari_i64_sub (by rcases hd with ⟨rfl, rfl⟩ | ⟨rfl, rfl⟩ | ⟨rfl, rfl⟩ | ⟨rfl, rfl⟩ <;> omega) (by rcases hd with ⟨rfl, rfl⟩ | ⟨rfl, rfl⟩ | ⟨rfl, rfl⟩ | ⟨rfl, rfl⟩ <;> omega)) rfl) ?_
  refine dl_r (sem_move rfl rfl) ?_
  refine dl_r (sem_build (us := ([.i .i64 (x - (dx * r))] ++ [.i .i64 (y - (dy * r))] ++ [.i .i64 z])) fs62 zc62 rfl rfl rfl) ?_
  refine dl_st (sem_store_a ty62 rfl rfl rfl rfl rfl rfl) ?_
  refine dl_end ?_
  refine dw_ret ?_
  -- path 
  exact ⟨.inr rfl, (resL_cell (us := ([.i .i64 (x - (dx * r))] ++ [.i .i64 (y - (dy * r))] ++ [.i .i64 z])) ty62 rfl rfl rfl rfl resL_nil)⟩
theorem rRaised_ok {x y z : Int} : Ok Tryz.prog 73 [.a ([.i .i64 x] ++ [.i .i64 y]), .c (.i .i64 z)] [.a ([.i .i64 x] ++ [.i .i64 y] ++ [.i .i64 z])] := by
  refine Ok.of (by kernel_rfl) Tryz.func73 rfl rfl ?_
  rw [show Tryz.f73.ntmps = 11 from rfl, show Tryz.f73.results.toList = [.cell 4 62] from rfl]
  refine dw_seq ?_
  -- region 0
  refine dw_region (by kernel_rfl) ?_
  refine dl_new (sem_box_a rfl rfl) rfl ?_
  refine dl_new (sem_alloc zc62 rfl) rfl ?_
  refine dl_end ?_
  refine dw_seq ?_
  -- region 1
  refine dw_region (by kernel_rfl) ?_
  refine dl_r (sem_field fd34_0 rfl rfl) ?_
  refine dl_r (sem_load1 ty2 rfl rfl rfl rfl) ?_
  refine dl_r (sem_field fd34_1 rfl rfl) ?_
  refine dl_r (sem_load1 ty2 rfl rfl rfl rfl) ?_
  refine dl_r (sem_move rfl rfl) ?_
  refine dl_r (sem_build (us := ([.i .i64 x] ++ [.i .i64 y] ++ [.i .i64 z])) fs62 zc62 rfl rfl rfl) ?_
  refine dl_st (sem_store_a ty62 rfl rfl rfl rfl rfl rfl) ?_
  refine dl_end ?_
  refine dw_ret ?_
  -- path 
  exact ⟨.inr rfl, (resL_cell (us := ([.i .i64 x] ++ [.i .i64 y] ++ [.i .i64 z])) ty62 rfl rfl rfl rfl resL_nil)⟩
theorem tP_1 {a1 a2 b1 b2 r s z f : Int} (hA : dok a1 a2 b1 b2 = false ∨ r ≤ 0 ∨ s ≤ 0 ∨ f ≤ 0 ∨ s > r) : Ok Tryz.prog 26 [.a ([.i .i64 a1] ++ [.i .i64 a2]), .a ([.i .i64 b1] ++ [.i .i64 b2]), .c (.i .i64 r), .c (.i .i64 s), .c (.i .i64 z), .c (.i .i64 f)] [.c (.s 0 []), .c (.i .i64 1)] := by
  refine Ok.of (by kernel_rfl) Tryz.func26 rfl rfl ?_
  rw [show Tryz.f26.ntmps = 105 from rfl, show Tryz.f26.results.toList = [.tmp 12, .tmp 13] from rfl]
  refine dw_seq ?_
  -- region 0
  refine dw_region (by kernel_rfl) ?_
  refine dl_new (sem_box_a rfl rfl) rfl ?_
  refine dl_new (sem_box_a rfl rfl) rfl ?_
  refine dl_r (sem_assign rfl rfl) ?_
  refine dl_r (sem_assign rfl rfl) ?_
  refine dl_end ?_
  refine dw_seq ?_
  -- region 1
  refine dw_region (by kernel_rfl) ?_
  refine dl_r (sem_load (us := ([.i .i64 a1] ++ [.i .i64 a2])) ty34 rfl rfl rfl rfl rfl) ?_
  refine dl_r (sem_load (us := ([.i .i64 b1] ++ [.i .i64 b2])) ty34 rfl rfl rfl rfl rfl) ?_
  refine dl_r (sem_call rfl rfl (tDir_ok) rfl) ?_
  refine dl_r (sem_move rfl rfl) ?_
  refine dl_r (sem_extract rfl rfl rfl) ?_
  refine dl_r (sem_extract rfl rfl rfl) ?_
  refine dl_new (sem_alloc zc34 rfl) rfl ?_
  refine dl_st (sem_store_a ty34 rfl rfl rfl rfl rfl rfl) ?_
  refine dl_r (sem_assign rfl rfl) ?_
  refine dl_end ?_
  refine dw_seq ?_
  refine dw_seq ?_
  -- region 2
  refine dw_region (by kernel_rfl) ?_
  refine dl_r (sem_move rfl rfl) ?_
  refine dl_r (sem_not rfl rfl) ?_
  refine dl_rb (sem_move rfl rfl) (fun c1 hb1 => ?_)
  cases c1
  · refine dl_r (sem_move rfl rfl) ?_
    refine dl_r (sem_cmp rfl rfl rfl rfl) ?_
    refine dl_r (sem_pick rfl rfl rfl rfl) ?_
    refine dl_rb (sem_move rfl rfl) (fun c2 hb2 => ?_)
    cases c2
    · refine dl_r (sem_move rfl rfl) ?_
      refine dl_r (sem_cmp rfl rfl rfl rfl) ?_
      refine dl_r (sem_pick rfl rfl rfl rfl) ?_
      refine dl_rb (sem_move rfl rfl) (fun c3 hb3 => ?_)
      cases c3
      · refine dl_r (sem_move rfl rfl) ?_
        refine dl_r (sem_cmp rfl rfl rfl rfl) ?_
        refine dl_r (sem_pick rfl rfl rfl rfl) ?_
        refine dl_rb (sem_move rfl rfl) (fun c4 hb4 => ?_)
        cases c4
        · refine dl_r (sem_move rfl rfl) ?_
          refine dl_r (sem_move rfl rfl) ?_
          refine dl_r (sem_cmp rfl rfl rfl rfl) ?_
          refine dl_r (sem_pick rfl rfl rfl rfl) ?_
          refine dl_end ?_
          refine dw_cond rfl (fun hc5 => ?_) (fun hc5 => ?_)
          · refine dw_seq ?_
            -- region 3
            refine dw_region (by kernel_rfl) ?_
            refine dl_r (sem_assign rfl rfl) ?_
            refine dl_r (sem_assign rfl rfl) ?_
            refine dl_end ?_
            refine dw_ret ?_
            -- path ffffT
            exact ⟨.inr rfl, (resL_tmp rfl (resL_tmp rfl resL_nil))⟩
          · rcases hA with h | h | h | h | h
            · simp [h] at hb1
            · exact absurd (show r ≤ 0 by omega) (of_decide_eq_false hb2)
            · exact absurd (show s ≤ 0 by omega) (of_decide_eq_false hb3)
            · exact absurd (show f ≤ 0 by omega) (of_decide_eq_false hb4)
            · exact absurd (show s > r by omega) (of_decide_eq_false hc5)
        · refine dl_skip (sem_skip rfl) ?_
          refine dl_skip (sem_skip rfl) ?_
          refine dl_skip (sem_skip rfl) ?_
          refine dl_r (sem_pick rfl rfl rfl rfl) ?_
          refine dl_end ?_
          refine dw_true rfl ?_
          refine dw_seq ?_
          -- region 3
          refine dw_region (by kernel_rfl) ?_
          refine dl_r (sem_assign rfl rfl) ?_
          refine dl_r (sem_assign rfl rfl) ?_
          refine dl_end ?_
          refine dw_ret ?_
          -- path ffft
          exact ⟨.inr rfl, (resL_tmp rfl (resL_tmp rfl resL_nil))⟩
      · refine dl_skip (sem_skip rfl) ?_
        refine dl_skip (sem_skip rfl) ?_
        refine dl_r (sem_pick rfl rfl rfl rfl) ?_
        refine dl_r (sem_move rfl rfl) ?_
        refine dl_skip (sem_skip rfl) ?_
        refine dl_skip (sem_skip rfl) ?_
        refine dl_skip (sem_skip rfl) ?_
        refine dl_r (sem_pick rfl rfl rfl rfl) ?_
        refine dl_end ?_
        refine dw_true rfl ?_
        refine dw_seq ?_
        -- region 3
        refine dw_region (by kernel_rfl) ?_
        refine dl_r (sem_assign rfl rfl) ?_
        refine dl_r (sem_assign rfl rfl) ?_
        refine dl_end ?_
        refine dw_ret ?_
        -- path fft
        exact ⟨.inr rfl, (resL_tmp rfl (resL_tmp rfl resL_nil))⟩
    · refine dl_skip (sem_skip rfl) ?_
      refine dl_skip (sem_skip rfl) ?_
      refine dl_r (sem_pick rfl rfl rfl rfl) ?_
      refine dl_r (sem_move rfl rfl) ?_
      refine dl_skip (sem_skip rfl) ?_
      refine dl_skip (sem_skip rfl) ?_
      refine dl_r (sem_pick rfl rfl rfl rfl) ?_
      refine dl_r (sem_move rfl rfl) ?_
      refine dl_skip (sem_skip rfl) ?_
      refine dl_skip (sem_skip rfl) ?_
      refine dl_skip (sem_skip rfl) ?_
      refine dl_r (sem_pick rfl rfl rfl rfl) ?_
      refine dl_end ?_
      refine dw_true rfl ?_
      refine dw_seq ?_
      -- region 3
      refine dw_region (by kernel_rfl) ?_
      refine dl_r (sem_assign rfl rfl) ?_
      refine dl_r (sem_assign rfl rfl) ?_
      refine dl_end ?_
      refine dw_ret ?_
      -- path ft
      exact ⟨.inr rfl, (resL_tmp rfl (resL_tmp rfl resL_nil))⟩
  · refine dl_skip (sem_skip rfl) ?_
    refine dl_skip (sem_skip rfl) ?_
    refine dl_r (sem_pick rfl rfl rfl rfl) ?_
    refine dl_r (sem_move rfl rfl) ?_
    refine dl_skip (sem_skip rfl) ?_
    refine dl_skip (sem_skip rfl) ?_
    refine dl_r (sem_pick rfl rfl rfl rfl) ?_
    refine dl_r (sem_move rfl rfl) ?_
    refine dl_skip (sem_skip rfl) ?_
    refine dl_skip (sem_skip rfl) ?_
    refine dl_r (sem_pick rfl rfl rfl rfl) ?_
    refine dl_r (sem_move rfl rfl) ?_
    refine dl_skip (sem_skip rfl) ?_
    refine dl_skip (sem_skip rfl) ?_
    refine dl_skip (sem_skip rfl) ?_
    refine dl_r (sem_pick rfl rfl rfl rfl) ?_
    refine dl_end ?_
    refine dw_true rfl ?_
    refine dw_seq ?_
    -- region 3
    refine dw_region (by kernel_rfl) ?_
    refine dl_r (sem_assign rfl rfl) ?_
    refine dl_r (sem_assign rfl rfl) ?_
    refine dl_end ?_
    refine dw_ret ?_
    -- path t
    exact ⟨.inr rfl, (resL_tmp rfl (resL_tmp rfl resL_nil))⟩
theorem tP_11 {a1 a2 b1 b2 r s z f : Int} (hok : dok a1 a2 b1 b2 = true) (hr : 1 ≤ r) (hs : 1 ≤ s) (hf : 1 ≤ f) (hsr : s ≤ r) (hB : rnd a1 a2 r = false ∨ rnd b1 b2 r = false ∨ far z = true) : Ok Tryz.prog 26 [.a ([.i .i64 a1] ++ [.i .i64 a2]), .a ([.i .i64 b1] ++ [.i .i64 b2]), .c (.i .i64 r), .c (.i .i64 s), .c (.i .i64 z), .c (.i .i64 f)] [.c (.s 0 []), .c (.i .i64 11)] := by
  refine Ok.of (by kernel_rfl) Tryz.func26 rfl rfl ?_
  rw [show Tryz.f26.ntmps = 105 from rfl, show Tryz.f26.results.toList = [.tmp 12, .tmp 13] from rfl]
  refine dw_seq ?_
  -- region 0
  refine dw_region (by kernel_rfl) ?_
  refine dl_new (sem_box_a rfl rfl) rfl ?_
  refine dl_new (sem_box_a rfl rfl) rfl ?_
  refine dl_r (sem_assign rfl rfl) ?_
  refine dl_r (sem_assign rfl rfl) ?_
  refine dl_end ?_
  refine dw_seq ?_
  -- region 1
  refine dw_region (by kernel_rfl) ?_
  refine dl_r (sem_load (us := ([.i .i64 a1] ++ [.i .i64 a2])) ty34 rfl rfl rfl rfl rfl) ?_
  refine dl_r (sem_load (us := ([.i .i64 b1] ++ [.i .i64 b2])) ty34 rfl rfl rfl rfl rfl) ?_
  refine dl_r (sem_call rfl rfl (icast2b tDir_ok rfl rfl hok) rfl) ?_
  refine dl_r (sem_move rfl rfl) ?_
  refine dl_r (sem_extract rfl rfl rfl) ?_
  refine dl_r (sem_extract rfl rfl rfl) ?_
  refine dl_new (sem_alloc zc34 rfl) rfl ?_
  refine dl_st (sem_store_a ty34 rfl rfl rfl rfl rfl rfl) ?_
  refine dl_r (sem_assign rfl rfl) ?_
  refine dl_end ?_
  refine dw_seq ?_
  refine dw_seq ?_
  -- region 2
  refine dw_region (by kernel_rfl) ?_
  refine dl_r (sem_move rfl rfl) ?_
  refine dl_r (sem_not rfl rfl) ?_
  refine dl_r (sem_move rfl rfl) ?_
  refine dl_r (sem_move rfl rfl) ?_
  refine dl_r (sem_castb (c := false) (sem_cmp rfl rfl rfl rfl) (decide_eq_false (by omega))) ?_
  refine dl_r (sem_pick rfl rfl rfl rfl) ?_
  refine dl_r (sem_move rfl rfl) ?_
  refine dl_r (sem_move rfl rfl) ?_
  refine dl_r (sem_castb (c := false) (sem_cmp rfl rfl rfl rfl) (decide_eq_false (by omega))) ?_
  refine dl_r (sem_pick rfl rfl rfl rfl) ?_
  refine dl_r (sem_move rfl rfl) ?_
  refine dl_r (sem_move rfl rfl) ?_
  refine dl_r (sem_castb (c := false) (sem_cmp rfl rfl rfl rfl) (decide_eq_false (by omega))) ?_
  refine dl_r (sem_pick rfl rfl rfl rfl) ?_
  refine dl_r (sem_move rfl rfl) ?_
  refine dl_r (sem_move rfl rfl) ?_
  refine dl_r (sem_move rfl rfl) ?_
  refine dl_r (sem_castb (c := false) (sem_cmp rfl rfl rfl rfl) (decide_eq_false (by omega))) ?_
  refine dl_r (sem_pick rfl rfl rfl rfl) ?_
  refine dl_end ?_
  refine dw_false rfl ?_
  refine dw_skip ?_
  refine dw_seq ?_
  refine dw_seq ?_
  -- region 4
  refine dw_region (by kernel_rfl) ?_
  refine dl_r (sem_load (us := ([.i .i64 a1] ++ [.i .i64 a2])) ty34 rfl rfl rfl rfl rfl) ?_
  refine dl_r (sem_move rfl rfl) ?_
  refine dl_r (sem_call rfl rfl (tRound_ok (by omega)) rfl) ?_
  refine dl_r (sem_not rfl rfl) ?_
  refine dl_rb (sem_move rfl rfl) (fun c1 hb1 => ?_)
  cases c1
  · refine dl_r (sem_load (us := ([.i .i64 b1] ++ [.i .i64 b2])) ty34 rfl rfl rfl rfl rfl) ?_
    refine dl_r (sem_move rfl rfl) ?_
    refine dl_r (sem_call rfl rfl (tRound_ok (by omega)) rfl) ?_
    refine dl_r (sem_not rfl rfl) ?_
    refine dl_r (sem_pick rfl rfl rfl rfl) ?_
    refine dl_rb (sem_move rfl rfl) (fun c2 hb2 => ?_)
    cases c2
    · refine dl_r (sem_move rfl rfl) ?_
      refine dl_r (sem_slit_D (n := 1) (us := [.i .i64 z]) el95 rfl rfl rfl (by decide) (by decide) rfl) ?_
      refine dl_r (sem_call rfl rfl (tGrid1) rfl) ?_
      refine dl_r (sem_not rfl rfl) ?_
      refine dl_r (sem_pick rfl rfl rfl rfl) ?_
      refine dl_end ?_
      refine dw_cond rfl (fun hc3 => ?_) (fun hc3 => ?_)
      · refine dw_seq ?_
        -- region 5
        refine dw_region (by kernel_rfl) ?_
        refine dl_r (sem_assign rfl rfl) ?_
        refine dl_r (sem_assign rfl rfl) ?_
        refine dl_end ?_
        refine dw_ret ?_
        -- path ffT
        exact ⟨.inr rfl, (resL_tmp rfl (resL_tmp rfl resL_nil))⟩
      · rcases hB with h | h | h
        · simp [h] at hb1
        · simp [h] at hb2
        · simp [h] at hc3
    · refine dl_skip (sem_skip rfl) ?_
      refine dl_skip (sem_skip rfl) ?_
      refine dl_skip (sem_skip rfl) ?_
      refine dl_skip (sem_skip rfl) ?_
      refine dl_r (sem_pick rfl rfl rfl rfl) ?_
      refine dl_end ?_
      refine dw_true rfl ?_
      refine dw_seq ?_
      -- region 5
      refine dw_region (by kernel_rfl) ?_
      refine dl_r (sem_assign rfl rfl) ?_
      refine dl_r (sem_assign rfl rfl) ?_
      refine dl_end ?_
      refine dw_ret ?_
      -- path ft
      exact ⟨.inr rfl, (resL_tmp rfl (resL_tmp rfl resL_nil))⟩
  · refine dl_skip (sem_skip rfl) ?_
    refine dl_skip (sem_skip rfl) ?_
    refine dl_skip (sem_skip rfl) ?_
    refine dl_skip (sem_skip rfl) ?_
    refine dl_r (sem_pick rfl rfl rfl rfl) ?_
    refine dl_r (sem_move rfl rfl) ?_
    refine dl_skip (sem_skip rfl) ?_
    refine dl_skip (sem_skip rfl) ?_
    refine dl_skip (sem_skip rfl) ?_
    refine dl_skip (sem_skip rfl) ?_
    refine dl_r (sem_pick rfl rfl rfl rfl) ?_
    refine dl_end ?_
    refine dw_true rfl ?_
    refine dw_seq ?_
    -- region 5
    refine dw_region (by kernel_rfl) ?_
    refine dl_r (sem_assign rfl rfl) ?_
    refine dl_r (sem_assign rfl rfl) ?_
    refine dl_end ?_
    refine dw_ret ?_
    -- path t
    exact ⟨.inr rfl, (resL_tmp rfl (resL_tmp rfl resL_nil))⟩
theorem tP_3 {a1 a2 L dx dy r s z f : Int} (hL : 1 ≤ L) (hd : Dir dx dy) (hr : 1 ≤ r) (hs : 1 ≤ s) (hf : 1 ≤ f) (hsr : s ≤ r) (q1 : rnd a1 a2 r = true) (q2 : rnd (a1 + L * dx) (a2 + L * dy) r = true) (q3 : far z = false) (hbig : 10000 < (L - 1) / s + 2) : Ok Tryz.prog 26 [.a ([.i .i64 a1] ++ [.i .i64 a2]), .a ([.i .i64 (a1 + L * dx)] ++ [.i .i64 (a2 + L * dy)]), .c (.i .i64 r), .c (.i .i64 s), .c (.i .i64 z), .c (.i .i64 f)] [.c (.s 0 []), .c (.i .i64 3)] := by
  have g1 := (rnd_iff _ _ _).1 q1
  have g2 := (rnd_iff _ _ _).1 q2
  have r1 : -10000000 ≤ a1 ∧ a1 ≤ 10000000 := by omega
  have r2 : -10000000 ≤ a2 ∧ a2 ≤ 10000000 := by omega
  have r3 : -10000000 ≤ a1 + L * dx ∧ a1 + L * dx ≤ 10000000 := by omega
  have r4 : -10000000 ≤ a2 + L * dy ∧ a2 + L * dy ≤ 10000000 := by omega
  refine Ok.of (by kernel_rfl) Tryz.func26 rfl rfl ?_
  rw [show Tryz.f26.ntmps = 105 from rfl, show Tryz.f26.results.toList = [.tmp 12, .tmp 13] from rfl]
  refine dw_seq ?_
  -- region 0
  refine dw_region (by kernel_rfl) ?_
  refine dl_new (sem_box_a rfl rfl) rfl ?_
  refine dl_new (sem_box_a rfl rfl) rfl ?_
  refine dl_r (sem_assign rfl rfl) ?_
  refine dl_r (sem_assign rfl rfl) ?_
  refine dl_end ?_
  refine dw_seq ?_
  -- region 1
  refine dw_region (by kernel_rfl) ?_
  refine dl_r (sem_load (us := ([.i .i64 a1] ++ [.i .i64 a2])) ty34 rfl rfl rfl rfl rfl) ?_
  refine dl_r (sem_load (us := ([.i .i64 (a1 + L * dx)] ++ [.i .i64 (a2 + L * dy)])) ty34 rfl rfl rfl rfl rfl) ?_
  refine dl_r (sem_call rfl rfl (icast2b tDir_ok (dsg_dir hL hd.x) (dsg_dir hL hd.y) (dok_dir hL hd)) rfl) ?_
  refine dl_r (sem_move rfl rfl) ?_
  refine dl_r (sem_extract rfl rfl rfl) ?_
  refine dl_r (sem_extract rfl rfl rfl) ?_
  refine dl_new (sem_alloc zc34 rfl) rfl ?_
  refine dl_st (sem_store_a ty34 rfl rfl rfl rfl rfl rfl) ?_
  refine dl_r (sem_assign rfl rfl) ?_
  refine dl_end ?_
  refine dw_seq ?_
  refine dw_seq ?_
  -- region 2
  refine dw_region (by kernel_rfl) ?_
  refine dl_r (sem_move rfl rfl) ?_
  refine dl_r (sem_not rfl rfl) ?_
  refine dl_r (sem_move rfl rfl) ?_
  refine dl_r (sem_move rfl rfl) ?_
  refine dl_r (sem_castb (c := false) (sem_cmp rfl rfl rfl rfl) (decide_eq_false (by omega))) ?_
  refine dl_r (sem_pick rfl rfl rfl rfl) ?_
  refine dl_r (sem_move rfl rfl) ?_
  refine dl_r (sem_move rfl rfl) ?_
  refine dl_r (sem_castb (c := false) (sem_cmp rfl rfl rfl rfl) (decide_eq_false (by omega))) ?_
  refine dl_r (sem_pick rfl rfl rfl rfl) ?_
  refine dl_r (sem_move rfl rfl) ?_
  refine dl_r (sem_move rfl rfl) ?_
  refine dl_r (sem_castb (c := false) (sem_cmp rfl rfl rfl rfl) (decide_eq_false (by omega))) ?_
  refine dl_r (sem_pick rfl rfl rfl rfl) ?_
  refine dl_r (sem_move rfl rfl) ?_
  refine dl_r (sem_move rfl rfl) ?_
  refine dl_r (sem_move rfl rfl) ?_
  refine dl_r (sem_castb (c := false) (sem_cmp rfl rfl rfl rfl) (decide_eq_false (by omega))) ?_
  refine dl_r (sem_pick rfl rfl rfl rfl) ?_
  refine dl_end ?_
  refine dw_false rfl ?_
  refine dw_skip ?_
  refine dw_seq ?_
  refine dw_seq ?_
  -- region 4
  refine dw_region (by kernel_rfl) ?_
  refine dl_r (sem_load (us := ([.i .i64 a1] ++ [.i .i64 a2])) ty34 rfl rfl rfl rfl rfl) ?_
  refine dl_r (sem_move rfl rfl) ?_
  refine dl_r (sem_call rfl rfl (rcastb (tRound_ok (by omega)) q1) rfl) ?_
  refine dl_r (sem_not rfl rfl) ?_
  refine dl_r (sem_move rfl rfl) ?_
  refine dl_r (sem_load (us := ([.i .i64 (a1 + L * dx)] ++ [.i .i64 (a2 + L * dy)])) ty34 rfl rfl rfl rfl rfl) ?_
  refine dl_r (sem_move rfl rfl) ?_
  refine dl_r (sem_call rfl rfl (rcastb (tRound_ok (by omega)) q2) rfl) ?_
  refine dl_r (sem_not rfl rfl) ?_
  refine dl_r (sem_pick rfl rfl rfl rfl) ?_
  refine dl_r (sem_move rfl rfl) ?_
  refine dl_r (sem_move rfl rfl) ?_
  refine dl_r (sem_slit_D (n := 1) (us := [.i .i64 z]) el95 rfl rfl rfl (by decide) (by decide) rfl) ?_
  refine dl_r (sem_call rfl rfl (rcastb tGrid1 (show (!far z) = true from by rw [q3, Bool.not_false])) rfl) ?_
  refine dl_r (sem_not rfl rfl) ?_
  refine dl_r (sem_pick rfl rfl rfl rfl) ?_
  refine dl_end ?_
  refine dw_false rfl ?_
  refine dw_skip ?_
  refine dw_seq ?_
  -- region 6
  refine dw_region (by kernel_rfl) ?_
  refine dl_r (sem_load (us := ([.i .i64 a1] ++ [.i .i64 a2])) ty34 rfl rfl rfl rfl rfl) ?_
  refine dl_r (sem_load (us := ([.i .i64 (a1 + L * dx)] ++ [.i .i64 (a2 + L * dy)])) ty34 rfl rfl rfl rfl rfl) ?_
  refine dl_r (sem_load (us := ([.i .i64 dx] ++ [.i .i64 dy])) ty34 rfl rfl rfl rfl rfl) ?_
  refine dl_r (sem_move rfl rfl) ?_
  refine dl_r (sem_call rfl rfl (tcen_big hL hd hs (by omega) r1 r2 r3 r4 hbig) rfl) ?_
  refine dl_r (sem_move rfl rfl) ?_
  refine dl_r (sem_extract rfl rfl rfl) ?_
  refine dl_r (sem_extract rfl rfl rfl) ?_
  refine dl_r (sem_assign rfl rfl) ?_
  refine dl_r (sem_assign rfl rfl) ?_
  refine dl_end ?_
  refine dw_seq ?_
  refine dw_seq ?_
  -- region 7
  refine dw_region (by kernel_rfl) ?_
  refine dl_r (sem_move rfl rfl) ?_
  refine dl_r (sem_cmp rfl rfl rfl rfl) ?_
  refine dl_end ?_
  refine dw_true rfl ?_
  refine dw_seq ?_
  -- region 8
  refine dw_region (by kernel_rfl) ?_
  refine dl_r (sem_move rfl rfl) ?_
  refine dl_r (sem_assign rfl rfl) ?_
  refine dl_r (sem_assign rfl rfl) ?_
  refine dl_end ?_
  refine dw_ret ?_
  -- path 
  exact ⟨.inr rfl, (resL_tmp rfl (resL_tmp rfl resL_nil))⟩
theorem tP_ok {a1 a2 L dx dy r s z f : Int} (hL : 1 ≤ L) (hd : Dir dx dy) (hr : 1 ≤ r) (hs : 1 ≤ s) (hf : 1 ≤ f) (hsr : s ≤ r) {k : Nat} (hk : (k : Int) = (L - 1) / s) (q1 : rnd a1 a2 r = true) (q2 : rnd (a1 + L * dx) (a2 + L * dy) r = true) (q3 : far z = false) (hfit : (L - 1) / s + 2 ≤ 10000) : Ok Tryz.prog 26 [.a ([.i .i64 a1] ++ [.i .i64 a2]), .a ([.i .i64 (a1 + L * dx)] ++ [.i .i64 (a2 + L * dy)]), .c (.i .i64 r), .c (.i .i64 s), .c (.i .i64 z), .c (.i .i64 f)] [.c (.s (2 * (k + 1) + 1) (pth (ctb a1 a2 dx dy L s k) dx dy r z f (k + 1))), .c (.i .i64 0)] := by
  have g1 := (rnd_iff _ _ _).1 q1
  have g2 := (rnd_iff _ _ _).1 q2
  have r1 : -10000000 ≤ a1 ∧ a1 ≤ 10000000 := by omega
  have r2 : -10000000 ≤ a2 ∧ a2 ≤ 10000000 := by omega
  have r3 : -10000000 ≤ a1 + L * dx ∧ a1 + L * dx ≤ 10000000 := by omega
  have r4 : -10000000 ≤ a2 + L * dy ∧ a2 + L * dy ≤ 10000000 := by omega
  have hq := q_bd hL hs
  have hk2 : k ≤ 9998 := by omega
  have hB := ci_bd (ctb_bd hd hs hk r1 r2 r3 r4)
  have hJ := bdJ_isJ (ctb_bd hd hs hk r1 r2 r3 r4)
  refine Ok.of (by kernel_rfl) Tryz.func26 rfl rfl ?_
  rw [show Tryz.f26.ntmps = 105 from rfl, show Tryz.f26.results.toList = [.tmp 12, .tmp 13] from rfl]
  refine dw_seq ?_
  -- region 0
  refine dw_region (by kernel_rfl) ?_
  refine dl_new (sem_box_a rfl rfl) rfl ?_
  refine dl_new (sem_box_a rfl rfl) rfl ?_
  refine dl_r (sem_assign rfl rfl) ?_
  refine dl_r (sem_assign rfl rfl) ?_
  refine dl_end ?_
  refine dw_seq ?_
  -- region 1
  refine dw_region (by kernel_rfl) ?_
  refine dl_r (sem_load (us := ([.i .i64 a1] ++ [.i .i64 a2])) ty34 rfl rfl rfl rfl rfl) ?_
  refine dl_r (sem_load (us := ([.i .i64 (a1 + L * dx)] ++ [.i .i64 (a2 + L * dy)])) ty34 rfl rfl rfl rfl rfl) ?_
  refine dl_r (sem_call rfl rfl (icast2b tDir_ok (dsg_dir hL hd.x) (dsg_dir hL hd.y) (dok_dir hL hd)) rfl) ?_
  refine dl_r (sem_move rfl rfl) ?_
  refine dl_r (sem_extract rfl rfl rfl) ?_
  refine dl_r (sem_extract rfl rfl rfl) ?_
  refine dl_new (sem_alloc zc34 rfl) rfl ?_
  refine dl_st (sem_store_a ty34 rfl rfl rfl rfl rfl rfl) ?_
  refine dl_r (sem_assign rfl rfl) ?_
  refine dl_end ?_
  refine dw_seq ?_
  refine dw_seq ?_
  -- region 2
  refine dw_region (by kernel_rfl) ?_
  refine dl_r (sem_move rfl rfl) ?_
  refine dl_r (sem_not rfl rfl) ?_
  refine dl_r (sem_move rfl rfl) ?_
  refine dl_r (sem_move rfl rfl) ?_
  refine dl_r (sem_castb (c := false) (sem_cmp rfl rfl rfl rfl) (decide_eq_false (by omega))) ?_
  refine dl_r (sem_pick rfl rfl rfl rfl) ?_
  refine dl_r (sem_move rfl rfl) ?_
  refine dl_r (sem_move rfl rfl) ?_
  refine dl_r (sem_castb (c := false) (sem_cmp rfl rfl rfl rfl) (decide_eq_false (by omega))) ?_
  refine dl_r (sem_pick rfl rfl rfl rfl) ?_
  refine dl_r (sem_move rfl rfl) ?_
  refine dl_r (sem_move rfl rfl) ?_
  refine dl_r (sem_castb (c := false) (sem_cmp rfl rfl rfl rfl) (decide_eq_false (by omega))) ?_
  refine dl_r (sem_pick rfl rfl rfl rfl) ?_
  refine dl_r (sem_move rfl rfl) ?_
  refine dl_r (sem_move rfl rfl) ?_
  refine dl_r (sem_move rfl rfl) ?_
  refine dl_r (sem_castb (c := false) (sem_cmp rfl rfl rfl rfl) (decide_eq_false (by omega))) ?_
  refine dl_r (sem_pick rfl rfl rfl rfl) ?_
  refine dl_end ?_
  refine dw_false rfl ?_
  refine dw_skip ?_
  refine dw_seq ?_
  refine dw_seq ?_
  -- region 4
  refine dw_region (by kernel_rfl) ?_
  refine dl_r (sem_load (us := ([.i .i64 a1] ++ [.i .i64 a2])) ty34 rfl rfl rfl rfl rfl) ?_
  refine dl_r (sem_move rfl rfl) ?_
  refine dl_r (sem_call rfl rfl (rcastb (tRound_ok (by omega)) q1) rfl) ?_
  refine dl_r (sem_not rfl rfl) ?_
  refine dl_r (sem_move rfl rfl) ?_
  refine dl_r (sem_load (us := ([.i .i64 (a1 + L * dx)] ++ [.i .i64 (a2 + L * dy)])) ty34 rfl rfl rfl rfl rfl) ?_
  refine dl_r (sem_move rfl rfl) ?_
  refine dl_r (sem_call rfl rfl (rcastb (tRound_ok (by omega)) q2) rfl) ?_
  refine dl_r (sem_not rfl rfl) ?_
  refine dl_r (sem_pick rfl rfl rfl rfl) ?_
  refine dl_r (sem_move rfl rfl) ?_
  refine dl_r (sem_move rfl rfl) ?_
  refine dl_r (sem_slit_D (n := 1) (us := [.i .i64 z]) el95 rfl rfl rfl (by decide) (by decide) rfl) ?_
  refine dl_r (sem_call rfl rfl (rcastb tGrid1 (show (!far z) = true from by rw [q3, Bool.not_false])) rfl) ?_
  refine dl_r (sem_not rfl rfl) ?_
  refine dl_r (sem_pick rfl rfl rfl rfl) ?_
  refine dl_end ?_
  refine dw_false rfl ?_
  refine dw_skip ?_
  refine dw_seq ?_
  -- region 6
  refine dw_region (by kernel_rfl) ?_
  refine dl_r (sem_load (us := ([.i .i64 a1] ++ [.i .i64 a2])) ty34 rfl rfl rfl rfl rfl) ?_
  refine dl_r (sem_load (us := ([.i .i64 (a1 + L * dx)] ++ [.i .i64 (a2 + L * dy)])) ty34 rfl rfl rfl rfl rfl) ?_
  refine dl_r (sem_load (us := ([.i .i64 dx] ++ [.i .i64 dy])) ty34 rfl rfl rfl rfl rfl) ?_
  refine dl_r (sem_move rfl rfl) ?_
  refine dl_r (sem_call rfl rfl (tcen_ok hL hd hs (by omega) hk r1 r2 r3 r4 hfit) rfl) ?_
  refine dl_r (sem_move rfl rfl) ?_
  refine dl_r (sem_extract rfl rfl rfl) ?_
  refine dl_r (sem_extract rfl rfl rfl) ?_
  refine dl_r (sem_assign rfl rfl) ?_
  refine dl_r (sem_assign rfl rfl) ?_
  refine dl_end ?_
  refine dw_seq ?_
  refine dw_seq ?_
  -- region 7
  refine dw_region (by kernel_rfl) ?_
  refine dl_r (sem_move rfl rfl) ?_
  refine dl_r (sem_cmp rfl rfl rfl rfl) ?_
  refine dl_end ?_
  refine dw_false rfl ?_
  refine dw_skip ?_
  refine dw_seq ?_
  -- region 9
  refine dw_region (by kernel_rfl) ?_
  refine dl_r (sem_assign_z rfl) ?_
  refine dl_end ?_
  refine dw_seq ?_
  refine dw_seq ?_
  -- region 10
  refine dw_region (by kernel_rfl) ?_
  refine dl_r (sem_move rfl rfl) ?_
  refine dl_r (sem_len sl22 rfl rfl) ?_
  refine dl_r (sem_move rfl rfl) ?_
  refine dl_end ?_
  refine dw_block ?_
  refine dw_loop1 (ι := {t : Nat × Nat × List CellD // t.1 ≤ k + 1 ∧ 2 * t.1 + 1 ≤ t.2.1 ∧ t.2.1 ≤ maxLen ∧ t.2.2.length = (t.2.1 - (2 * t.1 + 1)) * 7}) (fun i => ⟨105, [(18, .o 102 (2 * i.1.1 + 1) i.1.2.1), (75, .v (.c (.i .i64 (((i.1.1 + 1 : Nat) : Int))))), (2, .v (.c (.i .i64 r))), (4, .v (.c (.i .i64 z))), (5, .v (.c (.i .i64 f))), (14, .p 14 0), (73, .v (.c (.s (k + 1 + 1) (ctb a1 a2 dx dy L s k)))), (74, .v (.c (.i .i64 (((k + 1 + 1 : Nat) : Int)))))], [(14, 34, ([.i .i64 dx] ++ [.i .i64 dy])), (102, 76, pth (ctb a1 a2 dx dy L s k) dx dy r z f i.1.1 ++ i.1.2.2)]⟩) (fun i => k + 1 - i.1.1) (k + 2) ?_ ?_
  · refine dw_seq ?_
    -- region 11
    refine dw_region (by kernel_rfl) ?_
    refine dl_r (sem_castb (c := true) (sem_cmp rfl rfl rfl rfl) (decide_eq_true (by omega))) ?_
    refine dl_end ?_
    refine dw_seq ?_
    refine dw_true rfl ?_
    refine dw_skip ?_
    refine dw_seq ?_
    refine dw_block ?_
    refine dw_seq ?_
    -- region 12
    refine dw_region (by kernel_rfl) ?_
    refine dl_r (sem_move rfl rfl) ?_
    refine dl_r (sem_index (us := [.i .i64 (ci (ctb a1 a2 dx dy L s k) (0 * 2))] ++ [.i .i64 (ci (ctb a1 a2 dx dy L s k) (0 * 2 + 1))] ++ (ctb a1 a2 dx dy L s k).drop (0 * 2 + 2)) sl22 rfl rfl (by omega) (ctb_len) (ci_drop2 ctb_len hJ (by omega)) rfl) ?_
    refine dl_r (sem_loadq (us := ([.i .i64 (ci (ctb a1 a2 dx dy L s k) (0 * 2))] ++ [.i .i64 (ci (ctb a1 a2 dx dy L s k) (0 * 2 + 1))])) ty34 rfl rfl rfl rfl) ?_
    refine dl_new (sem_alloc zc34 rfl) rfl ?_
    refine dl_r (sem_assign rfl rfl) ?_
    refine dl_st (sem_store_a ty34 rfl rfl rfl rfl rfl rfl) ?_
    refine dl_end ?_
    refine dw_seq ?_
    refine dw_seq ?_
    -- region 13
    refine dw_region (by kernel_rfl) ?_
    refine dl_r (sem_move rfl rfl) ?_
    refine dl_r (sem_cmp rfl rfl rfl rfl) ?_
    refine dl_end ?_
    refine dw_false rfl ?_
    refine dw_skip ?_
    -- region 15
    refine dw_draw 10 [] follows_mixed (by kernel_rfl) rfl rfl ?_
    refine dq_r (sem_move rfl rfl) ?_
    refine dq_r (sem_load (us := ([.i .i64 (ci (ctb a1 a2 dx dy L s k) (0 * 2))] ++ [.i .i64 (ci (ctb a1 a2 dx dy L s k) (0 * 2 + 1))])) ty34 rfl rfl rfl rfl rfl) ?_
    refine dq_r (sem_load (us := ([.i .i64 dx] ++ [.i .i64 dy])) ty34 rfl rfl rfl rfl rfl) ?_
    refine dq_r (sem_move rfl rfl) ?_
    refine dq_r (sem_move rfl rfl) ?_
    refine dq_r (sem_call rfl rfl (tStart_ok hd (hB _) (hB _) (by omega)) rfl) ?_
    refine dq_r (sem_load (us := ([.i .i64 (ci (ctb a1 a2 dx dy L s k) (0 * 2))] ++ [.i .i64 (ci (ctb a1 a2 dx dy L s k) (0 * 2 + 1))])) ty34 rfl rfl rfl rfl rfl) ?_
    refine dq_r (sem_move rfl rfl) ?_
    refine dq_r (sem_build (us := ([.i .i64 4] ++ ([.i .i64 (ci (ctb a1 a2 dx dy L s k) (0 * 2) - dx * r)] ++ [.i .i64 (ci (ctb a1 a2 dx dy L s k) (0 * 2 + 1) - dy * r)] ++ [.i .i64 z]) ++ ([.i .i64 (ci (ctb a1 a2 dx dy L s k) (0 * 2))] ++ [.i .i64 (ci (ctb a1 a2 dx dy L s k) (0 * 2 + 1))]) ++ [.i .i64 f])) fs76 zc76 rfl rfl rfl) ?_
    refine dq_r (sem_slit_D (n := 1) (us := ([.i .i64 4] ++ ([.i .i64 (ci (ctb a1 a2 dx dy L s k) (0 * 2) - dx * r)] ++ [.i .i64 (ci (ctb a1 a2 dx dy L s k) (0 * 2 + 1) - dy * r)] ++ [.i .i64 z]) ++ ([.i .i64 (ci (ctb a1 a2 dx dy L s k) (0 * 2))] ++ [.i .i64 (ci (ctb a1 a2 dx dy L s k) (0 * 2 + 1))]) ++ [.i .i64 f])) el37 rfl rfl rfl (by decide) (by decide) rfl) ?_
    refine dq_end ?_
    refine dl_start0 ?_
    refine dl_grow0 (ys := ([.i .i64 4] ++ ([.i .i64 (ci (ctb a1 a2 dx dy L s k) (0 * 2) - dx * r)] ++ [.i .i64 (ci (ctb a1 a2 dx dy L s k) (0 * 2 + 1) - dy * r)] ++ [.i .i64 z]) ++ ([.i .i64 (ci (ctb a1 a2 dx dy L s k) (0 * 2))] ++ [.i .i64 (ci (ctb a1 a2 dx dy L s k) (0 * 2 + 1))]) ++ [.i .i64 f])) el37 rfl rfl rfl (by decide) (by decide) (by decide) rfl rfl (fun cg1 rg1 hga1 hgb1 hgc1 => ?_)
    refine dl_r (sem_assign rfl rfl) ?_
    refine dl_end ?_
    -- region 16
    refine dw_region (by kernel_rfl) ?_
    refine dl_r (sem_ari (r := ((0 + 1 : Nat) : Int)) rfl rfl ((ari_i64_add (by omega) (by omega)).trans (congrArg some (by omega))) rfl) ?_
    refine dl_r (sem_move rfl rfl) ?_
    refine dl_end ?_
    exact ⟨⟨⟨0, cg1, rg1⟩, by omega, by omega, hgb1, hgc1⟩, sub_of ⟨rfl, rfl, rfl, rfl, rfl, rfl, rfl, rfl, trivial⟩ ⟨rfl, rfl, trivial⟩ rfl, by show k + 1 - 0 < k + 2; omega⟩
  · rintro ⟨⟨j, c, rs⟩, h2, h3, h4, h5⟩
    dsimp only at h2 h3 h4 h5
    show Dw _ _ ⟨105, [(18, .o 102 (2 * j + 1) c), (75, .v (.c (.i .i64 (((j + 1 : Nat) : Int))))), (2, .v (.c (.i .i64 r))), (4, .v (.c (.i .i64 z))), (5, .v (.c (.i .i64 f))), (14, .p 14 0), (73, .v (.c (.s (k + 1 + 1) (ctb a1 a2 dx dy L s k)))), (74, .v (.c (.i .i64 (((k + 1 + 1 : Nat) : Int)))))], [(14, 34, ([.i .i64 dx] ++ [.i .i64 dy])), (102, 76, pth (ctb a1 a2 dx dy L s k) dx dy r z f j ++ rs)]⟩ _
    refine dw_seq ?_
    -- region 11
    refine dw_region (by kernel_rfl) ?_
    refine dl_r (sem_cmp rfl rfl rfl rfl) ?_
    refine dl_end ?_
    refine dw_seq ?_
    refine dw_cond rfl (fun hc2 => ?_) (fun hc2 => ?_)
    · have g1 : j + 1 < k + 1 + 1 := by have := of_decide_eq_true hc2; omega
      refine dw_skip ?_
      refine dw_seq ?_
      refine dw_block ?_
      refine dw_seq ?_
      -- region 12
      refine dw_region (by kernel_rfl) ?_
      refine dl_r (sem_move rfl rfl) ?_
      refine dl_r (sem_index (us := [.i .i64 (ci (ctb a1 a2 dx dy L s k) ((j + 1) * 2))] ++ [.i .i64 (ci (ctb a1 a2 dx dy L s k) ((j + 1) * 2 + 1))] ++ (ctb a1 a2 dx dy L s k).drop ((j + 1) * 2 + 2)) sl22 rfl rfl (by omega) (ctb_len) (ci_drop2 ctb_len hJ (by omega)) rfl) ?_
      refine dl_r (sem_loadq (us := ([.i .i64 (ci (ctb a1 a2 dx dy L s k) ((j + 1) * 2))] ++ [.i .i64 (ci (ctb a1 a2 dx dy L s k) ((j + 1) * 2 + 1))])) ty34 rfl rfl rfl rfl) ?_
      refine dl_new (sem_alloc zc34 rfl) rfl ?_
      refine dl_r (sem_assign rfl rfl) ?_
      refine dl_st (sem_store_a ty34 rfl rfl rfl rfl rfl rfl) ?_
      refine dl_end ?_
      refine dw_seq ?_
      refine dw_seq ?_
      -- region 13
      refine dw_region (by kernel_rfl) ?_
      refine dl_r (sem_move rfl rfl) ?_
      refine dl_r (sem_castb (c := true) (sem_cmp rfl rfl rfl rfl) (decide_eq_true (by omega))) ?_
      refine dl_end ?_
      refine dw_true rfl ?_
      -- region 14
      refine dw_region (by kernel_rfl) ?_
      refine dl_r (sem_move rfl rfl) ?_
      refine dl_r (sem_load (us := ([.i .i64 (ci (ctb a1 a2 dx dy L s k) ((j + 1) * 2))] ++ [.i .i64 (ci (ctb a1 a2 dx dy L s k) ((j + 1) * 2 + 1))])) ty34 rfl rfl rfl rfl rfl) ?_
      refine dl_r (sem_load (us := ([.i .i64 dx] ++ [.i .i64 dy])) ty34 rfl rfl rfl rfl rfl) ?_
      refine dl_r (sem_move rfl rfl) ?_
      refine dl_r (sem_move rfl rfl) ?_
      refine dl_r (sem_call rfl rfl (tStart_ok hd (hB _) (hB _) (by omega)) rfl) ?_
      refine dl_r (sem_move rfl rfl) ?_
      refine dl_r (sem_build (us := ([.i .i64 2] ++ ([.i .i64 (ci (ctb a1 a2 dx dy L s k) ((j + 1) * 2) - dx * r)] ++ [.i .i64 (ci (ctb a1 a2 dx dy L s k) ((j + 1) * 2 + 1) - dy * r)] ++ [.i .i64 z]) ++ ([.i .i64 0] ++ [.i .i64 0]) ++ [.i .i64 f])) fs76 zc76 rfl rfl rfl) ?_
      refine dl_r (sem_slit_D (n := 1) (us := ([.i .i64 2] ++ ([.i .i64 (ci (ctb a1 a2 dx dy L s k) ((j + 1) * 2) - dx * r)] ++ [.i .i64 (ci (ctb a1 a2 dx dy L s k) ((j + 1) * 2 + 1) - dy * r)] ++ [.i .i64 z]) ++ ([.i .i64 0] ++ [.i .i64 0]) ++ [.i .i64 f])) el37 rfl rfl rfl (by decide) (by decide) rfl) ?_
      refine dl_grow (us := pth (ctb a1 a2 dx dy L s k) dx dy r z f j) (rest := rs) (ys := ([.i .i64 2] ++ ([.i .i64 (ci (ctb a1 a2 dx dy L s k) ((j + 1) * 2) - dx * r)] ++ [.i .i64 (ci (ctb a1 a2 dx dy L s k) ((j + 1) * 2 + 1) - dy * r)] ++ [.i .i64 z]) ++ ([.i .i64 0] ++ [.i .i64 0]) ++ [.i .i64 f])) el37 rfl rfl rfl (by first | exact pth_len _ | (rw [List.length_append, pth_len]; show _ + 7 = _; omega)) (by assumption) rfl (by decide) (by omega) (by assumption) (by omega) (g_max (by omega)) (.inr rfl) rfl (fun cg3 rg3 hga3 hgb3 hgc3 => ?_)
      refine dl_r (sem_assign rfl rfl) ?_
      refine dl_end ?_
      -- region 15
      refine dw_draw 10 [] follows_mixed (by kernel_rfl) rfl rfl ?_
      refine dq_r (sem_move rfl rfl) ?_
      refine dq_r (sem_load (us := ([.i .i64 (ci (ctb a1 a2 dx dy L s k) ((j + 1) * 2))] ++ [.i .i64 (ci (ctb a1 a2 dx dy L s k) ((j + 1) * 2 + 1))])) ty34 rfl rfl rfl rfl rfl) ?_
      refine dq_r (sem_load (us := ([.i .i64 dx] ++ [.i .i64 dy])) ty34 rfl rfl rfl rfl rfl) ?_
      refine dq_r (sem_move rfl rfl) ?_
      refine dq_r (sem_move rfl rfl) ?_
      refine dq_r (sem_call rfl rfl (tStart_ok hd (hB _) (hB _) (by omega)) rfl) ?_
      refine dq_r (sem_load (us := ([.i .i64 (ci (ctb a1 a2 dx dy L s k) ((j + 1) * 2))] ++ [.i .i64 (ci (ctb a1 a2 dx dy L s k) ((j + 1) * 2 + 1))])) ty34 rfl rfl rfl rfl rfl) ?_
      refine dq_r (sem_move rfl rfl) ?_
      refine dq_r (sem_build (us := ([.i .i64 4] ++ ([.i .i64 (ci (ctb a1 a2 dx dy L s k) ((j + 1) * 2) - dx * r)] ++ [.i .i64 (ci (ctb a1 a2 dx dy L s k) ((j + 1) * 2 + 1) - dy * r)] ++ [.i .i64 z]) ++ ([.i .i64 (ci (ctb a1 a2 dx dy L s k) ((j + 1) * 2))] ++ [.i .i64 (ci (ctb a1 a2 dx dy L s k) ((j + 1) * 2 + 1))]) ++ [.i .i64 f])) fs76 zc76 rfl rfl rfl) ?_
      refine dq_r (sem_slit_D (n := 1) (us := ([.i .i64 4] ++ ([.i .i64 (ci (ctb a1 a2 dx dy L s k) ((j + 1) * 2) - dx * r)] ++ [.i .i64 (ci (ctb a1 a2 dx dy L s k) ((j + 1) * 2 + 1) - dy * r)] ++ [.i .i64 z]) ++ ([.i .i64 (ci (ctb a1 a2 dx dy L s k) ((j + 1) * 2))] ++ [.i .i64 (ci (ctb a1 a2 dx dy L s k) ((j + 1) * 2 + 1))]) ++ [.i .i64 f])) el37 rfl rfl rfl (by decide) (by decide) rfl) ?_
      refine dq_end ?_
      refine dl_start0 ?_
      refine dl_grow (us := pth (ctb a1 a2 dx dy L s k) dx dy r z f j ++ (([.i .i64 2] ++ ([.i .i64 (ci (ctb a1 a2 dx dy L s k) ((j + 1) * 2) - dx * r)] ++ [.i .i64 (ci (ctb a1 a2 dx dy L s k) ((j + 1) * 2 + 1) - dy * r)] ++ [.i .i64 z]) ++ ([.i .i64 0] ++ [.i .i64 0]) ++ [.i .i64 f]))) (rest := rg3) (ys := ([.i .i64 4] ++ ([.i .i64 (ci (ctb a1 a2 dx dy L s k) ((j + 1) * 2) - dx * r)] ++ [.i .i64 (ci (ctb a1 a2 dx dy L s k) ((j + 1) * 2 + 1) - dy * r)] ++ [.i .i64 z]) ++ ([.i .i64 (ci (ctb a1 a2 dx dy L s k) ((j + 1) * 2))] ++ [.i .i64 (ci (ctb a1 a2 dx dy L s k) ((j + 1) * 2 + 1))]) ++ [.i .i64 f])) el37 rfl rfl rfl (by first | exact pth_len _ | (rw [List.length_append, pth_len]; show _ + 7 = _; omega)) (by assumption) rfl (by decide) (by omega) (by assumption) (by omega) (g_max (by omega)) (.inr rfl) rfl (fun cg4 rg4 hga4 hgb4 hgc4 => ?_)
      refine dl_r (sem_assign rfl rfl) ?_
      refine dl_end ?_
      -- region 16
      refine dw_region (by kernel_rfl) ?_
      refine dl_r (sem_ari (r := ((j + 1 + 1 : Nat) : Int)) rfl rfl ((ari_i64_add (by omega) (by omega)).trans (congrArg some (by omega))) rfl) ?_
      refine dl_r (sem_move rfl rfl) ?_
      refine dl_end ?_
      exact ⟨⟨⟨j + 1, cg4, rg4⟩, by show j + 1 ≤ k + 1; omega, by show 2 * (j + 1) + 1 ≤ cg4; omega, hgb4, by show _ = (cg4 - (2 * (j + 1) + 1)) * 7; omega⟩, sub_of ⟨rfl, rfl, rfl, rfl, rfl, rfl, rfl, rfl, trivial⟩ ⟨rfl, rfl, trivial⟩ rfl, by show k + 1 - (j + 1) < k + 1 - j; omega⟩
    · have hj : k + 1 = j := by have := of_decide_eq_false hc2; omega
      refine dw_exit ?_
      refine dw_seq ?_
      -- region 17
      refine dw_region (by kernel_rfl) ?_
      refine dl_r (sem_move rfl rfl) ?_
      refine dl_r (sem_assign rfl rfl) ?_
      refine dl_r (sem_assign rfl rfl) ?_
      refine dl_end ?_
      refine dw_release (t := 12) (m := 7) (us := pth (ctb a1 a2 dx dy L s k) dx dy r z f j) rfl rfl (g_len (n := 2 * j + 1) (by first | exact pth_len _ | (rw [List.length_append, pth_len]; show _ + 7 = _; omega)) (by assumption) (by omega)) (by omega) (by assumption) (g_take (by first | exact pth_len _ | (rw [List.length_append, pth_len]; show _ + 7 = _; omega))) ?_
      refine dw_ret ?_
      -- path LF
      rw [hj]
      exact ⟨.inr rfl, (resL_tmp rfl (resL_tmp rfl resL_nil))⟩
theorem tS_1 {a1 a2 b1 b2 r z : Int} (hA : dok a1 a2 b1 b2 = false ∨ r ≤ 0) : Ok Tryz.prog 27 [.a ([.i .i64 a1] ++ [.i .i64 a2]), .a ([.i .i64 b1] ++ [.i .i64 b2]), .c (.i .i64 r), .c (.i .i64 z)] [.a ([.i .i64 0] ++ [.i .i64 0] ++ [.i .i64 0]), .c (.i .i64 1)] := by
  refine Ok.of (by kernel_rfl) Tryz.func27 rfl rfl ?_
  rw [show Tryz.f27.ntmps = 47 from rfl, show Tryz.f27.results.toList = [.cell 8 62, .tmp 9] from rfl]
  refine dw_seq ?_
  -- region 0
  refine dw_region (by kernel_rfl) ?_
  refine dl_new (sem_box_a rfl rfl) rfl ?_
  refine dl_new (sem_box_a rfl rfl) rfl ?_
  refine dl_new (sem_alloc zc62 rfl) rfl ?_
  refine dl_r (sem_assign rfl rfl) ?_
  refine dl_end ?_
  refine dw_seq ?_
  -- region 1
  refine dw_region (by kernel_rfl) ?_
  refine dl_r (sem_load (us := ([.i .i64 a1] ++ [.i .i64 a2])) ty34 rfl rfl rfl rfl rfl) ?_
  refine dl_r (sem_load (us := ([.i .i64 b1] ++ [.i .i64 b2])) ty34 rfl rfl rfl rfl rfl) ?_
  refine dl_r (sem_call rfl rfl (tDir_ok) rfl) ?_
  refine dl_r (sem_move rfl rfl) ?_
  refine dl_r (sem_extract rfl rfl rfl) ?_
  refine dl_r (sem_extract rfl rfl rfl) ?_
  refine dl_new (sem_alloc zc34 rfl) rfl ?_
  refine dl_st (sem_store_a ty34 rfl rfl rfl rfl rfl rfl) ?_
  refine dl_r (sem_assign rfl rfl) ?_
  refine dl_end ?_
  refine dw_seq ?_
  refine dw_seq ?_
  -- region 2
  refine dw_region (by kernel_rfl) ?_
  refine dl_r (sem_move rfl rfl) ?_
  refine dl_r (sem_not rfl rfl) ?_
  refine dl_rb (sem_move rfl rfl) (fun c1 hb1 => ?_)
  cases c1
  · refine dl_r (sem_move rfl rfl) ?_
    refine dl_r (sem_cmp rfl rfl rfl rfl) ?_
    refine dl_r (sem_pick rfl rfl rfl rfl) ?_
    refine dl_end ?_
    refine dw_cond rfl (fun hc2 => ?_) (fun hc2 => ?_)
    · refine dw_seq ?_
      -- region 3
      refine dw_region (by kernel_rfl) ?_
      refine dl_r (sem_build (us := ([.i .i64 0] ++ [.i .i64 0] ++ [.i .i64 0])) fs62 zc62 rfl rfl rfl) ?_
      refine dl_st (sem_store_a ty62 rfl rfl rfl rfl rfl rfl) ?_
      refine dl_r (sem_assign rfl rfl) ?_
      refine dl_end ?_
      refine dw_ret ?_
      -- path fT
      exact ⟨.inr rfl, (resL_cell (us := ([.i .i64 0] ++ [.i .i64 0] ++ [.i .i64 0])) ty62 rfl rfl rfl rfl (resL_tmp rfl resL_nil))⟩
    · rcases hA with h | h
      · simp [h] at hb1
      · exact absurd (show r ≤ 0 by omega) (of_decide_eq_false hc2)
  · refine dl_skip (sem_skip rfl) ?_
    refine dl_skip (sem_skip rfl) ?_
    refine dl_r (sem_pick rfl rfl rfl rfl) ?_
    refine dl_end ?_
    refine dw_true rfl ?_
    refine dw_seq ?_
    -- region 3
    refine dw_region (by kernel_rfl) ?_
    refine dl_r (sem_build (us := ([.i .i64 0] ++ [.i .i64 0] ++ [.i .i64 0])) fs62 zc62 rfl rfl rfl) ?_
    refine dl_st (sem_store_a ty62 rfl rfl rfl rfl rfl rfl) ?_
    refine dl_r (sem_assign rfl rfl) ?_
    refine dl_end ?_
    refine dw_ret ?_
    -- path t
    exact ⟨.inr rfl, (resL_cell (us := ([.i .i64 0] ++ [.i .i64 0] ++ [.i .i64 0])) ty62 rfl rfl rfl rfl (resL_tmp rfl resL_nil))⟩
theorem tS_11 {a1 a2 b1 b2 r z : Int} (hok : dok a1 a2 b1 b2 = true) (hr : 1 ≤ r) (hB : rnd a1 a2 r = false ∨ rnd b1 b2 r = false ∨ far z = true) : Ok Tryz.prog 27 [.a ([.i .i64 a1] ++ [.i .i64 a2]), .a ([.i .i64 b1] ++ [.i .i64 b2]), .c (.i .i64 r), .c (.i .i64 z)] [.a ([.i .i64 0] ++ [.i .i64 0] ++ [.i .i64 0]), .c (.i .i64 11)] := by
  refine Ok.of (by kernel_rfl) Tryz.func27 rfl rfl ?_
  rw [show Tryz.f27.ntmps = 47 from rfl, show Tryz.f27.results.toList = [.cell 8 62, .tmp 9] from rfl]
  refine dw_seq ?_
  -- region 0
  refine dw_region (by kernel_rfl) ?_
  refine dl_new (sem_box_a rfl rfl) rfl ?_
  refine dl_new (sem_box_a rfl rfl) rfl ?_
  refine dl_new (sem_alloc zc62 rfl) rfl ?_
  refine dl_r (sem_assign rfl rfl) ?_
  refine dl_end ?_
  refine dw_seq ?_
  -- region 1
  refine dw_region (by kernel_rfl) ?_
  refine dl_r (sem_load (us := ([.i .i64 a1] ++ [.i .i64 a2])) ty34 rfl rfl rfl rfl rfl) ?_
  refine dl_r (sem_load (us := ([.i .i64 b1] ++ [.i .i64 b2])) ty34 rfl rfl rfl rfl rfl) ?_
  refine dl_r (sem_call rfl rfl (icast2b tDir_ok rfl rfl hok) rfl) ?_
  refine dl_r (sem_move rfl rfl) ?_
  refine dl_r (sem_extract rfl rfl rfl) ?_
  refine dl_r (sem_extract rfl rfl rfl) ?_
  refine dl_new (sem_alloc zc34 rfl) rfl ?_
  refine dl_st (sem_store_a ty34 rfl rfl rfl rfl rfl rfl) ?_
  refine dl_r (sem_assign rfl rfl) ?_
  refine dl_end ?_
  refine dw_seq ?_
  refine dw_seq ?_
  -- region 2
  refine dw_region (by kernel_rfl) ?_
  refine dl_r (sem_move rfl rfl) ?_
  refine dl_r (sem_not rfl rfl) ?_
  refine dl_r (sem_move rfl rfl) ?_
  refine dl_r (sem_move rfl rfl) ?_
  refine dl_r (sem_castb (c := false) (sem_cmp rfl rfl rfl rfl) (decide_eq_false (by omega))) ?_
  refine dl_r (sem_pick rfl rfl rfl rfl) ?_
  refine dl_end ?_
  refine dw_false rfl ?_
  refine dw_skip ?_
  refine dw_seq ?_
  refine dw_seq ?_
  -- region 4
  refine dw_region (by kernel_rfl) ?_
  refine dl_r (sem_load (us := ([.i .i64 a1] ++ [.i .i64 a2])) ty34 rfl rfl rfl rfl rfl) ?_
  refine dl_r (sem_move rfl rfl) ?_
  refine dl_r (sem_call rfl rfl (tRound_ok (by omega)) rfl) ?_
  refine dl_r (sem_not rfl rfl) ?_
  refine dl_rb (sem_move rfl rfl) (fun c1 hb1 => ?_)
  cases c1
  · refine dl_r (sem_load (us := ([.i .i64 b1] ++ [.i .i64 b2])) ty34 rfl rfl rfl rfl rfl) ?_
    refine dl_r (sem_move rfl rfl) ?_
    refine dl_r (sem_call rfl rfl (tRound_ok (by omega)) rfl) ?_
    refine dl_r (sem_not rfl rfl) ?_
    refine dl_r (sem_pick rfl rfl rfl rfl) ?_
    refine dl_rb (sem_move rfl rfl) (fun c2 hb2 => ?_)
    cases c2
    · refine dl_r (sem_move rfl rfl) ?_
      refine dl_r (sem_slit_D (n := 1) (us := [.i .i64 z]) el95 rfl rfl rfl (by decide) (by decide) rfl) ?_
      refine dl_r (sem_call rfl rfl (tGrid1) rfl) ?_
      refine dl_r (sem_not rfl rfl) ?_
      refine dl_r (sem_pick rfl rfl rfl rfl) ?_
      refine dl_end ?_
      refine dw_cond rfl (fun hc3 => ?_) (fun hc3 => ?_)
      · refine dw_seq ?_
        -- region 5
        refine dw_region (by kernel_rfl) ?_
        refine dl_r (sem_build (us := ([.i .i64 0] ++ [.i .i64 0] ++ [.i .i64 0])) fs62 zc62 rfl rfl rfl) ?_
        refine dl_st (sem_store_a ty62 rfl rfl rfl rfl rfl rfl) ?_
        refine dl_r (sem_assign rfl rfl) ?_
        refine dl_end ?_
        refine dw_ret ?_
        -- path ffT
        exact ⟨.inr rfl, (resL_cell (us := ([.i .i64 0] ++ [.i .i64 0] ++ [.i .i64 0])) ty62 rfl rfl rfl rfl (resL_tmp rfl resL_nil))⟩
      · rcases hB with h | h | h
        · simp [h] at hb1
        · simp [h] at hb2
        · simp [h] at hc3
    · refine dl_skip (sem_skip rfl) ?_
      refine dl_skip (sem_skip rfl) ?_
      refine dl_skip (sem_skip rfl) ?_
      refine dl_skip (sem_skip rfl) ?_
      refine dl_r (sem_pick rfl rfl rfl rfl) ?_
      refine dl_end ?_
      refine dw_true rfl ?_
      refine dw_seq ?_
      -- region 5
      refine dw_region (by kernel_rfl) ?_
      refine dl_r (sem_build (us := ([.i .i64 0] ++ [.i .i64 0] ++ [.i .i64 0])) fs62 zc62 rfl rfl rfl) ?_
      refine dl_st (sem_store_a ty62 rfl rfl rfl rfl rfl rfl) ?_
      refine dl_r (sem_assign rfl rfl) ?_
      refine dl_end ?_
      refine dw_ret ?_
      -- path ft
      exact ⟨.inr rfl, (resL_cell (us := ([.i .i64 0] ++ [.i .i64 0] ++ [.i .i64 0])) ty62 rfl rfl rfl rfl (resL_tmp rfl resL_nil))⟩
  · refine dl_skip (sem_skip rfl) ?_
    refine dl_skip (sem_skip rfl) ?_
    refine dl_skip (sem_skip rfl) ?_
    refine dl_skip (sem_skip rfl) ?_
    refine dl_r (sem_pick rfl rfl rfl rfl) ?_
    refine dl_r (sem_move rfl rfl) ?_
    refine dl_skip (sem_skip rfl) ?_
    refine dl_skip (sem_skip rfl) ?_
    refine dl_skip (sem_skip rfl) ?_
    refine dl_skip (sem_skip rfl) ?_
    refine dl_r (sem_pick rfl rfl rfl rfl) ?_
    refine dl_end ?_
    refine dw_true rfl ?_
    refine dw_seq ?_
    -- region 5
    refine dw_region (by kernel_rfl) ?_
    refine dl_r (sem_build (us := ([.i .i64 0] ++ [.i .i64 0] ++ [.i .i64 0])) fs62 zc62 rfl rfl rfl) ?_
    refine dl_st (sem_store_a ty62 rfl rfl rfl rfl rfl rfl) ?_
    refine dl_r (sem_assign rfl rfl) ?_
    refine dl_end ?_
    refine dw_ret ?_
    -- path t
    exact ⟨.inr rfl, (resL_cell (us := ([.i .i64 0] ++ [.i .i64 0] ++ [.i .i64 0])) ty62 rfl rfl rfl rfl (resL_tmp rfl resL_nil))⟩
theorem tS_ok {a1 a2 L dx dy r z : Int} (hL : 1 ≤ L) (hd : Dir dx dy) (hr : 1 ≤ r) (q1 : rnd a1 a2 r = true) (q2 : rnd (a1 + L * dx) (a2 + L * dy) r = true) (q3 : far z = false)  : Ok Tryz.prog 27 [.a ([.i .i64 a1] ++ [.i .i64 a2]), .a ([.i .i64 (a1 + L * dx)] ++ [.i .i64 (a2 + L * dy)]), .c (.i .i64 r), .c (.i .i64 z)] [.a ([.i .i64 (a1 - dx * r)] ++ [.i .i64 (a2 - dy * r)] ++ [.i .i64 z]), .c (.i .i64 0)] := by
  have g1 := (rnd_iff _ _ _).1 q1
  have g2 := (rnd_iff _ _ _).1 q2
  have r1 : -10000000 ≤ a1 ∧ a1 ≤ 10000000 := by omega
  have r2 : -10000000 ≤ a2 ∧ a2 ≤ 10000000 := by omega
  have r3 : -10000000 ≤ a1 + L * dx ∧ a1 + L * dx ≤ 10000000 := by omega
  have r4 : -10000000 ≤ a2 + L * dy ∧ a2 + L * dy ≤ 10000000 := by omega
  refine Ok.of (by kernel_rfl) Tryz.func27 rfl rfl ?_
  rw [show Tryz.f27.ntmps = 47 from rfl, show Tryz.f27.results.toList = [.cell 8 62, .tmp 9] from rfl]
  refine dw_seq ?_
  -- region 0
  refine dw_region (by kernel_rfl) ?_
  refine dl_new (sem_box_a rfl rfl) rfl ?_
  refine dl_new (sem_box_a rfl rfl) rfl ?_
  refine dl_new (sem_alloc zc62 rfl) rfl ?_
  refine dl_r (sem_assign rfl rfl) ?_
  refine dl_end ?_
  refine dw_seq ?_
  -- region 1
  refine dw_region (by kernel_rfl) ?_
  refine dl_r (sem_load (us := ([.i .i64 a1] ++ [.i .i64 a2])) ty34 rfl rfl rfl rfl rfl) ?_
  refine dl_r (sem_load (us := ([.i .i64 (a1 + L * dx)] ++ [.i .i64 (a2 + L * dy)])) ty34 rfl rfl rfl rfl rfl) ?_
  refine dl_r (sem_call rfl rfl (icast2b tDir_ok (dsg_dir hL hd.x) (dsg_dir hL hd.y) (dok_dir hL hd)) rfl) ?_
  refine dl_r (sem_move rfl rfl) ?_
  refine dl_r (sem_extract rfl rfl rfl) ?_
  refine dl_r (sem_extract rfl rfl rfl) ?_
  refine dl_new (sem_alloc zc34 rfl) rfl ?_
  refine dl_st (sem_store_a ty34 rfl rfl rfl rfl rfl rfl) ?_
  refine dl_r (sem_assign rfl rfl) ?_
  refine dl_end ?_
  refine dw_seq ?_
  refine dw_seq ?_
  -- region 2
  refine dw_region (by kernel_rfl) ?_
  refine dl_r (sem_move rfl rfl) ?_
  refine dl_r (sem_not rfl rfl) ?_
  refine dl_r (sem_move rfl rfl) ?_
  refine dl_r (sem_move rfl rfl) ?_
  refine dl_r (sem_castb (c := false) (sem_cmp rfl rfl rfl rfl) (decide_eq_false (by omega))) ?_
  refine dl_r (sem_pick rfl rfl rfl rfl) ?_
  refine dl_end ?_
  refine dw_false rfl ?_
  refine dw_skip ?_
  refine dw_seq ?_
  refine dw_seq ?_
  -- region 4
  refine dw_region (by kernel_rfl) ?_
  refine dl_r (sem_load (us := ([.i .i64 a1] ++ [.i .i64 a2])) ty34 rfl rfl rfl rfl rfl) ?_
  refine dl_r (sem_move rfl rfl) ?_
  refine dl_r (sem_call rfl rfl (rcastb (tRound_ok (by omega)) q1) rfl) ?_
  refine dl_r (sem_not rfl rfl) ?_
  refine dl_r (sem_move rfl rfl) ?_
  refine dl_r (sem_load (us := ([.i .i64 (a1 + L * dx)] ++ [.i .i64 (a2 + L * dy)])) ty34 rfl rfl rfl rfl rfl) ?_
  refine dl_r (sem_move rfl rfl) ?_
  refine dl_r (sem_call rfl rfl (rcastb (tRound_ok (by omega)) q2) rfl) ?_
  refine dl_r (sem_not rfl rfl) ?_
  refine dl_r (sem_pick rfl rfl rfl rfl) ?_
  refine dl_r (sem_move rfl rfl) ?_
  refine dl_r (sem_move rfl rfl) ?_
  refine dl_r (sem_slit_D (n := 1) (us := [.i .i64 z]) el95 rfl rfl rfl (by decide) (by decide) rfl) ?_
  refine dl_r (sem_call rfl rfl (rcastb tGrid1 (show (!far z) = true from by rw [q3, Bool.not_false])) rfl) ?_
  refine dl_r (sem_not rfl rfl) ?_
  refine dl_r (sem_pick rfl rfl rfl rfl) ?_
  refine dl_end ?_
  refine dw_false rfl ?_
  refine dw_skip ?_
  refine dw_seq ?_
  -- region 6
  refine dw_region (by kernel_rfl) ?_
  refine dl_r (sem_load (us := ([.i .i64 a1] ++ [.i .i64 a2])) ty34 rfl rfl rfl rfl rfl) ?_
  refine dl_r (sem_load (us := ([.i .i64 dx] ++ [.i .i64 dy])) ty34 rfl rfl rfl rfl rfl) ?_
  refine dl_r (sem_move rfl rfl) ?_
  refine dl_r (sem_move rfl rfl) ?_
  refine dl_r (sem_call rfl rfl (tStart_ok hd (by omega) (by omega) (by omega)) rfl) ?_
  refine dl_st (sem_store_a ty62 rfl rfl rfl rfl rfl rfl) ?_
  refine dl_r (sem_assign rfl rfl) ?_
  refine dl_end ?_
  refine dw_ret ?_
  -- path 
  exact ⟨.inr rfl, (resL_cell (us := ([.i .i64 (a1 - dx * r)] ++ [.i .i64 (a2 - dy * r)] ++ [.i .i64 z])) ty62 rfl rfl rfl rfl (resL_tmp rfl resL_nil))⟩
end Go.Proofs.YtonjlikaacengaaGreat
/- Paths and their start: the reference; equal lists. -/
namespace Go.Proofs.YtonjlikaacengaaGreat
open Go Go.RowKit
theorem rP_1 {a1 a2 b1 b2 r s z f : Int} (hA : dok a1 a2 b1 b2 = false ∨ r ≤ 0 ∨ s ≤ 0 ∨ f ≤ 0 ∨ s > r) : Ok Tryz.prog 39 [.a ([.i .i64 a1] ++ [.i .i64 a2]), .a ([.i .i64 b1] ++ [.i .i64 b2]), .c (.i .i64 r), .c (.i .i64 s), .c (.i .i64 z), .c (.i .i64 f)] [.c (.s 0 []), .c (.i .i64 1)] := by
  refine Ok.of (by kernel_rfl) Tryz.func39 rfl rfl ?_
  rw [show Tryz.f39.ntmps = 108 from rfl, show Tryz.f39.results.toList = [.tmp 12, .tmp 13] from rfl]
  refine dw_seq ?_
  -- region 0
  refine dw_region (by kernel_rfl) ?_
  refine dl_new (sem_box_a rfl rfl) rfl ?_
  refine dl_new (sem_box_a rfl rfl) rfl ?_
  refine dl_r (sem_assign rfl rfl) ?_
  refine dl_r (sem_assign rfl rfl) ?_
  refine dl_end ?_
  refine dw_seq ?_
  refine dw_seq ?_
  -- region 1
  refine dw_region (by kernel_rfl) ?_
  refine dl_r (sem_load (us := ([.i .i64 a1] ++ [.i .i64 a2])) ty34 rfl rfl rfl rfl rfl) ?_
  refine dl_r (sem_load (us := ([.i .i64 b1] ++ [.i .i64 b2])) ty34 rfl rfl rfl rfl rfl) ?_
  refine dl_r (sem_call rfl rfl (rDir_ok) rfl) ?_
  refine dl_r (sem_move rfl rfl) ?_
  refine dl_r (sem_extract rfl rfl rfl) ?_
  refine dl_r (sem_extract rfl rfl rfl) ?_
  refine dl_new (sem_alloc zc34 rfl) rfl ?_
  refine dl_st (sem_store_a ty34 rfl rfl rfl rfl rfl rfl) ?_
  refine dl_r (sem_assign rfl rfl) ?_
  refine dl_end ?_
  refine dw_seq ?_
  -- region 2
  refine dw_region (by kernel_rfl) ?_
  refine dl_r (sem_move rfl rfl) ?_
  refine dl_r (sem_not rfl rfl) ?_
  refine dl_rb (sem_move rfl rfl) (fun c1 hb1 => ?_)
  cases c1
  · refine dl_r (sem_move rfl rfl) ?_
    refine dl_r (sem_cmp rfl rfl rfl rfl) ?_
    refine dl_r (sem_pick rfl rfl rfl rfl) ?_
    refine dl_rb (sem_move rfl rfl) (fun c2 hb2 => ?_)
    cases c2
    · refine dl_r (sem_move rfl rfl) ?_
      refine dl_r (sem_cmp rfl rfl rfl rfl) ?_
      refine dl_r (sem_pick rfl rfl rfl rfl) ?_
      refine dl_rb (sem_move rfl rfl) (fun c3 hb3 => ?_)
      cases c3
      · refine dl_r (sem_move rfl rfl) ?_
        refine dl_r (sem_cmp rfl rfl rfl rfl) ?_
        refine dl_r (sem_pick rfl rfl rfl rfl) ?_
        refine dl_rb (sem_move rfl rfl) (fun c4 hb4 => ?_)
        cases c4
        · refine dl_r (sem_move rfl rfl) ?_
          refine dl_r (sem_move rfl rfl) ?_
          refine dl_r (sem_cmp rfl rfl rfl rfl) ?_
          refine dl_r (sem_pick rfl rfl rfl rfl) ?_
          refine dl_end ?_
          refine dw_cond rfl (fun hc5 => ?_) (fun hc5 => ?_)
          · refine dw_seq ?_
            -- region 3
            refine dw_region (by kernel_rfl) ?_
            refine dl_r (sem_assign rfl rfl) ?_
            refine dl_r (sem_assign rfl rfl) ?_
            refine dl_end ?_
            refine dw_ret ?_
            -- path ffffT
            exact ⟨.inr rfl, (resL_tmp rfl (resL_tmp rfl resL_nil))⟩
          · rcases hA with h | h | h | h | h
            · simp [h] at hb1
            · exact absurd (show r < 1 by omega) (of_decide_eq_false hb2)
            · exact absurd (show s < 1 by omega) (of_decide_eq_false hb3)
            · exact absurd (show f < 1 by omega) (of_decide_eq_false hb4)
            · exact absurd (show s > r by omega) (of_decide_eq_false hc5)
        · refine dl_skip (sem_skip rfl) ?_
          refine dl_skip (sem_skip rfl) ?_
          refine dl_skip (sem_skip rfl) ?_
          refine dl_r (sem_pick rfl rfl rfl rfl) ?_
          refine dl_end ?_
          refine dw_true rfl ?_
          refine dw_seq ?_
          -- region 3
          refine dw_region (by kernel_rfl) ?_
          refine dl_r (sem_assign rfl rfl) ?_
          refine dl_r (sem_assign rfl rfl) ?_
          refine dl_end ?_
          refine dw_ret ?_
          -- path ffft
          exact ⟨.inr rfl, (resL_tmp rfl (resL_tmp rfl resL_nil))⟩
      · refine dl_skip (sem_skip rfl) ?_
        refine dl_skip (sem_skip rfl) ?_
        refine dl_r (sem_pick rfl rfl rfl rfl) ?_
        refine dl_r (sem_move rfl rfl) ?_
        refine dl_skip (sem_skip rfl) ?_
        refine dl_skip (sem_skip rfl) ?_
        refine dl_skip (sem_skip rfl) ?_
        refine dl_r (sem_pick rfl rfl rfl rfl) ?_
        refine dl_end ?_
        refine dw_true rfl ?_
        refine dw_seq ?_
        -- region 3
        refine dw_region (by kernel_rfl) ?_
        refine dl_r (sem_assign rfl rfl) ?_
        refine dl_r (sem_assign rfl rfl) ?_
        refine dl_end ?_
        refine dw_ret ?_
        -- path fft
        exact ⟨.inr rfl, (resL_tmp rfl (resL_tmp rfl resL_nil))⟩
    · refine dl_skip (sem_skip rfl) ?_
      refine dl_skip (sem_skip rfl) ?_
      refine dl_r (sem_pick rfl rfl rfl rfl) ?_
      refine dl_r (sem_move rfl rfl) ?_
      refine dl_skip (sem_skip rfl) ?_
      refine dl_skip (sem_skip rfl) ?_
      refine dl_r (sem_pick rfl rfl rfl rfl) ?_
      refine dl_r (sem_move rfl rfl) ?_
      refine dl_skip (sem_skip rfl) ?_
      refine dl_skip (sem_skip rfl) ?_
      refine dl_skip (sem_skip rfl) ?_
      refine dl_r (sem_pick rfl rfl rfl rfl) ?_
      refine dl_end ?_
      refine dw_true rfl ?_
      refine dw_seq ?_
      -- region 3
      refine dw_region (by kernel_rfl) ?_
      refine dl_r (sem_assign rfl rfl) ?_
      refine dl_r (sem_assign rfl rfl) ?_
      refine dl_end ?_
      refine dw_ret ?_
      -- path ft
      exact ⟨.inr rfl, (resL_tmp rfl (resL_tmp rfl resL_nil))⟩
  · refine dl_skip (sem_skip rfl) ?_
    refine dl_skip (sem_skip rfl) ?_
    refine dl_r (sem_pick rfl rfl rfl rfl) ?_
    refine dl_r (sem_move rfl rfl) ?_
    refine dl_skip (sem_skip rfl) ?_
    refine dl_skip (sem_skip rfl) ?_
    refine dl_r (sem_pick rfl rfl rfl rfl) ?_
    refine dl_r (sem_move rfl rfl) ?_
    refine dl_skip (sem_skip rfl) ?_
    refine dl_skip (sem_skip rfl) ?_
    refine dl_r (sem_pick rfl rfl rfl rfl) ?_
    refine dl_r (sem_move rfl rfl) ?_
    refine dl_skip (sem_skip rfl) ?_
    refine dl_skip (sem_skip rfl) ?_
    refine dl_skip (sem_skip rfl) ?_
    refine dl_r (sem_pick rfl rfl rfl rfl) ?_
    refine dl_end ?_
    refine dw_true rfl ?_
    refine dw_seq ?_
    -- region 3
    refine dw_region (by kernel_rfl) ?_
    refine dl_r (sem_assign rfl rfl) ?_
    refine dl_r (sem_assign rfl rfl) ?_
    refine dl_end ?_
    refine dw_ret ?_
    -- path t
    exact ⟨.inr rfl, (resL_tmp rfl (resL_tmp rfl resL_nil))⟩
theorem rP_11 {a1 a2 b1 b2 r s z f : Int} (hok : dok a1 a2 b1 b2 = true) (hr : 1 ≤ r) (hs : 1 ≤ s) (hf : 1 ≤ f) (hsr : s ≤ r) (hE : chkE a1 a2 b1 b2 r z = 11) : Ok Tryz.prog 39 [.a ([.i .i64 a1] ++ [.i .i64 a2]), .a ([.i .i64 b1] ++ [.i .i64 b2]), .c (.i .i64 r), .c (.i .i64 s), .c (.i .i64 z), .c (.i .i64 f)] [.c (.s 0 []), .c (.i .i64 11)] := by
  refine Ok.of (by kernel_rfl) Tryz.func39 rfl rfl ?_
  rw [show Tryz.f39.ntmps = 108 from rfl, show Tryz.f39.results.toList = [.tmp 12, .tmp 13] from rfl]
  refine dw_seq ?_
  -- region 0
  refine dw_region (by kernel_rfl) ?_
  refine dl_new (sem_box_a rfl rfl) rfl ?_
  refine dl_new (sem_box_a rfl rfl) rfl ?_
  refine dl_r (sem_assign rfl rfl) ?_
  refine dl_r (sem_assign rfl rfl) ?_
  refine dl_end ?_
  refine dw_seq ?_
  refine dw_seq ?_
  -- region 1
  refine dw_region (by kernel_rfl) ?_
  refine dl_r (sem_load (us := ([.i .i64 a1] ++ [.i .i64 a2])) ty34 rfl rfl rfl rfl rfl) ?_
  refine dl_r (sem_load (us := ([.i .i64 b1] ++ [.i .i64 b2])) ty34 rfl rfl rfl rfl rfl) ?_
  refine dl_r (sem_call rfl rfl (icast2b rDir_ok rfl rfl hok) rfl) ?_
  refine dl_r (sem_move rfl rfl) ?_
  refine dl_r (sem_extract rfl rfl rfl) ?_
  refine dl_r (sem_extract rfl rfl rfl) ?_
  refine dl_new (sem_alloc zc34 rfl) rfl ?_
  refine dl_st (sem_store_a ty34 rfl rfl rfl rfl rfl rfl) ?_
  refine dl_r (sem_assign rfl rfl) ?_
  refine dl_end ?_
  refine dw_seq ?_
  -- region 2
  refine dw_region (by kernel_rfl) ?_
  refine dl_r (sem_move rfl rfl) ?_
  refine dl_r (sem_not rfl rfl) ?_
  refine dl_r (sem_move rfl rfl) ?_
  refine dl_r (sem_move rfl rfl) ?_
  refine dl_r (sem_castb (c := false) (sem_cmp rfl rfl rfl rfl) (decide_eq_false (by omega))) ?_
  refine dl_r (sem_pick rfl rfl rfl rfl) ?_
  refine dl_r (sem_move rfl rfl) ?_
  refine dl_r (sem_move rfl rfl) ?_
  refine dl_r (sem_castb (c := false) (sem_cmp rfl rfl rfl rfl) (decide_eq_false (by omega))) ?_
  refine dl_r (sem_pick rfl rfl rfl rfl) ?_
  refine dl_r (sem_move rfl rfl) ?_
  refine dl_r (sem_move rfl rfl) ?_
  refine dl_r (sem_castb (c := false) (sem_cmp rfl rfl rfl rfl) (decide_eq_false (by omega))) ?_
  refine dl_r (sem_pick rfl rfl rfl rfl) ?_
  refine dl_r (sem_move rfl rfl) ?_
  refine dl_r (sem_move rfl rfl) ?_
  refine dl_r (sem_move rfl rfl) ?_
  refine dl_r (sem_castb (c := false) (sem_cmp rfl rfl rfl rfl) (decide_eq_false (by omega))) ?_
  refine dl_r (sem_pick rfl rfl rfl rfl) ?_
  refine dl_end ?_
  refine dw_false rfl ?_
  refine dw_skip ?_
  refine dw_seq ?_
  refine dw_seq ?_
  -- region 4
  refine dw_region (by kernel_rfl) ?_
  refine dl_r (sem_load (us := ([.i .i64 a1] ++ [.i .i64 a2])) ty34 rfl rfl rfl rfl rfl) ?_
  refine dl_r (sem_load (us := ([.i .i64 b1] ++ [.i .i64 b2])) ty34 rfl rfl rfl rfl rfl) ?_
  refine dl_r (sem_move rfl rfl) ?_
  refine dl_r (sem_move rfl rfl) ?_
  refine dl_r (sem_call rfl rfl (rcasti rChk_ok hE) rfl) ?_
  refine dl_r (sem_assign rfl rfl) ?_
  refine dl_end ?_
  refine dw_seq ?_
  -- region 5
  refine dw_region (by kernel_rfl) ?_
  refine dl_r (sem_move rfl rfl) ?_
  refine dl_r (sem_cmp rfl rfl rfl rfl) ?_
  refine dl_end ?_
  refine dw_true rfl ?_
  refine dw_seq ?_
  -- region 6
  refine dw_region (by kernel_rfl) ?_
  refine dl_r (sem_move rfl rfl) ?_
  refine dl_r (sem_assign rfl rfl) ?_
  refine dl_r (sem_assign rfl rfl) ?_
  refine dl_end ?_
  refine dw_ret ?_
  -- path 
  exact ⟨.inr rfl, (resL_tmp rfl (resL_tmp rfl resL_nil))⟩
theorem rP_3 {a1 a2 L dx dy r s z f m : Int} (hL : 1 ≤ L) (hd : Dir dx dy) (hr : 1 ≤ r) (hs : 1 ≤ s) (hf : 1 ≤ f) (hsr : s ≤ r) (hmn : min s L = m) (r1 : -10000000 ≤ a1 ∧ a1 ≤ 10000000) (r2 : -10000000 ≤ a2 ∧ a2 ≤ 10000000) (r3 : -10000000 ≤ a1 + L * dx ∧ a1 + L * dx ≤ 10000000) (r4 : -10000000 ≤ a2 + L * dy ∧ a2 + L * dy ≤ 10000000) (hE : chkE a1 a2 (a1 + L * dx) (a2 + L * dy) r z = 0) (hbig : 9999 < (L - 1) / m + 1) : Ok Tryz.prog 39 [.a ([.i .i64 a1] ++ [.i .i64 a2]), .a ([.i .i64 (a1 + L * dx)] ++ [.i .i64 (a2 + L * dy)]), .c (.i .i64 r), .c (.i .i64 s), .c (.i .i64 z), .c (.i .i64 f)] [.c (.s 0 []), .c (.i .i64 3)] := by
  refine Ok.of (by kernel_rfl) Tryz.func39 rfl rfl ?_
  rw [show Tryz.f39.ntmps = 108 from rfl, show Tryz.f39.results.toList = [.tmp 12, .tmp 13] from rfl]
  refine dw_seq ?_
  -- region 0
  refine dw_region (by kernel_rfl) ?_
  refine dl_new (sem_box_a rfl rfl) rfl ?_
  refine dl_new (sem_box_a rfl rfl) rfl ?_
  refine dl_r (sem_assign rfl rfl) ?_
  refine dl_r (sem_assign rfl rfl) ?_
  refine dl_end ?_
  refine dw_seq ?_
  refine dw_seq ?_
  -- region 1
  refine dw_region (by kernel_rfl) ?_
  refine dl_r (sem_load (us := ([.i .i64 a1] ++ [.i .i64 a2])) ty34 rfl rfl rfl rfl rfl) ?_
  refine dl_r (sem_load (us := ([.i .i64 (a1 + L * dx)] ++ [.i .i64 (a2 + L * dy)])) ty34 rfl rfl rfl rfl rfl) ?_
  refine dl_r (sem_call rfl rfl (icast2b rDir_ok (dsg_dir hL hd.x) (dsg_dir hL hd.y) (dok_dir hL hd)) rfl) ?_
  refine dl_r (sem_move rfl rfl) ?_
  refine dl_r (sem_extract rfl rfl rfl) ?_
  refine dl_r (sem_extract rfl rfl rfl) ?_
  refine dl_new (sem_alloc zc34 rfl) rfl ?_
  refine dl_st (sem_store_a ty34 rfl rfl rfl rfl rfl rfl) ?_
  refine dl_r (sem_assign rfl rfl) ?_
  refine dl_end ?_
  refine dw_seq ?_
  -- region 2
  refine dw_region (by kernel_rfl) ?_
  refine dl_r (sem_move rfl rfl) ?_
  refine dl_r (sem_not rfl rfl) ?_
  refine dl_r (sem_move rfl rfl) ?_
  refine dl_r (sem_move rfl rfl) ?_
  refine dl_r (sem_castb (c := false) (sem_cmp rfl rfl rfl rfl) (decide_eq_false (by omega))) ?_
  refine dl_r (sem_pick rfl rfl rfl rfl) ?_
  refine dl_r (sem_move rfl rfl) ?_
  refine dl_r (sem_move rfl rfl) ?_
  refine dl_r (sem_castb (c := false) (sem_cmp rfl rfl rfl rfl) (decide_eq_false (by omega))) ?_
  refine dl_r (sem_pick rfl rfl rfl rfl) ?_
  refine dl_r (sem_move rfl rfl) ?_
  refine dl_r (sem_move rfl rfl) ?_
  refine dl_r (sem_castb (c := false) (sem_cmp rfl rfl rfl rfl) (decide_eq_false (by omega))) ?_
  refine dl_r (sem_pick rfl rfl rfl rfl) ?_
  refine dl_r (sem_move rfl rfl) ?_
  refine dl_r (sem_move rfl rfl) ?_
  refine dl_r (sem_move rfl rfl) ?_
  refine dl_r (sem_castb (c := false) (sem_cmp rfl rfl rfl rfl) (decide_eq_false (by omega))) ?_
  refine dl_r (sem_pick rfl rfl rfl rfl) ?_
  refine dl_end ?_
  refine dw_false rfl ?_
  refine dw_skip ?_
  refine dw_seq ?_
  refine dw_seq ?_
  -- region 4
  refine dw_region (by kernel_rfl) ?_
  refine dl_r (sem_load (us := ([.i .i64 a1] ++ [.i .i64 a2])) ty34 rfl rfl rfl rfl rfl) ?_
  refine dl_r (sem_load (us := ([.i .i64 (a1 + L * dx)] ++ [.i .i64 (a2 + L * dy)])) ty34 rfl rfl rfl rfl rfl) ?_
  refine dl_r (sem_move rfl rfl) ?_
  refine dl_r (sem_move rfl rfl) ?_
  refine dl_r (sem_call rfl rfl (rcasti rChk_ok hE) rfl) ?_
  refine dl_r (sem_assign rfl rfl) ?_
  refine dl_end ?_
  refine dw_seq ?_
  -- region 5
  refine dw_region (by kernel_rfl) ?_
  refine dl_r (sem_move rfl rfl) ?_
  refine dl_r (sem_cmp rfl rfl rfl rfl) ?_
  refine dl_end ?_
  refine dw_false rfl ?_
  refine dw_skip ?_
  refine dw_seq ?_
  -- region 7
  refine dw_region (by kernel_rfl) ?_
  refine dl_r (sem_load (us := ([.i .i64 a1] ++ [.i .i64 a2])) ty34 rfl rfl rfl rfl rfl) ?_
  refine dl_r (sem_load (us := ([.i .i64 (a1 + L * dx)] ++ [.i .i64 (a2 + L * dy)])) ty34 rfl rfl rfl rfl rfl) ?_
  refine dl_r (sem_move rfl rfl) ?_
  refine dl_r (sem_call rfl rfl (rC_big hL hd hs hmn r1 r2 r3 r4 hbig) rfl) ?_
  refine dl_r (sem_move rfl rfl) ?_
  refine dl_r (sem_extract rfl rfl rfl) ?_
  refine dl_r (sem_extract rfl rfl rfl) ?_
  refine dl_r (sem_assign rfl rfl) ?_
  refine dl_r (sem_assign rfl rfl) ?_
  refine dl_end ?_
  refine dw_seq ?_
  refine dw_seq ?_
  -- region 8
  refine dw_region (by kernel_rfl) ?_
  refine dl_r (sem_move rfl rfl) ?_
  refine dl_r (sem_cmp rfl rfl rfl rfl) ?_
  refine dl_end ?_
  refine dw_true rfl ?_
  refine dw_seq ?_
  -- region 9
  refine dw_region (by kernel_rfl) ?_
  refine dl_r (sem_move rfl rfl) ?_
  refine dl_r (sem_assign rfl rfl) ?_
  refine dl_r (sem_assign rfl rfl) ?_
  refine dl_end ?_
  refine dw_ret ?_
  -- path 
  exact ⟨.inr rfl, (resL_tmp rfl (resL_tmp rfl resL_nil))⟩
theorem rP_ok {a1 a2 L dx dy r s z f m : Int} (hL : 1 ≤ L) (hd : Dir dx dy) (hr : 1 ≤ r) (hs : 1 ≤ s) (hf : 1 ≤ f) (hsr : s ≤ r) (hmn : min s L = m) {k : Nat} (hk : (k : Int) = (L - 1) / m) (r1 : -10000000 ≤ a1 ∧ a1 ≤ 10000000) (r2 : -10000000 ≤ a2 ∧ a2 ≤ 10000000) (r3 : -10000000 ≤ a1 + L * dx ∧ a1 + L * dx ≤ 10000000) (r4 : -10000000 ≤ a2 + L * dy ∧ a2 + L * dy ≤ 10000000) (hr2 : r ≤ 20000000) (hE : chkE a1 a2 (a1 + L * dx) (a2 + L * dy) r z = 0) (hfit : (L - 1) / m + 1 ≤ 9999) : Ok Tryz.prog 39 [.a ([.i .i64 a1] ++ [.i .i64 a2]), .a ([.i .i64 (a1 + L * dx)] ++ [.i .i64 (a2 + L * dy)]), .c (.i .i64 r), .c (.i .i64 s), .c (.i .i64 z), .c (.i .i64 f)] [.c (.s (2 * (k + 1) + 1) (pth (ctb a1 a2 dx dy L m k) dx dy r z f (k + 1))), .c (.i .i64 0)] := by
  have hm1 : 1 ≤ m := by omega
  have hq := q_bd hL hm1
  have hk2 : k ≤ 9998 := by omega
  have hB := ci_bd (ctb_bd hd hm1 hk r1 r2 r3 r4)
  have hJ := bdJ_isJ (ctb_bd hd hm1 hk r1 r2 r3 r4)
  refine Ok.of (by kernel_rfl) Tryz.func39 rfl rfl ?_
  rw [show Tryz.f39.ntmps = 108 from rfl, show Tryz.f39.results.toList = [.tmp 12, .tmp 13] from rfl]
  refine dw_seq ?_
  -- region 0
  refine dw_region (by kernel_rfl) ?_
  refine dl_new (sem_box_a rfl rfl) rfl ?_
  refine dl_new (sem_box_a rfl rfl) rfl ?_
  refine dl_r (sem_assign rfl rfl) ?_
  refine dl_r (sem_assign rfl rfl) ?_
  refine dl_end ?_
  refine dw_seq ?_
  refine dw_seq ?_
  -- region 1
  refine dw_region (by kernel_rfl) ?_
  refine dl_r (sem_load (us := ([.i .i64 a1] ++ [.i .i64 a2])) ty34 rfl rfl rfl rfl rfl) ?_
  refine dl_r (sem_load (us := ([.i .i64 (a1 + L * dx)] ++ [.i .i64 (a2 + L * dy)])) ty34 rfl rfl rfl rfl rfl) ?_
  refine dl_r (sem_call rfl rfl (icast2b rDir_ok (dsg_dir hL hd.x) (dsg_dir hL hd.y) (dok_dir hL hd)) rfl) ?_
  refine dl_r (sem_move rfl rfl) ?_
  refine dl_r (sem_extract rfl rfl rfl) ?_
  refine dl_r (sem_extract rfl rfl rfl) ?_
  refine dl_new (sem_alloc zc34 rfl) rfl ?_
  refine dl_st (sem_store_a ty34 rfl rfl rfl rfl rfl rfl) ?_
  refine dl_r (sem_assign rfl rfl) ?_
  refine dl_end ?_
  refine dw_seq ?_
  -- region 2
  refine dw_region (by kernel_rfl) ?_
  refine dl_r (sem_move rfl rfl) ?_
  refine dl_r (sem_not rfl rfl) ?_
  refine dl_r (sem_move rfl rfl) ?_
  refine dl_r (sem_move rfl rfl) ?_
  refine dl_r (sem_castb (c := false) (sem_cmp rfl rfl rfl rfl) (decide_eq_false (by omega))) ?_
  refine dl_r (sem_pick rfl rfl rfl rfl) ?_
  refine dl_r (sem_move rfl rfl) ?_
  refine dl_r (sem_move rfl rfl) ?_
  refine dl_r (sem_castb (c := false) (sem_cmp rfl rfl rfl rfl) (decide_eq_false (by omega))) ?_
  refine dl_r (sem_pick rfl rfl rfl rfl) ?_
  refine dl_r (sem_move rfl rfl) ?_
  refine dl_r (sem_move rfl rfl) ?_
  refine dl_r (sem_castb (c := false) (sem_cmp rfl rfl rfl rfl) (decide_eq_false (by omega))) ?_
  refine dl_r (sem_pick rfl rfl rfl rfl) ?_
  refine dl_r (sem_move rfl rfl) ?_
  refine dl_r (sem_move rfl rfl) ?_
  refine dl_r (sem_move rfl rfl) ?_
  refine dl_r (sem_castb (c := false) (sem_cmp rfl rfl rfl rfl) (decide_eq_false (by omega))) ?_
  refine dl_r (sem_pick rfl rfl rfl rfl) ?_
  refine dl_end ?_
  refine dw_false rfl ?_
  refine dw_skip ?_
  refine dw_seq ?_
  refine dw_seq ?_
  -- region 4
  refine dw_region (by kernel_rfl) ?_
  refine dl_r (sem_load (us := ([.i .i64 a1] ++ [.i .i64 a2])) ty34 rfl rfl rfl rfl rfl) ?_
  refine dl_r (sem_load (us := ([.i .i64 (a1 + L * dx)] ++ [.i .i64 (a2 + L * dy)])) ty34 rfl rfl rfl rfl rfl) ?_
  refine dl_r (sem_move rfl rfl) ?_
  refine dl_r (sem_move rfl rfl) ?_
  refine dl_r (sem_call rfl rfl (rcasti rChk_ok hE) rfl) ?_
  refine dl_r (sem_assign rfl rfl) ?_
  refine dl_end ?_
  refine dw_seq ?_
  -- region 5
  refine dw_region (by kernel_rfl) ?_
  refine dl_r (sem_move rfl rfl) ?_
  refine dl_r (sem_cmp rfl rfl rfl rfl) ?_
  refine dl_end ?_
  refine dw_false rfl ?_
  refine dw_skip ?_
  refine dw_seq ?_
  -- region 7
  refine dw_region (by kernel_rfl) ?_
  refine dl_r (sem_load (us := ([.i .i64 a1] ++ [.i .i64 a2])) ty34 rfl rfl rfl rfl rfl) ?_
  refine dl_r (sem_load (us := ([.i .i64 (a1 + L * dx)] ++ [.i .i64 (a2 + L * dy)])) ty34 rfl rfl rfl rfl rfl) ?_
  refine dl_r (sem_move rfl rfl) ?_
  refine dl_r (sem_call rfl rfl (rC_ok hL hd hs hmn hk r1 r2 r3 r4 hfit) rfl) ?_
  refine dl_r (sem_move rfl rfl) ?_
  refine dl_r (sem_extract rfl rfl rfl) ?_
  refine dl_r (sem_extract rfl rfl rfl) ?_
  refine dl_r (sem_assign rfl rfl) ?_
  refine dl_r (sem_assign rfl rfl) ?_
  refine dl_end ?_
  refine dw_seq ?_
  refine dw_seq ?_
  -- region 8
  refine dw_region (by kernel_rfl) ?_
  refine dl_r (sem_move rfl rfl) ?_
  refine dl_r (sem_cmp rfl rfl rfl rfl) ?_
  refine dl_end ?_
  refine dw_false rfl ?_
  refine dw_skip ?_
  refine dw_seq ?_
  -- region 10
  refine dw_region (by kernel_rfl) ?_
  refine dl_r (sem_load (us := ([.i .i64 a1] ++ [.i .i64 a2])) ty34 rfl rfl rfl rfl rfl) ?_
  refine dl_r (sem_load (us := ([.i .i64 (a1 + L * dx)] ++ [.i .i64 (a2 + L * dy)])) ty34 rfl rfl rfl rfl rfl) ?_
  refine dl_r (sem_call rfl rfl (icast2b rDir_ok (dsg_dir hL hd.x) (dsg_dir hL hd.y) (dok_dir hL hd)) rfl) ?_
  refine dl_r (sem_move rfl rfl) ?_
  refine dl_r (sem_extract rfl rfl rfl) ?_
  refine dl_r (sem_extract rfl rfl rfl) ?_
  refine dl_new (sem_alloc zc34 rfl) rfl ?_
  refine dl_st (sem_store_a ty34 rfl rfl rfl rfl rfl rfl) ?_
  refine dl_r (sem_assign rfl rfl) ?_
  refine dl_end ?_
  refine dw_seq ?_
  -- region 11
  refine dw_region (by kernel_rfl) ?_
  refine dl_r (sem_assign_z rfl) ?_
  refine dl_end ?_
  refine dw_seq ?_
  refine dw_seq ?_
  -- region 12
  refine dw_region (by kernel_rfl) ?_
  refine dl_r (sem_assign rfl rfl) ?_
  refine dl_end ?_
  refine dw_block ?_
  refine dw_loop1 (ι := {t : Nat × Nat × List CellD // t.1 ≤ k + 1 ∧ 2 * t.1 + 1 ≤ t.2.1 ∧ t.2.1 ≤ maxLen ∧ t.2.2.length = (t.2.1 - (2 * t.1 + 1)) * 7}) (fun i => ⟨108, [(21, .o 106 (2 * i.1.1 + 1) i.1.2.1), (22, .v (.c (.i .i64 (((i.1.1 + 1 : Nat) : Int))))), (2, .v (.c (.i .i64 r))), (4, .v (.c (.i .i64 z))), (5, .v (.c (.i .i64 f))), (19, .p 19 0), (17, .v (.c (.s (k + 1 + 1) (ctb a1 a2 dx dy L m k))))], [(19, 34, ([.i .i64 dx] ++ [.i .i64 dy])), (106, 76, pth (ctb a1 a2 dx dy L m k) dx dy r z f i.1.1 ++ i.1.2.2)]⟩) (fun i => k + 1 - i.1.1) (k + 2) ?_ ?_
  · refine dw_seq ?_
    refine dw_seq ?_
    -- region 13
    refine dw_region (by kernel_rfl) ?_
    refine dl_r (sem_move rfl rfl) ?_
    refine dl_r (sem_move rfl rfl) ?_
    refine dl_r (sem_len sl22 rfl rfl) ?_
    refine dl_r (sem_castb (c := true) (sem_cmp rfl rfl rfl rfl) (decide_eq_true (by omega))) ?_
    refine dl_end ?_
    refine dw_true rfl ?_
    refine dw_skip ?_
    refine dw_seq ?_
    refine dw_block ?_
    refine dw_seq ?_
    -- region 15
    refine dw_draw 11 [] follows_mixed (by kernel_rfl) rfl rfl ?_
    refine dq_r (sem_move rfl rfl) ?_
    refine dq_r (sem_move rfl rfl) ?_
    refine dq_r (sem_index (us := [.i .i64 (ci (ctb a1 a2 dx dy L m k) (0 * 2))] ++ [.i .i64 (ci (ctb a1 a2 dx dy L m k) (0 * 2 + 1))] ++ (ctb a1 a2 dx dy L m k).drop (0 * 2 + 2)) sl22 rfl rfl (by omega) (ctb_len) (ci_drop2 ctb_len hJ (by omega)) rfl) ?_
    refine dq_r (sem_loadq (us := ([.i .i64 (ci (ctb a1 a2 dx dy L m k) (0 * 2))] ++ [.i .i64 (ci (ctb a1 a2 dx dy L m k) (0 * 2 + 1))])) ty34 rfl rfl rfl rfl) ?_
    refine dq_r (sem_load (us := ([.i .i64 dx] ++ [.i .i64 dy])) ty34 rfl rfl rfl rfl rfl) ?_
    refine dq_r (sem_move rfl rfl) ?_
    refine dq_r (sem_neg' (r := -r) rfl (show IntKind.i64.wrap (0 - r) = -r from by rw [Int.zero_sub]; exact nw64 (by omega) (by omega)) rfl) ?_
    refine dq_r (sem_call rfl rfl (icast2 (rAt_ok hd (by have := hB (0 * 2); omega) (by have := hB (0 * 2 + 1); omega) (by omega)) (x' := ci (ctb a1 a2 dx dy L m k) (0 * 2) - dx * r) (y' := ci (ctb a1 a2 dx dy L m k) (0 * 2 + 1) - dy * r) (at_neg _ _ _) (at_neg _ _ _)) rfl) ?_
    refine dq_r (sem_move rfl rfl) ?_
    refine dq_r (sem_call rfl rfl (rRaised_ok) rfl) ?_
    refine dq_new (sem_alloc zc62 rfl) rfl ?_
    refine dq_end ?_
    refine dl_start1 ?_
    refine dl_st (sem_store_a ty62 rfl rfl rfl rfl rfl rfl) ?_
    refine dl_end ?_
    refine dw_seq ?_
    refine dw_seq ?_
    -- region 16
    refine dw_region (by kernel_rfl) ?_
    refine dl_r (sem_move rfl rfl) ?_
    refine dl_r (sem_cmp rfl rfl rfl rfl) ?_
    refine dl_end ?_
    refine dw_false rfl ?_
    refine dw_skip ?_
    -- region 18
    refine dw_draw 9 [] follows_mixed (by kernel_rfl) rfl rfl ?_
    refine dq_r (sem_move rfl rfl) ?_
    refine dq_r (sem_load (us := ([.i .i64 (ci (ctb a1 a2 dx dy L m k) (0 * 2) - dx * r)] ++ [.i .i64 (ci (ctb a1 a2 dx dy L m k) (0 * 2 + 1) - dy * r)] ++ [.i .i64 z])) ty62 rfl rfl rfl rfl rfl) ?_
    refine dq_r (sem_move rfl rfl) ?_
    refine dq_r (sem_move rfl rfl) ?_
    refine dq_r (sem_index (us := [.i .i64 (ci (ctb a1 a2 dx dy L m k) (0 * 2))] ++ [.i .i64 (ci (ctb a1 a2 dx dy L m k) (0 * 2 + 1))] ++ (ctb a1 a2 dx dy L m k).drop (0 * 2 + 2)) sl22 rfl rfl (by omega) (ctb_len) (ci_drop2 ctb_len hJ (by omega)) rfl) ?_
    refine dq_r (sem_loadq (us := ([.i .i64 (ci (ctb a1 a2 dx dy L m k) (0 * 2))] ++ [.i .i64 (ci (ctb a1 a2 dx dy L m k) (0 * 2 + 1))])) ty34 rfl rfl rfl rfl) ?_
    refine dq_r (sem_move rfl rfl) ?_
    refine dq_r (sem_build (us := ([.i .i64 4] ++ ([.i .i64 (ci (ctb a1 a2 dx dy L m k) (0 * 2) - dx * r)] ++ [.i .i64 (ci (ctb a1 a2 dx dy L m k) (0 * 2 + 1) - dy * r)] ++ [.i .i64 z]) ++ ([.i .i64 (ci (ctb a1 a2 dx dy L m k) (0 * 2))] ++ [.i .i64 (ci (ctb a1 a2 dx dy L m k) (0 * 2 + 1))]) ++ [.i .i64 f])) fs76 zc76 rfl rfl rfl) ?_
    refine dq_r (sem_slit_D (n := 1) (us := ([.i .i64 4] ++ ([.i .i64 (ci (ctb a1 a2 dx dy L m k) (0 * 2) - dx * r)] ++ [.i .i64 (ci (ctb a1 a2 dx dy L m k) (0 * 2 + 1) - dy * r)] ++ [.i .i64 z]) ++ ([.i .i64 (ci (ctb a1 a2 dx dy L m k) (0 * 2))] ++ [.i .i64 (ci (ctb a1 a2 dx dy L m k) (0 * 2 + 1))]) ++ [.i .i64 f])) el37 rfl rfl rfl (by decide) (by decide) rfl) ?_
    refine dq_end ?_
    refine dl_start0 ?_
    refine dl_grow0 (ys := ([.i .i64 4] ++ ([.i .i64 (ci (ctb a1 a2 dx dy L m k) (0 * 2) - dx * r)] ++ [.i .i64 (ci (ctb a1 a2 dx dy L m k) (0 * 2 + 1) - dy * r)] ++ [.i .i64 z]) ++ ([.i .i64 (ci (ctb a1 a2 dx dy L m k) (0 * 2))] ++ [.i .i64 (ci (ctb a1 a2 dx dy L m k) (0 * 2 + 1))]) ++ [.i .i64 f])) el37 rfl rfl rfl (by decide) (by decide) (by decide) rfl rfl (fun cg1 rg1 hga1 hgb1 hgc1 => ?_)
    refine dl_r (sem_assign rfl rfl) ?_
    refine dl_end ?_
    -- region 14
    refine dw_region (by kernel_rfl) ?_
    refine dl_r (sem_move rfl rfl) ?_
    refine dl_r (sem_ari (r := ((0 + 1 : Nat) : Int)) rfl rfl ((ari_i64_add (by omega) (by omega)).trans (congrArg some (by omega))) rfl) ?_
    refine dl_r (sem_assign rfl rfl) ?_
    refine dl_end ?_
    exact ⟨⟨⟨0, cg1, rg1⟩, by omega, by omega, hgb1, hgc1⟩, sub_of ⟨rfl, rfl, rfl, rfl, rfl, rfl, rfl, trivial⟩ ⟨rfl, rfl, trivial⟩ rfl, by show k + 1 - 0 < k + 2; omega⟩
  · rintro ⟨⟨j, c, rs⟩, h2, h3, h4, h5⟩
    dsimp only at h2 h3 h4 h5
    show Dw _ _ ⟨108, [(21, .o 106 (2 * j + 1) c), (22, .v (.c (.i .i64 (((j + 1 : Nat) : Int))))), (2, .v (.c (.i .i64 r))), (4, .v (.c (.i .i64 z))), (5, .v (.c (.i .i64 f))), (19, .p 19 0), (17, .v (.c (.s (k + 1 + 1) (ctb a1 a2 dx dy L m k))))], [(19, 34, ([.i .i64 dx] ++ [.i .i64 dy])), (106, 76, pth (ctb a1 a2 dx dy L m k) dx dy r z f j ++ rs)]⟩ _
    refine dw_seq ?_
    refine dw_seq ?_
    -- region 13
    refine dw_region (by kernel_rfl) ?_
    refine dl_r (sem_move rfl rfl) ?_
    refine dl_r (sem_move rfl rfl) ?_
    refine dl_r (sem_len sl22 rfl rfl) ?_
    refine dl_r (sem_cmp rfl rfl rfl rfl) ?_
    refine dl_end ?_
    refine dw_cond rfl (fun hc2 => ?_) (fun hc2 => ?_)
    · have g1 : j + 1 < k + 1 + 1 := by have := of_decide_eq_true hc2; omega
      refine dw_skip ?_
      refine dw_seq ?_
      refine dw_block ?_
      refine dw_seq ?_
      -- region 15
      refine dw_draw 11 [] follows_mixed (by kernel_rfl) rfl rfl ?_
      refine dq_r (sem_move rfl rfl) ?_
      refine dq_r (sem_move rfl rfl) ?_
      refine dq_r (sem_index (us := [.i .i64 (ci (ctb a1 a2 dx dy L m k) ((j + 1) * 2))] ++ [.i .i64 (ci (ctb a1 a2 dx dy L m k) ((j + 1) * 2 + 1))] ++ (ctb a1 a2 dx dy L m k).drop ((j + 1) * 2 + 2)) sl22 rfl rfl (by omega) (ctb_len) (ci_drop2 ctb_len hJ (by omega)) rfl) ?_
      refine dq_r (sem_loadq (us := ([.i .i64 (ci (ctb a1 a2 dx dy L m k) ((j + 1) * 2))] ++ [.i .i64 (ci (ctb a1 a2 dx dy L m k) ((j + 1) * 2 + 1))])) ty34 rfl rfl rfl rfl) ?_
      refine dq_r (sem_load (us := ([.i .i64 dx] ++ [.i .i64 dy])) ty34 rfl rfl rfl rfl rfl) ?_
      refine dq_r (sem_move rfl rfl) ?_
      refine dq_r (sem_neg' (r := -r) rfl (show IntKind.i64.wrap (0 - r) = -r from by rw [Int.zero_sub]; exact nw64 (by omega) (by omega)) rfl) ?_
      refine dq_r (sem_call rfl rfl (icast2 (rAt_ok hd (by have := hB ((j + 1) * 2); omega) (by have := hB ((j + 1) * 2 + 1); omega) (by omega)) (x' := ci (ctb a1 a2 dx dy L m k) ((j + 1) * 2) - dx * r) (y' := ci (ctb a1 a2 dx dy L m k) ((j + 1) * 2 + 1) - dy * r) (at_neg _ _ _) (at_neg _ _ _)) rfl) ?_
      refine dq_r (sem_move rfl rfl) ?_
      refine dq_r (sem_call rfl rfl (rRaised_ok) rfl) ?_
      refine dq_new (sem_alloc zc62 rfl) rfl ?_
      refine dq_end ?_
      refine dl_start1 ?_
      refine dl_st (sem_store_a ty62 rfl rfl rfl rfl rfl rfl) ?_
      refine dl_end ?_
      refine dw_seq ?_
      refine dw_seq ?_
      -- region 16
      refine dw_region (by kernel_rfl) ?_
      refine dl_r (sem_move rfl rfl) ?_
      refine dl_r (sem_castb (c := true) (sem_cmp rfl rfl rfl rfl) (decide_eq_true (by omega))) ?_
      refine dl_end ?_
      refine dw_true rfl ?_
      -- region 17
      refine dw_region (by kernel_rfl) ?_
      refine dl_r (sem_move rfl rfl) ?_
      refine dl_r (sem_load (us := ([.i .i64 (ci (ctb a1 a2 dx dy L m k) ((j + 1) * 2) - dx * r)] ++ [.i .i64 (ci (ctb a1 a2 dx dy L m k) ((j + 1) * 2 + 1) - dy * r)] ++ [.i .i64 z])) ty62 rfl rfl rfl rfl rfl) ?_
      refine dl_r (sem_move rfl rfl) ?_
      refine dl_r (sem_build (us := ([.i .i64 2] ++ ([.i .i64 (ci (ctb a1 a2 dx dy L m k) ((j + 1) * 2) - dx * r)] ++ [.i .i64 (ci (ctb a1 a2 dx dy L m k) ((j + 1) * 2 + 1) - dy * r)] ++ [.i .i64 z]) ++ ([.i .i64 0] ++ [.i .i64 0]) ++ [.i .i64 f])) fs76 zc76 rfl rfl rfl) ?_
      refine dl_r (sem_slit_D (n := 1) (us := ([.i .i64 2] ++ ([.i .i64 (ci (ctb a1 a2 dx dy L m k) ((j + 1) * 2) - dx * r)] ++ [.i .i64 (ci (ctb a1 a2 dx dy L m k) ((j + 1) * 2 + 1) - dy * r)] ++ [.i .i64 z]) ++ ([.i .i64 0] ++ [.i .i64 0]) ++ [.i .i64 f])) el37 rfl rfl rfl (by decide) (by decide) rfl) ?_
      refine dl_grow (us := pth (ctb a1 a2 dx dy L m k) dx dy r z f j) (rest := rs) (ys := ([.i .i64 2] ++ ([.i .i64 (ci (ctb a1 a2 dx dy L m k) ((j + 1) * 2) - dx * r)] ++ [.i .i64 (ci (ctb a1 a2 dx dy L m k) ((j + 1) * 2 + 1) - dy * r)] ++ [.i .i64 z]) ++ ([.i .i64 0] ++ [.i .i64 0]) ++ [.i .i64 f])) el37 rfl rfl rfl (by first | exact pth_len _ | (rw [List.length_append, pth_len]; show _ + 7 = _; omega)) (by assumption) rfl (by decide) (by omega) (by assumption) (by omega) (g_max (by omega)) (.inr rfl) rfl (fun cg3 rg3 hga3 hgb3 hgc3 => ?_)
      refine dl_r (sem_assign rfl rfl) ?_
      refine dl_end ?_
      -- region 18
      refine dw_draw 9 [] follows_mixed (by kernel_rfl) rfl rfl ?_
      refine dq_r (sem_move rfl rfl) ?_
      refine dq_r (sem_load (us := ([.i .i64 (ci (ctb a1 a2 dx dy L m k) ((j + 1) * 2) - dx * r)] ++ [.i .i64 (ci (ctb a1 a2 dx dy L m k) ((j + 1) * 2 + 1) - dy * r)] ++ [.i .i64 z])) ty62 rfl rfl rfl rfl rfl) ?_
      refine dq_r (sem_move rfl rfl) ?_
      refine dq_r (sem_move rfl rfl) ?_
      refine dq_r (sem_index (us := [.i .i64 (ci (ctb a1 a2 dx dy L m k) ((j + 1) * 2))] ++ [.i .i64 (ci (ctb a1 a2 dx dy L m k) ((j + 1) * 2 + 1))] ++ (ctb a1 a2 dx dy L m k).drop ((j + 1) * 2 + 2)) sl22 rfl rfl (by omega) (ctb_len) (ci_drop2 ctb_len hJ (by omega)) rfl) ?_
      refine dq_r (sem_loadq (us := ([.i .i64 (ci (ctb a1 a2 dx dy L m k) ((j + 1) * 2))] ++ [.i .i64 (ci (ctb a1 a2 dx dy L m k) ((j + 1) * 2 + 1))])) ty34 rfl rfl rfl rfl) ?_
      refine dq_r (sem_move rfl rfl) ?_
      refine dq_r (sem_build (us := ([.i .i64 4] ++ ([.i .i64 (ci (ctb a1 a2 dx dy L m k) ((j + 1) * 2) - dx * r)] ++ [.i .i64 (ci (ctb a1 a2 dx dy L m k) ((j + 1) * 2 + 1) - dy * r)] ++ [.i .i64 z]) ++ ([.i .i64 (ci (ctb a1 a2 dx dy L m k) ((j + 1) * 2))] ++ [.i .i64 (ci (ctb a1 a2 dx dy L m k) ((j + 1) * 2 + 1))]) ++ [.i .i64 f])) fs76 zc76 rfl rfl rfl) ?_
      refine dq_r (sem_slit_D (n := 1) (us := ([.i .i64 4] ++ ([.i .i64 (ci (ctb a1 a2 dx dy L m k) ((j + 1) * 2) - dx * r)] ++ [.i .i64 (ci (ctb a1 a2 dx dy L m k) ((j + 1) * 2 + 1) - dy * r)] ++ [.i .i64 z]) ++ ([.i .i64 (ci (ctb a1 a2 dx dy L m k) ((j + 1) * 2))] ++ [.i .i64 (ci (ctb a1 a2 dx dy L m k) ((j + 1) * 2 + 1))]) ++ [.i .i64 f])) el37 rfl rfl rfl (by decide) (by decide) rfl) ?_
      refine dq_end ?_
      refine dl_start0 ?_
      refine dl_grow (us := pth (ctb a1 a2 dx dy L m k) dx dy r z f j ++ (([.i .i64 2] ++ ([.i .i64 (ci (ctb a1 a2 dx dy L m k) ((j + 1) * 2) - dx * r)] ++ [.i .i64 (ci (ctb a1 a2 dx dy L m k) ((j + 1) * 2 + 1) - dy * r)] ++ [.i .i64 z]) ++ ([.i .i64 0] ++ [.i .i64 0]) ++ [.i .i64 f]))) (rest := rg3) (ys := ([.i .i64 4] ++ ([.i .i64 (ci (ctb a1 a2 dx dy L m k) ((j + 1) * 2) - dx * r)] ++ [.i .i64 (ci (ctb a1 a2 dx dy L m k) ((j + 1) * 2 + 1) - dy * r)] ++ [.i .i64 z]) ++ ([.i .i64 (ci (ctb a1 a2 dx dy L m k) ((j + 1) * 2))] ++ [.i .i64 (ci (ctb a1 a2 dx dy L m k) ((j + 1) * 2 + 1))]) ++ [.i .i64 f])) el37 rfl rfl rfl (by first | exact pth_len _ | (rw [List.length_append, pth_len]; show _ + 7 = _; omega)) (by assumption) rfl (by decide) (by omega) (by assumption) (by omega) (g_max (by omega)) (.inr rfl) rfl (fun cg4 rg4 hga4 hgb4 hgc4 => ?_)
      refine dl_r (sem_assign rfl rfl) ?_
      refine dl_end ?_
      -- region 14
      refine dw_region (by kernel_rfl) ?_
      refine dl_r (sem_move rfl rfl) ?_
      refine dl_r (sem_ari (r := ((j + 1 + 1 : Nat) : Int)) rfl rfl ((ari_i64_add (by omega) (by omega)).trans (congrArg some (by omega))) rfl) ?_
      refine dl_r (sem_assign rfl rfl) ?_
      refine dl_end ?_
      exact ⟨⟨⟨j + 1, cg4, rg4⟩, by show j + 1 ≤ k + 1; omega, by show 2 * (j + 1) + 1 ≤ cg4; omega, hgb4, by show _ = (cg4 - (2 * (j + 1) + 1)) * 7; omega⟩, sub_of ⟨rfl, rfl, rfl, rfl, rfl, rfl, rfl, trivial⟩ ⟨rfl, rfl, trivial⟩ rfl, by show k + 1 - (j + 1) < k + 1 - j; omega⟩
    · have hj : k + 1 = j := by have := of_decide_eq_false hc2; omega
      refine dw_exit ?_
      refine dw_seq ?_
      -- region 19
      refine dw_region (by kernel_rfl) ?_
      refine dl_r (sem_move rfl rfl) ?_
      refine dl_r (sem_assign rfl rfl) ?_
      refine dl_r (sem_assign rfl rfl) ?_
      refine dl_end ?_
      refine dw_release (t := 12) (m := 7) (us := pth (ctb a1 a2 dx dy L m k) dx dy r z f j) rfl rfl (g_len (n := 2 * j + 1) (by first | exact pth_len _ | (rw [List.length_append, pth_len]; show _ + 7 = _; omega)) (by assumption) (by omega)) (by omega) (by assumption) (g_take (by first | exact pth_len _ | (rw [List.length_append, pth_len]; show _ + 7 = _; omega))) ?_
      refine dw_ret ?_
      -- path LF
      rw [hj]
      exact ⟨.inr rfl, (resL_tmp rfl (resL_tmp rfl resL_nil))⟩
-- no function swarf/swarfref34.Start in this seat
-- no function swarf/swarfref34.Start in this seat
-- no function swarf/swarfref34.Start in this seat
theorem rSame2_ok {n : Nat} {us : List CellD} (hl : us.length = n * 2) (hJ : us.all isJ = true) (hn : n ≤ 1000000) : Ok Tryz.prog 28 [.c (.s n us), .c (.s n us)] [.c (.b true)] := by
  refine Ok.of (by kernel_rfl) Tryz.func28 rfl rfl ?_
  rw [show Tryz.f28.ntmps = 26 from rfl, show Tryz.f28.results.toList = [.tmp 4] from rfl]
  refine dw_seq ?_
  -- region 0
  refine dw_region (by kernel_rfl) ?_
  refine dl_r (sem_assign rfl rfl) ?_
  refine dl_end ?_
  refine dw_seq ?_
  refine dw_seq ?_
  -- region 1
  refine dw_region (by kernel_rfl) ?_
  refine dl_r (sem_move rfl rfl) ?_
  refine dl_r (sem_len sl22 rfl rfl) ?_
  refine dl_r (sem_move rfl rfl) ?_
  refine dl_r (sem_len sl22 rfl rfl) ?_
  refine dl_r (sem_castb (c := false) (sem_cmp rfl rfl rfl rfl) (by simp)) ?_
  refine dl_end ?_
  refine dw_false rfl ?_
  refine dw_skip ?_
  refine dw_seq ?_
  refine dw_seq ?_
  -- region 3
  refine dw_region (by kernel_rfl) ?_
  refine dl_r (sem_assign rfl rfl) ?_
  refine dl_end ?_
  refine dw_block ?_
  refine dw_loop (ι := {j : Nat // j ≤ n}) (fun i => ⟨26, [(0, .v (.c (.s n us))), (1, .v (.c (.s n us))), (5, .v (.c (.i .i64 (i.1 : Int))))], []⟩) (fun i => n - i.1) ⟨0, Nat.zero_le _⟩ (sub_of ⟨rfl, rfl, rfl, trivial⟩ trivial rfl) ?_
  rintro ⟨j, h2⟩
  replace h2 : j ≤ n := h2
  show Dw _ _ ⟨26, [(0, .v (.c (.s n us))), (1, .v (.c (.s n us))), (5, .v (.c (.i .i64 (j : Int))))], []⟩ _
  refine dw_seq ?_
  refine dw_seq ?_
  -- region 4
  refine dw_region (by kernel_rfl) ?_
  refine dl_r (sem_move rfl rfl) ?_
  refine dl_r (sem_move rfl rfl) ?_
  refine dl_r (sem_len sl22 rfl rfl) ?_
  refine dl_r (sem_cmp rfl rfl rfl rfl) ?_
  refine dl_end ?_
  refine dw_cond rfl (fun hc1 => ?_) (fun hc1 => ?_)
  · have g1 : j < n := by have := of_decide_eq_true hc1; omega
    refine dw_skip ?_
    refine dw_seq ?_
    refine dw_block ?_
    refine dw_seq ?_
    -- region 6
    refine dw_draw 9 [] follows_mixed (by kernel_rfl) rfl rfl ?_
    refine dq_r (sem_move rfl rfl) ?_
    refine dq_r (sem_move rfl rfl) ?_
    refine dq_r (sem_index (us := ([.i .i64 (ci us (j * 2))] ++ [.i .i64 (ci us (j * 2 + 1))]) ++ us.drop (j * 2 + 2)) sl22 rfl rfl (by omega) (hl) (ci_drop2 hl hJ (by omega)) rfl) ?_
    refine dq_r (sem_loadq (us := ([.i .i64 (ci us (j * 2))] ++ [.i .i64 (ci us (j * 2 + 1))])) ty34 rfl rfl rfl rfl) ?_
    refine dq_r (sem_move rfl rfl) ?_
    refine dq_r (sem_move rfl rfl) ?_
    refine dq_r (sem_index (us := ([.i .i64 (ci us (j * 2))] ++ [.i .i64 (ci us (j * 2 + 1))]) ++ us.drop (j * 2 + 2)) sl22 rfl rfl (by omega) (hl) (ci_drop2 hl hJ (by omega)) rfl) ?_
    refine dq_r (sem_loadq (us := ([.i .i64 (ci us (j * 2))] ++ [.i .i64 (ci us (j * 2 + 1))])) ty34 rfl rfl rfl rfl) ?_
    refine dq_r (sem_castb (c := false) (sem_sne rfl rfl rfl rfl (by kernel_rfl) (fun w => eq_g2 (ci us (j * 2)) (ci us (j * 2 + 1)) (ci us (j * 2)) (ci us (j * 2 + 1)) w) rfl) (by simp)) ?_
    refine dq_end ?_
    refine dl_start0 ?_
    refine dl_end ?_
    refine dw_false rfl ?_
    refine dw_skip ?_
    -- region 5
    refine dw_region (by kernel_rfl) ?_
    refine dl_r (sem_move rfl rfl) ?_
    refine dl_r (sem_ari (r := ((j + 1 : Nat) : Int)) rfl rfl ((ari_i64_add (by omega) (by omega)).trans (congrArg some (by omega))) rfl) ?_
    refine dl_r (sem_assign rfl rfl) ?_
    refine dl_end ?_
    exact ⟨⟨j + 1, g1⟩, sub_of ⟨rfl, rfl, rfl, trivial⟩ trivial rfl, by show n - (j + 1) < n - j; omega⟩
  · refine dw_exit ?_
    refine dw_seq ?_
    -- region 8
    refine dw_region (by kernel_rfl) ?_
    refine dl_r (sem_assign rfl rfl) ?_
    refine dl_end ?_
    refine dw_ret ?_
    -- path F
    exact ⟨.inr rfl, (resL_tmp rfl resL_nil)⟩
theorem rSame7_ok {n : Nat} {us : List CellD} (hl : us.length = n * 7) (hJ : us.all isJ = true) (hn : n ≤ 1000000) : Ok Tryz.prog 12 [.c (.s n us), .c (.s n us)] [.c (.b true)] := by
  refine Ok.of (by kernel_rfl) Tryz.func12 rfl rfl ?_
  rw [show Tryz.f12.ntmps = 26 from rfl, show Tryz.f12.results.toList = [.tmp 4] from rfl]
  refine dw_seq ?_
  -- region 0
  refine dw_region (by kernel_rfl) ?_
  refine dl_r (sem_assign rfl rfl) ?_
  refine dl_end ?_
  refine dw_seq ?_
  refine dw_seq ?_
  -- region 1
  refine dw_region (by kernel_rfl) ?_
  refine dl_r (sem_move rfl rfl) ?_
  refine dl_r (sem_len sl37 rfl rfl) ?_
  refine dl_r (sem_move rfl rfl) ?_
  refine dl_r (sem_len sl37 rfl rfl) ?_
  refine dl_r (sem_castb (c := false) (sem_cmp rfl rfl rfl rfl) (by simp)) ?_
  refine dl_end ?_
  refine dw_false rfl ?_
  refine dw_skip ?_
  refine dw_seq ?_
  refine dw_seq ?_
  -- region 3
  refine dw_region (by kernel_rfl) ?_
  refine dl_r (sem_assign rfl rfl) ?_
  refine dl_end ?_
  refine dw_block ?_
  refine dw_loop (ι := {j : Nat // j ≤ n}) (fun i => ⟨26, [(0, .v (.c (.s n us))), (1, .v (.c (.s n us))), (5, .v (.c (.i .i64 (i.1 : Int))))], []⟩) (fun i => n - i.1) ⟨0, Nat.zero_le _⟩ (sub_of ⟨rfl, rfl, rfl, trivial⟩ trivial rfl) ?_
  rintro ⟨j, h2⟩
  replace h2 : j ≤ n := h2
  show Dw _ _ ⟨26, [(0, .v (.c (.s n us))), (1, .v (.c (.s n us))), (5, .v (.c (.i .i64 (j : Int))))], []⟩ _
  refine dw_seq ?_
  refine dw_seq ?_
  -- region 4
  refine dw_region (by kernel_rfl) ?_
  refine dl_r (sem_move rfl rfl) ?_
  refine dl_r (sem_move rfl rfl) ?_
  refine dl_r (sem_len sl37 rfl rfl) ?_
  refine dl_r (sem_cmp rfl rfl rfl rfl) ?_
  refine dl_end ?_
  refine dw_cond rfl (fun hc1 => ?_) (fun hc1 => ?_)
  · have g1 : j < n := by have := of_decide_eq_true hc1; omega
    refine dw_skip ?_
    refine dw_seq ?_
    refine dw_block ?_
    refine dw_seq ?_
    -- region 6
    refine dw_draw 9 [] follows_mixed (by kernel_rfl) rfl rfl ?_
    refine dq_r (sem_move rfl rfl) ?_
    refine dq_r (sem_move rfl rfl) ?_
    refine dq_r (sem_index (us := ([.i .i64 (ci us (j * 7))] ++ ([.i .i64 (ci us (j * 7 + 1))] ++ [.i .i64 (ci us (j * 7 + 2))] ++ [.i .i64 (ci us (j * 7 + 3))]) ++ ([.i .i64 (ci us (j * 7 + 4))] ++ [.i .i64 (ci us (j * 7 + 5))]) ++ [.i .i64 (ci us (j * 7 + 6))]) ++ us.drop (j * 7 + 7)) sl37 rfl rfl (by omega) (hl) (ci_drop7 hl hJ (by omega)) rfl) ?_
    refine dq_r (sem_loadq (us := ([.i .i64 (ci us (j * 7))] ++ ([.i .i64 (ci us (j * 7 + 1))] ++ [.i .i64 (ci us (j * 7 + 2))] ++ [.i .i64 (ci us (j * 7 + 3))]) ++ ([.i .i64 (ci us (j * 7 + 4))] ++ [.i .i64 (ci us (j * 7 + 5))]) ++ [.i .i64 (ci us (j * 7 + 6))])) ty76 rfl rfl rfl rfl) ?_
    refine dq_r (sem_move rfl rfl) ?_
    refine dq_r (sem_move rfl rfl) ?_
    refine dq_r (sem_index (us := ([.i .i64 (ci us (j * 7))] ++ ([.i .i64 (ci us (j * 7 + 1))] ++ [.i .i64 (ci us (j * 7 + 2))] ++ [.i .i64 (ci us (j * 7 + 3))]) ++ ([.i .i64 (ci us (j * 7 + 4))] ++ [.i .i64 (ci us (j * 7 + 5))]) ++ [.i .i64 (ci us (j * 7 + 6))]) ++ us.drop (j * 7 + 7)) sl37 rfl rfl (by omega) (hl) (ci_drop7 hl hJ (by omega)) rfl) ?_
    refine dq_r (sem_loadq (us := ([.i .i64 (ci us (j * 7))] ++ ([.i .i64 (ci us (j * 7 + 1))] ++ [.i .i64 (ci us (j * 7 + 2))] ++ [.i .i64 (ci us (j * 7 + 3))]) ++ ([.i .i64 (ci us (j * 7 + 4))] ++ [.i .i64 (ci us (j * 7 + 5))]) ++ [.i .i64 (ci us (j * 7 + 6))])) ty76 rfl rfl rfl rfl) ?_
    refine dq_r (sem_castb (c := false) (sem_sne (r := true) rfl rfl rfl rfl (by kernel_rfl) (fun w => eq_move (ci us (j * 7)) (ci us (j * 7 + 1)) (ci us (j * 7 + 2)) (ci us (j * 7 + 3)) (ci us (j * 7 + 4)) (ci us (j * 7 + 5)) (ci us (j * 7 + 6)) w) rfl) (by simp)) ?_
    refine dq_end ?_
    refine dl_start0 ?_
    refine dl_end ?_
    refine dw_false rfl ?_
    refine dw_skip ?_
    -- region 5
    refine dw_region (by kernel_rfl) ?_
    refine dl_r (sem_move rfl rfl) ?_
    refine dl_r (sem_ari (r := ((j + 1 : Nat) : Int)) rfl rfl ((ari_i64_add (by omega) (by omega)).trans (congrArg some (by omega))) rfl) ?_
    refine dl_r (sem_assign rfl rfl) ?_
    refine dl_end ?_
    exact ⟨⟨j + 1, g1⟩, sub_of ⟨rfl, rfl, rfl, trivial⟩ trivial rfl, by show n - (j + 1) < n - j; omega⟩
  · refine dw_exit ?_
    refine dw_seq ?_
    -- region 8
    refine dw_region (by kernel_rfl) ?_
    refine dl_r (sem_assign rfl rfl) ?_
    refine dl_end ?_
    refine dw_ret ?_
    -- path F
    exact ⟨.inr rfl, (resL_tmp rfl resL_nil)⟩
end Go.Proofs.YtonjlikaacengaaGreat
