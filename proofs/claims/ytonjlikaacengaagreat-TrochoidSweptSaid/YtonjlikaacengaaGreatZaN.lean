/- Slot: program and reference. -/
import Derived.Test.YtonjlikaacengaaGreatZaM
import Derived.Test.YtonjlikaacengaaGreatRows
import Derived.Deep.Slices
import Derived.ProofKit
import Derived.OpenShut
import Derived.Carry
import Derived.Deep.SlicePairs
namespace Go.Proofs.YtonjlikaacengaaGreat
open Go Go.RowKit
theorem tSl_1 {a1 a2 b1 b2 w t z f : Int} {c : Rat} (hc : Rz 20 c) (hA : dok a1 a2 b1 b2 = false ∨ f < 1 ∨ t < 1 ∨ t > 10000000 ∨ w.tmod 2 ≠ 0 ∨ w ≤ 2 * t ∨ w > 4 * t ∨ cosB c = false) : Ok Tryz.prog 11 [.a ([.i .i64 a1] ++ [.i .i64 a2]), .a ([.i .i64 b1] ++ [.i .i64 b2]), .c (.i .i64 w), .c (.i .i64 t), .c (.i .i64 z), .c (.i .i64 f), dR c] [.c (.s 0 []), .c (.i .i64 1)] := by
  refine Ok.of (by kernel_rfl) Tryz.func11 rfl rfl ?_
  rw [show Tryz.f11.ntmps = 107 from rfl, show Tryz.f11.results.toList = [.tmp 14, .tmp 15] from rfl]
  refine dw_seq ?_
  -- region 0
  refine dw_region (by kernel_rfl) ?_
  refine dl_new (sem_box_a rfl rfl) rfl ?_
  refine dl_new (sem_box_a rfl rfl) rfl ?_
  refine dl_new (sem_box_a rfl rfl) rfl ?_
  refine dl_r (sem_assign rfl rfl) ?_
  refine dl_r (sem_assign rfl rfl) ?_
  refine dl_end ?_
  refine dw_seq ?_
  refine dw_seq ?_
  -- region 1
  refine dw_region (by kernel_rfl) ?_
  refine dl_r (sem_load (us := ([.i .i64 a1] ++ [.i .i64 a2])) ty34 rfl rfl rfl rfl rfl) ?_
  refine dl_r (sem_load (us := ([.i .i64 b1] ++ [.i .i64 b2])) ty34 rfl rfl rfl rfl rfl) ?_
  refine dl_r (sem_call rfl rfl (tDir_ok) rfl) ?_
  refine dl_r (sem_move rfl rfl) ?_
  refine dl_r (sem_extract rfl rfl rfl) ?_
  refine dl_r (sem_extract rfl rfl rfl) ?_
  refine dl_new (sem_alloc zc34 rfl) rfl ?_
  refine dl_st (sem_store_a ty34 rfl rfl rfl rfl rfl rfl) ?_
  refine dl_r (sem_assign rfl rfl) ?_
  refine dl_end ?_
  refine dw_seq ?_
  -- region 2
  refine dw_region (by kernel_rfl) ?_
  refine dl_r (sem_move rfl rfl) ?_
  refine dl_r (sem_not rfl rfl) ?_
  refine dl_rb (sem_move rfl rfl) (fun c1 hb1 => ?_)
  cases c1
  · refine dl_r (sem_move rfl rfl) ?_
    refine dl_r (sem_cmp rfl rfl rfl rfl) ?_
    refine dl_r (sem_pick rfl rfl rfl rfl) ?_
    refine dl_rb (sem_move rfl rfl) (fun c2 hb2 => ?_)
    cases c2
    · refine dl_r (sem_move rfl rfl) ?_
      refine dl_r (sem_cmp rfl rfl rfl rfl) ?_
      refine dl_r (sem_pick rfl rfl rfl rfl) ?_
      refine dl_rb (sem_move rfl rfl) (fun c3 hb3 => ?_)
      cases c3
      · refine dl_r (sem_move rfl rfl) ?_
        refine dl_r (sem_cmp rfl rfl rfl rfl) ?_
        refine dl_r (sem_pick rfl rfl rfl rfl) ?_
        refine dl_rb (sem_move rfl rfl) (fun c4 hb4 => ?_)
        cases c4
        · have k2 := of_decide_eq_false hb3
          have k3 := of_decide_eq_false hb4
          refine dl_r (sem_move rfl rfl) ?_
          refine dl_r (sem_rem rfl rfl (by omega) rfl) ?_
          refine dl_r (sem_cmp rfl rfl rfl rfl) ?_
          refine dl_r (sem_pick rfl rfl rfl rfl) ?_
          refine dl_rb (sem_move rfl rfl) (fun c5 hb5 => ?_)
          cases c5
          · refine dl_r (sem_move rfl rfl) ?_
            refine dl_r (sem_move rfl rfl) ?_
            refine dl_r (sem_ari (r := 2 * t) rfl rfl (ari_i64_mul (by omega) (by omega)) rfl) ?_
            refine dl_r (sem_cmp rfl rfl rfl rfl) ?_
            refine dl_r (sem_pick rfl rfl rfl rfl) ?_
            refine dl_rb (sem_move rfl rfl) (fun c6 hb6 => ?_)
            cases c6
            · refine dl_r (sem_move rfl rfl) ?_
              refine dl_r (sem_move rfl rfl) ?_
              refine dl_r (sem_ari (r := 4 * t) rfl rfl (ari_i64_mul (by omega) (by omega)) rfl) ?_
              refine dl_r (sem_cmp rfl rfl rfl rfl) ?_
              refine dl_r (sem_pick rfl rfl rfl rfl) ?_
              refine dl_rb (sem_move rfl rfl) (fun c7 hb7 => ?_)
              cases c7
              · refine dl_r (sem_load (us := cR c) ty28 rfl rfl rfl rfl rfl) ?_
                refine dl_r (sem_call rfl rfl (tCos_ok (by first | assumption | exact Rz.mono hc (by decide))) rfl) ?_
                refine dl_r (sem_not rfl rfl) ?_
                refine dl_r (sem_pick rfl rfl rfl rfl) ?_
                refine dl_end ?_
                refine dw_cond rfl (fun hc8 => ?_) (fun hc8 => ?_)
                · refine dw_seq ?_
                  -- region 3
                  refine dw_region (by kernel_rfl) ?_
                  refine dl_r (sem_assign rfl rfl) ?_
                  refine dl_r (sem_assign rfl rfl) ?_
                  refine dl_end ?_
                  refine dw_ret ?_
                  -- path fffffffT
                  exact ⟨.inr rfl, (resL_tmp rfl (resL_tmp rfl resL_nil))⟩
                · rcases hA with h | h | h | h | h | h | h | h
                  · simp [h] at hb1
                  · exact absurd (show f ≤ 0 by omega) (of_decide_eq_false hb2)
                  · exact absurd h (of_decide_eq_false hb3)
                  · exact absurd h (of_decide_eq_false hb4)
                  · simp [h] at hb5
                  · exact absurd h (of_decide_eq_false hb6)
                  · exact absurd h (of_decide_eq_false hb7)
                  · simp [h] at hc8
              · refine dl_skip (sem_skip rfl) ?_
                refine dl_skip (sem_skip rfl) ?_
                refine dl_skip (sem_skip rfl) ?_
                refine dl_r (sem_pick rfl rfl rfl rfl) ?_
                refine dl_end ?_
                refine dw_true rfl ?_
                refine dw_seq ?_
                -- region 3
                refine dw_region (by kernel_rfl) ?_
                refine dl_r (sem_assign rfl rfl) ?_
                refine dl_r (sem_assign rfl rfl) ?_
                refine dl_end ?_
                refine dw_ret ?_
                -- path fffffft
                exact ⟨.inr rfl, (resL_tmp rfl (resL_tmp rfl resL_nil))⟩
            · refine dl_skip (sem_skip rfl) ?_
              refine dl_skip (sem_skip rfl) ?_
              refine dl_skip (sem_skip rfl) ?_
              refine dl_skip (sem_skip rfl) ?_
              refine dl_r (sem_pick rfl rfl rfl rfl) ?_
              refine dl_r (sem_move rfl rfl) ?_
              refine dl_skip (sem_skip rfl) ?_
              refine dl_skip (sem_skip rfl) ?_
              refine dl_skip (sem_skip rfl) ?_
              refine dl_r (sem_pick rfl rfl rfl rfl) ?_
              refine dl_end ?_
              refine dw_true rfl ?_
              refine dw_seq ?_
              -- region 3
              refine dw_region (by kernel_rfl) ?_
              refine dl_r (sem_assign rfl rfl) ?_
              refine dl_r (sem_assign rfl rfl) ?_
              refine dl_end ?_
              refine dw_ret ?_
              -- path ffffft
              exact ⟨.inr rfl, (resL_tmp rfl (resL_tmp rfl resL_nil))⟩
          · refine dl_skip (sem_skip rfl) ?_
            refine dl_skip (sem_skip rfl) ?_
            refine dl_skip (sem_skip rfl) ?_
            refine dl_skip (sem_skip rfl) ?_
            refine dl_r (sem_pick rfl rfl rfl rfl) ?_
            refine dl_r (sem_move rfl rfl) ?_
            refine dl_skip (sem_skip rfl) ?_
            refine dl_skip (sem_skip rfl) ?_
            refine dl_skip (sem_skip rfl) ?_
            refine dl_skip (sem_skip rfl) ?_
            refine dl_r (sem_pick rfl rfl rfl rfl) ?_
            refine dl_r (sem_move rfl rfl) ?_
            refine dl_skip (sem_skip rfl) ?_
            refine dl_skip (sem_skip rfl) ?_
            refine dl_skip (sem_skip rfl) ?_
            refine dl_r (sem_pick rfl rfl rfl rfl) ?_
            refine dl_end ?_
            refine dw_true rfl ?_
            refine dw_seq ?_
            -- region 3
            refine dw_region (by kernel_rfl) ?_
            refine dl_r (sem_assign rfl rfl) ?_
            refine dl_r (sem_assign rfl rfl) ?_
            refine dl_end ?_
            refine dw_ret ?_
            -- path fffft
            exact ⟨.inr rfl, (resL_tmp rfl (resL_tmp rfl resL_nil))⟩
        · refine dl_skip (sem_skip rfl) ?_
          refine dl_skip (sem_skip rfl) ?_
          refine dl_skip (sem_skip rfl) ?_
          refine dl_r (sem_pick rfl rfl rfl rfl) ?_
          refine dl_r (sem_move rfl rfl) ?_
          refine dl_skip (sem_skip rfl) ?_
          refine dl_skip (sem_skip rfl) ?_
          refine dl_skip (sem_skip rfl) ?_
          refine dl_skip (sem_skip rfl) ?_
          refine dl_r (sem_pick rfl rfl rfl rfl) ?_
          refine dl_r (sem_move rfl rfl) ?_
          refine dl_skip (sem_skip rfl) ?_
          refine dl_skip (sem_skip rfl) ?_
          refine dl_skip (sem_skip rfl) ?_
          refine dl_skip (sem_skip rfl) ?_
          refine dl_r (sem_pick rfl rfl rfl rfl) ?_
          refine dl_r (sem_move rfl rfl) ?_
          refine dl_skip (sem_skip rfl) ?_
          refine dl_skip (sem_skip rfl) ?_
          refine dl_skip (sem_skip rfl) ?_
          refine dl_r (sem_pick rfl rfl rfl rfl) ?_
          refine dl_end ?_
          refine dw_true rfl ?_
          refine dw_seq ?_
          -- region 3
          refine dw_region (by kernel_rfl) ?_
          refine dl_r (sem_assign rfl rfl) ?_
          refine dl_r (sem_assign rfl rfl) ?_
          refine dl_end ?_
          refine dw_ret ?_
          -- path ffft
          exact ⟨.inr rfl, (resL_tmp rfl (resL_tmp rfl resL_nil))⟩
      · refine dl_skip (sem_skip rfl) ?_
        refine dl_skip (sem_skip rfl) ?_
        refine dl_r (sem_pick rfl rfl rfl rfl) ?_
        refine dl_r (sem_move rfl rfl) ?_
        refine dl_skip (sem_skip rfl) ?_
        refine dl_skip (sem_skip rfl) ?_
        refine dl_skip (sem_skip rfl) ?_
        refine dl_r (sem_pick rfl rfl rfl rfl) ?_
        refine dl_r (sem_move rfl rfl) ?_
        refine dl_skip (sem_skip rfl) ?_
        refine dl_skip (sem_skip rfl) ?_
        refine dl_skip (sem_skip rfl) ?_
        refine dl_skip (sem_skip rfl) ?_
        refine dl_r (sem_pick rfl rfl rfl rfl) ?_
        refine dl_r (sem_move rfl rfl) ?_
        refine dl_skip (sem_skip rfl) ?_
        refine dl_skip (sem_skip rfl) ?_
        refine dl_skip (sem_skip rfl) ?_
        refine dl_skip (sem_skip rfl) ?_
        refine dl_r (sem_pick rfl rfl rfl rfl) ?_
        refine dl_r (sem_move rfl rfl) ?_
        refine dl_skip (sem_skip rfl) ?_
        refine dl_skip (sem_skip rfl) ?_
        refine dl_skip (sem_skip rfl) ?_
        refine dl_r (sem_pick rfl rfl rfl rfl) ?_
        refine dl_end ?_
        refine dw_true rfl ?_
        refine dw_seq ?_
        -- region 3
        refine dw_region (by kernel_rfl) ?_
        refine dl_r (sem_assign rfl rfl) ?_
        refine dl_r (sem_assign rfl rfl) ?_
        refine dl_end ?_
        refine dw_ret ?_
        -- path fft
        exact ⟨.inr rfl, (resL_tmp rfl (resL_tmp rfl resL_nil))⟩
    · refine dl_skip (sem_skip rfl) ?_
      refine dl_skip (sem_skip rfl) ?_
      refine dl_r (sem_pick rfl rfl rfl rfl) ?_
      refine dl_r (sem_move rfl rfl) ?_
      refine dl_skip (sem_skip rfl) ?_
      refine dl_skip (sem_skip rfl) ?_
      refine dl_r (sem_pick rfl rfl rfl rfl) ?_
      refine dl_r (sem_move rfl rfl) ?_
      refine dl_skip (sem_skip rfl) ?_
      refine dl_skip (sem_skip rfl) ?_
      refine dl_skip (sem_skip rfl) ?_
      refine dl_r (sem_pick rfl rfl rfl rfl) ?_
      refine dl_r (sem_move rfl rfl) ?_
      refine dl_skip (sem_skip rfl) ?_
      refine dl_skip (sem_skip rfl) ?_
      refine dl_skip (sem_skip rfl) ?_
      refine dl_skip (sem_skip rfl) ?_
      refine dl_r (sem_pick rfl rfl rfl rfl) ?_
      refine dl_r (sem_move rfl rfl) ?_
      refine dl_skip (sem_skip rfl) ?_
      refine dl_skip (sem_skip rfl) ?_
      refine dl_skip (sem_skip rfl) ?_
      refine dl_skip (sem_skip rfl) ?_
      refine dl_r (sem_pick rfl rfl rfl rfl) ?_
      refine dl_r (sem_move rfl rfl) ?_
      refine dl_skip (sem_skip rfl) ?_
      refine dl_skip (sem_skip rfl) ?_
      refine dl_skip (sem_skip rfl) ?_
      refine dl_r (sem_pick rfl rfl rfl rfl) ?_
      refine dl_end ?_
      refine dw_true rfl ?_
      refine dw_seq ?_
      -- region 3
      refine dw_region (by kernel_rfl) ?_
      refine dl_r (sem_assign rfl rfl) ?_
      refine dl_r (sem_assign rfl rfl) ?_
      refine dl_end ?_
      refine dw_ret ?_
      -- path ft
      exact ⟨.inr rfl, (resL_tmp rfl (resL_tmp rfl resL_nil))⟩
  · refine dl_skip (sem_skip rfl) ?_
    refine dl_skip (sem_skip rfl) ?_
    refine dl_r (sem_pick rfl rfl rfl rfl) ?_
    refine dl_r (sem_move rfl rfl) ?_
    refine dl_skip (sem_skip rfl) ?_
    refine dl_skip (sem_skip rfl) ?_
    refine dl_r (sem_pick rfl rfl rfl rfl) ?_
    refine dl_r (sem_move rfl rfl) ?_
    refine dl_skip (sem_skip rfl) ?_
    refine dl_skip (sem_skip rfl) ?_
    refine dl_r (sem_pick rfl rfl rfl rfl) ?_
    refine dl_r (sem_move rfl rfl) ?_
    refine dl_skip (sem_skip rfl) ?_
    refine dl_skip (sem_skip rfl) ?_
    refine dl_skip (sem_skip rfl) ?_
    refine dl_r (sem_pick rfl rfl rfl rfl) ?_
    refine dl_r (sem_move rfl rfl) ?_
    refine dl_skip (sem_skip rfl) ?_
    refine dl_skip (sem_skip rfl) ?_
    refine dl_skip (sem_skip rfl) ?_
    refine dl_skip (sem_skip rfl) ?_
    refine dl_r (sem_pick rfl rfl rfl rfl) ?_
    refine dl_r (sem_move rfl rfl) ?_
    refine dl_skip (sem_skip rfl) ?_
    refine dl_skip (sem_skip rfl) ?_
    refine dl_skip (sem_skip rfl) ?_
    refine dl_skip (sem_skip rfl) ?_
    refine dl_r (sem_pick rfl rfl rfl rfl) ?_
    refine dl_r (sem_move rfl rfl) ?_
    refine dl_skip (sem_skip rfl) ?_
    refine dl_skip (sem_skip rfl) ?_
    refine dl_skip (sem_skip rfl) ?_
    refine dl_r (sem_pick rfl rfl rfl rfl) ?_
    refine dl_end ?_
    refine dw_true rfl ?_
    refine dw_seq ?_
    -- region 3
    refine dw_region (by kernel_rfl) ?_
    refine dl_r (sem_assign rfl rfl) ?_
    refine dl_r (sem_assign rfl rfl) ?_
    refine dl_end ?_
    refine dw_ret ?_
    -- path t
    exact ⟨.inr rfl, (resL_tmp rfl (resL_tmp rfl resL_nil))⟩
theorem tSl_11 {a1 a2 b1 b2 a t z f : Int} {c : Rat} (hc : Rz 20 c) (hok : dok a1 a2 b1 b2 = true) (hf : 1 ≤ f) (ha : 1 ≤ a) (hat : a ≤ t) (ht2 : t ≤ 10000000) (hcos : cosB c = true) (hB : rnd a1 a2 a = false ∨ rnd b1 b2 a = false ∨ far z = true) : Ok Tryz.prog 11 [.a ([.i .i64 a1] ++ [.i .i64 a2]), .a ([.i .i64 b1] ++ [.i .i64 b2]), .c (.i .i64 (2 * (a + t))), .c (.i .i64 t), .c (.i .i64 z), .c (.i .i64 f), dR c] [.c (.s 0 []), .c (.i .i64 11)] := by
  refine Ok.of (by kernel_rfl) Tryz.func11 rfl rfl ?_
  rw [show Tryz.f11.ntmps = 107 from rfl, show Tryz.f11.results.toList = [.tmp 14, .tmp 15] from rfl]
  refine dw_seq ?_
  -- region 0
  refine dw_region (by kernel_rfl) ?_
  refine dl_new (sem_box_a rfl rfl) rfl ?_
  refine dl_new (sem_box_a rfl rfl) rfl ?_
  refine dl_new (sem_box_a rfl rfl) rfl ?_
  refine dl_r (sem_assign rfl rfl) ?_
  refine dl_r (sem_assign rfl rfl) ?_
  refine dl_end ?_
  refine dw_seq ?_
  refine dw_seq ?_
  -- region 1
  refine dw_region (by kernel_rfl) ?_
  refine dl_r (sem_load (us := ([.i .i64 a1] ++ [.i .i64 a2])) ty34 rfl rfl rfl rfl rfl) ?_
  refine dl_r (sem_load (us := ([.i .i64 b1] ++ [.i .i64 b2])) ty34 rfl rfl rfl rfl rfl) ?_
  refine dl_r (sem_call rfl rfl (icast2b tDir_ok rfl rfl hok) rfl) ?_
  refine dl_r (sem_move rfl rfl) ?_
  refine dl_r (sem_extract rfl rfl rfl) ?_
  refine dl_r (sem_extract rfl rfl rfl) ?_
  refine dl_new (sem_alloc zc34 rfl) rfl ?_
  refine dl_st (sem_store_a ty34 rfl rfl rfl rfl rfl rfl) ?_
  refine dl_r (sem_assign rfl rfl) ?_
  refine dl_end ?_
  refine dw_seq ?_
  -- region 2
  refine dw_region (by kernel_rfl) ?_
  refine dl_r (sem_move rfl rfl) ?_
  refine dl_r (sem_not rfl rfl) ?_
  refine dl_r (sem_move rfl rfl) ?_
  refine dl_r (sem_move rfl rfl) ?_
  refine dl_r (sem_castb (c := false) (sem_cmp rfl rfl rfl rfl) (decide_eq_false (by omega))) ?_
  refine dl_r (sem_pick rfl rfl rfl rfl) ?_
  refine dl_r (sem_move rfl rfl) ?_
  refine dl_r (sem_move rfl rfl) ?_
  refine dl_r (sem_castb (c := false) (sem_cmp rfl rfl rfl rfl) (decide_eq_false (by omega))) ?_
  refine dl_r (sem_pick rfl rfl rfl rfl) ?_
  refine dl_r (sem_move rfl rfl) ?_
  refine dl_r (sem_move rfl rfl) ?_
  refine dl_r (sem_castb (c := false) (sem_cmp rfl rfl rfl rfl) (decide_eq_false (by omega))) ?_
  refine dl_r (sem_pick rfl rfl rfl rfl) ?_
  refine dl_r (sem_move rfl rfl) ?_
  refine dl_r (sem_move rfl rfl) ?_
  refine dl_r (sem_rem' (r := 0) rfl rfl (by omega) (Int.mul_tmod_right 2 (a + t)) rfl) ?_
  refine dl_r (sem_cmp rfl rfl rfl rfl) ?_
  refine dl_r (sem_pick rfl rfl rfl rfl) ?_
  refine dl_r (sem_move rfl rfl) ?_
  refine dl_r (sem_move rfl rfl) ?_
  refine dl_r (sem_move rfl rfl) ?_
  refine dl_r (sem_ari (r := 2 * t) rfl rfl (ari_i64_mul (by omega) (by omega)) rfl) ?_
  refine dl_r (sem_castb (c := false) (sem_cmp rfl rfl rfl rfl) (decide_eq_false (by omega))) ?_
  refine dl_r (sem_pick rfl rfl rfl rfl) ?_
  refine dl_r (sem_move rfl rfl) ?_
  refine dl_r (sem_move rfl rfl) ?_
  refine dl_r (sem_move rfl rfl) ?_
  refine dl_r (sem_ari (r := 4 * t) rfl rfl (ari_i64_mul (by omega) (by omega)) rfl) ?_
  refine dl_r (sem_castb (c := false) (sem_cmp rfl rfl rfl rfl) (decide_eq_false (by omega))) ?_
  refine dl_r (sem_pick rfl rfl rfl rfl) ?_
  refine dl_r (sem_move rfl rfl) ?_
  refine dl_r (sem_load (us := cR c) ty28 rfl rfl rfl rfl rfl) ?_
  refine dl_r (sem_call rfl rfl (rcastb (tCos_ok (by first | assumption | exact Rz.mono hc (by decide))) hcos) rfl) ?_
  refine dl_r (sem_not rfl rfl) ?_
  refine dl_r (sem_pick rfl rfl rfl rfl) ?_
  refine dl_end ?_
  refine dw_false rfl ?_
  refine dw_skip ?_
  refine dw_seq ?_
  -- region 4
  refine dw_region (by kernel_rfl) ?_
  refine dl_r (sem_move rfl rfl) ?_
  refine dl_r (sem_quo' (r := a + t) rfl rfl (by omega) (by rw [Int.mul_tdiv_cancel_left _ (by decide)]; exact nw64 (by omega) (by omega)) rfl) ?_
  refine dl_r (sem_move rfl rfl) ?_
  refine dl_r (sem_ari (r := a) rfl rfl ((ari_i64_sub (by omega) (by omega)).trans (congrArg some (by omega))) rfl) ?_
  refine dl_r (sem_assign rfl rfl) ?_
  refine dl_end ?_
  refine dw_seq ?_
  refine dw_seq ?_
  -- region 5
  refine dw_region (by kernel_rfl) ?_
  refine dl_r (sem_load (us := ([.i .i64 a1] ++ [.i .i64 a2])) ty34 rfl rfl rfl rfl rfl) ?_
  refine dl_r (sem_move rfl rfl) ?_
  refine dl_r (sem_call rfl rfl (tRound_ok (by omega)) rfl) ?_
  refine dl_r (sem_not rfl rfl) ?_
  refine dl_rb (sem_move rfl rfl) (fun c1 hb1 => ?_)
  cases c1
  · refine dl_r (sem_load (us := ([.i .i64 b1] ++ [.i .i64 b2])) ty34 rfl rfl rfl rfl rfl) ?_
    refine dl_r (sem_move rfl rfl) ?_
    refine dl_r (sem_call rfl rfl (tRound_ok (by omega)) rfl) ?_
    refine dl_r (sem_not rfl rfl) ?_
    refine dl_r (sem_pick rfl rfl rfl rfl) ?_
    refine dl_rb (sem_move rfl rfl) (fun c2 hb2 => ?_)
    cases c2
    · refine dl_r (sem_move rfl rfl) ?_
      refine dl_r (sem_slit_D (n := 1) (us := [.i .i64 z]) el95 rfl rfl rfl (by decide) (by decide) rfl) ?_
      refine dl_r (sem_call rfl rfl (tGrid1) rfl) ?_
      refine dl_r (sem_not rfl rfl) ?_
      refine dl_r (sem_pick rfl rfl rfl rfl) ?_
      refine dl_end ?_
      refine dw_cond rfl (fun hc3 => ?_) (fun hc3 => ?_)
      · refine dw_seq ?_
        -- region 6
        refine dw_region (by kernel_rfl) ?_
        refine dl_r (sem_assign rfl rfl) ?_
        refine dl_r (sem_assign rfl rfl) ?_
        refine dl_end ?_
        refine dw_ret ?_
        -- path ffT
        exact ⟨.inr rfl, (resL_tmp rfl (resL_tmp rfl resL_nil))⟩
      · rcases hB with h | h | h
        · simp [h] at hb1
        · simp [h] at hb2
        · simp [h] at hc3
    · refine dl_skip (sem_skip rfl) ?_
      refine dl_skip (sem_skip rfl) ?_
      refine dl_skip (sem_skip rfl) ?_
      refine dl_skip (sem_skip rfl) ?_
      refine dl_r (sem_pick rfl rfl rfl rfl) ?_
      refine dl_end ?_
      refine dw_true rfl ?_
      refine dw_seq ?_
      -- region 6
      refine dw_region (by kernel_rfl) ?_
      refine dl_r (sem_assign rfl rfl) ?_
      refine dl_r (sem_assign rfl rfl) ?_
      refine dl_end ?_
      refine dw_ret ?_
      -- path ft
      exact ⟨.inr rfl, (resL_tmp rfl (resL_tmp rfl resL_nil))⟩
  · refine dl_skip (sem_skip rfl) ?_
    refine dl_skip (sem_skip rfl) ?_
    refine dl_skip (sem_skip rfl) ?_
    refine dl_skip (sem_skip rfl) ?_
    refine dl_r (sem_pick rfl rfl rfl rfl) ?_
    refine dl_r (sem_move rfl rfl) ?_
    refine dl_skip (sem_skip rfl) ?_
    refine dl_skip (sem_skip rfl) ?_
    refine dl_skip (sem_skip rfl) ?_
    refine dl_skip (sem_skip rfl) ?_
    refine dl_r (sem_pick rfl rfl rfl rfl) ?_
    refine dl_end ?_
    refine dw_true rfl ?_
    refine dw_seq ?_
    -- region 6
    refine dw_region (by kernel_rfl) ?_
    refine dl_r (sem_assign rfl rfl) ?_
    refine dl_r (sem_assign rfl rfl) ?_
    refine dl_end ?_
    refine dw_ret ?_
    -- path t
    exact ⟨.inr rfl, (resL_tmp rfl (resL_tmp rfl resL_nil))⟩
theorem tSl_16 {a1 a2 b1 b2 a t z f : Int} {c : Rat} (hc : Rz 20 c) (hok : dok a1 a2 b1 b2 = true) (hf : 1 ≤ f) (ha : 1 ≤ a) (hat : a ≤ t) (ht2 : t ≤ 10000000) (hcos : cosB c = true) (q1 : rnd a1 a2 a = true) (q2 : rnd b1 b2 a = true) (q3 : far z = false) {r : Int} (hr0 : 0 ≤ r) (hr1 : r ≤ t + 1) (hφ : ∀ i : Int, 0 ≤ i → i < t + 1 → alw a t (i + 1) c = decide (i < r)) (hr : r = 0) : Ok Tryz.prog 11 [.a ([.i .i64 a1] ++ [.i .i64 a2]), .a ([.i .i64 b1] ++ [.i .i64 b2]), .c (.i .i64 (2 * (a + t))), .c (.i .i64 t), .c (.i .i64 z), .c (.i .i64 f), dR c] [.c (.s 0 []), .c (.i .i64 16)] := by
  refine Ok.of (by kernel_rfl) Tryz.func11 rfl rfl ?_
  rw [show Tryz.f11.ntmps = 107 from rfl, show Tryz.f11.results.toList = [.tmp 14, .tmp 15] from rfl]
  refine dw_seq ?_
  -- region 0
  refine dw_region (by kernel_rfl) ?_
  refine dl_new (sem_box_a rfl rfl) rfl ?_
  refine dl_new (sem_box_a rfl rfl) rfl ?_
  refine dl_new (sem_box_a rfl rfl) rfl ?_
  refine dl_r (sem_assign rfl rfl) ?_
  refine dl_r (sem_assign rfl rfl) ?_
  refine dl_end ?_
  refine dw_seq ?_
  refine dw_seq ?_
  -- region 1
  refine dw_region (by kernel_rfl) ?_
  refine dl_r (sem_load (us := ([.i .i64 a1] ++ [.i .i64 a2])) ty34 rfl rfl rfl rfl rfl) ?_
  refine dl_r (sem_load (us := ([.i .i64 b1] ++ [.i .i64 b2])) ty34 rfl rfl rfl rfl rfl) ?_
  refine dl_r (sem_call rfl rfl (icast2b tDir_ok rfl rfl hok) rfl) ?_
  refine dl_r (sem_move rfl rfl) ?_
  refine dl_r (sem_extract rfl rfl rfl) ?_
  refine dl_r (sem_extract rfl rfl rfl) ?_
  refine dl_new (sem_alloc zc34 rfl) rfl ?_
  refine dl_st (sem_store_a ty34 rfl rfl rfl rfl rfl rfl) ?_
  refine dl_r (sem_assign rfl rfl) ?_
  refine dl_end ?_
  refine dw_seq ?_
  -- region 2
  refine dw_region (by kernel_rfl) ?_
  refine dl_r (sem_move rfl rfl) ?_
  refine dl_r (sem_not rfl rfl) ?_
  refine dl_r (sem_move rfl rfl) ?_
  refine dl_r (sem_move rfl rfl) ?_
  refine dl_r (sem_castb (c := false) (sem_cmp rfl rfl rfl rfl) (decide_eq_false (by omega))) ?_
  refine dl_r (sem_pick rfl rfl rfl rfl) ?_
  refine dl_r (sem_move rfl rfl) ?_
  refine dl_r (sem_move rfl rfl) ?_
  refine dl_r (sem_castb (c := false) (sem_cmp rfl rfl rfl rfl) (decide_eq_false (by omega))) ?_
  refine dl_r (sem_pick rfl rfl rfl rfl) ?_
  refine dl_r (sem_move rfl rfl) ?_
  refine dl_r (sem_move rfl rfl) ?_
  refine dl_r (sem_castb (c := false) (sem_cmp rfl rfl rfl rfl) (decide_eq_false (by omega))) ?_
  refine dl_r (sem_pick rfl rfl rfl rfl) ?_
  refine dl_r (sem_move rfl rfl) ?_
  refine dl_r (sem_move rfl rfl) ?_
  refine dl_r (sem_rem' (r := 0) rfl rfl (by omega) (Int.mul_tmod_right 2 (a + t)) rfl) ?_
  refine dl_r (sem_cmp rfl rfl rfl rfl) ?_
  refine dl_r (sem_pick rfl rfl rfl rfl) ?_
  refine dl_r (sem_move rfl rfl) ?_
  refine dl_r (sem_move rfl rfl) ?_
  refine dl_r (sem_move rfl rfl) ?_
  refine dl_r (sem_ari (r := 2 * t) rfl rfl (ari_i64_mul (by omega) (by omega)) rfl) ?_
  refine dl_r (sem_castb (c := false) (sem_cmp rfl rfl rfl rfl) (decide_eq_false (by omega))) ?_
  refine dl_r (sem_pick rfl rfl rfl rfl) ?_
  refine dl_r (sem_move rfl rfl) ?_
  refine dl_r (sem_move rfl rfl) ?_
  refine dl_r (sem_move rfl rfl) ?_
  refine dl_r (sem_ari (r := 4 * t) rfl rfl (ari_i64_mul (by omega) (by omega)) rfl) ?_
  refine dl_r (sem_castb (c := false) (sem_cmp rfl rfl rfl rfl) (decide_eq_false (by omega))) ?_
  refine dl_r (sem_pick rfl rfl rfl rfl) ?_
  refine dl_r (sem_move rfl rfl) ?_
  refine dl_r (sem_load (us := cR c) ty28 rfl rfl rfl rfl rfl) ?_
  refine dl_r (sem_call rfl rfl (rcastb (tCos_ok (by first | assumption | exact Rz.mono hc (by decide))) hcos) rfl) ?_
  refine dl_r (sem_not rfl rfl) ?_
  refine dl_r (sem_pick rfl rfl rfl rfl) ?_
  refine dl_end ?_
  refine dw_false rfl ?_
  refine dw_skip ?_
  refine dw_seq ?_
  -- region 4
  refine dw_region (by kernel_rfl) ?_
  refine dl_r (sem_move rfl rfl) ?_
  refine dl_r (sem_quo' (r := a + t) rfl rfl (by omega) (by rw [Int.mul_tdiv_cancel_left _ (by decide)]; exact nw64 (by omega) (by omega)) rfl) ?_
  refine dl_r (sem_move rfl rfl) ?_
  refine dl_r (sem_ari (r := a) rfl rfl ((ari_i64_sub (by omega) (by omega)).trans (congrArg some (by omega))) rfl) ?_
  refine dl_r (sem_assign rfl rfl) ?_
  refine dl_end ?_
  refine dw_seq ?_
  refine dw_seq ?_
  -- region 5
  refine dw_region (by kernel_rfl) ?_
  refine dl_r (sem_load (us := ([.i .i64 a1] ++ [.i .i64 a2])) ty34 rfl rfl rfl rfl rfl) ?_
  refine dl_r (sem_move rfl rfl) ?_
  refine dl_r (sem_call rfl rfl (rcastb (tRound_ok (by omega)) q1) rfl) ?_
  refine dl_r (sem_not rfl rfl) ?_
  refine dl_r (sem_move rfl rfl) ?_
  refine dl_r (sem_load (us := ([.i .i64 b1] ++ [.i .i64 b2])) ty34 rfl rfl rfl rfl rfl) ?_
  refine dl_r (sem_move rfl rfl) ?_
  refine dl_r (sem_call rfl rfl (rcastb (tRound_ok (by omega)) q2) rfl) ?_
  refine dl_r (sem_not rfl rfl) ?_
  refine dl_r (sem_pick rfl rfl rfl rfl) ?_
  refine dl_r (sem_move rfl rfl) ?_
  refine dl_r (sem_move rfl rfl) ?_
  refine dl_r (sem_slit_D (n := 1) (us := [.i .i64 z]) el95 rfl rfl rfl (by decide) (by decide) rfl) ?_
  refine dl_r (sem_call rfl rfl (rcastb tGrid1 (show (!far z) = true from by rw [q3, Bool.not_false])) rfl) ?_
  refine dl_r (sem_not rfl rfl) ?_
  refine dl_r (sem_pick rfl rfl rfl rfl) ?_
  refine dl_end ?_
  refine dw_false rfl ?_
  refine dw_skip ?_
  refine dw_seq ?_
  -- region 7
  refine dw_region (by kernel_rfl) ?_
  refine dl_r (sem_move rfl rfl) ?_
  refine dl_r (sem_move rfl rfl) ?_
  refine dl_r (sem_load (us := cR c) ty28 rfl rfl rfl rfl rfl) ?_
  refine dl_r (sem_call rfl rfl (eStep_ok hc ha (by omega) (by omega) ht2 hcos hr0 hr1 hφ) rfl) ?_
  refine dl_r (sem_move rfl rfl) ?_
  refine dl_r (sem_extract rfl rfl rfl) ?_
  refine dl_r (sem_extract rfl rfl rfl) ?_
  refine dl_r (sem_assign rfl rfl) ?_
  refine dl_r (sem_assign rfl rfl) ?_
  refine dl_end ?_
  refine dw_seq ?_
  refine dw_seq ?_
  -- region 8
  refine dw_region (by kernel_rfl) ?_
  refine dl_r (sem_move rfl rfl) ?_
  refine dl_r (sem_cmp rfl rfl rfl rfl) ?_
  refine dl_end ?_
  refine dw_false rfl ?_
  refine dw_skip ?_
  refine dw_seq ?_
  -- region 10
  refine dw_region (by kernel_rfl) ?_
  refine dl_r (sem_move rfl rfl) ?_
  refine dl_r (sem_move rfl rfl) ?_
  refine dl_r (sem_min rfl rfl rfl) ?_
  refine dl_r (sem_assign rfl rfl) ?_
  refine dl_end ?_
  refine dw_seq ?_
  refine dw_seq ?_
  -- region 11
  refine dw_region (by kernel_rfl) ?_
  refine dl_r (sem_move rfl rfl) ?_
  refine dl_r (sem_castb (c := true) (sem_cmp rfl rfl rfl rfl) (decide_eq_true (by omega))) ?_
  refine dl_end ?_
  refine dw_true rfl ?_
  refine dw_seq ?_
  -- region 12
  refine dw_region (by kernel_rfl) ?_
  refine dl_r (sem_assign rfl rfl) ?_
  refine dl_r (sem_assign rfl rfl) ?_
  refine dl_end ?_
  refine dw_ret ?_
  -- path 
  exact ⟨.inr rfl, (resL_tmp rfl (resL_tmp rfl resL_nil))⟩
theorem tSl_ok {a1 a2 b1 b2 a t z f : Int} {c : Rat} (hc : Rz 20 c) (hok : dok a1 a2 b1 b2 = true) (hf : 1 ≤ f) (ha : 1 ≤ a) (hat : a ≤ t) (ht2 : t ≤ 10000000) (hcos : cosB c = true) (q1 : rnd a1 a2 a = true) (q2 : rnd b1 b2 a = true) (q3 : far z = false) {r : Int} (hr0 : 0 ≤ r) (hr1 : r ≤ t + 1) (hφ : ∀ i : Int, 0 ≤ i → i < t + 1 → alw a t (i + 1) c = decide (i < r)) (hr : 1 ≤ r) {n : Nat} {us : List CellD} {e : Int} (hP : Ok Tryz.prog 26 [.a ([.i .i64 a1] ++ [.i .i64 a2]), .a ([.i .i64 b1] ++ [.i .i64 b2]), .c (.i .i64 a), .c (.i .i64 (min r a)), .c (.i .i64 z), .c (.i .i64 f)] [.c (.s n us), .c (.i .i64 e)]) : Ok Tryz.prog 11 [.a ([.i .i64 a1] ++ [.i .i64 a2]), .a ([.i .i64 b1] ++ [.i .i64 b2]), .c (.i .i64 (2 * (a + t))), .c (.i .i64 t), .c (.i .i64 z), .c (.i .i64 f), dR c] [.c (.s n us), .c (.i .i64 e)] := by
  refine Ok.of (by kernel_rfl) Tryz.func11 rfl rfl ?_
  rw [show Tryz.f11.ntmps = 107 from rfl, show Tryz.f11.results.toList = [.tmp 14, .tmp 15] from rfl]
  refine dw_seq ?_
  -- region 0
  refine dw_region (by kernel_rfl) ?_
  refine dl_new (sem_box_a rfl rfl) rfl ?_
  refine dl_new (sem_box_a rfl rfl) rfl ?_
  refine dl_new (sem_box_a rfl rfl) rfl ?_
  refine dl_r (sem_assign rfl rfl) ?_
  refine dl_r (sem_assign rfl rfl) ?_
  refine dl_end ?_
  refine dw_seq ?_
  refine dw_seq ?_
  -- region 1
  refine dw_region (by kernel_rfl) ?_
  refine dl_r (sem_load (us := ([.i .i64 a1] ++ [.i .i64 a2])) ty34 rfl rfl rfl rfl rfl) ?_
  refine dl_r (sem_load (us := ([.i .i64 b1] ++ [.i .i64 b2])) ty34 rfl rfl rfl rfl rfl) ?_
  refine dl_r (sem_call rfl rfl (icast2b tDir_ok rfl rfl hok) rfl) ?_
  refine dl_r (sem_move rfl rfl) ?_
  refine dl_r (sem_extract rfl rfl rfl) ?_
  refine dl_r (sem_extract rfl rfl rfl) ?_
  refine dl_new (sem_alloc zc34 rfl) rfl ?_
  refine dl_st (sem_store_a ty34 rfl rfl rfl rfl rfl rfl) ?_
  refine dl_r (sem_assign rfl rfl) ?_
  refine dl_end ?_
  refine dw_seq ?_
  -- region 2
  refine dw_region (by kernel_rfl) ?_
  refine dl_r (sem_move rfl rfl) ?_
  refine dl_r (sem_not rfl rfl) ?_
  refine dl_r (sem_move rfl rfl) ?_
  refine dl_r (sem_move rfl rfl) ?_
  refine dl_r (sem_castb (c := false) (sem_cmp rfl rfl rfl rfl) (decide_eq_false (by omega))) ?_
  refine dl_r (sem_pick rfl rfl rfl rfl) ?_
  refine dl_r (sem_move rfl rfl) ?_
  refine dl_r (sem_move rfl rfl) ?_
  refine dl_r (sem_castb (c := false) (sem_cmp rfl rfl rfl rfl) (decide_eq_false (by omega))) ?_
  refine dl_r (sem_pick rfl rfl rfl rfl) ?_
  refine dl_r (sem_move rfl rfl) ?_
  refine dl_r (sem_move rfl rfl) ?_
  refine dl_r (sem_castb (c := false) (sem_cmp rfl rfl rfl rfl) (decide_eq_false (by omega))) ?_
  refine dl_r (sem_pick rfl rfl rfl rfl) ?_
  refine dl_r (sem_move rfl rfl) ?_
  refine dl_r (sem_move rfl rfl) ?_
  refine dl_r (sem_rem' (r := 0) rfl rfl (by omega) (Int.mul_tmod_right 2 (a + t)) rfl) ?_
  refine dl_r (sem_cmp rfl rfl rfl rfl) ?_
  refine dl_r (sem_pick rfl rfl rfl rfl) ?_
  refine dl_r (sem_move rfl rfl) ?_
  refine dl_r (sem_move rfl rfl) ?_
  refine dl_r (sem_move rfl rfl) ?_
  refine dl_r (sem_ari (r := 2 * t) rfl rfl (ari_i64_mul (by omega) (by omega)) rfl) ?_
  refine dl_r (sem_castb (c := false) (sem_cmp rfl rfl rfl rfl) (decide_eq_false (by omega))) ?_
  refine dl_r (sem_pick rfl rfl rfl rfl) ?_
  refine dl_r (sem_move rfl rfl) ?_
  refine dl_r (sem_move rfl rfl) ?_
  refine dl_r (sem_move rfl rfl) ?_
  refine dl_r (sem_ari (r := 4 * t) rfl rfl (ari_i64_mul (by omega) (by omega)) rfl) ?_
  refine dl_r (sem_castb (c := false) (sem_cmp rfl rfl rfl rfl) (decide_eq_false (by omega))) ?_
  refine dl_r (sem_pick rfl rfl rfl rfl) ?_
  refine dl_r (sem_move rfl rfl) ?_
  refine dl_r (sem_load (us := cR c) ty28 rfl rfl rfl rfl rfl) ?_
  refine dl_r (sem_call rfl rfl (rcastb (tCos_ok (by first | assumption | exact Rz.mono hc (by decide))) hcos) rfl) ?_
  refine dl_r (sem_not rfl rfl) ?_
  refine dl_r (sem_pick rfl rfl rfl rfl) ?_
  refine dl_end ?_
  refine dw_false rfl ?_
  refine dw_skip ?_
  refine dw_seq ?_
  -- region 4
  refine dw_region (by kernel_rfl) ?_
  refine dl_r (sem_move rfl rfl) ?_
  refine dl_r (sem_quo' (r := a + t) rfl rfl (by omega) (by rw [Int.mul_tdiv_cancel_left _ (by decide)]; exact nw64 (by omega) (by omega)) rfl) ?_
  refine dl_r (sem_move rfl rfl) ?_
  refine dl_r (sem_ari (r := a) rfl rfl ((ari_i64_sub (by omega) (by omega)).trans (congrArg some (by omega))) rfl) ?_
  refine dl_r (sem_assign rfl rfl) ?_
  refine dl_end ?_
  refine dw_seq ?_
  refine dw_seq ?_
  -- region 5
  refine dw_region (by kernel_rfl) ?_
  refine dl_r (sem_load (us := ([.i .i64 a1] ++ [.i .i64 a2])) ty34 rfl rfl rfl rfl rfl) ?_
  refine dl_r (sem_move rfl rfl) ?_
  refine dl_r (sem_call rfl rfl (rcastb (tRound_ok (by omega)) q1) rfl) ?_
  refine dl_r (sem_not rfl rfl) ?_
  refine dl_r (sem_move rfl rfl) ?_
  refine dl_r (sem_load (us := ([.i .i64 b1] ++ [.i .i64 b2])) ty34 rfl rfl rfl rfl rfl) ?_
  refine dl_r (sem_move rfl rfl) ?_
  refine dl_r (sem_call rfl rfl (rcastb (tRound_ok (by omega)) q2) rfl) ?_
  refine dl_r (sem_not rfl rfl) ?_
  refine dl_r (sem_pick rfl rfl rfl rfl) ?_
  refine dl_r (sem_move rfl rfl) ?_
  refine dl_r (sem_move rfl rfl) ?_
  refine dl_r (sem_slit_D (n := 1) (us := [.i .i64 z]) el95 rfl rfl rfl (by decide) (by decide) rfl) ?_
  refine dl_r (sem_call rfl rfl (rcastb tGrid1 (show (!far z) = true from by rw [q3, Bool.not_false])) rfl) ?_
  refine dl_r (sem_not rfl rfl) ?_
  refine dl_r (sem_pick rfl rfl rfl rfl) ?_
  refine dl_end ?_
  refine dw_false rfl ?_
  refine dw_skip ?_
  refine dw_seq ?_
  -- region 7
  refine dw_region (by kernel_rfl) ?_
  refine dl_r (sem_move rfl rfl) ?_
  refine dl_r (sem_move rfl rfl) ?_
  refine dl_r (sem_load (us := cR c) ty28 rfl rfl rfl rfl rfl) ?_
  refine dl_r (sem_call rfl rfl (eStep_ok hc ha (by omega) (by omega) ht2 hcos hr0 hr1 hφ) rfl) ?_
  refine dl_r (sem_move rfl rfl) ?_
  refine dl_r (sem_extract rfl rfl rfl) ?_
  refine dl_r (sem_extract rfl rfl rfl) ?_
  refine dl_r (sem_assign rfl rfl) ?_
  refine dl_r (sem_assign rfl rfl) ?_
  refine dl_end ?_
  refine dw_seq ?_
  refine dw_seq ?_
  -- region 8
  refine dw_region (by kernel_rfl) ?_
  refine dl_r (sem_move rfl rfl) ?_
  refine dl_r (sem_cmp rfl rfl rfl rfl) ?_
  refine dl_end ?_
  refine dw_false rfl ?_
  refine dw_skip ?_
  refine dw_seq ?_
  -- region 10
  refine dw_region (by kernel_rfl) ?_
  refine dl_r (sem_move rfl rfl) ?_
  refine dl_r (sem_move rfl rfl) ?_
  refine dl_r (sem_min rfl rfl rfl) ?_
  refine dl_r (sem_assign rfl rfl) ?_
  refine dl_end ?_
  refine dw_seq ?_
  refine dw_seq ?_
  -- region 11
  refine dw_region (by kernel_rfl) ?_
  refine dl_r (sem_move rfl rfl) ?_
  refine dl_r (sem_castb (c := false) (sem_cmp rfl rfl rfl rfl) (decide_eq_false (by omega))) ?_
  refine dl_end ?_
  refine dw_false rfl ?_
  refine dw_skip ?_
  refine dw_seq ?_
  -- region 13
  refine dw_region (by kernel_rfl) ?_
  refine dl_r (sem_load (us := ([.i .i64 a1] ++ [.i .i64 a2])) ty34 rfl rfl rfl rfl rfl) ?_
  refine dl_r (sem_load (us := ([.i .i64 b1] ++ [.i .i64 b2])) ty34 rfl rfl rfl rfl rfl) ?_
  refine dl_r (sem_move rfl rfl) ?_
  refine dl_r (sem_move rfl rfl) ?_
  refine dl_r (sem_move rfl rfl) ?_
  refine dl_r (sem_move rfl rfl) ?_
  refine dl_r (sem_call rfl rfl (hP) rfl) ?_
  refine dl_r (sem_extract rfl rfl rfl) ?_
  refine dl_r (sem_extract rfl rfl rfl) ?_
  refine dl_r (sem_assign rfl rfl) ?_
  refine dl_r (sem_assign rfl rfl) ?_
  refine dl_end ?_
  refine dw_ret ?_
  -- path 
  exact ⟨.inr rfl, (resL_tmp rfl (resL_tmp rfl resL_nil))⟩
theorem rSl_1 {a1 a2 b1 b2 w t z f : Int} {c : Rat} (hc : Rz 20 c) (hA : dok a1 a2 b1 b2 = false ∨ f < 1 ∨ t < 1 ∨ t > 10000000 ∨ w.tmod 2 ≠ 0 ∨ w ≤ 2 * t ∨ w > 4 * t ∨ cosB c = false) : Ok Tryz.prog 10 [.a ([.i .i64 a1] ++ [.i .i64 a2]), .a ([.i .i64 b1] ++ [.i .i64 b2]), .c (.i .i64 w), .c (.i .i64 t), .c (.i .i64 z), .c (.i .i64 f), dR c] [.c (.s 0 []), .c (.i .i64 1)] := by
  refine Ok.of (by kernel_rfl) Tryz.func10 rfl rfl ?_
  rw [show Tryz.f10.ntmps = 90 from rfl, show Tryz.f10.results.toList = [.tmp 14, .tmp 15] from rfl]
  refine dw_seq ?_
  -- region 0
  refine dw_region (by kernel_rfl) ?_
  refine dl_new (sem_box_a rfl rfl) rfl ?_
  refine dl_new (sem_box_a rfl rfl) rfl ?_
  refine dl_new (sem_box_a rfl rfl) rfl ?_
  refine dl_r (sem_assign rfl rfl) ?_
  refine dl_r (sem_assign rfl rfl) ?_
  refine dl_end ?_
  refine dw_seq ?_
  -- region 1
  refine dw_region (by kernel_rfl) ?_
  refine dl_r (sem_load (us := ([.i .i64 a1] ++ [.i .i64 a2])) ty34 rfl rfl rfl rfl rfl) ?_
  refine dl_r (sem_load (us := ([.i .i64 b1] ++ [.i .i64 b2])) ty34 rfl rfl rfl rfl rfl) ?_
  refine dl_r (sem_call rfl rfl (rDir_ok) rfl) ?_
  refine dl_r (sem_move rfl rfl) ?_
  refine dl_r (sem_extract rfl rfl rfl) ?_
  refine dl_r (sem_extract rfl rfl rfl) ?_
  refine dl_new (sem_alloc zc34 rfl) rfl ?_
  refine dl_st (sem_store_a ty34 rfl rfl rfl rfl rfl rfl) ?_
  refine dl_r (sem_assign rfl rfl) ?_
  refine dl_end ?_
  refine dw_seq ?_
  refine dw_seq ?_
  -- region 2
  refine dw_region (by kernel_rfl) ?_
  refine dl_r (sem_move rfl rfl) ?_
  refine dl_r (sem_not rfl rfl) ?_
  refine dl_rb (sem_move rfl rfl) (fun c1 hb1 => ?_)
  cases c1
  · refine dl_r (sem_move rfl rfl) ?_
    refine dl_r (sem_cmp rfl rfl rfl rfl) ?_
    refine dl_r (sem_pick rfl rfl rfl rfl) ?_
    refine dl_rb (sem_move rfl rfl) (fun c2 hb2 => ?_)
    cases c2
    · refine dl_r (sem_move rfl rfl) ?_
      refine dl_r (sem_cmp rfl rfl rfl rfl) ?_
      refine dl_r (sem_pick rfl rfl rfl rfl) ?_
      refine dl_rb (sem_move rfl rfl) (fun c3 hb3 => ?_)
      cases c3
      · refine dl_r (sem_move rfl rfl) ?_
        refine dl_r (sem_cmp rfl rfl rfl rfl) ?_
        refine dl_r (sem_pick rfl rfl rfl rfl) ?_
        refine dl_rb (sem_move rfl rfl) (fun c4 hb4 => ?_)
        cases c4
        · have k2 := of_decide_eq_false hb3
          have k3 := of_decide_eq_false hb4
          refine dl_r (sem_move rfl rfl) ?_
          refine dl_r (sem_rem rfl rfl (by omega) rfl) ?_
          refine dl_r (sem_cmp rfl rfl rfl rfl) ?_
          refine dl_r (sem_pick rfl rfl rfl rfl) ?_
          refine dl_rb (sem_move rfl rfl) (fun c5 hb5 => ?_)
          cases c5
          · refine dl_r (sem_move rfl rfl) ?_
            refine dl_r (sem_move rfl rfl) ?_
            refine dl_r (sem_ari (r := 2 * t) rfl rfl (ari_i64_mul (by omega) (by omega)) rfl) ?_
            refine dl_r (sem_cmp rfl rfl rfl rfl) ?_
            refine dl_r (sem_pick rfl rfl rfl rfl) ?_
            refine dl_rb (sem_move rfl rfl) (fun c6 hb6 => ?_)
            cases c6
            · refine dl_r (sem_move rfl rfl) ?_
              refine dl_r (sem_move rfl rfl) ?_
              refine dl_r (sem_ari (r := 4 * t) rfl rfl (ari_i64_mul (by omega) (by omega)) rfl) ?_
              refine dl_r (sem_cmp rfl rfl rfl rfl) ?_
              refine dl_r (sem_pick rfl rfl rfl rfl) ?_
              refine dl_rb (sem_move rfl rfl) (fun c7 hb7 => ?_)
              cases c7
              · refine dl_r (sem_load (us := cR c) ty28 rfl rfl rfl rfl rfl) ?_
                refine dl_r (sem_call rfl rfl (rCos_ok (by first | assumption | exact Rz.mono hc (by decide))) rfl) ?_
                refine dl_r (sem_not rfl rfl) ?_
                refine dl_r (sem_pick rfl rfl rfl rfl) ?_
                refine dl_end ?_
                refine dw_cond rfl (fun hc8 => ?_) (fun hc8 => ?_)
                · refine dw_seq ?_
                  -- region 3
                  refine dw_region (by kernel_rfl) ?_
                  refine dl_r (sem_assign rfl rfl) ?_
                  refine dl_r (sem_assign rfl rfl) ?_
                  refine dl_end ?_
                  refine dw_ret ?_
                  -- path fffffffT
                  exact ⟨.inr rfl, (resL_tmp rfl (resL_tmp rfl resL_nil))⟩
                · rcases hA with h | h | h | h | h | h | h | h
                  · simp [h] at hb1
                  · exact absurd (show f < 1 by omega) (of_decide_eq_false hb2)
                  · exact absurd h (of_decide_eq_false hb3)
                  · exact absurd h (of_decide_eq_false hb4)
                  · simp [h] at hb5
                  · exact absurd h (of_decide_eq_false hb6)
                  · exact absurd h (of_decide_eq_false hb7)
                  · simp [h] at hc8
              · refine dl_skip (sem_skip rfl) ?_
                refine dl_skip (sem_skip rfl) ?_
                refine dl_skip (sem_skip rfl) ?_
                refine dl_r (sem_pick rfl rfl rfl rfl) ?_
                refine dl_end ?_
                refine dw_true rfl ?_
                refine dw_seq ?_
                -- region 3
                refine dw_region (by kernel_rfl) ?_
                refine dl_r (sem_assign rfl rfl) ?_
                refine dl_r (sem_assign rfl rfl) ?_
                refine dl_end ?_
                refine dw_ret ?_
                -- path fffffft
                exact ⟨.inr rfl, (resL_tmp rfl (resL_tmp rfl resL_nil))⟩
            · refine dl_skip (sem_skip rfl) ?_
              refine dl_skip (sem_skip rfl) ?_
              refine dl_skip (sem_skip rfl) ?_
              refine dl_skip (sem_skip rfl) ?_
              refine dl_r (sem_pick rfl rfl rfl rfl) ?_
              refine dl_r (sem_move rfl rfl) ?_
              refine dl_skip (sem_skip rfl) ?_
              refine dl_skip (sem_skip rfl) ?_
              refine dl_skip (sem_skip rfl) ?_
              refine dl_r (sem_pick rfl rfl rfl rfl) ?_
              refine dl_end ?_
              refine dw_true rfl ?_
              refine dw_seq ?_
              -- region 3
              refine dw_region (by kernel_rfl) ?_
              refine dl_r (sem_assign rfl rfl) ?_
              refine dl_r (sem_assign rfl rfl) ?_
              refine dl_end ?_
              refine dw_ret ?_
              -- path ffffft
              exact ⟨.inr rfl, (resL_tmp rfl (resL_tmp rfl resL_nil))⟩
          · refine dl_skip (sem_skip rfl) ?_
            refine dl_skip (sem_skip rfl) ?_
            refine dl_skip (sem_skip rfl) ?_
            refine dl_skip (sem_skip rfl) ?_
            refine dl_r (sem_pick rfl rfl rfl rfl) ?_
            refine dl_r (sem_move rfl rfl) ?_
            refine dl_skip (sem_skip rfl) ?_
            refine dl_skip (sem_skip rfl) ?_
            refine dl_skip (sem_skip rfl) ?_
            refine dl_skip (sem_skip rfl) ?_
            refine dl_r (sem_pick rfl rfl rfl rfl) ?_
            refine dl_r (sem_move rfl rfl) ?_
            refine dl_skip (sem_skip rfl) ?_
            refine dl_skip (sem_skip rfl) ?_
            refine dl_skip (sem_skip rfl) ?_
            refine dl_r (sem_pick rfl rfl rfl rfl) ?_
            refine dl_end ?_
            refine dw_true rfl ?_
            refine dw_seq ?_
            -- region 3
            refine dw_region (by kernel_rfl) ?_
            refine dl_r (sem_assign rfl rfl) ?_
            refine dl_r (sem_assign rfl rfl) ?_
            refine dl_end ?_
            refine dw_ret ?_
            -- path fffft
            exact ⟨.inr rfl, (resL_tmp rfl (resL_tmp rfl resL_nil))⟩
        · refine dl_skip (sem_skip rfl) ?_
          refine dl_skip (sem_skip rfl) ?_
          refine dl_skip (sem_skip rfl) ?_
          refine dl_r (sem_pick rfl rfl rfl rfl) ?_
          refine dl_r (sem_move rfl rfl) ?_
          refine dl_skip (sem_skip rfl) ?_
          refine dl_skip (sem_skip rfl) ?_
          refine dl_skip (sem_skip rfl) ?_
          refine dl_skip (sem_skip rfl) ?_
          refine dl_r (sem_pick rfl rfl rfl rfl) ?_
          refine dl_r (sem_move rfl rfl) ?_
          refine dl_skip (sem_skip rfl) ?_
          refine dl_skip (sem_skip rfl) ?_
          refine dl_skip (sem_skip rfl) ?_
          refine dl_skip (sem_skip rfl) ?_
          refine dl_r (sem_pick rfl rfl rfl rfl) ?_
          refine dl_r (sem_move rfl rfl) ?_
          refine dl_skip (sem_skip rfl) ?_
          refine dl_skip (sem_skip rfl) ?_
          refine dl_skip (sem_skip rfl) ?_
          refine dl_r (sem_pick rfl rfl rfl rfl) ?_
          refine dl_end ?_
          refine dw_true rfl ?_
          refine dw_seq ?_
          -- region 3
          refine dw_region (by kernel_rfl) ?_
          refine dl_r (sem_assign rfl rfl) ?_
          refine dl_r (sem_assign rfl rfl) ?_
          refine dl_end ?_
          refine dw_ret ?_
          -- path ffft
          exact ⟨.inr rfl, (resL_tmp rfl (resL_tmp rfl resL_nil))⟩
      · refine dl_skip (sem_skip rfl) ?_
        refine dl_skip (sem_skip rfl) ?_
        refine dl_r (sem_pick rfl rfl rfl rfl) ?_
        refine dl_r (sem_move rfl rfl) ?_
        refine dl_skip (sem_skip rfl) ?_
        refine dl_skip (sem_skip rfl) ?_
        refine dl_skip (sem_skip rfl) ?_
        refine dl_r (sem_pick rfl rfl rfl rfl) ?_
        refine dl_r (sem_move rfl rfl) ?_
        refine dl_skip (sem_skip rfl) ?_
        refine dl_skip (sem_skip rfl) ?_
        refine dl_skip (sem_skip rfl) ?_
        refine dl_skip (sem_skip rfl) ?_
        refine dl_r (sem_pick rfl rfl rfl rfl) ?_
        refine dl_r (sem_move rfl rfl) ?_
        refine dl_skip (sem_skip rfl) ?_
        refine dl_skip (sem_skip rfl) ?_
        refine dl_skip (sem_skip rfl) ?_
        refine dl_skip (sem_skip rfl) ?_
        refine dl_r (sem_pick rfl rfl rfl rfl) ?_
        refine dl_r (sem_move rfl rfl) ?_
        refine dl_skip (sem_skip rfl) ?_
        refine dl_skip (sem_skip rfl) ?_
        refine dl_skip (sem_skip rfl) ?_
        refine dl_r (sem_pick rfl rfl rfl rfl) ?_
        refine dl_end ?_
        refine dw_true rfl ?_
        refine dw_seq ?_
        -- region 3
        refine dw_region (by kernel_rfl) ?_
        refine dl_r (sem_assign rfl rfl) ?_
        refine dl_r (sem_assign rfl rfl) ?_
        refine dl_end ?_
        refine dw_ret ?_
        -- path fft
        exact ⟨.inr rfl, (resL_tmp rfl (resL_tmp rfl resL_nil))⟩
    · refine dl_skip (sem_skip rfl) ?_
      refine dl_skip (sem_skip rfl) ?_
      refine dl_r (sem_pick rfl rfl rfl rfl) ?_
      refine dl_r (sem_move rfl rfl) ?_
      refine dl_skip (sem_skip rfl) ?_
      refine dl_skip (sem_skip rfl) ?_
      refine dl_r (sem_pick rfl rfl rfl rfl) ?_
      refine dl_r (sem_move rfl rfl) ?_
      refine dl_skip (sem_skip rfl) ?_
      refine dl_skip (sem_skip rfl) ?_
      refine dl_skip (sem_skip rfl) ?_
      refine dl_r (sem_pick rfl rfl rfl rfl) ?_
      refine dl_r (sem_move rfl rfl) ?_
      refine dl_skip (sem_skip rfl) ?_
      refine dl_skip (sem_skip rfl) ?_
      refine dl_skip (sem_skip rfl) ?_
      refine dl_skip (sem_skip rfl) ?_
      refine dl_r (sem_pick rfl rfl rfl rfl) ?_
      refine dl_r (sem_move rfl rfl) ?_
      refine dl_skip (sem_skip rfl) ?_
      refine dl_skip (sem_skip rfl) ?_
      refine dl_skip (sem_skip rfl) ?_
      refine dl_skip (sem_skip rfl) ?_
      refine dl_r (sem_pick rfl rfl rfl rfl) ?_
      refine dl_r (sem_move rfl rfl) ?_
      refine dl_skip (sem_skip rfl) ?_
      refine dl_skip (sem_skip rfl) ?_
      refine dl_skip (sem_skip rfl) ?_
      refine dl_r (sem_pick rfl rfl rfl rfl) ?_
      refine dl_end ?_
      refine dw_true rfl ?_
      refine dw_seq ?_
      -- region 3
      refine dw_region (by kernel_rfl) ?_
      refine dl_r (sem_assign rfl rfl) ?_
      refine dl_r (sem_assign rfl rfl) ?_
      refine dl_end ?_
      refine dw_ret ?_
      -- path ft
      exact ⟨.inr rfl, (resL_tmp rfl (resL_tmp rfl resL_nil))⟩
  · refine dl_skip (sem_skip rfl) ?_
    refine dl_skip (sem_skip rfl) ?_
    refine dl_r (sem_pick rfl rfl rfl rfl) ?_
    refine dl_r (sem_move rfl rfl) ?_
    refine dl_skip (sem_skip rfl) ?_
    refine dl_skip (sem_skip rfl) ?_
    refine dl_r (sem_pick rfl rfl rfl rfl) ?_
    refine dl_r (sem_move rfl rfl) ?_
    refine dl_skip (sem_skip rfl) ?_
    refine dl_skip (sem_skip rfl) ?_
    refine dl_r (sem_pick rfl rfl rfl rfl) ?_
    refine dl_r (sem_move rfl rfl) ?_
    refine dl_skip (sem_skip rfl) ?_
    refine dl_skip (sem_skip rfl) ?_
    refine dl_skip (sem_skip rfl) ?_
    refine dl_r (sem_pick rfl rfl rfl rfl) ?_
    refine dl_r (sem_move rfl rfl) ?_
    refine dl_skip (sem_skip rfl) ?_
    refine dl_skip (sem_skip rfl) ?_
    refine dl_skip (sem_skip rfl) ?_
    refine dl_skip (sem_skip rfl) ?_
    refine dl_r (sem_pick rfl rfl rfl rfl) ?_
    refine dl_r (sem_move rfl rfl) ?_
    refine dl_skip (sem_skip rfl) ?_
    refine dl_skip (sem_skip rfl) ?_
    refine dl_skip (sem_skip rfl) ?_
    refine dl_skip (sem_skip rfl) ?_
    refine dl_r (sem_pick rfl rfl rfl rfl) ?_
    refine dl_r (sem_move rfl rfl) ?_
    refine dl_skip (sem_skip rfl) ?_
    refine dl_skip (sem_skip rfl) ?_
    refine dl_skip (sem_skip rfl) ?_
    refine dl_r (sem_pick rfl rfl rfl rfl) ?_
    refine dl_end ?_
    refine dw_true rfl ?_
    refine dw_seq ?_
    -- region 3
    refine dw_region (by kernel_rfl) ?_
    refine dl_r (sem_assign rfl rfl) ?_
    refine dl_r (sem_assign rfl rfl) ?_
    refine dl_end ?_
    refine dw_ret ?_
    -- path t
    exact ⟨.inr rfl, (resL_tmp rfl (resL_tmp rfl resL_nil))⟩
theorem rSl_11 {a1 a2 b1 b2 a t z f : Int} {c : Rat} (hc : Rz 20 c) (hok : dok a1 a2 b1 b2 = true) (hf : 1 ≤ f) (ha : 1 ≤ a) (hat : a ≤ t) (ht2 : t ≤ 10000000) (hcos : cosB c = true) (hE : chkE a1 a2 b1 b2 a z = 11) : Ok Tryz.prog 10 [.a ([.i .i64 a1] ++ [.i .i64 a2]), .a ([.i .i64 b1] ++ [.i .i64 b2]), .c (.i .i64 (2 * (a + t))), .c (.i .i64 t), .c (.i .i64 z), .c (.i .i64 f), dR c] [.c (.s 0 []), .c (.i .i64 11)] := by
  refine Ok.of (by kernel_rfl) Tryz.func10 rfl rfl ?_
  rw [show Tryz.f10.ntmps = 90 from rfl, show Tryz.f10.results.toList = [.tmp 14, .tmp 15] from rfl]
  refine dw_seq ?_
  -- region 0
  refine dw_region (by kernel_rfl) ?_
  refine dl_new (sem_box_a rfl rfl) rfl ?_
  refine dl_new (sem_box_a rfl rfl) rfl ?_
  refine dl_new (sem_box_a rfl rfl) rfl ?_
  refine dl_r (sem_assign rfl rfl) ?_
  refine dl_r (sem_assign rfl rfl) ?_
  refine dl_end ?_
  refine dw_seq ?_
  -- region 1
  refine dw_region (by kernel_rfl) ?_
  refine dl_r (sem_load (us := ([.i .i64 a1] ++ [.i .i64 a2])) ty34 rfl rfl rfl rfl rfl) ?_
  refine dl_r (sem_load (us := ([.i .i64 b1] ++ [.i .i64 b2])) ty34 rfl rfl rfl rfl rfl) ?_
  refine dl_r (sem_call rfl rfl (icast2b rDir_ok rfl rfl hok) rfl) ?_
  refine dl_r (sem_move rfl rfl) ?_
  refine dl_r (sem_extract rfl rfl rfl) ?_
  refine dl_r (sem_extract rfl rfl rfl) ?_
  refine dl_new (sem_alloc zc34 rfl) rfl ?_
  refine dl_st (sem_store_a ty34 rfl rfl rfl rfl rfl rfl) ?_
  refine dl_r (sem_assign rfl rfl) ?_
  refine dl_end ?_
  refine dw_seq ?_
  refine dw_seq ?_
  -- region 2
  refine dw_region (by kernel_rfl) ?_
  refine dl_r (sem_move rfl rfl) ?_
  refine dl_r (sem_not rfl rfl) ?_
  refine dl_r (sem_move rfl rfl) ?_
  refine dl_r (sem_move rfl rfl) ?_
  refine dl_r (sem_castb (c := false) (sem_cmp rfl rfl rfl rfl) (decide_eq_false (by omega))) ?_
  refine dl_r (sem_pick rfl rfl rfl rfl) ?_
  refine dl_r (sem_move rfl rfl) ?_
  refine dl_r (sem_move rfl rfl) ?_
  refine dl_r (sem_castb (c := false) (sem_cmp rfl rfl rfl rfl) (decide_eq_false (by omega))) ?_
  refine dl_r (sem_pick rfl rfl rfl rfl) ?_
  refine dl_r (sem_move rfl rfl) ?_
  refine dl_r (sem_move rfl rfl) ?_
  refine dl_r (sem_castb (c := false) (sem_cmp rfl rfl rfl rfl) (decide_eq_false (by omega))) ?_
  refine dl_r (sem_pick rfl rfl rfl rfl) ?_
  refine dl_r (sem_move rfl rfl) ?_
  refine dl_r (sem_move rfl rfl) ?_
  refine dl_r (sem_rem' (r := 0) rfl rfl (by omega) (Int.mul_tmod_right 2 (a + t)) rfl) ?_
  refine dl_r (sem_cmp rfl rfl rfl rfl) ?_
  refine dl_r (sem_pick rfl rfl rfl rfl) ?_
  refine dl_r (sem_move rfl rfl) ?_
  refine dl_r (sem_move rfl rfl) ?_
  refine dl_r (sem_move rfl rfl) ?_
  refine dl_r (sem_ari (r := 2 * t) rfl rfl (ari_i64_mul (by omega) (by omega)) rfl) ?_
  refine dl_r (sem_castb (c := false) (sem_cmp rfl rfl rfl rfl) (decide_eq_false (by omega))) ?_
  refine dl_r (sem_pick rfl rfl rfl rfl) ?_
  refine dl_r (sem_move rfl rfl) ?_
  refine dl_r (sem_move rfl rfl) ?_
  refine dl_r (sem_move rfl rfl) ?_
  refine dl_r (sem_ari (r := 4 * t) rfl rfl (ari_i64_mul (by omega) (by omega)) rfl) ?_
  refine dl_r (sem_castb (c := false) (sem_cmp rfl rfl rfl rfl) (decide_eq_false (by omega))) ?_
  refine dl_r (sem_pick rfl rfl rfl rfl) ?_
  refine dl_r (sem_move rfl rfl) ?_
  refine dl_r (sem_load (us := cR c) ty28 rfl rfl rfl rfl rfl) ?_
  refine dl_r (sem_call rfl rfl (rcastb (rCos_ok (by first | assumption | exact Rz.mono hc (by decide))) hcos) rfl) ?_
  refine dl_r (sem_not rfl rfl) ?_
  refine dl_r (sem_pick rfl rfl rfl rfl) ?_
  refine dl_end ?_
  refine dw_false rfl ?_
  refine dw_skip ?_
  refine dw_seq ?_
  -- region 4
  refine dw_region (by kernel_rfl) ?_
  refine dl_r (sem_move rfl rfl) ?_
  refine dl_r (sem_quo' (r := a + t) rfl rfl (by omega) (by rw [Int.mul_tdiv_cancel_left _ (by decide)]; exact nw64 (by omega) (by omega)) rfl) ?_
  refine dl_r (sem_move rfl rfl) ?_
  refine dl_r (sem_ari (r := a) rfl rfl ((ari_i64_sub (by omega) (by omega)).trans (congrArg some (by omega))) rfl) ?_
  refine dl_r (sem_assign rfl rfl) ?_
  refine dl_end ?_
  refine dw_seq ?_
  refine dw_seq ?_
  -- region 5
  refine dw_region (by kernel_rfl) ?_
  refine dl_r (sem_load (us := ([.i .i64 a1] ++ [.i .i64 a2])) ty34 rfl rfl rfl rfl rfl) ?_
  refine dl_r (sem_load (us := ([.i .i64 b1] ++ [.i .i64 b2])) ty34 rfl rfl rfl rfl rfl) ?_
  refine dl_r (sem_move rfl rfl) ?_
  refine dl_r (sem_move rfl rfl) ?_
  refine dl_r (sem_call rfl rfl (rcasti rChk_ok hE) rfl) ?_
  refine dl_r (sem_assign rfl rfl) ?_
  refine dl_end ?_
  refine dw_seq ?_
  -- region 6
  refine dw_region (by kernel_rfl) ?_
  refine dl_r (sem_move rfl rfl) ?_
  refine dl_r (sem_cmp rfl rfl rfl rfl) ?_
  refine dl_end ?_
  refine dw_true rfl ?_
  refine dw_seq ?_
  -- region 7
  refine dw_region (by kernel_rfl) ?_
  refine dl_r (sem_move rfl rfl) ?_
  refine dl_r (sem_assign rfl rfl) ?_
  refine dl_r (sem_assign rfl rfl) ?_
  refine dl_end ?_
  refine dw_ret ?_
  -- path 
  exact ⟨.inr rfl, (resL_tmp rfl (resL_tmp rfl resL_nil))⟩
theorem rSl_16 {a1 a2 b1 b2 a t z f : Int} {c : Rat} (hc : Rz 20 c) (hok : dok a1 a2 b1 b2 = true) (hf : 1 ≤ f) (ha : 1 ≤ a) (hat : a ≤ t) (ht2 : t ≤ 10000000) (hcos : cosB c = true) (hE : chkE a1 a2 b1 b2 a z = 0) {m : Int} (hm0 : 0 ≤ m) (hm1 : m ≤ a) (hφ : ∀ i : Int, 1 ≤ i → i ≤ a → alw a t i c = decide (i ≤ m)) (hr : m = 0) : Ok Tryz.prog 10 [.a ([.i .i64 a1] ++ [.i .i64 a2]), .a ([.i .i64 b1] ++ [.i .i64 b2]), .c (.i .i64 (2 * (a + t))), .c (.i .i64 t), .c (.i .i64 z), .c (.i .i64 f), dR c] [.c (.s 0 []), .c (.i .i64 16)] := by
  refine Ok.of (by kernel_rfl) Tryz.func10 rfl rfl ?_
  rw [show Tryz.f10.ntmps = 90 from rfl, show Tryz.f10.results.toList = [.tmp 14, .tmp 15] from rfl]
  refine dw_seq ?_
  -- region 0
  refine dw_region (by kernel_rfl) ?_
  refine dl_new (sem_box_a rfl rfl) rfl ?_
  refine dl_new (sem_box_a rfl rfl) rfl ?_
  refine dl_new (sem_box_a rfl rfl) rfl ?_
  refine dl_r (sem_assign rfl rfl) ?_
  refine dl_r (sem_assign rfl rfl) ?_
  refine dl_end ?_
  refine dw_seq ?_
  -- region 1
  refine dw_region (by kernel_rfl) ?_
  refine dl_r (sem_load (us := ([.i .i64 a1] ++ [.i .i64 a2])) ty34 rfl rfl rfl rfl rfl) ?_
  refine dl_r (sem_load (us := ([.i .i64 b1] ++ [.i .i64 b2])) ty34 rfl rfl rfl rfl rfl) ?_
  refine dl_r (sem_call rfl rfl (icast2b rDir_ok rfl rfl hok) rfl) ?_
  refine dl_r (sem_move rfl rfl) ?_
  refine dl_r (sem_extract rfl rfl rfl) ?_
  refine dl_r (sem_extract rfl rfl rfl) ?_
  refine dl_new (sem_alloc zc34 rfl) rfl ?_
  refine dl_st (sem_store_a ty34 rfl rfl rfl rfl rfl rfl) ?_
  refine dl_r (sem_assign rfl rfl) ?_
  refine dl_end ?_
  refine dw_seq ?_
  refine dw_seq ?_
  -- region 2
  refine dw_region (by kernel_rfl) ?_
  refine dl_r (sem_move rfl rfl) ?_
  refine dl_r (sem_not rfl rfl) ?_
  refine dl_r (sem_move rfl rfl) ?_
  refine dl_r (sem_move rfl rfl) ?_
  refine dl_r (sem_castb (c := false) (sem_cmp rfl rfl rfl rfl) (decide_eq_false (by omega))) ?_
  refine dl_r (sem_pick rfl rfl rfl rfl) ?_
  refine dl_r (sem_move rfl rfl) ?_
  refine dl_r (sem_move rfl rfl) ?_
  refine dl_r (sem_castb (c := false) (sem_cmp rfl rfl rfl rfl) (decide_eq_false (by omega))) ?_
  refine dl_r (sem_pick rfl rfl rfl rfl) ?_
  refine dl_r (sem_move rfl rfl) ?_
  refine dl_r (sem_move rfl rfl) ?_
  refine dl_r (sem_castb (c := false) (sem_cmp rfl rfl rfl rfl) (decide_eq_false (by omega))) ?_
  refine dl_r (sem_pick rfl rfl rfl rfl) ?_
  refine dl_r (sem_move rfl rfl) ?_
  refine dl_r (sem_move rfl rfl) ?_
  refine dl_r (sem_rem' (r := 0) rfl rfl (by omega) (Int.mul_tmod_right 2 (a + t)) rfl) ?_
  refine dl_r (sem_cmp rfl rfl rfl rfl) ?_
  refine dl_r (sem_pick rfl rfl rfl rfl) ?_
  refine dl_r (sem_move rfl rfl) ?_
  refine dl_r (sem_move rfl rfl) ?_
  refine dl_r (sem_move rfl rfl) ?_
  refine dl_r (sem_ari (r := 2 * t) rfl rfl (ari_i64_mul (by omega) (by omega)) rfl) ?_
  refine dl_r (sem_castb (c := false) (sem_cmp rfl rfl rfl rfl) (decide_eq_false (by omega))) ?_
  refine dl_r (sem_pick rfl rfl rfl rfl) ?_
  refine dl_r (sem_move rfl rfl) ?_
  refine dl_r (sem_move rfl rfl) ?_
  refine dl_r (sem_move rfl rfl) ?_
  refine dl_r (sem_ari (r := 4 * t) rfl rfl (ari_i64_mul (by omega) (by omega)) rfl) ?_
  refine dl_r (sem_castb (c := false) (sem_cmp rfl rfl rfl rfl) (decide_eq_false (by omega))) ?_
  refine dl_r (sem_pick rfl rfl rfl rfl) ?_
  refine dl_r (sem_move rfl rfl) ?_
  refine dl_r (sem_load (us := cR c) ty28 rfl rfl rfl rfl rfl) ?_
  refine dl_r (sem_call rfl rfl (rcastb (rCos_ok (by first | assumption | exact Rz.mono hc (by decide))) hcos) rfl) ?_
  refine dl_r (sem_not rfl rfl) ?_
  refine dl_r (sem_pick rfl rfl rfl rfl) ?_
  refine dl_end ?_
  refine dw_false rfl ?_
  refine dw_skip ?_
  refine dw_seq ?_
  -- region 4
  refine dw_region (by kernel_rfl) ?_
  refine dl_r (sem_move rfl rfl) ?_
  refine dl_r (sem_quo' (r := a + t) rfl rfl (by omega) (by rw [Int.mul_tdiv_cancel_left _ (by decide)]; exact nw64 (by omega) (by omega)) rfl) ?_
  refine dl_r (sem_move rfl rfl) ?_
  refine dl_r (sem_ari (r := a) rfl rfl ((ari_i64_sub (by omega) (by omega)).trans (congrArg some (by omega))) rfl) ?_
  refine dl_r (sem_assign rfl rfl) ?_
  refine dl_end ?_
  refine dw_seq ?_
  refine dw_seq ?_
  -- region 5
  refine dw_region (by kernel_rfl) ?_
  refine dl_r (sem_load (us := ([.i .i64 a1] ++ [.i .i64 a2])) ty34 rfl rfl rfl rfl rfl) ?_
  refine dl_r (sem_load (us := ([.i .i64 b1] ++ [.i .i64 b2])) ty34 rfl rfl rfl rfl rfl) ?_
  refine dl_r (sem_move rfl rfl) ?_
  refine dl_r (sem_move rfl rfl) ?_
  refine dl_r (sem_call rfl rfl (rcasti rChk_ok hE) rfl) ?_
  refine dl_r (sem_assign rfl rfl) ?_
  refine dl_end ?_
  refine dw_seq ?_
  -- region 6
  refine dw_region (by kernel_rfl) ?_
  refine dl_r (sem_move rfl rfl) ?_
  refine dl_r (sem_cmp rfl rfl rfl rfl) ?_
  refine dl_end ?_
  refine dw_false rfl ?_
  refine dw_skip ?_
  refine dw_seq ?_
  -- region 8
  refine dw_region (by kernel_rfl) ?_
  refine dl_r (sem_move rfl rfl) ?_
  refine dl_r (sem_move rfl rfl) ?_
  refine dl_r (sem_load (us := cR c) ty28 rfl rfl rfl rfl rfl) ?_
  refine dl_r (sem_call rfl rfl (rStep_ok hc ha (by omega) (by omega) ht2 hm0 hm1 hφ) rfl) ?_
  refine dl_r (sem_assign rfl rfl) ?_
  refine dl_end ?_
  refine dw_seq ?_
  refine dw_seq ?_
  -- region 9
  refine dw_region (by kernel_rfl) ?_
  refine dl_r (sem_move rfl rfl) ?_
  refine dl_r (sem_castb (c := true) (sem_cmp rfl rfl rfl rfl) (beq_iff_eq.2 (by omega))) ?_
  refine dl_end ?_
  refine dw_true rfl ?_
  refine dw_seq ?_
  -- region 10
  refine dw_region (by kernel_rfl) ?_
  refine dl_r (sem_assign rfl rfl) ?_
  refine dl_r (sem_assign rfl rfl) ?_
  refine dl_end ?_
  refine dw_ret ?_
  -- path 
  exact ⟨.inr rfl, (resL_tmp rfl (resL_tmp rfl resL_nil))⟩
theorem rSl_ok {a1 a2 b1 b2 a t z f : Int} {c : Rat} (hc : Rz 20 c) (hok : dok a1 a2 b1 b2 = true) (hf : 1 ≤ f) (ha : 1 ≤ a) (hat : a ≤ t) (ht2 : t ≤ 10000000) (hcos : cosB c = true) (hE : chkE a1 a2 b1 b2 a z = 0) {m : Int} (hm0 : 0 ≤ m) (hm1 : m ≤ a) (hφ : ∀ i : Int, 1 ≤ i → i ≤ a → alw a t i c = decide (i ≤ m)) (hr : 1 ≤ m) {n : Nat} {us : List CellD} {e : Int} (hP : Ok Tryz.prog 39 [.a ([.i .i64 a1] ++ [.i .i64 a2]), .a ([.i .i64 b1] ++ [.i .i64 b2]), .c (.i .i64 a), .c (.i .i64 m), .c (.i .i64 z), .c (.i .i64 f)] [.c (.s n us), .c (.i .i64 e)]) : Ok Tryz.prog 10 [.a ([.i .i64 a1] ++ [.i .i64 a2]), .a ([.i .i64 b1] ++ [.i .i64 b2]), .c (.i .i64 (2 * (a + t))), .c (.i .i64 t), .c (.i .i64 z), .c (.i .i64 f), dR c] [.c (.s n us), .c (.i .i64 e)] := by
  refine Ok.of (by kernel_rfl) Tryz.func10 rfl rfl ?_
  rw [show Tryz.f10.ntmps = 90 from rfl, show Tryz.f10.results.toList = [.tmp 14, .tmp 15] from rfl]
  refine dw_seq ?_
  -- region 0
  refine dw_region (by kernel_rfl) ?_
  refine dl_new (sem_box_a rfl rfl) rfl ?_
  refine dl_new (sem_box_a rfl rfl) rfl ?_
  refine dl_new (sem_box_a rfl rfl) rfl ?_
  refine dl_r (sem_assign rfl rfl) ?_
  refine dl_r (sem_assign rfl rfl) ?_
  refine dl_end ?_
  refine dw_seq ?_
  -- region 1
  refine dw_region (by kernel_rfl) ?_
  refine dl_r (sem_load (us := ([.i .i64 a1] ++ [.i .i64 a2])) ty34 rfl rfl rfl rfl rfl) ?_
  refine dl_r (sem_load (us := ([.i .i64 b1] ++ [.i .i64 b2])) ty34 rfl rfl rfl rfl rfl) ?_
  refine dl_r (sem_call rfl rfl (icast2b rDir_ok rfl rfl hok) rfl) ?_
  refine dl_r (sem_move rfl rfl) ?_
  refine dl_r (sem_extract rfl rfl rfl) ?_
  refine dl_r (sem_extract rfl rfl rfl) ?_
  refine dl_new (sem_alloc zc34 rfl) rfl ?_
  refine dl_st (sem_store_a ty34 rfl rfl rfl rfl rfl rfl) ?_
  refine dl_r (sem_assign rfl rfl) ?_
  refine dl_end ?_
  refine dw_seq ?_
  refine dw_seq ?_
  -- region 2
  refine dw_region (by kernel_rfl) ?_
  refine dl_r (sem_move rfl rfl) ?_
  refine dl_r (sem_not rfl rfl) ?_
  refine dl_r (sem_move rfl rfl) ?_
  refine dl_r (sem_move rfl rfl) ?_
  refine dl_r (sem_castb (c := false) (sem_cmp rfl rfl rfl rfl) (decide_eq_false (by omega))) ?_
  refine dl_r (sem_pick rfl rfl rfl rfl) ?_
  refine dl_r (sem_move rfl rfl) ?_
  refine dl_r (sem_move rfl rfl) ?_
  refine dl_r (sem_castb (c := false) (sem_cmp rfl rfl rfl rfl) (decide_eq_false (by omega))) ?_
  refine dl_r (sem_pick rfl rfl rfl rfl) ?_
  refine dl_r (sem_move rfl rfl) ?_
  refine dl_r (sem_move rfl rfl) ?_
  refine dl_r (sem_castb (c := false) (sem_cmp rfl rfl rfl rfl) (decide_eq_false (by omega))) ?_
  refine dl_r (sem_pick rfl rfl rfl rfl) ?_
  refine dl_r (sem_move rfl rfl) ?_
  refine dl_r (sem_move rfl rfl) ?_
  refine dl_r (sem_rem' (r := 0) rfl rfl (by omega) (Int.mul_tmod_right 2 (a + t)) rfl) ?_
  refine dl_r (sem_cmp rfl rfl rfl rfl) ?_
  refine dl_r (sem_pick rfl rfl rfl rfl) ?_
  refine dl_r (sem_move rfl rfl) ?_
  refine dl_r (sem_move rfl rfl) ?_
  refine dl_r (sem_move rfl rfl) ?_
  refine dl_r (sem_ari (r := 2 * t) rfl rfl (ari_i64_mul (by omega) (by omega)) rfl) ?_
  refine dl_r (sem_castb (c := false) (sem_cmp rfl rfl rfl rfl) (decide_eq_false (by omega))) ?_
  refine dl_r (sem_pick rfl rfl rfl rfl) ?_
  refine dl_r (sem_move rfl rfl) ?_
  refine dl_r (sem_move rfl rfl) ?_
  refine dl_r (sem_move rfl rfl) ?_
  refine dl_r (sem_ari (r := 4 * t) rfl rfl (ari_i64_mul (by omega) (by omega)) rfl) ?_
  refine dl_r (sem_castb (c := false) (sem_cmp rfl rfl rfl rfl) (decide_eq_false (by omega))) ?_
  refine dl_r (sem_pick rfl rfl rfl rfl) ?_
  refine dl_r (sem_move rfl rfl) ?_
  refine dl_r (sem_load (us := cR c) ty28 rfl rfl rfl rfl rfl) ?_
  refine dl_r (sem_call rfl rfl (rcastb (rCos_ok (by first | assumption | exact Rz.mono hc (by decide))) hcos) rfl) ?_
  refine dl_r (sem_not rfl rfl) ?_
  refine dl_r (sem_pick rfl rfl rfl rfl) ?_
  refine dl_end ?_
  refine dw_false rfl ?_
  refine dw_skip ?_
  refine dw_seq ?_
  -- region 4
  refine dw_region (by kernel_rfl) ?_
  refine dl_r (sem_move rfl rfl) ?_
  refine dl_r (sem_quo' (r := a + t) rfl rfl (by omega) (by rw [Int.mul_tdiv_cancel_left _ (by decide)]; exact nw64 (by omega) (by omega)) rfl) ?_
  refine dl_r (sem_move rfl rfl) ?_
  refine dl_r (sem_ari (r := a) rfl rfl ((ari_i64_sub (by omega) (by omega)).trans (congrArg some (by omega))) rfl) ?_
  refine dl_r (sem_assign rfl rfl) ?_
  refine dl_end ?_
  refine dw_seq ?_
  refine dw_seq ?_
  -- region 5
  refine dw_region (by kernel_rfl) ?_
  refine dl_r (sem_load (us := ([.i .i64 a1] ++ [.i .i64 a2])) ty34 rfl rfl rfl rfl rfl) ?_
  refine dl_r (sem_load (us := ([.i .i64 b1] ++ [.i .i64 b2])) ty34 rfl rfl rfl rfl rfl) ?_
  refine dl_r (sem_move rfl rfl) ?_
  refine dl_r (sem_move rfl rfl) ?_
  refine dl_r (sem_call rfl rfl (rcasti rChk_ok hE) rfl) ?_
  refine dl_r (sem_assign rfl rfl) ?_
  refine dl_end ?_
  refine dw_seq ?_
  -- region 6
  refine dw_region (by kernel_rfl) ?_
  refine dl_r (sem_move rfl rfl) ?_
  refine dl_r (sem_cmp rfl rfl rfl rfl) ?_
  refine dl_end ?_
  refine dw_false rfl ?_
  refine dw_skip ?_
  refine dw_seq ?_
  -- region 8
  refine dw_region (by kernel_rfl) ?_
  refine dl_r (sem_move rfl rfl) ?_
  refine dl_r (sem_move rfl rfl) ?_
  refine dl_r (sem_load (us := cR c) ty28 rfl rfl rfl rfl rfl) ?_
  refine dl_r (sem_call rfl rfl (rStep_ok hc ha (by omega) (by omega) ht2 hm0 hm1 hφ) rfl) ?_
  refine dl_r (sem_assign rfl rfl) ?_
  refine dl_end ?_
  refine dw_seq ?_
  refine dw_seq ?_
  -- region 9
  refine dw_region (by kernel_rfl) ?_
  refine dl_r (sem_move rfl rfl) ?_
  refine dl_r (sem_castb (c := false) (sem_cmp rfl rfl rfl rfl) (beq_eq_false_iff_ne.2 (by omega))) ?_
  refine dl_end ?_
  refine dw_false rfl ?_
  refine dw_skip ?_
  refine dw_seq ?_
  -- region 11
  refine dw_region (by kernel_rfl) ?_
  refine dl_r (sem_load (us := ([.i .i64 a1] ++ [.i .i64 a2])) ty34 rfl rfl rfl rfl rfl) ?_
  refine dl_r (sem_load (us := ([.i .i64 b1] ++ [.i .i64 b2])) ty34 rfl rfl rfl rfl rfl) ?_
  refine dl_r (sem_move rfl rfl) ?_
  refine dl_r (sem_move rfl rfl) ?_
  refine dl_r (sem_move rfl rfl) ?_
  refine dl_r (sem_move rfl rfl) ?_
  refine dl_r (sem_call rfl rfl (hP) rfl) ?_
  refine dl_r (sem_extract rfl rfl rfl) ?_
  refine dl_r (sem_extract rfl rfl rfl) ?_
  refine dl_r (sem_assign rfl rfl) ?_
  refine dl_r (sem_assign rfl rfl) ?_
  refine dl_end ?_
  refine dw_ret ?_
  -- path 
  exact ⟨.inr rfl, (resL_tmp rfl (resL_tmp rfl resL_nil))⟩
end Go.Proofs.YtonjlikaacengaaGreat
/- awake. -/
namespace Go.Proofs.YtonjlikaacengaaGreat
open Go Go.RowKit
theorem lNum_ok {n : Int} (h0 : -9223372036854775808 ≤ n) (h1 : n ≤ 9223372036854775807) : Ok Tryz.prog 16 [.c (.i .i64 n)] [dR (((n : Int) : Rat))] := by
  refine Ok.of (by kernel_rfl) Tryz.func16 rfl rfl ?_
  rw [show Tryz.f16.ntmps = 5 from rfl, show Tryz.f16.results.toList = [.cell 2 28] from rfl]
  refine dw_seq ?_
  -- region 0
  refine dw_region (by kernel_rfl) ?_
  refine dl_new (sem_alloc zc28 rfl) rfl ?_
  refine dl_end ?_
  refine dw_seq ?_
  -- region 1
  refine dw_region (by kernel_rfl) ?_
  refine dl_r (sem_move rfl rfl) ?_
  refine dl_r (sem_call rfl rfl (sFrom_ok (by omega) (by omega)) rfl) ?_
  refine dl_st (sem_store_a ty28 rfl rfl rfl rfl rfl rfl) ?_
  refine dl_end ?_
  refine dw_ret ?_
  -- path 
  exact ⟨.inr rfl, (resL_cell (us := cR (((n : Int) : Rat))) ty28 rfl rfl rfl rfl resL_nil)⟩
theorem awR0 : Rz 20 ((0 : Int) : Rat) := (Rz.num (by decide) (by decide)).mono (by decide)
theorem awC : Ok Tryz.prog 25 [.a ([.i .i64 0] ++ [.i .i64 0]), .a ([.i .i64 0] ++ [.i .i64 25]), .c (.i .i64 10)] [.c (.s 4 (([.i .i64 0] ++ [.i .i64 0]) ++ ([.i .i64 0] ++ [.i .i64 10]) ++ ([.i .i64 0] ++ [.i .i64 20]) ++ ([.i .i64 0] ++ [.i .i64 25]))), .c (.i .i64 0)] := by
  have h := tC_f (a1 := 0) (a2 := 0) (L := 25) (dx := 0) (dy := 1) (s := 10) (k := 2) (by decide) (.inr (.inr (.inl ⟨rfl, rfl⟩))) (by decide) (by decide) (by decide) (by decide) (by decide) (by decide) (by decide) (by decide)
  have e : ctb 0 0 0 1 25 10 2 = ([.i .i64 0] ++ [.i .i64 0]) ++ ([.i .i64 0] ++ [.i .i64 10]) ++ ([.i .i64 0] ++ [.i .i64 20]) ++ ([.i .i64 0] ++ [.i .i64 25]) := by unfold ctb; simp [ctr]
  rw [e] at h
  exact h
theorem awP : Ok Tryz.prog 26 [.a ([.i .i64 0] ++ [.i .i64 0]), .a ([.i .i64 0] ++ [.i .i64 25]), .c (.i .i64 10), .c (.i .i64 10), .c (.i .i64 0), .c (.i .i64 7)] [.c (.s 7 (pth (ctb 0 0 0 1 25 10 2) 0 1 10 0 7 (2 + 1))), .c (.i .i64 0)] :=
  tP_ok (a1 := 0) (a2 := 0) (L := 25) (dx := 0) (dy := 1) (r := 10) (s := 10) (z := 0) (f := 7) (k := 2) (by decide) (.inr (.inr (.inl ⟨rfl, rfl⟩))) (by decide) (by decide) (by decide) (by decide) (by decide) (by decide) (by decide) (by decide) (by decide)
theorem awS : Ok Tryz.prog 27 [.a ([.i .i64 0] ++ [.i .i64 0]), .a ([.i .i64 0] ++ [.i .i64 25]), .c (.i .i64 10), .c (.i .i64 0)] [.a ([.i .i64 0] ++ [.i .i64 (-10)] ++ [.i .i64 0]), .c (.i .i64 0)] :=
  tS_ok (a1 := 0) (a2 := 0) (L := 25) (dx := 0) (dy := 1) (r := 10) (z := 0) (by decide) (.inr (.inr (.inl ⟨rfl, rfl⟩))) (by decide) (by decide) (by decide) (by decide)
theorem lAwake_ok  : Ok Tryz.prog 7 [] [.c (.b true)] := by
  refine Ok.of (by kernel_rfl) Tryz.func7 rfl rfl ?_
  rw [show Tryz.f7.ntmps = 69 from rfl, show Tryz.f7.results.toList = [.tmp 0] from rfl]
  refine dw_seq ?_
  -- region 0
  refine dw_region (by kernel_rfl) ?_
  refine dl_r (sem_assign rfl rfl) ?_
  refine dl_end ?_
  refine dw_seq ?_
  -- region 1
  refine dw_region (by kernel_rfl) ?_
  refine dl_r (sem_build (us := ([.i .i64 0] ++ [.i .i64 0])) fs34 zc34 rfl rfl rfl) ?_
  refine dl_r (sem_build (us := ([.i .i64 0] ++ [.i .i64 25])) fs34 zc34 rfl rfl rfl) ?_
  refine dl_r (sem_call rfl rfl (awC) rfl) ?_
  refine dl_r (sem_move rfl rfl) ?_
  refine dl_r (sem_extract rfl rfl rfl) ?_
  refine dl_r (sem_extract rfl rfl rfl) ?_
  refine dl_r (sem_assign rfl rfl) ?_
  refine dl_r (sem_assign rfl rfl) ?_
  refine dl_end ?_
  refine dw_seq ?_
  -- region 2
  refine dw_region (by kernel_rfl) ?_
  refine dl_r (sem_build (us := ([.i .i64 0] ++ [.i .i64 0])) fs34 zc34 rfl rfl rfl) ?_
  refine dl_r (sem_build (us := ([.i .i64 0] ++ [.i .i64 25])) fs34 zc34 rfl rfl rfl) ?_
  refine dl_r (sem_call rfl rfl (awP) rfl) ?_
  refine dl_r (sem_move rfl rfl) ?_
  refine dl_r (sem_extract rfl rfl rfl) ?_
  refine dl_r (sem_extract rfl rfl rfl) ?_
  refine dl_r (sem_assign rfl rfl) ?_
  refine dl_r (sem_assign rfl rfl) ?_
  refine dl_end ?_
  refine dw_seq ?_
  -- region 3
  refine dw_region (by kernel_rfl) ?_
  refine dl_r (sem_build (us := ([.i .i64 0] ++ [.i .i64 0])) fs34 zc34 rfl rfl rfl) ?_
  refine dl_r (sem_build (us := ([.i .i64 0] ++ [.i .i64 25])) fs34 zc34 rfl rfl rfl) ?_
  refine dl_r (sem_call rfl rfl (awS) rfl) ?_
  refine dl_r (sem_move rfl rfl) ?_
  refine dl_r (sem_extract rfl rfl rfl) ?_
  refine dl_r (sem_extract rfl rfl rfl) ?_
  refine dl_new (sem_alloc zc62 rfl) rfl ?_
  refine dl_st (sem_store_a ty62 rfl rfl rfl rfl rfl rfl) ?_
  refine dl_r (sem_assign rfl rfl) ?_
  refine dl_end ?_
  refine dw_seq ?_
  -- region 4
  refine dw_region (by kernel_rfl) ?_
  refine dl_r (sem_move rfl rfl) ?_
  refine dl_r (sem_cmp rfl rfl rfl rfl) ?_
  refine dl_r (sem_move rfl rfl) ?_
  refine dl_r (sem_move rfl rfl) ?_
  refine dl_r (sem_build (us := ([.i .i64 0] ++ [.i .i64 0])) fs34 zc34 rfl rfl rfl) ?_
  refine dl_r (sem_build (us := ([.i .i64 0] ++ [.i .i64 10])) fs34 zc34 rfl rfl rfl) ?_
  refine dl_r (sem_build (us := ([.i .i64 0] ++ [.i .i64 20])) fs34 zc34 rfl rfl rfl) ?_
  refine dl_r (sem_build (us := ([.i .i64 0] ++ [.i .i64 25])) fs34 zc34 rfl rfl rfl) ?_
  refine dl_r (sem_slit_D (n := 4) (us := ([.i .i64 0] ++ [.i .i64 0]) ++ ([.i .i64 0] ++ [.i .i64 10]) ++ ([.i .i64 0] ++ [.i .i64 20]) ++ ([.i .i64 0] ++ [.i .i64 25])) el22 rfl rfl rfl (by decide) (by decide) rfl) ?_
  refine dl_r (sem_call rfl rfl (rSame2_ok (n := 4) (us := ([.i .i64 0] ++ [.i .i64 0]) ++ ([.i .i64 0] ++ [.i .i64 10]) ++ ([.i .i64 0] ++ [.i .i64 20]) ++ ([.i .i64 0] ++ [.i .i64 25])) rfl rfl (by decide)) rfl) ?_
  refine dl_r (sem_pick rfl rfl rfl rfl) ?_
  refine dl_r (sem_move rfl rfl) ?_
  refine dl_r (sem_move rfl rfl) ?_
  refine dl_r (sem_cmp rfl rfl rfl rfl) ?_
  refine dl_r (sem_pick rfl rfl rfl rfl) ?_
  refine dl_r (sem_move rfl rfl) ?_
  refine dl_r (sem_move rfl rfl) ?_
  refine dl_r (sem_len sl37 rfl rfl) ?_
  refine dl_r (sem_cmp rfl rfl rfl rfl) ?_
  refine dl_r (sem_pick rfl rfl rfl rfl) ?_
  refine dl_r (sem_move rfl rfl) ?_
  refine dl_r (sem_move rfl rfl) ?_
  refine dl_r (sem_cmp rfl rfl rfl rfl) ?_
  refine dl_r (sem_pick rfl rfl rfl rfl) ?_
  refine dl_r (sem_move rfl rfl) ?_
  refine dl_r (sem_load (us := ([.i .i64 0] ++ [.i .i64 (-10)] ++ [.i .i64 0])) ty62 rfl rfl rfl rfl rfl) ?_
  refine dl_r (sem_build (us := ([.i .i64 0] ++ [.i .i64 (-10)] ++ [.i .i64 0])) fs62 zc62 rfl rfl rfl) ?_
  refine dl_r (sem_seq (r := true) rfl rfl rfl rfl (by kernel_rfl) (fun w => eq_pos 0 (-10) 0 9998 w) rfl) ?_
  refine dl_r (sem_pick rfl rfl rfl rfl) ?_
  refine dl_r (sem_move rfl rfl) ?_
  refine dl_r (sem_build (us := ([.i .i64 0] ++ [.i .i64 0])) fs34 zc34 rfl rfl rfl) ?_
  refine dl_r (sem_build (us := ([.i .i64 100] ++ [.i .i64 0])) fs34 zc34 rfl rfl rfl) ?_
  refine dl_r (sem_slit_D (n := 2) (us := ([.i .i64 0] ++ [.i .i64 0]) ++ ([.i .i64 100] ++ [.i .i64 0])) el22 rfl rfl rfl (by decide) (by decide) rfl) ?_
  refine dl_r (sem_call rfl rfl (lNum_ok (by omega) (by omega)) rfl) ?_
  refine dl_r (sem_call rfl rfl (rcastb (tEg_ok (n := 2) (us := ([.i .i64 0] ++ [.i .i64 0]) ++ ([.i .i64 100] ++ [.i .i64 0])) (a := 1000) (t := 3000) (c := ((0 : Int) : Rat)) rfl rfl (by decide) awR0 (by decide) (by decide) (by decide) (by decide +kernel) (by decide) (by decide)) (c := true) (by decide +kernel)) rfl) ?_
  refine dl_r (sem_pick rfl rfl rfl rfl) ?_
  refine dl_r (sem_move rfl rfl) ?_
  refine dl_r (sem_build (us := ([.i .i64 0] ++ [.i .i64 0])) fs34 zc34 rfl rfl rfl) ?_
  refine dl_r (sem_build (us := ([.i .i64 1000] ++ [.i .i64 0])) fs34 zc34 rfl rfl rfl) ?_
  refine dl_r (sem_slit_D (n := 2) (us := ([.i .i64 0] ++ [.i .i64 0]) ++ ([.i .i64 1000] ++ [.i .i64 0])) el22 rfl rfl rfl (by decide) (by decide) rfl) ?_
  refine dl_r (sem_call rfl rfl (lNum_ok (by omega) (by omega)) rfl) ?_
  refine dl_r (sem_call rfl rfl (rcastb (tEg_ok (n := 2) (us := ([.i .i64 0] ++ [.i .i64 0]) ++ ([.i .i64 1000] ++ [.i .i64 0])) (a := 1000) (t := 3000) (c := ((0 : Int) : Rat)) rfl rfl (by decide) awR0 (by decide) (by decide) (by decide) (by decide +kernel) (by decide) (by decide)) (c := false) (by decide +kernel)) rfl) ?_
  refine dl_r (sem_not rfl rfl) ?_
  refine dl_r (sem_pick rfl rfl rfl rfl) ?_
  refine dl_r (sem_assign rfl rfl) ?_
  refine dl_end ?_
  refine dw_ret ?_
  -- path 
  exact ⟨.inr rfl, (resL_tmp rfl resL_nil)⟩
end Go.Proofs.YtonjlikaacengaaGreat
/- Data: an array's elements. -/
namespace Go.Proofs.YtonjlikaacengaaGreat
open Go Go.RowKit
/-- an array's elements -/
def arB (P : Program) (U : TypeId) : Option (Nat × Nat) :=
  match P.underlying U with
  | some (.array n e) => (P.info? e).map fun i => (n, i.size)
  | _ => none
theorem sem_index_a {P : Program} {ops : Array Oper} {T : TF} {B : BF} {dst : Option Nat} {x i : Operand} {U : TypeId} {ty : TypeId} {pos : String} {af : Array Edge} {g : Option (Nat × Bool)} {n m k off : Nat} {kd : IntKind} {j : Int}
    (hU : arB P U = some (n, m)) (hx : opd T x = some (.p k off)) (hi : opd T i = some (.v (.c (.i kd j)))) (hj : 0 ≤ j ∧ j < n) (hg : gd ops ⟨dst, .indexAddr U x i, ty, pos, af, g⟩ T = some true) :
    Sem P ops ⟨dst, .indexAddr U x i, ty, pos, af, g⟩ T B (.r (.p k (off + j.toNat * m))) :=
  sem_pure hg (fun l e => opd_ptr (ops := ops) (o := ⟨dst, .indexAddr U x i, ty, pos, af, g⟩) (by simp [Op.operands]) hx e) (fun V β a w hs => by
    have h1 : a.eval x = .pointer (some ⟨β k, off, none⟩) := opd_reads hs (x := x) (by simp [Op.operands]) hx
    have h2 := RdC.int_eq (opd_reads hs (x := i) (by simp [Op.operands]) hi)
    unfold arB at hU
    split at hU
    case h_2 => cases hU
    rename_i n' el hul
    cases hinf : P.info? el with
    | none => rw [hinf] at hU; cases hU
    | some inf =>
      rw [hinf] at hU
      simp at hU
      obtain ⟨rfl, rfl⟩ := hU
      have hso : ∀ w, (sizeOf el).run P w = .ok inf.size w := fun w => by unfold sizeOf typeInfo; simp [program, Sem.run, hinf]
      refine ⟨.pointer (some ⟨β k, off + j.toNat * inf.size, none⟩), ?_, rfl⟩
      simp [execOp, Instr.indexAt, h1, h2, asIntOf, run_underlying hul, Instr.sureAddr, hj.1, hj.2, hso, addr_add])
end Go.Proofs.YtonjlikaacengaaGreat
/- The laws of Engaged and Slot at any answers that agree. -/
namespace Go.Proofs.YtonjlikaacengaaGreat
open Go Go.RowKit
theorem ar23 : arB Tryz.prog 23 = some (2, 1) := by kernel_rfl
theorem ar44 : arB Tryz.prog 44 = some (2, 1) := by kernel_rfl
theorem sFrac_0 {n : Int} : Ok Tryz.prog 6 [.c (.i .i64 n), .c (.i .i64 0)] [dR (Rat.divInt 0 1)] := by
  have z1 : Sz 999 0 := Sz.small (by decide) (by decide) (by decide)
  have z2 : Sz 999 1 := Sz.small (by decide) (by decide) (by decide)
  refine Ok.of (by kernel_rfl) Tryz.func6 rfl rfl ?_
  rw [show Tryz.f6.ntmps = 12 from rfl, show Tryz.f6.results.toList = [.cell 4 28] from rfl]
  refine dw_seq ?_
  -- region 0
  refine dw_region (by kernel_rfl) ?_
  refine dl_new (sem_alloc zc28 rfl) rfl ?_
  refine dl_end ?_
  refine dw_seq ?_
  refine dw_seq ?_
  -- region 1
  refine dw_region (by kernel_rfl) ?_
  refine dl_r (sem_move rfl rfl) ?_
  refine dl_r (sem_cmp rfl rfl rfl rfl) ?_
  refine dl_end ?_
  refine dw_true rfl ?_
  -- region 2
  refine dw_region (by kernel_rfl) ?_
  refine dl_r (sem_assign rfl rfl) ?_
  refine dl_r (sem_assign rfl rfl) ?_
  refine dl_end ?_
  refine dw_seq ?_
  -- region 3
  refine dw_region (by kernel_rfl) ?_
  refine dl_r (sem_move rfl rfl) ?_
  refine dl_r (sem_call rfl rfl (nFrom_ok (by omega) (by omega)) rfl) ?_
  refine dl_r (sem_move rfl rfl) ?_
  refine dl_r (sem_call rfl rfl (nFrom_ok (by omega) (by omega)) rfl) ?_
  refine dl_r (sem_call rfl rfl (sReduce_ok z1 z2 (by decide)) rfl) ?_
  refine dl_st (sem_store_a ty28 rfl rfl rfl rfl rfl rfl) ?_
  refine dl_end ?_
  refine dw_ret ?_
  -- path 
  exact ⟨.inr rfl, (resL_cell (us := cR (Rat.divInt 0 1)) ty28 rfl rfl rfl rfl resL_nil)⟩
theorem frac_any {n d : Int} (h0 : -9223372036854775808 ≤ n) (h1 : n ≤ 9223372036854775807) (h2 : -9223372036854775808 ≤ d) (h3 : d ≤ 9223372036854775807) : ∃ c : Rat, Rz 20 c ∧ Ok Tryz.prog 6 [.c (.i .i64 n), .c (.i .i64 d)] [dR c] := by
  by_cases hd : d = 0
  · subst hd
    exact ⟨_, (Rz.of (k := 3) (Sz.small (by decide) (by decide) (by decide)) (Sz.small (by decide) (by decide) (by decide)) (by decide)).mono (by decide), sFrac_0⟩
  · exact ⟨_, (Rz.of (k := 3) (Sz.small (by decide) h0 h1) (Sz.small (by decide) h2 h3) hd).mono (by decide), sFrac_ok h0 h1 h2 h3 hd⟩
theorem lEn_many {n : Nat} {us : List CellD} {a t p q : Int} {c : Rat} (hn : 20 < n) (hC : Ok Tryz.prog 6 [.c (.i .i64 p), .c (.i .i64 q)] [dR c]) : Ok Tryz.prog 3 [.c (.s n us), .a ([.i .i64 a] ++ [.i .i64 t]), .a ([.i .i64 p] ++ [.i .i64 q])] [.c (.b true)] := by
  refine Ok.of (by kernel_rfl) Tryz.func3 rfl rfl ?_
  rw [show Tryz.f3.ntmps = 36 from rfl, show Tryz.f3.results.toList = [.tmp 6] from rfl]
  refine dw_seq ?_
  -- region 0
  refine dw_region (by kernel_rfl) ?_
  refine dl_new (sem_box_a rfl rfl) rfl ?_
  refine dl_new (sem_box_a rfl rfl) rfl ?_
  refine dl_r (sem_assign rfl rfl) ?_
  refine dl_end ?_
  refine dw_seq ?_
  -- region 1
  refine dw_region (by kernel_rfl) ?_
  refine dl_r (sem_index_a ar23 rfl rfl (by decide) rfl) ?_
  refine dl_r (sem_load1 ty2 rfl rfl rfl rfl) ?_
  refine dl_r (sem_index_a ar23 rfl rfl (by decide) rfl) ?_
  refine dl_r (sem_load1 ty2 rfl rfl rfl rfl) ?_
  refine dl_r (sem_call rfl rfl (hC) rfl) ?_
  refine dl_new (sem_alloc zc28 rfl) rfl ?_
  refine dl_st (sem_store_a ty28 rfl rfl rfl rfl rfl rfl) ?_
  refine dl_end ?_
  refine dw_seq ?_
  refine dw_seq ?_
  -- region 2
  refine dw_region (by kernel_rfl) ?_
  refine dl_r (sem_call rfl rfl (lAwake_ok) rfl) ?_
  refine dl_r (sem_not rfl rfl) ?_
  refine dl_r (sem_move rfl rfl) ?_
  refine dl_r (sem_move rfl rfl) ?_
  refine dl_r (sem_len sl22 rfl rfl) ?_
  refine dl_r (sem_castb (c := true) (sem_cmp rfl rfl rfl rfl) (decide_eq_true (by omega))) ?_
  refine dl_r (sem_pick rfl rfl rfl rfl) ?_
  refine dl_end ?_
  refine dw_true rfl ?_
  refine dw_seq ?_
  -- region 3
  refine dw_region (by kernel_rfl) ?_
  refine dl_r (sem_call rfl rfl (lAwake_ok) rfl) ?_
  refine dl_r (sem_assign rfl rfl) ?_
  refine dl_end ?_
  refine dw_ret ?_
  -- path 
  exact ⟨.inr rfl, (resL_tmp rfl resL_nil)⟩
theorem lEn_any {n : Nat} {us : List CellD} {a t p q : Int} {c : Rat} {β : Bool} (hn : n ≤ 20) (hC : Ok Tryz.prog 6 [.c (.i .i64 p), .c (.i .i64 q)] [dR c]) (hP : Ok Tryz.prog 8 [.c (.s n us), .c (.i .i64 a), .c (.i .i64 t), dR c] [.c (.b β)]) (hR : Ok Tryz.prog 9 [.c (.s n us), .c (.i .i64 a), .c (.i .i64 t), dR c] [.c (.b β)]) : Ok Tryz.prog 3 [.c (.s n us), .a ([.i .i64 a] ++ [.i .i64 t]), .a ([.i .i64 p] ++ [.i .i64 q])] [.c (.b true)] := by
  refine Ok.of (by kernel_rfl) Tryz.func3 rfl rfl ?_
  rw [show Tryz.f3.ntmps = 36 from rfl, show Tryz.f3.results.toList = [.tmp 6] from rfl]
  refine dw_seq ?_
  -- region 0
  refine dw_region (by kernel_rfl) ?_
  refine dl_new (sem_box_a rfl rfl) rfl ?_
  refine dl_new (sem_box_a rfl rfl) rfl ?_
  refine dl_r (sem_assign rfl rfl) ?_
  refine dl_end ?_
  refine dw_seq ?_
  -- region 1
  refine dw_region (by kernel_rfl) ?_
  refine dl_r (sem_index_a ar23 rfl rfl (by decide) rfl) ?_
  refine dl_r (sem_load1 ty2 rfl rfl rfl rfl) ?_
  refine dl_r (sem_index_a ar23 rfl rfl (by decide) rfl) ?_
  refine dl_r (sem_load1 ty2 rfl rfl rfl rfl) ?_
  refine dl_r (sem_call rfl rfl (hC) rfl) ?_
  refine dl_new (sem_alloc zc28 rfl) rfl ?_
  refine dl_st (sem_store_a ty28 rfl rfl rfl rfl rfl rfl) ?_
  refine dl_end ?_
  refine dw_seq ?_
  refine dw_seq ?_
  -- region 2
  refine dw_region (by kernel_rfl) ?_
  refine dl_r (sem_call rfl rfl (lAwake_ok) rfl) ?_
  refine dl_r (sem_not rfl rfl) ?_
  refine dl_r (sem_move rfl rfl) ?_
  refine dl_r (sem_move rfl rfl) ?_
  refine dl_r (sem_len sl22 rfl rfl) ?_
  refine dl_r (sem_castb (c := false) (sem_cmp rfl rfl rfl rfl) (decide_eq_false (by omega))) ?_
  refine dl_r (sem_pick rfl rfl rfl rfl) ?_
  refine dl_end ?_
  refine dw_false rfl ?_
  refine dw_skip ?_
  refine dw_seq ?_
  -- region 4
  refine dw_draw 16 [] follows_mixed (by kernel_rfl) rfl rfl ?_
  refine dq_r (sem_move rfl rfl) ?_
  refine dq_r (sem_index_a ar23 rfl rfl (by decide) rfl) ?_
  refine dq_r (sem_load1 ty2 rfl rfl rfl rfl) ?_
  refine dq_r (sem_index_a ar23 rfl rfl (by decide) rfl) ?_
  refine dq_r (sem_load1 ty2 rfl rfl rfl rfl) ?_
  refine dq_r (sem_load (us := cR c) ty28 rfl rfl rfl rfl rfl) ?_
  refine dq_r (sem_call rfl rfl (hP) rfl) ?_
  refine dq_r (sem_move rfl rfl) ?_
  refine dq_r (sem_index_a ar23 rfl rfl (by decide) rfl) ?_
  refine dq_r (sem_load1 ty2 rfl rfl rfl rfl) ?_
  refine dq_r (sem_index_a ar23 rfl rfl (by decide) rfl) ?_
  refine dq_r (sem_load1 ty2 rfl rfl rfl rfl) ?_
  refine dq_r (sem_load (us := cR c) ty28 rfl rfl rfl rfl rfl) ?_
  refine dq_r (sem_call rfl rfl (hR) rfl) ?_
  refine dq_r (sem_castb (c := true) (sem_beql rfl rfl ty_bool rfl) (by simp)) ?_
  refine dq_r (sem_assign rfl rfl) ?_
  refine dq_end ?_
  refine dl_start0 ?_
  refine dl_end ?_
  refine dw_ret ?_
  -- path 
  exact ⟨.inr rfl, (resL_tmp rfl resL_nil)⟩
theorem lSl_any {a1 a2 b1 b2 r s z f w t p q : Int} {c : Rat} {n : Nat} {us : List CellD} {e : Int} (hC : Ok Tryz.prog 6 [.c (.i .i64 p), .c (.i .i64 q)] [dR c]) (hP : Ok Tryz.prog 11 [.a ([.i .i64 a1] ++ [.i .i64 a2]), .a ([.i .i64 b1] ++ [.i .i64 b2]), .c (.i .i64 w), .c (.i .i64 t), .c (.i .i64 z), .c (.i .i64 f), dR c] [.c (.s n us), .c (.i .i64 e)]) (hR : Ok Tryz.prog 10 [.a ([.i .i64 a1] ++ [.i .i64 a2]), .a ([.i .i64 b1] ++ [.i .i64 b2]), .c (.i .i64 w), .c (.i .i64 t), .c (.i .i64 z), .c (.i .i64 f), dR c] [.c (.s n us), .c (.i .i64 e)]) (hl : us.length = n * 7) (hJ : us.all isJ = true) (hn : n ≤ 1000000) : Ok Tryz.prog 4 [.a (([.i .i64 a1] ++ [.i .i64 a2]) ++ ([.i .i64 b1] ++ [.i .i64 b2]) ++ [.i .i64 r] ++ [.i .i64 s] ++ [.i .i64 z] ++ [.i .i64 f]), .a ([.i .i64 w] ++ [.i .i64 t]), .a ([.i .i64 p] ++ [.i .i64 q])] [.c (.b true)] := by
  refine Ok.of (by kernel_rfl) Tryz.func4 rfl rfl ?_
  rw [show Tryz.f4.ntmps = 67 from rfl, show Tryz.f4.results.toList = [.tmp 6] from rfl]
  refine dw_seq ?_
  -- region 0
  refine dw_region (by kernel_rfl) ?_
  refine dl_new (sem_box_a rfl rfl) rfl ?_
  refine dl_new (sem_box_a rfl rfl) rfl ?_
  refine dl_new (sem_box_a rfl rfl) rfl ?_
  refine dl_r (sem_assign rfl rfl) ?_
  refine dl_end ?_
  refine dw_seq ?_
  -- region 1
  refine dw_region (by kernel_rfl) ?_
  refine dl_r (sem_index_a ar23 rfl rfl (by decide) rfl) ?_
  refine dl_r (sem_load1 ty2 rfl rfl rfl rfl) ?_
  refine dl_r (sem_index_a ar23 rfl rfl (by decide) rfl) ?_
  refine dl_r (sem_load1 ty2 rfl rfl rfl rfl) ?_
  refine dl_r (sem_call rfl rfl (hC) rfl) ?_
  refine dl_new (sem_alloc zc28 rfl) rfl ?_
  refine dl_st (sem_store_a ty28 rfl rfl rfl rfl rfl rfl) ?_
  refine dl_end ?_
  refine dw_seq ?_
  -- region 2
  refine dw_region (by kernel_rfl) ?_
  refine dl_r (sem_field fd36_0 rfl rfl) ?_
  refine dl_r (sem_load (us := ([.i .i64 a1] ++ [.i .i64 a2])) ty34 rfl rfl rfl rfl rfl) ?_
  refine dl_r (sem_field fd36_1 rfl rfl) ?_
  refine dl_r (sem_load (us := ([.i .i64 b1] ++ [.i .i64 b2])) ty34 rfl rfl rfl rfl rfl) ?_
  refine dl_r (sem_index_a ar23 rfl rfl (by decide) rfl) ?_
  refine dl_r (sem_load1 ty2 rfl rfl rfl rfl) ?_
  refine dl_r (sem_index_a ar23 rfl rfl (by decide) rfl) ?_
  refine dl_r (sem_load1 ty2 rfl rfl rfl rfl) ?_
  refine dl_r (sem_field fd36_4 rfl rfl) ?_
  refine dl_r (sem_load1 ty2 rfl rfl rfl rfl) ?_
  refine dl_r (sem_field fd36_5 rfl rfl) ?_
  refine dl_r (sem_load1 ty2 rfl rfl rfl rfl) ?_
  refine dl_r (sem_load (us := cR c) ty28 rfl rfl rfl rfl rfl) ?_
  refine dl_r (sem_call rfl rfl (hR) rfl) ?_
  refine dl_r (sem_move rfl rfl) ?_
  refine dl_r (sem_extract rfl rfl rfl) ?_
  refine dl_r (sem_extract rfl rfl rfl) ?_
  refine dl_r (sem_assign rfl rfl) ?_
  refine dl_r (sem_assign rfl rfl) ?_
  refine dl_end ?_
  refine dw_seq ?_
  refine dw_seq ?_
  -- region 3
  refine dw_region (by kernel_rfl) ?_
  refine dl_r (sem_call rfl rfl (lAwake_ok) rfl) ?_
  refine dl_r (sem_not rfl rfl) ?_
  refine dl_r (sem_move rfl rfl) ?_
  refine dl_r (sem_move rfl rfl) ?_
  refine dl_r (sem_len sl37 rfl rfl) ?_
  refine dl_r (sem_cmp rfl rfl rfl rfl) ?_
  refine dl_r (sem_pick rfl rfl rfl rfl) ?_
  refine dl_end ?_
  refine dw_cond rfl (fun hc1 => ?_) (fun hc1 => ?_)
  · refine dw_seq ?_
    -- region 4
    refine dw_region (by kernel_rfl) ?_
    refine dl_r (sem_call rfl rfl (lAwake_ok) rfl) ?_
    refine dl_r (sem_assign rfl rfl) ?_
    refine dl_end ?_
    refine dw_ret ?_
    -- path T
    exact ⟨.inr rfl, (resL_tmp rfl resL_nil)⟩
  · refine dw_skip ?_
    refine dw_seq ?_
    -- region 5
    refine dw_region (by kernel_rfl) ?_
    refine dl_r (sem_field fd36_0 rfl rfl) ?_
    refine dl_r (sem_load (us := ([.i .i64 a1] ++ [.i .i64 a2])) ty34 rfl rfl rfl rfl rfl) ?_
    refine dl_r (sem_field fd36_1 rfl rfl) ?_
    refine dl_r (sem_load (us := ([.i .i64 b1] ++ [.i .i64 b2])) ty34 rfl rfl rfl rfl rfl) ?_
    refine dl_r (sem_index_a ar23 rfl rfl (by decide) rfl) ?_
    refine dl_r (sem_load1 ty2 rfl rfl rfl rfl) ?_
    refine dl_r (sem_index_a ar23 rfl rfl (by decide) rfl) ?_
    refine dl_r (sem_load1 ty2 rfl rfl rfl rfl) ?_
    refine dl_r (sem_field fd36_4 rfl rfl) ?_
    refine dl_r (sem_load1 ty2 rfl rfl rfl rfl) ?_
    refine dl_r (sem_field fd36_5 rfl rfl) ?_
    refine dl_r (sem_load1 ty2 rfl rfl rfl rfl) ?_
    refine dl_r (sem_load (us := cR c) ty28 rfl rfl rfl rfl rfl) ?_
    refine dl_r (sem_call rfl rfl (hP) rfl) ?_
    refine dl_r (sem_move rfl rfl) ?_
    refine dl_r (sem_extract rfl rfl rfl) ?_
    refine dl_r (sem_extract rfl rfl rfl) ?_
    refine dl_r (sem_assign rfl rfl) ?_
    refine dl_r (sem_assign rfl rfl) ?_
    refine dl_end ?_
    refine dw_seq ?_
    -- region 6
    refine dw_region (by kernel_rfl) ?_
    refine dl_r (sem_move rfl rfl) ?_
    refine dl_r (sem_move rfl rfl) ?_
    refine dl_r (sem_castb (c := true) (sem_cmp rfl rfl rfl rfl) (by simp)) ?_
    refine dl_r (sem_move rfl rfl) ?_
    refine dl_r (sem_move rfl rfl) ?_
    refine dl_r (sem_move rfl rfl) ?_
    refine dl_r (sem_call rfl rfl (rSame7_ok hl hJ hn) rfl) ?_
    refine dl_r (sem_pick rfl rfl rfl rfl) ?_
    refine dl_r (sem_assign rfl rfl) ?_
    refine dl_end ?_
    refine dw_ret ?_
    -- path F
    exact ⟨.inr rfl, (resL_tmp rfl resL_nil)⟩
end Go.Proofs.YtonjlikaacengaaGreat
/- few; the laws of Centers and Path at any answers that agree. -/
namespace Go.Proofs.YtonjlikaacengaaGreat
open Go Go.RowKit
-- no function (swarf/swarflaw34.Way).few in this seat
-- no function (swarf/swarflaw34.Way).few in this seat
-- no function swarf/swarflaw34.TrochoidCenters in this seat
-- no function swarf/swarflaw34.TrochoidPath in this seat
end Go.Proofs.YtonjlikaacengaaGreat
/- Both answers agree: Centers, Path, Start of the program and of the reference. -/
namespace Go.Proofs.YtonjlikaacengaaGreat
open Go Go.RowKit
theorem chk_1 {a1 a2 b1 b2 r z : Int} (h : dok a1 a2 b1 b2 = false) : chkE a1 a2 b1 b2 r z = 1 := by unfold chkE; rw [h]; rfl
theorem chk_11 {a1 a2 b1 b2 r z : Int} (hok : dok a1 a2 b1 b2 = true) (hr : 0 ≤ r) (h : rnd a1 a2 r = false ∨ rnd b1 b2 r = false ∨ far z = true) : chkE a1 a2 b1 b2 r z = 11 := by
  unfold chkE
  rw [if_pos hok, if_pos]
  rw [rnd_out hr, rnd_out hr] at h
  rcases h with h | h | h
  · rw [show outb a1 a2 r = true by simpa using h]; rfl
  · rw [show outb b1 b2 r = true by simpa using h]; simp
  · rw [h]; simp
theorem chk_0 {a1 a2 b1 b2 r z : Int} (hok : dok a1 a2 b1 b2 = true) (hr : 0 ≤ r) (h1 : rnd a1 a2 r = true) (h2 : rnd b1 b2 r = true) (h3 : far z = false) : chkE a1 a2 b1 b2 r z = 0 := by
  unfold chkE
  rw [if_pos hok, if_neg]
  rw [rnd_out hr] at h1 h2
  rw [show outb a1 a2 r = false by simpa using h1, show outb b1 b2 r = false by simpa using h2, h3]
  decide
section
variable {a1 a2 b1 b2 r s z f : Int}
theorem cen_both (hs2 : s ≤ 9223372036854775807) : ∃ (n : Nat) (us : List CellD) (e : Int), us.length = n * 2 ∧ us.all isJ = true ∧ n ≤ 1000000 ∧
    Ok Tryz.prog 25 [.a ([.i .i64 a1] ++ [.i .i64 a2]), .a ([.i .i64 b1] ++ [.i .i64 b2]), .c (.i .i64 s)] [.c (.s n us), .c (.i .i64 e)] ∧
    Ok Tryz.prog 13 [.a ([.i .i64 a1] ++ [.i .i64 a2]), .a ([.i .i64 b1] ++ [.i .i64 b2]), .c (.i .i64 s)] [.c (.s n us), .c (.i .i64 e)] := by
  by_cases hs : s ≤ 0
  · refine ⟨0, [], 1, rfl, rfl, by omega, ?_, rC_0 hs⟩
    cases hok : dok a1 a2 b1 b2 with
    | false => exact tC_a hok
    | true => exact tC_b hok hs
  replace hs : 1 ≤ s := by omega
  cases hok : dok a1 a2 b1 b2 with
  | false => exact ⟨0, [], 1, rfl, rfl, by omega, tC_a hok, rC_1 hs (chk_1 hok)⟩
  | true =>
  cases q1 : rnd a1 a2 0 with
  | false => exact ⟨0, [], 11, rfl, rfl, by omega, tC_c hok hs q1, rC_11 hs (chk_11 hok (by omega) (.inl q1))⟩
  | true =>
  cases q2 : rnd b1 b2 0 with
  | false => exact ⟨0, [], 11, rfl, rfl, by omega, tC_d hok hs q1 q2, rC_11 hs (chk_11 hok (by omega) (.inr (.inl q2)))⟩
  | true =>
  obtain ⟨L, dx, dy, hL, hd, rfl, rfl⟩ := dir_of hok
  have g1 := (rnd_iff _ _ _).1 q1
  have g2 := (rnd_iff _ _ _).1 q2
  have r1 : -10000000 ≤ a1 ∧ a1 ≤ 10000000 := by omega
  have r2 : -10000000 ≤ a2 ∧ a2 ≤ 10000000 := by omega
  have r3 : -10000000 ≤ a1 + L * dx ∧ a1 + L * dx ≤ 10000000 := by omega
  have r4 : -10000000 ≤ a2 + L * dy ∧ a2 + L * dy ≤ 10000000 := by omega
  have hq := q_bd hL hs
  obtain ⟨k, hk⟩ : ∃ k : Nat, (k : Int) = (L - 1) / s := ⟨((L - 1) / s).toNat, Int.toNat_of_nonneg hq.1⟩
  have hmq := min_q hL hs
  by_cases hb : 10000 < (L - 1) / s + 2
  · exact ⟨0, [], 3, rfl, rfl, by omega, tC_e hL hd hs hs2 r1 r2 r3 r4 hb, rC_big hL hd hs rfl r1 r2 r3 r4 (by rw [hmq]; omega)⟩
  · refine ⟨k + 1 + 1, ctb a1 a2 dx dy L s k, 0, ctb_len, bdJ_isJ (ctb_bd hd hs hk r1 r2 r3 r4), by omega, tC_f hL hd hs hs2 hk r1 r2 r3 r4 (by omega), ?_⟩
    have h := rC_ok hL hd hs rfl (hk.trans hmq.symm) r1 r2 r3 r4 (by rw [hmq]; omega)
    rw [min_ctb hL hs hk] at h
    exact h
theorem pth_both : ∃ (n : Nat) (us : List CellD) (e : Int), us.length = n * 7 ∧ us.all isJ = true ∧ n ≤ 1000000 ∧
    Ok Tryz.prog 26 [.a ([.i .i64 a1] ++ [.i .i64 a2]), .a ([.i .i64 b1] ++ [.i .i64 b2]), .c (.i .i64 r), .c (.i .i64 s), .c (.i .i64 z), .c (.i .i64 f)] [.c (.s n us), .c (.i .i64 e)] ∧
    Ok Tryz.prog 39 [.a ([.i .i64 a1] ++ [.i .i64 a2]), .a ([.i .i64 b1] ++ [.i .i64 b2]), .c (.i .i64 r), .c (.i .i64 s), .c (.i .i64 z), .c (.i .i64 f)] [.c (.s n us), .c (.i .i64 e)] := by
  by_cases hA : dok a1 a2 b1 b2 = false ∨ r ≤ 0 ∨ s ≤ 0 ∨ f ≤ 0 ∨ s > r
  · exact ⟨0, [], 1, rfl, rfl, by omega, tP_1 hA, rP_1 hA⟩
  have hok : dok a1 a2 b1 b2 = true := by
    cases h : dok a1 a2 b1 b2 with
    | false => exact absurd (.inl h) hA
    | true => rfl
  have hr : 1 ≤ r := by omega
  have hs : 1 ≤ s := by omega
  have hf : 1 ≤ f := by omega
  have hsr : s ≤ r := by omega
  clear hA
  by_cases hB : rnd a1 a2 r = false ∨ rnd b1 b2 r = false ∨ far z = true
  · exact ⟨0, [], 11, rfl, rfl, by omega, tP_11 hok hr hs hf hsr hB, rP_11 hok hr hs hf hsr (chk_11 hok (by omega) hB)⟩
  have q1 : rnd a1 a2 r = true := by
    cases h : rnd a1 a2 r with
    | false => exact absurd (.inl h) hB
    | true => rfl
  have q2 : rnd b1 b2 r = true := by
    cases h : rnd b1 b2 r with
    | false => exact absurd (.inr (.inl h)) hB
    | true => rfl
  have q3 : far z = false := by
    cases h : far z with
    | true => exact absurd (.inr (.inr h)) hB
    | false => rfl
  have hE := chk_0 hok (by omega) q1 q2 q3
  obtain ⟨L, dx, dy, hL, hd, rfl, rfl⟩ := dir_of hok
  have g1 := (rnd_iff _ _ _).1 q1
  have g2 := (rnd_iff _ _ _).1 q2
  have r1 : -10000000 ≤ a1 ∧ a1 ≤ 10000000 := by omega
  have r2 : -10000000 ≤ a2 ∧ a2 ≤ 10000000 := by omega
  have r3 : -10000000 ≤ a1 + L * dx ∧ a1 + L * dx ≤ 10000000 := by omega
  have r4 : -10000000 ≤ a2 + L * dy ∧ a2 + L * dy ≤ 10000000 := by omega
  have hq := q_bd hL hs
  obtain ⟨k, hk⟩ : ∃ k : Nat, (k : Int) = (L - 1) / s := ⟨((L - 1) / s).toNat, Int.toNat_of_nonneg hq.1⟩
  have hmq := min_q hL hs
  by_cases hb : 10000 < (L - 1) / s + 2
  · exact ⟨0, [], 3, rfl, rfl, by omega, tP_3 hL hd hr hs hf hsr q1 q2 q3 hb, rP_3 hL hd hr hs hf hsr rfl r1 r2 r3 r4 hE (by rw [hmq]; omega)⟩
  · refine ⟨2 * (k + 1) + 1, pth (ctb a1 a2 dx dy L s k) dx dy r z f (k + 1), 0, pth_len _, pth_J _, by omega, tP_ok hL hd hr hs hf hsr hk q1 q2 q3 (by omega), ?_⟩
    have h := rP_ok hL hd hr hs hf hsr rfl (hk.trans hmq.symm) r1 r2 r3 r4 (by omega) hE (by rw [hmq]; omega)
    rw [min_ctb hL hs hk] at h
    exact h
end
end Go.Proofs.YtonjlikaacengaaGreat
/- Arguments opened: ways, grid positions, what a contract gives a row. No condition. -/
namespace Go.Proofs.YtonjlikaacengaaGreat
open Go.ChangeShapes Go.WideShapes Go.ChangeAt Go.RowKit Go.Deep
theorem own : ownKnob Tryz.prog.godebug = none := by kernel_rfl
theorem laidOut : laidOutB Tryz.prog = true := by kernel_rfl
def NoB : Nat → Prop := fun _ => False
section
variable {H : Type} {enc : TypeId × Value → H} {w : World} {base : Nat} {spare : Nat → Bool} {held : Bool}
theorem olist_of {α : Type} {p : Nat → α → Prop} : ∀ (n : Nat), (∀ i, i < n → ∃ a, p i a) → ∃ l : List α, l.length = n ∧ ∀ i a, l[i]? = some a → p i a
  | 0, _ => ⟨[], rfl, fun i a h => by simp at h⟩
  | n + 1, h => by
    obtain ⟨l, hl, hp⟩ := olist_of n (fun i hi => h i (by omega))
    obtain ⟨a, ha⟩ := h n (by omega)
    refine ⟨l ++ [a], by simp [hl], fun i b hb => ?_⟩
    rcases Nat.lt_or_ge i n with h1 | h1
    · rw [List.getElem?_append_left (by omega)] at hb; exact hp i b hb
    · rw [List.getElem?_append_right (by omega)] at hb
      have : i = n := by
        rcases Nat.lt_or_ge (i - l.length) 1 with h2 | h2
        · omega
        · rw [List.getElem?_eq_none (by simpa using h2)] at hb; cases hb
      subst this
      rw [hl] at hb; simp at hb; subst hb; exact ha
theorem oadd_at (a : Addr) (k : Nat) (v : Value) (h : w.cell? (a.add k) = some v) : w.cell? ⟨a.block, a.off + k, none⟩ = some v := by
  obtain ⟨b, off, spot⟩ := a
  by_cases hk : k = 0
  · subst hk
    have hs : spot = none := by simpa [Addr.add] using World.cell?_spot h
    subst hs
    simpa [Addr.add] using h
  · simpa [Addr.add, hk] using h
theorem ospot_of (a : Addr) (v : Value) (h : w.cell? (a.add 0) = some v) : a = ⟨a.block, a.off, none⟩ := by
  obtain ⟨b, off, spot⟩ := a
  have hs : spot = none := by simpa [Addr.add] using World.cell?_spot h
  subst hs; rfl
theorem olt_of (b off : Nat) (v : Value) (h : w.cell? ⟨b, off, none⟩ = some v) : b < w.heap.size := World.block_lt_of_cell? w _ h
set_option maxRecDepth 100000 in
theorem grid_of {fuel : Nat} {cs : List Value} {x : DataW H × List MemPlace} (h : DataW.trod enc Tryz.prog w base spare held fuel 34 cs = some x) :
    ∃ x y : Int, -9223372036854775808 ≤ x ∧ x ≤ 9223372036854775807 ∧ -9223372036854775808 ≤ y ∧ y ≤ 9223372036854775807 ∧ RdCs NoB w cs ([.i .i64 x] ++ [.i .i64 y]) := by
  obtain ⟨xs, n, _, _, hcl, hxl, hf⟩ := DataW.trod_struct (P := Tryz.prog) Tryz.underlying34 h
  have hcl : cs.length = 2 := hcl.trans (by kernel_rfl)
  have hxl : xs.length = 2 := hxl.trans (by kernel_rfl)
  match cs, hcl with
  | [c0, c1], _ =>
    have h0 : DataW.trod enc Tryz.prog w base spare held n 2 [c0] = xs[0]? := hf 0 _ rfl
    have h1 : DataW.trod enc Tryz.prog w base spare held n 2 [c1] = xs[1]? := hf 1 _ rfl
    rw [List.getElem?_eq_getElem (by omega)] at h0 h1
    obtain ⟨x, e, _, hx⟩ := DataW.trod_int (P := Tryz.prog) Tryz.underlying2 h0
    obtain ⟨y, e', _, hy⟩ := DataW.trod_int (P := Tryz.prog) Tryz.underlying2 h1
    simp at e e'
    subst e e'
    simp [Lit.wf, IntKind.min, IntKind.max, IntKind.signed, IntKind.bits] at hx hy
    exact ⟨x, y, by omega, by omega, by omega, by omega, RdCs.cons (.i _ _) (RdCs.cons (.i _ _) RdCs.nil)⟩
set_option maxRecDepth 100000 in
theorem way_of {fuel : Nat} {cs : List Value} {x : DataW H × List MemPlace} (h : DataW.trod enc Tryz.prog w base spare held fuel 36 cs = some x) :
    ∃ a1 a2 b1 b2 r s z f : Int, -9223372036854775808 ≤ s ∧ s ≤ 9223372036854775807 ∧ RdCs NoB w cs (([.i .i64 a1] ++ [.i .i64 a2]) ++ ([.i .i64 b1] ++ [.i .i64 b2]) ++ [.i .i64 r] ++ [.i .i64 s] ++ [.i .i64 z] ++ [.i .i64 f]) := by
  obtain ⟨xs, n, _, _, hcl, hxl, hf⟩ := DataW.trod_struct (P := Tryz.prog) Tryz.underlying36 h
  have hcl : cs.length = 8 := hcl.trans (by kernel_rfl)
  have hxl : xs.length = 6 := hxl.trans (by kernel_rfl)
  match cs, hcl with
  | [c0, c1, c2, c3, c4, c5, c6, c7], _ =>
    have h0 : DataW.trod enc Tryz.prog w base spare held n 34 [c0, c1] = xs[0]? := hf 0 _ rfl
    have h1 : DataW.trod enc Tryz.prog w base spare held n 34 [c2, c3] = xs[1]? := hf 1 _ rfl
    have h2 : DataW.trod enc Tryz.prog w base spare held n 2 [c4] = xs[2]? := hf 2 _ rfl
    have h3 : DataW.trod enc Tryz.prog w base spare held n 2 [c5] = xs[3]? := hf 3 _ rfl
    have h4 : DataW.trod enc Tryz.prog w base spare held n 2 [c6] = xs[4]? := hf 4 _ rfl
    have h5 : DataW.trod enc Tryz.prog w base spare held n 2 [c7] = xs[5]? := hf 5 _ rfl
    rw [List.getElem?_eq_getElem (by omega)] at h0 h1 h2 h3 h4 h5
    obtain ⟨a1, a2, _, _, _, _, r0⟩ := grid_of h0
    obtain ⟨b1, b2, _, _, _, _, r1⟩ := grid_of h1
    obtain ⟨r, e2, _, g2⟩ := DataW.trod_int (P := Tryz.prog) Tryz.underlying2 h2
    obtain ⟨s, e3, _, g3⟩ := DataW.trod_int (P := Tryz.prog) Tryz.underlying2 h3
    obtain ⟨z, e4, _, g4⟩ := DataW.trod_int (P := Tryz.prog) Tryz.underlying2 h4
    obtain ⟨f, e5, _, g5⟩ := DataW.trod_int (P := Tryz.prog) Tryz.underlying2 h5
    simp at e2 e3 e4 e5
    subst e2 e3 e4 e5
    simp [Lit.wf, IntKind.min, IntKind.max, IntKind.signed, IntKind.bits] at g3
    have k : ∀ q : Int, RdCs NoB w [Value.int .i64 q] [.i .i64 q] := fun q => RdCs.cons (.i _ _) RdCs.nil
    exact ⟨a1, a2, b1, b2, r, s, z, f, by omega, by omega, RdCs.append (RdCs.append (RdCs.append (RdCs.append (RdCs.append r0 r1) (k r)) (k s)) (k z)) (k f)⟩
/-- What a contract gives a row. -/
theorem law_of {f : FuncId} {ds : List D0} {vs : Array Value} {W : World} (h : Ok Tryz.prog f ds [.c (.b true)]) (hr : RdL NoB W vs.toList ds) : Calls Tryz.prog f vs W fun e W' => e = .returned (.bool true) ∧ Below W.heap.size W W' :=
  (h.run NoB vs W (fun _ h => h.elim) hr).mono fun e w' ⟨v, e1, h1, h2⟩ => by
    have := RdC.bool_eq h1
    subst this
    exact ⟨e1, h2⟩
end
end Go.Proofs.YtonjlikaacengaaGreat
/- Arguments opened: slices of grid positions, arrays of two numbers, numbers. No condition. -/
namespace Go.Proofs.YtonjlikaacengaaGreat
open Go.ChangeShapes Go.WideShapes Go.ChangeAt Go.RowKit Go.Deep
theorem okWide_arr {P : Program} {w : World} {r : Reach} {base : Nat} {t e : TypeId} {n : Nat} {v : Value} (ht : P.underlying t = some (.array n e)) (h : Value.okWide P w r base t v) : ∃ cs, v = .agg cs := by
  simp only [Value.okWide, ht] at h
  obtain ⟨cs, h1, _⟩ := h
  exact ⟨cs, h1⟩
section
variable {H : Type} {enc : TypeId × Value → H} {w : World} {base : Nat} {spare : Nat → Bool} {held : Bool}
theorem grids_of {fuel : Nat} {v : Value} {x : DataW H × List MemPlace} (h : DataW.trod enc Tryz.prog w base spare held fuel 22 [v] = some x) :
    ∃ (n : Nat) (us : List CellD), us.length = n * 2 ∧ us.all isJ = true ∧ RdC NoB w v (.s n us) := by
  rcases open_slice_pairs (P := Tryz.prog) Tryz.underlying22 Tryz.underlying34 (by kernel_rfl) rfl rfl (by kernel_rfl) (by kernel_rfl) h with ⟨hcs, _⟩ | ⟨a, len, cap, m, n, V0, V1, D0, D1, P0, P1, hcs, _, hl, hm, hmm, _, hi⟩
  · simp at hcs; subst hcs
    exact ⟨0, [], rfl, rfl, .s0 none 0 (by omega)⟩
  · simp at hcs; subst hcs
    unfold maxLen at hm
    have key : ∀ j, j < len * 2 → ∃ z : Int, w.cell? (a.add j) = some (.int .i64 z) := by
      intro j hj
      obtain ⟨c0, c1, t0, t1⟩ := hi (j / 2) (by rw [hmm]; split <;> omega)
      obtain ⟨z0, e0, _, _⟩ := DataW.trod_int (P := Tryz.prog) Tryz.underlying2 t0
      obtain ⟨z1, e1, _, _⟩ := DataW.trod_int (P := Tryz.prog) Tryz.underlying2 t1
      simp at e0 e1
      rcases Nat.mod_two_eq_zero_or_one j with h2 | h2
      · exact ⟨z0, by rw [show j = j / 2 * 2 by omega, c0, e0]⟩
      · exact ⟨z1, by rw [show j = j / 2 * 2 + 1 by omega, c1, e1]⟩
    obtain ⟨l, hll, hp⟩ := olist_of (p := fun j (z : Int) => w.cell? (a.add j) = some (.int .i64 z)) (len * 2) key
    refine ⟨len, l.map (CellD.i .i64), by simp [hll], ?_, ?_⟩
    · rw [List.all_eq_true]
      intro c hc
      obtain ⟨z, _, rfl⟩ := List.mem_map.1 hc
      rfl
    · by_cases h0 : len = 0
      · subst h0
        have : l = [] := List.length_eq_zero_iff.1 (by omega)
        subst this
        exact .s0 _ _ (by omega)
      · have h00 := hp 0 _ (List.getElem?_eq_getElem (by omega))
        have ea := ospot_of a _ h00
        have hk : ∀ j z, l[j]? = some z → w.cell? ⟨a.block, a.off + j, none⟩ = some (.int .i64 z) := fun j z hj => oadd_at a j _ (hp j z hj)
        rw [ea]
        refine .s a.block a.off cap 2 len _ (fun j => .int .i64 (l.getD j 0)) (by omega) hl (by omega) (by simp [hll]) (olt_of _ _ _ (hk 0 _ (List.getElem?_eq_getElem (by omega)))) (fun h => h) (fun j hj => ?_) (fun j u hu => ?_)
        · have hj2 : j < l.length := by omega
          rw [hk j _ (List.getElem?_eq_getElem hj2)]
          simp [List.getD, List.getElem?_eq_getElem hj2]
        · rw [List.getElem?_map] at hu
          cases hj : l[j]? with
          | none => rw [hj] at hu; cases hu
          | some z =>
            rw [hj] at hu
            simp at hu
            subst hu
            simp only [List.getD, hj, Option.getD_some]
            exact .i _ _
theorem i2_of {fuel : Nat} {cs : List Value} {x : DataW H × List MemPlace} (h : DataW.trod enc Tryz.prog w base spare held fuel 23 cs = some x) :
    ∃ x y : Int, -9223372036854775808 ≤ x ∧ x ≤ 9223372036854775807 ∧ -9223372036854775808 ≤ y ∧ y ≤ 9223372036854775807 ∧ RdCs NoB w cs ([.i .i64 x] ++ [.i .i64 y]) := by
  obtain ⟨xs, n, _, _, hcl, hxl, hf⟩ := DataW.trod_array (P := Tryz.prog) Tryz.underlying23 h
  have hcl : cs.length = 2 := hcl.trans (by kernel_rfl)
  have hce : Tryz.prog.cellsOf 2 = 1 := by kernel_rfl
  rw [hce] at hf
  match cs, hcl with
  | [c0, c1], _ =>
    have h0 : DataW.trod enc Tryz.prog w base spare held n 2 [c0] = xs[0]? := hf 0 (by omega)
    have h1 : DataW.trod enc Tryz.prog w base spare held n 2 [c1] = xs[1]? := hf 1 (by omega)
    rw [List.getElem?_eq_getElem (by omega)] at h0 h1
    obtain ⟨x, e, _, hx⟩ := DataW.trod_int (P := Tryz.prog) Tryz.underlying2 h0
    obtain ⟨y, e', _, hy⟩ := DataW.trod_int (P := Tryz.prog) Tryz.underlying2 h1
    simp at e e'
    subst e e'
    simp [Lit.wf, IntKind.min, IntKind.max, IntKind.signed, IntKind.bits] at hx hy
    exact ⟨x, y, by omega, by omega, by omega, by omega, RdCs.cons (.i _ _) (RdCs.cons (.i _ _) RdCs.nil)⟩
theorem s2_of {fuel : Nat} {cs : List Value} {x : DataW H × List MemPlace} (h : DataW.trod enc Tryz.prog w base spare held fuel 44 cs = some x) :
    ∃ x y : Int, -32768 ≤ x ∧ x ≤ 32767 ∧ -32768 ≤ y ∧ y ≤ 32767 ∧ RdCs NoB w cs ([.i .i16 x] ++ [.i .i16 y]) := by
  obtain ⟨xs, n, _, _, hcl, hxl, hf⟩ := DataW.trod_array (P := Tryz.prog) Tryz.underlying44 h
  have hcl : cs.length = 2 := hcl.trans (by kernel_rfl)
  have hce : Tryz.prog.cellsOf 43 = 1 := by kernel_rfl
  rw [hce] at hf
  match cs, hcl with
  | [c0, c1], _ =>
    have h0 : DataW.trod enc Tryz.prog w base spare held n 43 [c0] = xs[0]? := hf 0 (by omega)
    have h1 : DataW.trod enc Tryz.prog w base spare held n 43 [c1] = xs[1]? := hf 1 (by omega)
    rw [List.getElem?_eq_getElem (by omega)] at h0 h1
    obtain ⟨x, e, _, hx⟩ := DataW.trod_int (P := Tryz.prog) Tryz.underlying43 h0
    obtain ⟨y, e', _, hy⟩ := DataW.trod_int (P := Tryz.prog) Tryz.underlying43 h1
    simp at e e'
    subst e e'
    simp [Lit.wf, IntKind.min, IntKind.max, IntKind.signed, IntKind.bits] at hx hy
    exact ⟨x, y, by omega, by omega, by omega, by omega, RdCs.cons (.i _ _) (RdCs.cons (.i _ _) RdCs.nil)⟩
end
end Go.Proofs.YtonjlikaacengaaGreat
