/- Disc, Straight, Width, Step: program and reference. -/
import Derived.Test.YtedlgdliniokiaaGreatEaK
namespace Go.Proofs.YtedlgdliniokiaaGreat
open Go Go.RowKit
theorem eDisc_no {R r e : Rat} (hR : Rz 20 R) (hr : Rz 20 r) (he : Rz 20 e) (hd : dscB R r e = false) : Ok Tryz.prog 7 [dR R, dR r, dR e] [.a (([.b false] ++ [cM ([])]) ++ ([.b false] ++ [cM ([])])), .c (.b false)] := by
  refine Ok.of (by kernel_rfl) Tryz.func7 rfl rfl ?_
  rw [show Tryz.f7.ntmps = 42 from rfl, show Tryz.f7.results.toList = [.cell 6 28, .tmp 7] from rfl]
  refine dw_seq ?_
  -- region 0
  refine dw_region (by kernel_rfl) ?_
  refine dl_new (sem_box_a rfl rfl) rfl ?_
  refine dl_new (sem_box_a rfl rfl) rfl ?_
  refine dl_new (sem_box_a rfl rfl) rfl ?_
  refine dl_new (sem_alloc zc28 rfl) rfl ?_
  refine dl_r (sem_assign rfl rfl) ?_
  refine dl_end ?_
  refine dw_seq ?_
  refine dw_seq ?_
  -- region 1
  refine dw_region (by kernel_rfl) ?_
  refine dl_r (sem_load (us := cR R) ty28 rfl rfl rfl rfl rfl) ?_
  refine dl_r (sem_call rfl rfl (pSign_ok) rfl) ?_
  refine dl_r (sem_cmp rfl rfl rfl rfl) ?_
  refine dl_rb (sem_move rfl rfl) (fun c1 hb1 => ?_)
  cases c1
  · refine dl_r (sem_load (us := cR r) ty28 rfl rfl rfl rfl rfl) ?_
    refine dl_r (sem_call rfl rfl (pSign_ok) rfl) ?_
    refine dl_r (sem_cmp rfl rfl rfl rfl) ?_
    refine dl_r (sem_pick rfl rfl rfl rfl) ?_
    refine dl_rb (sem_move rfl rfl) (fun c2 hb2 => ?_)
    cases c2
    · refine dl_r (sem_load (us := cR e) ty28 rfl rfl rfl rfl rfl) ?_
      refine dl_r (sem_call rfl rfl (pSign_ok) rfl) ?_
      refine dl_r (sem_cmp rfl rfl rfl rfl) ?_
      refine dl_r (sem_pick rfl rfl rfl rfl) ?_
      refine dl_end ?_
      refine dw_cond rfl (fun hc3 => ?_) (fun hc3 => ?_)
      · refine dw_seq ?_
        -- region 2
        refine dw_region (by kernel_rfl) ?_
        refine dl_r (sem_build (us := (([.b false] ++ [.s 0 []]) ++ ([.b false] ++ [.s 0 []]))) fs28 zc28 rfl rfl rfl) ?_
        refine dl_st (sem_store_a ty28 rfl rfl rfl rfl rfl rfl) ?_
        refine dl_r (sem_assign rfl rfl) ?_
        refine dl_end ?_
        refine dw_ret ?_
        -- path ffT
        exact ⟨.inr rfl, (resL_cell (us := (([.b false] ++ [.s 0 []]) ++ ([.b false] ++ [.s 0 []]))) ty28 rfl rfl rfl rfl (resL_tmp rfl resL_nil))⟩
      · have h0 := dsc_ne hb2 hc3
        have hz : Rz 200 (hfQ R r e) := hf_sz hR hr he h0
        refine dw_skip ?_
        refine dw_seq ?_
        -- region 3
        refine dw_region (by kernel_rfl) ?_
        refine dl_r (sem_load (us := cR R) ty28 rfl rfl rfl rfl rfl) ?_
        refine dl_r (sem_load (us := cR r) ty28 rfl rfl rfl rfl rfl) ?_
        refine dl_r (sem_load (us := cR e) ty28 rfl rfl rfl rfl rfl) ?_
        refine dl_r (sem_call rfl rfl (eHalf_ok (by first | assumption | exact Rz.mono hR (by decide)) (by first | assumption | exact Rz.mono hr (by decide)) (by first | assumption | exact Rz.mono he (by decide)) h0) rfl) ?_
        refine dl_new (sem_alloc zc28 rfl) rfl ?_
        refine dl_st (sem_store_a ty28 rfl rfl rfl rfl rfl rfl) ?_
        refine dl_end ?_
        refine dw_seq ?_
        -- region 4
        refine dw_region (by kernel_rfl) ?_
        refine dl_r (sem_call rfl rfl (pFrom_ok (by omega) (by omega)) rfl) ?_
        refine dl_new (sem_alloc zc28 rfl) rfl ?_
        refine dl_st (sem_store_a ty28 rfl rfl rfl rfl rfl rfl) ?_
        refine dl_end ?_
        refine dw_seq ?_
        refine dw_seq ?_
        -- region 5
        refine dw_draw 11 [] follows_mixed (by kernel_rfl) rfl rfl ?_
        refine dq_r (sem_load (us := cR (hfQ R r e)) ty28 rfl rfl rfl rfl rfl) ?_
        refine dq_r (sem_load (us := cR (((1 : Int) : Rat))) ty28 rfl rfl rfl rfl rfl) ?_
        refine dq_r (sem_call rfl rfl (pCmp_ok (by first | assumption | exact Rz.mono (by assumption) (by decide)) (by first | assumption | exact Rz.mono (Rz.int (Sz.small (k := 3) (by decide) (by decide) (by decide)) (by decide)) (by decide))) rfl) ?_
        refine dq_r (sem_cmp rfl rfl rfl rfl) ?_
        refine dq_rb (sem_move rfl rfl) (fun c4 hb4 => ?_)
        cases c4
        · refine dq_r (sem_load (us := cR (hfQ R r e)) ty28 rfl rfl rfl rfl rfl) ?_
          refine dq_r (sem_call rfl rfl (pNeg_ok (by first | assumption | exact Rz.mono (by assumption) (by decide))) rfl) ?_
          refine dq_r (sem_load (us := cR (((1 : Int) : Rat))) ty28 rfl rfl rfl rfl rfl) ?_
          refine dq_r (sem_call rfl rfl (pCmp_ok (by first | assumption | exact Rz.mono (Rz.neg (by assumption)) (by decide)) (by first | assumption | exact Rz.mono (Rz.int (Sz.small (k := 3) (by decide) (by decide) (by decide)) (by decide)) (by decide))) rfl) ?_
          refine dq_r (sem_cmp rfl rfl rfl rfl) ?_
          refine dq_r (sem_pick rfl rfl rfl rfl) ?_
          refine dq_end ?_
          refine dl_start0 ?_
          refine dl_end ?_
          refine dw_cond rfl (fun hc5 => ?_) (fun hc5 => ?_)
          · refine dw_seq ?_
            -- region 6
            refine dw_region (by kernel_rfl) ?_
            refine dl_r (sem_build (us := (([.b false] ++ [.s 0 []]) ++ ([.b false] ++ [.s 0 []]))) fs28 zc28 rfl rfl rfl) ?_
            refine dl_st (sem_store_a ty28 rfl rfl rfl rfl rfl rfl) ?_
            refine dl_r (sem_assign rfl rfl) ?_
            refine dl_end ?_
            refine dw_ret ?_
            -- path ffFfT
            exact ⟨.inr rfl, (resL_cell (us := (([.b false] ++ [.s 0 []]) ++ ([.b false] ++ [.s 0 []]))) ty28 rfl rfl rfl rfl (resL_tmp rfl resL_nil))⟩
          · exact absurd hd (by rw [show dscB R r e = true from by unfold dscB; rw [hb1, hb2, hc3, hb4, hc5]; rfl]; decide)
        · refine dq_skip (sem_skip rfl) ?_
          refine dq_skip (sem_skip rfl) ?_
          refine dq_skip (sem_skip rfl) ?_
          refine dq_skip (sem_skip rfl) ?_
          refine dq_skip (sem_skip rfl) ?_
          refine dq_r (sem_pick rfl rfl rfl rfl) ?_
          refine dq_end ?_
          refine dl_start0 ?_
          refine dl_end ?_
          refine dw_true rfl ?_
          refine dw_seq ?_
          -- region 6
          refine dw_region (by kernel_rfl) ?_
          refine dl_r (sem_build (us := (([.b false] ++ [.s 0 []]) ++ ([.b false] ++ [.s 0 []]))) fs28 zc28 rfl rfl rfl) ?_
          refine dl_st (sem_store_a ty28 rfl rfl rfl rfl rfl rfl) ?_
          refine dl_r (sem_assign rfl rfl) ?_
          refine dl_end ?_
          refine dw_ret ?_
          -- path ffFt
          exact ⟨.inr rfl, (resL_cell (us := (([.b false] ++ [.s 0 []]) ++ ([.b false] ++ [.s 0 []]))) ty28 rfl rfl rfl rfl (resL_tmp rfl resL_nil))⟩
    · refine dl_skip (sem_skip rfl) ?_
      refine dl_skip (sem_skip rfl) ?_
      refine dl_skip (sem_skip rfl) ?_
      refine dl_r (sem_pick rfl rfl rfl rfl) ?_
      refine dl_end ?_
      refine dw_true rfl ?_
      refine dw_seq ?_
      -- region 2
      refine dw_region (by kernel_rfl) ?_
      refine dl_r (sem_build (us := (([.b false] ++ [.s 0 []]) ++ ([.b false] ++ [.s 0 []]))) fs28 zc28 rfl rfl rfl) ?_
      refine dl_st (sem_store_a ty28 rfl rfl rfl rfl rfl rfl) ?_
      refine dl_r (sem_assign rfl rfl) ?_
      refine dl_end ?_
      refine dw_ret ?_
      -- path ft
      exact ⟨.inr rfl, (resL_cell (us := (([.b false] ++ [.s 0 []]) ++ ([.b false] ++ [.s 0 []]))) ty28 rfl rfl rfl rfl (resL_tmp rfl resL_nil))⟩
  · refine dl_skip (sem_skip rfl) ?_
    refine dl_skip (sem_skip rfl) ?_
    refine dl_skip (sem_skip rfl) ?_
    refine dl_r (sem_pick rfl rfl rfl rfl) ?_
    refine dl_r (sem_move rfl rfl) ?_
    refine dl_skip (sem_skip rfl) ?_
    refine dl_skip (sem_skip rfl) ?_
    refine dl_skip (sem_skip rfl) ?_
    refine dl_r (sem_pick rfl rfl rfl rfl) ?_
    refine dl_end ?_
    refine dw_true rfl ?_
    refine dw_seq ?_
    -- region 2
    refine dw_region (by kernel_rfl) ?_
    refine dl_r (sem_build (us := (([.b false] ++ [.s 0 []]) ++ ([.b false] ++ [.s 0 []]))) fs28 zc28 rfl rfl rfl) ?_
    refine dl_st (sem_store_a ty28 rfl rfl rfl rfl rfl rfl) ?_
    refine dl_r (sem_assign rfl rfl) ?_
    refine dl_end ?_
    refine dw_ret ?_
    -- path t
    exact ⟨.inr rfl, (resL_cell (us := (([.b false] ++ [.s 0 []]) ++ ([.b false] ++ [.s 0 []]))) ty28 rfl rfl rfl rfl (resL_tmp rfl resL_nil))⟩
theorem eDisc_yes {R r e : Rat} (hR : Rz 20 R) (hr : Rz 20 r) (he : Rz 20 e) (hd : dscB R r e = true) : Ok Tryz.prog 7 [dR R, dR r, dR e] [dR (hfQ R r e), .c (.b true)] := by
  refine Ok.of (by kernel_rfl) Tryz.func7 rfl rfl ?_
  rw [show Tryz.f7.ntmps = 42 from rfl, show Tryz.f7.results.toList = [.cell 6 28, .tmp 7] from rfl]
  refine dw_seq ?_
  -- region 0
  refine dw_region (by kernel_rfl) ?_
  refine dl_new (sem_box_a rfl rfl) rfl ?_
  refine dl_new (sem_box_a rfl rfl) rfl ?_
  refine dl_new (sem_box_a rfl rfl) rfl ?_
  refine dl_new (sem_alloc zc28 rfl) rfl ?_
  refine dl_r (sem_assign rfl rfl) ?_
  refine dl_end ?_
  refine dw_seq ?_
  refine dw_seq ?_
  -- region 1
  refine dw_region (by kernel_rfl) ?_
  refine dl_r (sem_load (us := cR R) ty28 rfl rfl rfl rfl rfl) ?_
  refine dl_r (sem_call rfl rfl (pSign_ok) rfl) ?_
  refine dl_r (sem_cmp rfl rfl rfl rfl) ?_
  refine dl_rb (sem_move rfl rfl) (fun c1 hb1 => ?_)
  cases c1
  · refine dl_r (sem_load (us := cR r) ty28 rfl rfl rfl rfl rfl) ?_
    refine dl_r (sem_call rfl rfl (pSign_ok) rfl) ?_
    refine dl_r (sem_cmp rfl rfl rfl rfl) ?_
    refine dl_r (sem_pick rfl rfl rfl rfl) ?_
    refine dl_rb (sem_move rfl rfl) (fun c2 hb2 => ?_)
    cases c2
    · refine dl_r (sem_load (us := cR e) ty28 rfl rfl rfl rfl rfl) ?_
      refine dl_r (sem_call rfl rfl (pSign_ok) rfl) ?_
      refine dl_r (sem_cmp rfl rfl rfl rfl) ?_
      refine dl_r (sem_pick rfl rfl rfl rfl) ?_
      refine dl_end ?_
      refine dw_cond rfl (fun hc3 => ?_) (fun hc3 => ?_)
      · exact absurd hd (by rw [show dscB R r e = false from by unfold dscB; rw [hb1, hb2, hc3]; rfl]; decide)
      · have h0 := dsc_ne hb2 hc3
        have hz : Rz 200 (hfQ R r e) := hf_sz hR hr he h0
        refine dw_skip ?_
        refine dw_seq ?_
        -- region 3
        refine dw_region (by kernel_rfl) ?_
        refine dl_r (sem_load (us := cR R) ty28 rfl rfl rfl rfl rfl) ?_
        refine dl_r (sem_load (us := cR r) ty28 rfl rfl rfl rfl rfl) ?_
        refine dl_r (sem_load (us := cR e) ty28 rfl rfl rfl rfl rfl) ?_
        refine dl_r (sem_call rfl rfl (eHalf_ok (by first | assumption | exact Rz.mono hR (by decide)) (by first | assumption | exact Rz.mono hr (by decide)) (by first | assumption | exact Rz.mono he (by decide)) h0) rfl) ?_
        refine dl_new (sem_alloc zc28 rfl) rfl ?_
        refine dl_st (sem_store_a ty28 rfl rfl rfl rfl rfl rfl) ?_
        refine dl_end ?_
        refine dw_seq ?_
        -- region 4
        refine dw_region (by kernel_rfl) ?_
        refine dl_r (sem_call rfl rfl (pFrom_ok (by omega) (by omega)) rfl) ?_
        refine dl_new (sem_alloc zc28 rfl) rfl ?_
        refine dl_st (sem_store_a ty28 rfl rfl rfl rfl rfl rfl) ?_
        refine dl_end ?_
        refine dw_seq ?_
        refine dw_seq ?_
        -- region 5
        refine dw_draw 11 [] follows_mixed (by kernel_rfl) rfl rfl ?_
        refine dq_r (sem_load (us := cR (hfQ R r e)) ty28 rfl rfl rfl rfl rfl) ?_
        refine dq_r (sem_load (us := cR (((1 : Int) : Rat))) ty28 rfl rfl rfl rfl rfl) ?_
        refine dq_r (sem_call rfl rfl (pCmp_ok (by first | assumption | exact Rz.mono (by assumption) (by decide)) (by first | assumption | exact Rz.mono (Rz.int (Sz.small (k := 3) (by decide) (by decide) (by decide)) (by decide)) (by decide))) rfl) ?_
        refine dq_r (sem_cmp rfl rfl rfl rfl) ?_
        refine dq_rb (sem_move rfl rfl) (fun c4 hb4 => ?_)
        cases c4
        · refine dq_r (sem_load (us := cR (hfQ R r e)) ty28 rfl rfl rfl rfl rfl) ?_
          refine dq_r (sem_call rfl rfl (pNeg_ok (by first | assumption | exact Rz.mono (by assumption) (by decide))) rfl) ?_
          refine dq_r (sem_load (us := cR (((1 : Int) : Rat))) ty28 rfl rfl rfl rfl rfl) ?_
          refine dq_r (sem_call rfl rfl (pCmp_ok (by first | assumption | exact Rz.mono (Rz.neg (by assumption)) (by decide)) (by first | assumption | exact Rz.mono (Rz.int (Sz.small (k := 3) (by decide) (by decide) (by decide)) (by decide)) (by decide))) rfl) ?_
          refine dq_r (sem_cmp rfl rfl rfl rfl) ?_
          refine dq_r (sem_pick rfl rfl rfl rfl) ?_
          refine dq_end ?_
          refine dl_start0 ?_
          refine dl_end ?_
          refine dw_cond rfl (fun hc5 => ?_) (fun hc5 => ?_)
          · exact absurd hd (by rw [show dscB R r e = false from by unfold dscB; rw [hb1, hb2, hc3, hb4, hc5]; rfl]; decide)
          · refine dw_skip ?_
            refine dw_seq ?_
            -- region 7
            refine dw_region (by kernel_rfl) ?_
            refine dl_r (sem_load (us := cR (hfQ R r e)) ty28 rfl rfl rfl rfl rfl) ?_
            refine dl_st (sem_store_a ty28 rfl rfl rfl rfl rfl rfl) ?_
            refine dl_r (sem_assign rfl rfl) ?_
            refine dl_end ?_
            refine dw_ret ?_
            -- path ffFfF
            exact ⟨.inr rfl, (resL_cell (us := cR (hfQ R r e)) ty28 rfl rfl rfl rfl (resL_tmp rfl resL_nil))⟩
        · exact absurd hd (by rw [show dscB R r e = false from by unfold dscB; rw [hb1, hb2, hc3, hb4]; rfl]; decide)
    · exact absurd hd (by rw [show dscB R r e = false from by unfold dscB; rw [hb1, hb2]; rfl]; decide)
  · exact absurd hd (by rw [show dscB R r e = false from by unfold dscB; rw [hb1]; rfl]; decide)
theorem eStr_no {u r : Rat} (hu : Rz 20 u) (hr : Rz 20 r) (hd : strB u r = false) : Ok Tryz.prog 15 [dR u, dR r] [.a (([.b false] ++ [cM ([])]) ++ ([.b false] ++ [cM ([])])), .c (.i .i64 1)] := by
  refine Ok.of (by kernel_rfl) Tryz.func15 rfl rfl ?_
  rw [show Tryz.f15.ntmps = 38 from rfl, show Tryz.f15.results.toList = [.cell 4 28, .tmp 5] from rfl]
  refine dw_seq ?_
  -- region 0
  refine dw_region (by kernel_rfl) ?_
  refine dl_new (sem_box_a rfl rfl) rfl ?_
  refine dl_new (sem_box_a rfl rfl) rfl ?_
  refine dl_new (sem_alloc zc28 rfl) rfl ?_
  refine dl_r (sem_assign rfl rfl) ?_
  refine dl_end ?_
  refine dw_seq ?_
  refine dw_seq ?_
  -- region 1
  refine dw_draw 16 [] follows_mixed (by kernel_rfl) rfl rfl ?_
  refine dq_r (sem_load (us := cR r) ty28 rfl rfl rfl rfl rfl) ?_
  refine dq_r (sem_call rfl rfl (pSign_ok) rfl) ?_
  refine dq_r (sem_cmp rfl rfl rfl rfl) ?_
  refine dq_rb (sem_move rfl rfl) (fun c1 hb1 => ?_)
  cases c1
  · refine dq_r (sem_load (us := cR u) ty28 rfl rfl rfl rfl rfl) ?_
    refine dq_r (sem_call rfl rfl (pSign_ok) rfl) ?_
    refine dq_r (sem_cmp rfl rfl rfl rfl) ?_
    refine dq_r (sem_pick rfl rfl rfl rfl) ?_
    refine dq_rb (sem_move rfl rfl) (fun c2 hb2 => ?_)
    cases c2
    · refine dq_r (sem_load (us := cR u) ty28 rfl rfl rfl rfl rfl) ?_
      refine dq_r (sem_load (us := cR r) ty28 rfl rfl rfl rfl rfl) ?_
      refine dq_r (sem_load (us := cR r) ty28 rfl rfl rfl rfl rfl) ?_
      refine dq_r (sem_call rfl rfl (eAdd_ok (by first | assumption | exact Rz.mono hr (by decide)) (by first | assumption | exact Rz.mono hr (by decide))) rfl) ?_
      refine dq_r (sem_call rfl rfl (pCmp_ok (by first | assumption | exact Rz.mono hu (by decide)) (by first | assumption | exact Rz.mono (Rz.add hr hr) (by decide))) rfl) ?_
      refine dq_r (sem_cmp rfl rfl rfl rfl) ?_
      refine dq_r (sem_pick rfl rfl rfl rfl) ?_
      refine dq_end ?_
      refine dl_start0 ?_
      refine dl_end ?_
      refine dw_cond rfl (fun hc3 => ?_) (fun hc3 => ?_)
      · refine dw_seq ?_
        -- region 2
        refine dw_region (by kernel_rfl) ?_
        refine dl_r (sem_build (us := (([.b false] ++ [.s 0 []]) ++ ([.b false] ++ [.s 0 []]))) fs28 zc28 rfl rfl rfl) ?_
        refine dl_st (sem_store_a ty28 rfl rfl rfl rfl rfl rfl) ?_
        refine dl_r (sem_assign rfl rfl) ?_
        refine dl_end ?_
        refine dw_ret ?_
        -- path ffT
        exact ⟨.inr rfl, (resL_cell (us := (([.b false] ++ [.s 0 []]) ++ ([.b false] ++ [.s 0 []]))) ty28 rfl rfl rfl rfl (resL_tmp rfl resL_nil))⟩
      · exact absurd hd (by rw [show strB u r = true from by unfold strB; rw [hb1, hb2, hc3]; rfl]; decide)
    · refine dq_skip (sem_skip rfl) ?_
      refine dq_skip (sem_skip rfl) ?_
      refine dq_skip (sem_skip rfl) ?_
      refine dq_skip (sem_skip rfl) ?_
      refine dq_skip (sem_skip rfl) ?_
      refine dq_skip (sem_skip rfl) ?_
      refine dq_r (sem_pick rfl rfl rfl rfl) ?_
      refine dq_end ?_
      refine dl_start0 ?_
      refine dl_end ?_
      refine dw_true rfl ?_
      refine dw_seq ?_
      -- region 2
      refine dw_region (by kernel_rfl) ?_
      refine dl_r (sem_build (us := (([.b false] ++ [.s 0 []]) ++ ([.b false] ++ [.s 0 []]))) fs28 zc28 rfl rfl rfl) ?_
      refine dl_st (sem_store_a ty28 rfl rfl rfl rfl rfl rfl) ?_
      refine dl_r (sem_assign rfl rfl) ?_
      refine dl_end ?_
      refine dw_ret ?_
      -- path ft
      exact ⟨.inr rfl, (resL_cell (us := (([.b false] ++ [.s 0 []]) ++ ([.b false] ++ [.s 0 []]))) ty28 rfl rfl rfl rfl (resL_tmp rfl resL_nil))⟩
  · refine dq_skip (sem_skip rfl) ?_
    refine dq_skip (sem_skip rfl) ?_
    refine dq_skip (sem_skip rfl) ?_
    refine dq_r (sem_pick rfl rfl rfl rfl) ?_
    refine dq_r (sem_move rfl rfl) ?_
    refine dq_skip (sem_skip rfl) ?_
    refine dq_skip (sem_skip rfl) ?_
    refine dq_skip (sem_skip rfl) ?_
    refine dq_skip (sem_skip rfl) ?_
    refine dq_skip (sem_skip rfl) ?_
    refine dq_skip (sem_skip rfl) ?_
    refine dq_r (sem_pick rfl rfl rfl rfl) ?_
    refine dq_end ?_
    refine dl_start0 ?_
    refine dl_end ?_
    refine dw_true rfl ?_
    refine dw_seq ?_
    -- region 2
    refine dw_region (by kernel_rfl) ?_
    refine dl_r (sem_build (us := (([.b false] ++ [.s 0 []]) ++ ([.b false] ++ [.s 0 []]))) fs28 zc28 rfl rfl rfl) ?_
    refine dl_st (sem_store_a ty28 rfl rfl rfl rfl rfl rfl) ?_
    refine dl_r (sem_assign rfl rfl) ?_
    refine dl_end ?_
    refine dw_ret ?_
    -- path t
    exact ⟨.inr rfl, (resL_cell (us := (([.b false] ++ [.s 0 []]) ++ ([.b false] ++ [.s 0 []]))) ty28 rfl rfl rfl rfl (resL_tmp rfl resL_nil))⟩
theorem eStr_yes {u r : Rat} (hu : Rz 20 u) (hr : Rz 20 r) (hd : strB u r = true) : Ok Tryz.prog 15 [dR u, dR r] [dR (((1 : Int) : Rat) - u / r), .c (.i .i64 0)] := by
  refine Ok.of (by kernel_rfl) Tryz.func15 rfl rfl ?_
  rw [show Tryz.f15.ntmps = 38 from rfl, show Tryz.f15.results.toList = [.cell 4 28, .tmp 5] from rfl]
  refine dw_seq ?_
  -- region 0
  refine dw_region (by kernel_rfl) ?_
  refine dl_new (sem_box_a rfl rfl) rfl ?_
  refine dl_new (sem_box_a rfl rfl) rfl ?_
  refine dl_new (sem_alloc zc28 rfl) rfl ?_
  refine dl_r (sem_assign rfl rfl) ?_
  refine dl_end ?_
  refine dw_seq ?_
  refine dw_seq ?_
  -- region 1
  refine dw_draw 16 [] follows_mixed (by kernel_rfl) rfl rfl ?_
  refine dq_r (sem_load (us := cR r) ty28 rfl rfl rfl rfl rfl) ?_
  refine dq_r (sem_call rfl rfl (pSign_ok) rfl) ?_
  refine dq_r (sem_cmp rfl rfl rfl rfl) ?_
  refine dq_rb (sem_move rfl rfl) (fun c1 hb1 => ?_)
  cases c1
  · refine dq_r (sem_load (us := cR u) ty28 rfl rfl rfl rfl rfl) ?_
    refine dq_r (sem_call rfl rfl (pSign_ok) rfl) ?_
    refine dq_r (sem_cmp rfl rfl rfl rfl) ?_
    refine dq_r (sem_pick rfl rfl rfl rfl) ?_
    refine dq_rb (sem_move rfl rfl) (fun c2 hb2 => ?_)
    cases c2
    · refine dq_r (sem_load (us := cR u) ty28 rfl rfl rfl rfl rfl) ?_
      refine dq_r (sem_load (us := cR r) ty28 rfl rfl rfl rfl rfl) ?_
      refine dq_r (sem_load (us := cR r) ty28 rfl rfl rfl rfl rfl) ?_
      refine dq_r (sem_call rfl rfl (eAdd_ok (by first | assumption | exact Rz.mono hr (by decide)) (by first | assumption | exact Rz.mono hr (by decide))) rfl) ?_
      refine dq_r (sem_call rfl rfl (pCmp_ok (by first | assumption | exact Rz.mono hu (by decide)) (by first | assumption | exact Rz.mono (Rz.add hr hr) (by decide))) rfl) ?_
      refine dq_r (sem_cmp rfl rfl rfl rfl) ?_
      refine dq_r (sem_pick rfl rfl rfl rfl) ?_
      refine dq_end ?_
      refine dl_start0 ?_
      refine dl_end ?_
      refine dw_cond rfl (fun hc3 => ?_) (fun hc3 => ?_)
      · exact absurd hd (by rw [show strB u r = false from by unfold strB; rw [hb1, hb2, hc3]; rfl]; decide)
      · have h0 := str_ne hb1
        refine dw_skip ?_
        refine dw_seq ?_
        -- region 3
        refine dw_region (by kernel_rfl) ?_
        refine dl_r (sem_load (us := cR u) ty28 rfl rfl rfl rfl rfl) ?_
        refine dl_r (sem_load (us := cR r) ty28 rfl rfl rfl rfl rfl) ?_
        refine dl_r (sem_call rfl rfl (pDiv_ok (by first | assumption | exact Rz.mono hu (by decide)) (by first | assumption | exact Rz.mono hr (by decide)) h0) rfl) ?_
        refine dl_r (sem_move rfl rfl) ?_
        refine dl_r (sem_extract rfl rfl rfl) ?_
        refine dl_r (sem_extract rfl rfl rfl) ?_
        refine dl_new (sem_alloc zc28 rfl) rfl ?_
        refine dl_st (sem_store_a ty28 rfl rfl rfl rfl rfl rfl) ?_
        refine dl_r (sem_assign rfl rfl) ?_
        refine dl_end ?_
        refine dw_seq ?_
        refine dw_seq ?_
        -- region 4
        refine dw_region (by kernel_rfl) ?_
        refine dl_r (sem_move rfl rfl) ?_
        refine dl_r (sem_cmp rfl rfl rfl rfl) ?_
        refine dl_end ?_
        refine dw_false rfl ?_
        refine dw_skip ?_
        refine dw_seq ?_
        -- region 6
        refine dw_draw 3 [] follows_mixed (by kernel_rfl) rfl rfl ?_
        refine dq_r (sem_call rfl rfl (pFrom_ok (by omega) (by omega)) rfl) ?_
        refine dq_r (sem_load (us := cR (u / r)) ty28 rfl rfl rfl rfl rfl) ?_
        refine dq_r (sem_call rfl rfl (eSub_ok (by first | assumption | exact Rz.mono (Rz.int (Sz.small (k := 3) (by decide) (by decide) (by decide)) (by decide)) (by decide)) (by first | assumption | exact Rz.mono (Rz.div hu hr (by assumption)) (by decide))) rfl) ?_
        refine dq_end ?_
        refine dl_start0 ?_
        refine dl_st (sem_store_a ty28 rfl rfl rfl rfl rfl rfl) ?_
        refine dl_r (sem_assign rfl rfl) ?_
        refine dl_end ?_
        refine dw_ret ?_
        -- path ffF
        exact ⟨.inr rfl, (resL_cell (us := cR ((((1 : Int) : Rat)) - (u / r))) ty28 rfl rfl rfl rfl (resL_tmp rfl resL_nil))⟩
    · exact absurd hd (by rw [show strB u r = false from by unfold strB; rw [hb1, hb2]; rfl]; decide)
  · exact absurd hd (by rw [show strB u r = false from by unfold strB; rw [hb1]; rfl]; decide)
theorem eWid_no {u r : Rat} (hu : Rz 100 u) (_hr : Rz 20 r) (hd : widB r u = false) : Ok Tryz.prog 17 [dR r, dR u] [.a (([.b false] ++ [cM ([])]) ++ ([.b false] ++ [cM ([])])), .c (.i .i64 1)] := by
  refine Ok.of (by kernel_rfl) Tryz.func17 rfl rfl ?_
  rw [show Tryz.f17.ntmps = 20 from rfl, show Tryz.f17.results.toList = [.cell 4 28, .tmp 5] from rfl]
  refine dw_seq ?_
  -- region 0
  refine dw_region (by kernel_rfl) ?_
  refine dl_new (sem_box_a rfl rfl) rfl ?_
  refine dl_new (sem_box_a rfl rfl) rfl ?_
  refine dl_new (sem_alloc zc28 rfl) rfl ?_
  refine dl_r (sem_assign rfl rfl) ?_
  refine dl_end ?_
  refine dw_seq ?_
  refine dw_seq ?_
  -- region 1
  refine dw_region (by kernel_rfl) ?_
  refine dl_r (sem_load (us := cR r) ty28 rfl rfl rfl rfl rfl) ?_
  refine dl_r (sem_call rfl rfl (pSign_ok) rfl) ?_
  refine dl_r (sem_cmp rfl rfl rfl rfl) ?_
  refine dl_rb (sem_move rfl rfl) (fun c1 hb1 => ?_)
  cases c1
  · refine dl_r (sem_load (us := cR u) ty28 rfl rfl rfl rfl rfl) ?_
    refine dl_r (sem_call rfl rfl (eCos_ok (by first | assumption | exact Rz.mono hu (by decide))) rfl) ?_
    refine dl_r (sem_not rfl rfl) ?_
    refine dl_r (sem_pick rfl rfl rfl rfl) ?_
    refine dl_end ?_
    refine dw_cond rfl (fun hc2 => ?_) (fun hc2 => ?_)
    · refine dw_seq ?_
      -- region 2
      refine dw_region (by kernel_rfl) ?_
      refine dl_r (sem_build (us := (([.b false] ++ [.s 0 []]) ++ ([.b false] ++ [.s 0 []]))) fs28 zc28 rfl rfl rfl) ?_
      refine dl_st (sem_store_a ty28 rfl rfl rfl rfl rfl rfl) ?_
      refine dl_r (sem_assign rfl rfl) ?_
      refine dl_end ?_
      refine dw_ret ?_
      -- path fT
      exact ⟨.inr rfl, (resL_cell (us := (([.b false] ++ [.s 0 []]) ++ ([.b false] ++ [.s 0 []]))) ty28 rfl rfl rfl rfl (resL_tmp rfl resL_nil))⟩
    · exact absurd hd (by rw [show widB r u = true from by unfold widB; rw [hb1, hc2]; rfl]; decide)
  · refine dl_skip (sem_skip rfl) ?_
    refine dl_skip (sem_skip rfl) ?_
    refine dl_skip (sem_skip rfl) ?_
    refine dl_r (sem_pick rfl rfl rfl rfl) ?_
    refine dl_end ?_
    refine dw_true rfl ?_
    refine dw_seq ?_
    -- region 2
    refine dw_region (by kernel_rfl) ?_
    refine dl_r (sem_build (us := (([.b false] ++ [.s 0 []]) ++ ([.b false] ++ [.s 0 []]))) fs28 zc28 rfl rfl rfl) ?_
    refine dl_st (sem_store_a ty28 rfl rfl rfl rfl rfl rfl) ?_
    refine dl_r (sem_assign rfl rfl) ?_
    refine dl_end ?_
    refine dw_ret ?_
    -- path t
    exact ⟨.inr rfl, (resL_cell (us := (([.b false] ++ [.s 0 []]) ++ ([.b false] ++ [.s 0 []]))) ty28 rfl rfl rfl rfl (resL_tmp rfl resL_nil))⟩
theorem eWid_yes {u r : Rat} (hu : Rz 100 u) (hr : Rz 20 r) (hd : widB r u = true) : Ok Tryz.prog 17 [dR r, dR u] [dR (r * (((1 : Int) : Rat) - u)), .c (.i .i64 0)] := by
  refine Ok.of (by kernel_rfl) Tryz.func17 rfl rfl ?_
  rw [show Tryz.f17.ntmps = 20 from rfl, show Tryz.f17.results.toList = [.cell 4 28, .tmp 5] from rfl]
  refine dw_seq ?_
  -- region 0
  refine dw_region (by kernel_rfl) ?_
  refine dl_new (sem_box_a rfl rfl) rfl ?_
  refine dl_new (sem_box_a rfl rfl) rfl ?_
  refine dl_new (sem_alloc zc28 rfl) rfl ?_
  refine dl_r (sem_assign rfl rfl) ?_
  refine dl_end ?_
  refine dw_seq ?_
  refine dw_seq ?_
  -- region 1
  refine dw_region (by kernel_rfl) ?_
  refine dl_r (sem_load (us := cR r) ty28 rfl rfl rfl rfl rfl) ?_
  refine dl_r (sem_call rfl rfl (pSign_ok) rfl) ?_
  refine dl_r (sem_cmp rfl rfl rfl rfl) ?_
  refine dl_rb (sem_move rfl rfl) (fun c1 hb1 => ?_)
  cases c1
  · refine dl_r (sem_load (us := cR u) ty28 rfl rfl rfl rfl rfl) ?_
    refine dl_r (sem_call rfl rfl (eCos_ok (by first | assumption | exact Rz.mono hu (by decide))) rfl) ?_
    refine dl_r (sem_not rfl rfl) ?_
    refine dl_r (sem_pick rfl rfl rfl rfl) ?_
    refine dl_end ?_
    refine dw_cond rfl (fun hc2 => ?_) (fun hc2 => ?_)
    · exact absurd hd (by rw [show widB r u = false from by unfold widB; rw [hb1, hc2]; rfl]; decide)
    · refine dw_skip ?_
      refine dw_seq ?_
      -- region 3
      refine dw_draw 5 [] follows_mixed (by kernel_rfl) rfl rfl ?_
      refine dq_r (sem_load (us := cR r) ty28 rfl rfl rfl rfl rfl) ?_
      refine dq_r (sem_call rfl rfl (pFrom_ok (by omega) (by omega)) rfl) ?_
      refine dq_r (sem_load (us := cR u) ty28 rfl rfl rfl rfl rfl) ?_
      refine dq_r (sem_call rfl rfl (eSub_ok (by first | assumption | exact Rz.mono (Rz.int (Sz.small (k := 3) (by decide) (by decide) (by decide)) (by decide)) (by decide)) (by first | assumption | exact Rz.mono hu (by decide))) rfl) ?_
      refine dq_r (sem_call rfl rfl (eMul_ok (by first | assumption | exact Rz.mono hr (by decide)) (by first | assumption | exact Rz.mono (Rz.sub (Rz.int (Sz.small (k := 3) (by decide) (by decide) (by decide)) (by decide)) hu) (by decide))) rfl) ?_
      refine dq_end ?_
      refine dl_start0 ?_
      refine dl_st (sem_store_a ty28 rfl rfl rfl rfl rfl rfl) ?_
      refine dl_r (sem_assign rfl rfl) ?_
      refine dl_end ?_
      refine dw_ret ?_
      -- path fF
      exact ⟨.inr rfl, (resL_cell (us := cR (r * ((((1 : Int) : Rat)) - u))) ty28 rfl rfl rfl rfl (resL_tmp rfl resL_nil))⟩
  · exact absurd hd (by rw [show widB r u = false from by unfold widB; rw [hb1]; rfl]; decide)
theorem eStep_no {a t : Int} {c : Rat} (hc : Rz 20 c) (hd : stpB a t c = false) : Ok Tryz.prog 12 [.c (.i .i64 a), .c (.i .i64 t), dR c] [.c (.i .i64 0), .c (.i .i64 1)] := by
  refine Ok.of (by kernel_rfl) Tryz.func12 rfl rfl ?_
  rw [show Tryz.f12.ntmps = 33 from rfl, show Tryz.f12.results.toList = [.tmp 6, .tmp 7] from rfl]
  refine dw_seq ?_
  -- region 0
  refine dw_region (by kernel_rfl) ?_
  refine dl_new (sem_box_c rfl rfl) rfl ?_
  refine dl_new (sem_box_c rfl rfl) rfl ?_
  refine dl_new (sem_box_a rfl rfl) rfl ?_
  refine dl_r (sem_assign rfl rfl) ?_
  refine dl_r (sem_assign rfl rfl) ?_
  refine dl_end ?_
  refine dw_seq ?_
  refine dw_seq ?_
  -- region 1
  refine dw_region (by kernel_rfl) ?_
  refine dl_r (sem_load1 ty2 rfl rfl rfl rfl) ?_
  refine dl_r (sem_cmp rfl rfl rfl rfl) ?_
  refine dl_rb (sem_move rfl rfl) (fun c1 hb1 => ?_)
  cases c1
  · refine dl_r (sem_load1 ty2 rfl rfl rfl rfl) ?_
    refine dl_r (sem_cmp rfl rfl rfl rfl) ?_
    refine dl_r (sem_pick rfl rfl rfl rfl) ?_
    refine dl_rb (sem_move rfl rfl) (fun c2 hb2 => ?_)
    cases c2
    · refine dl_r (sem_load1 ty2 rfl rfl rfl rfl) ?_
      refine dl_r (sem_cmp rfl rfl rfl rfl) ?_
      refine dl_r (sem_pick rfl rfl rfl rfl) ?_
      refine dl_rb (sem_move rfl rfl) (fun c3 hb3 => ?_)
      cases c3
      · refine dl_r (sem_load1 ty2 rfl rfl rfl rfl) ?_
        refine dl_r (sem_cmp rfl rfl rfl rfl) ?_
        refine dl_r (sem_pick rfl rfl rfl rfl) ?_
        refine dl_rb (sem_move rfl rfl) (fun c4 hb4 => ?_)
        cases c4
        · refine dl_r (sem_load (us := cR c) ty28 rfl rfl rfl rfl rfl) ?_
          refine dl_r (sem_call rfl rfl (eCos_ok (by first | assumption | exact Rz.mono hc (by decide))) rfl) ?_
          refine dl_r (sem_not rfl rfl) ?_
          refine dl_r (sem_pick rfl rfl rfl rfl) ?_
          refine dl_end ?_
          refine dw_cond rfl (fun hc5 => ?_) (fun hc5 => ?_)
          · refine dw_seq ?_
            -- region 2
            refine dw_region (by kernel_rfl) ?_
            refine dl_r (sem_assign rfl rfl) ?_
            refine dl_r (sem_assign rfl rfl) ?_
            refine dl_end ?_
            refine dw_ret ?_
            -- path ffffT
            exact ⟨.inr rfl, (resL_tmp rfl (resL_tmp rfl resL_nil))⟩
          · exact absurd hd (by rw [show stpB a t c = true from by unfold stpB; rw [hb1, hb2, hb3, hb4, hc5]; rfl]; decide)
        · refine dl_skip (sem_skip rfl) ?_
          refine dl_skip (sem_skip rfl) ?_
          refine dl_skip (sem_skip rfl) ?_
          refine dl_r (sem_pick rfl rfl rfl rfl) ?_
          refine dl_end ?_
          refine dw_true rfl ?_
          refine dw_seq ?_
          -- region 2
          refine dw_region (by kernel_rfl) ?_
          refine dl_r (sem_assign rfl rfl) ?_
          refine dl_r (sem_assign rfl rfl) ?_
          refine dl_end ?_
          refine dw_ret ?_
          -- path ffft
          exact ⟨.inr rfl, (resL_tmp rfl (resL_tmp rfl resL_nil))⟩
      · refine dl_skip (sem_skip rfl) ?_
        refine dl_skip (sem_skip rfl) ?_
        refine dl_r (sem_pick rfl rfl rfl rfl) ?_
        refine dl_r (sem_move rfl rfl) ?_
        refine dl_skip (sem_skip rfl) ?_
        refine dl_skip (sem_skip rfl) ?_
        refine dl_skip (sem_skip rfl) ?_
        refine dl_r (sem_pick rfl rfl rfl rfl) ?_
        refine dl_end ?_
        refine dw_true rfl ?_
        refine dw_seq ?_
        -- region 2
        refine dw_region (by kernel_rfl) ?_
        refine dl_r (sem_assign rfl rfl) ?_
        refine dl_r (sem_assign rfl rfl) ?_
        refine dl_end ?_
        refine dw_ret ?_
        -- path fft
        exact ⟨.inr rfl, (resL_tmp rfl (resL_tmp rfl resL_nil))⟩
    · refine dl_skip (sem_skip rfl) ?_
      refine dl_skip (sem_skip rfl) ?_
      refine dl_r (sem_pick rfl rfl rfl rfl) ?_
      refine dl_r (sem_move rfl rfl) ?_
      refine dl_skip (sem_skip rfl) ?_
      refine dl_skip (sem_skip rfl) ?_
      refine dl_r (sem_pick rfl rfl rfl rfl) ?_
      refine dl_r (sem_move rfl rfl) ?_
      refine dl_skip (sem_skip rfl) ?_
      refine dl_skip (sem_skip rfl) ?_
      refine dl_skip (sem_skip rfl) ?_
      refine dl_r (sem_pick rfl rfl rfl rfl) ?_
      refine dl_end ?_
      refine dw_true rfl ?_
      refine dw_seq ?_
      -- region 2
      refine dw_region (by kernel_rfl) ?_
      refine dl_r (sem_assign rfl rfl) ?_
      refine dl_r (sem_assign rfl rfl) ?_
      refine dl_end ?_
      refine dw_ret ?_
      -- path ft
      exact ⟨.inr rfl, (resL_tmp rfl (resL_tmp rfl resL_nil))⟩
  · refine dl_skip (sem_skip rfl) ?_
    refine dl_skip (sem_skip rfl) ?_
    refine dl_r (sem_pick rfl rfl rfl rfl) ?_
    refine dl_r (sem_move rfl rfl) ?_
    refine dl_skip (sem_skip rfl) ?_
    refine dl_skip (sem_skip rfl) ?_
    refine dl_r (sem_pick rfl rfl rfl rfl) ?_
    refine dl_r (sem_move rfl rfl) ?_
    refine dl_skip (sem_skip rfl) ?_
    refine dl_skip (sem_skip rfl) ?_
    refine dl_r (sem_pick rfl rfl rfl rfl) ?_
    refine dl_r (sem_move rfl rfl) ?_
    refine dl_skip (sem_skip rfl) ?_
    refine dl_skip (sem_skip rfl) ?_
    refine dl_skip (sem_skip rfl) ?_
    refine dl_r (sem_pick rfl rfl rfl rfl) ?_
    refine dl_end ?_
    refine dw_true rfl ?_
    refine dw_seq ?_
    -- region 2
    refine dw_region (by kernel_rfl) ?_
    refine dl_r (sem_assign rfl rfl) ?_
    refine dl_r (sem_assign rfl rfl) ?_
    refine dl_end ?_
    refine dw_ret ?_
    -- path t
    exact ⟨.inr rfl, (resL_tmp rfl (resL_tmp rfl resL_nil))⟩
theorem sOver_ok {x y : Rat} (hx : Rz 300 x) (hy : Rz 300 y) (h0 : y ≠ 0) : Ok Tryz.prog 49 [dR x, dR y] [dR (x / y)] := by
  refine Ok.of (by kernel_rfl) Tryz.func49 rfl rfl ?_
  rw [show Tryz.f49.ntmps = 14 from rfl, show Tryz.f49.results.toList = [.cell 4 28] from rfl]
  refine dw_seq ?_
  -- region 0
  refine dw_region (by kernel_rfl) ?_
  refine dl_new (sem_box_a rfl rfl) rfl ?_
  refine dl_new (sem_box_a rfl rfl) rfl ?_
  refine dl_new (sem_alloc zc28 rfl) rfl ?_
  refine dl_end ?_
  refine dw_seq ?_
  -- region 1
  refine dw_region (by kernel_rfl) ?_
  refine dl_r (sem_load (us := cR x) ty28 rfl rfl rfl rfl rfl) ?_
  refine dl_r (sem_load (us := cR y) ty28 rfl rfl rfl rfl rfl) ?_
  refine dl_r (sem_call rfl rfl (sDiv_ok (by first | assumption | exact Rz.mono hx (by decide)) (by first | assumption | exact Rz.mono hy (by decide)) h0) rfl) ?_
  refine dl_r (sem_move rfl rfl) ?_
  refine dl_r (sem_extract rfl rfl rfl) ?_
  refine dl_r (sem_extract rfl rfl rfl) ?_
  refine dl_new (sem_alloc zc28 rfl) rfl ?_
  refine dl_st (sem_store_a ty28 rfl rfl rfl rfl rfl rfl) ?_
  refine dl_r (sem_assign rfl rfl) ?_
  refine dl_end ?_
  refine dw_seq ?_
  -- region 2
  refine dw_region (by kernel_rfl) ?_
  refine dl_r (sem_load (us := cR (x / y)) ty28 rfl rfl rfl rfl rfl) ?_
  refine dl_st (sem_store_a ty28 rfl rfl rfl rfl rfl rfl) ?_
  refine dl_end ?_
  refine dw_ret ?_
  -- path 
  exact ⟨.inr rfl, (resL_cell (us := cR (x / y)) ty28 rfl rfl rfl rfl resL_nil)⟩
theorem sSquare_ok {x : Rat} (hx : Rz 300 x) : Ok Tryz.prog 79 [dR x] [dR (x * x)] := by
  refine Ok.of (by kernel_rfl) Tryz.func79 rfl rfl ?_
  rw [show Tryz.f79.ntmps = 6 from rfl, show Tryz.f79.results.toList = [.cell 2 28] from rfl]
  refine dw_seq ?_
  -- region 0
  refine dw_region (by kernel_rfl) ?_
  refine dl_new (sem_box_a rfl rfl) rfl ?_
  refine dl_new (sem_alloc zc28 rfl) rfl ?_
  refine dl_end ?_
  refine dw_seq ?_
  -- region 1
  refine dw_region (by kernel_rfl) ?_
  refine dl_r (sem_load (us := cR x) ty28 rfl rfl rfl rfl rfl) ?_
  refine dl_r (sem_load (us := cR x) ty28 rfl rfl rfl rfl rfl) ?_
  refine dl_r (sem_call rfl rfl (sMul_ok (by first | assumption | exact Rz.mono hx (by decide)) (by first | assumption | exact Rz.mono hx (by decide))) rfl) ?_
  refine dl_st (sem_store_a ty28 rfl rfl rfl rfl rfl rfl) ?_
  refine dl_end ?_
  refine dw_ret ?_
  -- path 
  exact ⟨.inr rfl, (resL_cell (us := cR (x * x)) ty28 rfl rfl rfl rfl resL_nil)⟩
theorem rWhole32_ok {n : Int} (h0 : -9223372036854775808 ≤ n) (h1 : n ≤ 9223372036854775807) : Ok Tryz.prog 36 [.c (.i .i64 n)] [dR (n : Rat)] := by
  refine Ok.of (by kernel_rfl) Tryz.func36 rfl rfl ?_
  rw [show Tryz.f36.ntmps = 5 from rfl, show Tryz.f36.results.toList = [.cell 2 28] from rfl]
  refine dw_seq ?_
  -- region 0
  refine dw_region (by kernel_rfl) ?_
  refine dl_new (sem_alloc zc28 rfl) rfl ?_
  refine dl_end ?_
  refine dw_seq ?_
  -- region 1
  refine dw_region (by kernel_rfl) ?_
  refine dl_r (sem_move rfl rfl) ?_
  refine dl_r (sem_call rfl rfl (sFrom_ok (by omega) (by omega)) rfl) ?_
  refine dl_st (sem_store_a ty28 rfl rfl rfl rfl rfl rfl) ?_
  refine dl_end ?_
  refine dw_ret ?_
  -- path 
  exact ⟨.inr rfl, (resL_cell (us := cR (((n : Int) : Rat))) ty28 rfl rfl rfl rfl resL_nil)⟩
theorem rCos32_ok {x : Rat} (hx : Rz 300 x) : Ok Tryz.prog 42 [dR x] [.c (.b (cosB x))] := by
  refine Ok.of (by kernel_rfl) Tryz.func42 rfl rfl ?_
  rw [show Tryz.f42.ntmps = 13 from rfl, show Tryz.f42.results.toList = [.tmp 2] from rfl]
  refine dw_seq ?_
  -- region 0
  refine dw_region (by kernel_rfl) ?_
  refine dl_new (sem_box_a rfl rfl) rfl ?_
  refine dl_r (sem_assign rfl rfl) ?_
  refine dl_end ?_
  refine dw_seq ?_
  -- region 1
  refine dw_draw 11 [] follows_mixed (by kernel_rfl) rfl rfl ?_
  refine dq_r (sem_load (us := cR x) ty28 rfl rfl rfl rfl rfl) ?_
  refine dq_r (sem_call rfl rfl (rWhole32_ok (by omega) (by omega)) rfl) ?_
  refine dq_r (sem_call rfl rfl (sCmp_ok (by first | assumption | exact Rz.mono hx (by decide)) (by first | assumption | exact Rz.mono (Rz.int (Sz.small (k := 3) (by decide) (by decide) (by decide)) (by decide)) (by decide))) rfl) ?_
  refine dq_r (sem_cmp rfl rfl rfl rfl) ?_
  refine dq_rb (sem_move rfl rfl) (fun c1 hb1 => ?_)
  cases c1
  · refine dq_skip (sem_skip rfl) ?_
    refine dq_skip (sem_skip rfl) ?_
    refine dq_skip (sem_skip rfl) ?_
    refine dq_skip (sem_skip rfl) ?_
    refine dq_r (sem_pick rfl rfl rfl rfl) ?_
    refine dq_r (sem_assign rfl rfl) ?_
    refine dq_end ?_
    refine dl_start0 ?_
    refine dl_end ?_
    refine dw_ret ?_
    -- path f
    rw [cosB_f hb1]
    exact ⟨.inr rfl, (resL_tmp rfl resL_nil)⟩
  · refine dq_r (sem_load (us := cR x) ty28 rfl rfl rfl rfl rfl) ?_
    refine dq_r (sem_call rfl rfl (rWhole32_ok (by omega) (by omega)) rfl) ?_
    refine dq_r (sem_call rfl rfl (sCmp_ok (by first | assumption | exact Rz.mono hx (by decide)) (by first | assumption | exact Rz.mono (Rz.int (Sz.neg (Sz.small (k := 3) (by decide) (by decide) (by decide))) (by decide)) (by decide))) rfl) ?_
    refine dq_r (sem_cmp rfl rfl rfl rfl) ?_
    refine dq_r (sem_pick rfl rfl rfl rfl) ?_
    refine dq_r (sem_assign rfl rfl) ?_
    refine dq_end ?_
    refine dl_start0 ?_
    refine dl_end ?_
    refine dw_ret ?_
    -- path t
    rw [cosB_t3 hb1]
    exact ⟨.inr rfl, (resL_tmp rfl resL_nil)⟩
theorem rHalf32_ok {R r e : Rat} (hR : Rz 20 R) (hr : Rz 20 r) (he : Rz 20 e) (h0 : ((2 : Int) : Rat) * (e * r) ≠ 0) : Ok Tryz.prog 34 [dR R, dR r, dR e] [dR (hfQ R r e)] := by
  refine Ok.of (by kernel_rfl) Tryz.func34 rfl rfl ?_
  rw [show Tryz.f34.ntmps = 23 from rfl, show Tryz.f34.results.toList = [.cell 6 28] from rfl]
  refine dw_seq ?_
  -- region 0
  refine dw_region (by kernel_rfl) ?_
  refine dl_new (sem_box_a rfl rfl) rfl ?_
  refine dl_new (sem_box_a rfl rfl) rfl ?_
  refine dl_new (sem_box_a rfl rfl) rfl ?_
  refine dl_new (sem_alloc zc28 rfl) rfl ?_
  refine dl_end ?_
  refine dw_seq ?_
  -- region 1
  refine dw_draw 9 [] follows_mixed (by kernel_rfl) rfl rfl ?_
  refine dq_r (sem_load (us := cR R) ty28 rfl rfl rfl rfl rfl) ?_
  refine dq_r (sem_call rfl rfl (sSquare_ok (by first | assumption | exact Rz.mono hR (by decide))) rfl) ?_
  refine dq_r (sem_load (us := cR e) ty28 rfl rfl rfl rfl rfl) ?_
  refine dq_r (sem_call rfl rfl (sSquare_ok (by first | assumption | exact Rz.mono he (by decide))) rfl) ?_
  refine dq_r (sem_load (us := cR r) ty28 rfl rfl rfl rfl rfl) ?_
  refine dq_r (sem_call rfl rfl (sSquare_ok (by first | assumption | exact Rz.mono hr (by decide))) rfl) ?_
  refine dq_r (sem_call rfl rfl (sAdd_ok (by first | assumption | exact Rz.mono (Rz.mul he he) (by decide)) (by first | assumption | exact Rz.mono (Rz.mul hr hr) (by decide))) rfl) ?_
  refine dq_r (sem_call rfl rfl (sSub_ok (by first | assumption | exact Rz.mono (Rz.mul hR hR) (by decide)) (by first | assumption | exact Rz.mono (Rz.add (Rz.mul he he) (Rz.mul hr hr)) (by decide))) rfl) ?_
  refine dq_new (sem_alloc zc28 rfl) rfl ?_
  refine dq_end ?_
  refine dl_start1 ?_
  refine dl_st (sem_store_a ty28 rfl rfl rfl rfl rfl rfl) ?_
  refine dl_end ?_
  refine dw_seq ?_
  -- region 2
  refine dw_draw 7 [] follows_mixed (by kernel_rfl) rfl rfl ?_
  refine dq_r (sem_load (us := cR ((R * R) - ((e * e) + (r * r)))) ty28 rfl rfl rfl rfl rfl) ?_
  refine dq_r (sem_call rfl rfl (rWhole32_ok (by omega) (by omega)) rfl) ?_
  refine dq_r (sem_load (us := cR e) ty28 rfl rfl rfl rfl rfl) ?_
  refine dq_r (sem_load (us := cR r) ty28 rfl rfl rfl rfl rfl) ?_
  refine dq_r (sem_call rfl rfl (sMul_ok (by first | assumption | exact Rz.mono he (by decide)) (by first | assumption | exact Rz.mono hr (by decide))) rfl) ?_
  refine dq_r (sem_call rfl rfl (sMul_ok (by first | assumption | exact Rz.mono (Rz.int (Sz.small (k := 3) (by decide) (by decide) (by decide)) (by decide)) (by decide)) (by first | assumption | exact Rz.mono (Rz.mul he hr) (by decide))) rfl) ?_
  refine dq_r (sem_call rfl rfl (sOver_ok (by first | assumption | exact Rz.mono (Rz.sub (Rz.mul hR hR) (Rz.add (Rz.mul he he) (Rz.mul hr hr))) (by decide)) (by first | assumption | exact Rz.mono (Rz.mul (Rz.int (Sz.small (k := 3) (by decide) (by decide) (by decide)) (by decide)) (Rz.mul he hr)) (by decide)) (by assumption)) rfl) ?_
  refine dq_end ?_
  refine dl_start0 ?_
  refine dl_st (sem_store_a ty28 rfl rfl rfl rfl rfl rfl) ?_
  refine dl_end ?_
  refine dw_ret ?_
  -- path 
  rw [hfQ_ref R r e]
  exact ⟨.inr rfl, (resL_cell (us := cR (((R * R) - ((e * e) + (r * r))) / ((((2 : Int) : Rat)) * (e * r)))) ty28 rfl rfl rfl rfl resL_nil)⟩
theorem rDisc_no {R r e : Rat} (hR : Rz 20 R) (hr : Rz 20 r) (he : Rz 20 e) (hd : dscB R r e = false) : Ok Tryz.prog 9 [dR R, dR r, dR e] [.a (([.b false] ++ [cM ([])]) ++ ([.b false] ++ [cM ([])])), .c (.b false)] := by
  refine Ok.of (by kernel_rfl) Tryz.func9 rfl rfl ?_
  rw [show Tryz.f9.ntmps = 39 from rfl, show Tryz.f9.results.toList = [.cell 6 28, .tmp 7] from rfl]
  refine dw_seq ?_
  -- region 0
  refine dw_region (by kernel_rfl) ?_
  refine dl_new (sem_box_a rfl rfl) rfl ?_
  refine dl_new (sem_box_a rfl rfl) rfl ?_
  refine dl_new (sem_box_a rfl rfl) rfl ?_
  refine dl_new (sem_alloc zc28 rfl) rfl ?_
  refine dl_r (sem_assign rfl rfl) ?_
  refine dl_end ?_
  refine dw_seq ?_
  refine dw_seq ?_
  -- region 1
  refine dw_region (by kernel_rfl) ?_
  refine dl_r (sem_load (us := cR R) ty28 rfl rfl rfl rfl rfl) ?_
  refine dl_r (sem_call rfl rfl (sSign_ok) rfl) ?_
  refine dl_r (sem_cmp rfl rfl rfl rfl) ?_
  refine dl_rb (sem_move rfl rfl) (fun c1 hb1 => ?_)
  cases c1
  · refine dl_r (sem_load (us := cR r) ty28 rfl rfl rfl rfl rfl) ?_
    refine dl_r (sem_call rfl rfl (sSign_ok) rfl) ?_
    refine dl_r (sem_cmp rfl rfl rfl rfl) ?_
    refine dl_r (sem_pick rfl rfl rfl rfl) ?_
    refine dl_rb (sem_move rfl rfl) (fun c2 hb2 => ?_)
    cases c2
    · refine dl_r (sem_load (us := cR e) ty28 rfl rfl rfl rfl rfl) ?_
      refine dl_r (sem_call rfl rfl (sSign_ok) rfl) ?_
      refine dl_r (sem_cmp rfl rfl rfl rfl) ?_
      refine dl_r (sem_pick rfl rfl rfl rfl) ?_
      refine dl_end ?_
      refine dw_cond rfl (fun hc3 => ?_) (fun hc3 => ?_)
      · refine dw_seq ?_
        -- region 2
        refine dw_region (by kernel_rfl) ?_
        refine dl_r (sem_build (us := (([.b false] ++ [.s 0 []]) ++ ([.b false] ++ [.s 0 []]))) fs28 zc28 rfl rfl rfl) ?_
        refine dl_st (sem_store_a ty28 rfl rfl rfl rfl rfl rfl) ?_
        refine dl_r (sem_assign rfl rfl) ?_
        refine dl_end ?_
        refine dw_ret ?_
        -- path ffT
        exact ⟨.inr rfl, (resL_cell (us := (([.b false] ++ [.s 0 []]) ++ ([.b false] ++ [.s 0 []]))) ty28 rfl rfl rfl rfl (resL_tmp rfl resL_nil))⟩
      · have h0 := dsc_ne hb2 hc3
        have hz : Rz 200 (hfQ R r e) := hf_sz hR hr he h0
        refine dw_skip ?_
        refine dw_seq ?_
        -- region 3
        refine dw_region (by kernel_rfl) ?_
        refine dl_r (sem_load (us := cR R) ty28 rfl rfl rfl rfl rfl) ?_
        refine dl_r (sem_load (us := cR r) ty28 rfl rfl rfl rfl rfl) ?_
        refine dl_r (sem_load (us := cR e) ty28 rfl rfl rfl rfl rfl) ?_
        refine dl_r (sem_call rfl rfl (rHalf32_ok (by first | assumption | exact Rz.mono hR (by decide)) (by first | assumption | exact Rz.mono hr (by decide)) (by first | assumption | exact Rz.mono he (by decide)) h0) rfl) ?_
        refine dl_new (sem_alloc zc28 rfl) rfl ?_
        refine dl_st (sem_store_a ty28 rfl rfl rfl rfl rfl rfl) ?_
        refine dl_end ?_
        refine dw_seq ?_
        refine dw_seq ?_
        -- region 4
        refine dw_draw 10 [] follows_mixed (by kernel_rfl) rfl rfl ?_
        refine dq_r (sem_load (us := cR (hfQ R r e)) ty28 rfl rfl rfl rfl rfl) ?_
        refine dq_r (sem_call rfl rfl (rWhole32_ok (by omega) (by omega)) rfl) ?_
        refine dq_r (sem_call rfl rfl (sCmp_ok (by first | assumption | exact Rz.mono (by assumption) (by decide)) (by first | assumption | exact Rz.mono (Rz.int (Sz.small (k := 3) (by decide) (by decide) (by decide)) (by decide)) (by decide))) rfl) ?_
        refine dq_r (sem_cmp rfl rfl rfl rfl) ?_
        refine dq_rb (sem_move rfl rfl) (fun c4 hb4 => ?_)
        cases c4
        · refine dq_r (sem_load (us := cR (hfQ R r e)) ty28 rfl rfl rfl rfl rfl) ?_
          refine dq_r (sem_call rfl rfl (rWhole32_ok (by omega) (by omega)) rfl) ?_
          refine dq_r (sem_call rfl rfl (sCmp_ok (by first | assumption | exact Rz.mono (by assumption) (by decide)) (by first | assumption | exact Rz.mono (Rz.int (Sz.neg (Sz.small (k := 3) (by decide) (by decide) (by decide))) (by decide)) (by decide))) rfl) ?_
          refine dq_r (sem_cmp rfl rfl rfl rfl) ?_
          refine dq_r (sem_pick rfl rfl rfl rfl) ?_
          refine dq_end ?_
          refine dl_start0 ?_
          refine dl_end ?_
          refine dw_cond rfl (fun hc5 => ?_) (fun hc5 => ?_)
          · refine dw_seq ?_
            -- region 5
            refine dw_region (by kernel_rfl) ?_
            refine dl_r (sem_build (us := (([.b false] ++ [.s 0 []]) ++ ([.b false] ++ [.s 0 []]))) fs28 zc28 rfl rfl rfl) ?_
            refine dl_st (sem_store_a ty28 rfl rfl rfl rfl rfl rfl) ?_
            refine dl_r (sem_assign rfl rfl) ?_
            refine dl_end ?_
            refine dw_ret ?_
            -- path ffFfT
            exact ⟨.inr rfl, (resL_cell (us := (([.b false] ++ [.s 0 []]) ++ ([.b false] ++ [.s 0 []]))) ty28 rfl rfl rfl rfl (resL_tmp rfl resL_nil))⟩
          · exact absurd hd (by rw [show dscB R r e = true from by unfold dscB; rw [hb1, hb2, hc3, hb4, (dsc_m (R := R) (r := r) (e := e)).symm.trans hc5]; rfl]; decide)
        · refine dq_skip (sem_skip rfl) ?_
          refine dq_skip (sem_skip rfl) ?_
          refine dq_skip (sem_skip rfl) ?_
          refine dq_skip (sem_skip rfl) ?_
          refine dq_r (sem_pick rfl rfl rfl rfl) ?_
          refine dq_end ?_
          refine dl_start0 ?_
          refine dl_end ?_
          refine dw_true rfl ?_
          refine dw_seq ?_
          -- region 5
          refine dw_region (by kernel_rfl) ?_
          refine dl_r (sem_build (us := (([.b false] ++ [.s 0 []]) ++ ([.b false] ++ [.s 0 []]))) fs28 zc28 rfl rfl rfl) ?_
          refine dl_st (sem_store_a ty28 rfl rfl rfl rfl rfl rfl) ?_
          refine dl_r (sem_assign rfl rfl) ?_
          refine dl_end ?_
          refine dw_ret ?_
          -- path ffFt
          exact ⟨.inr rfl, (resL_cell (us := (([.b false] ++ [.s 0 []]) ++ ([.b false] ++ [.s 0 []]))) ty28 rfl rfl rfl rfl (resL_tmp rfl resL_nil))⟩
    · refine dl_skip (sem_skip rfl) ?_
      refine dl_skip (sem_skip rfl) ?_
      refine dl_skip (sem_skip rfl) ?_
      refine dl_r (sem_pick rfl rfl rfl rfl) ?_
      refine dl_end ?_
      refine dw_true rfl ?_
      refine dw_seq ?_
      -- region 2
      refine dw_region (by kernel_rfl) ?_
      refine dl_r (sem_build (us := (([.b false] ++ [.s 0 []]) ++ ([.b false] ++ [.s 0 []]))) fs28 zc28 rfl rfl rfl) ?_
      refine dl_st (sem_store_a ty28 rfl rfl rfl rfl rfl rfl) ?_
      refine dl_r (sem_assign rfl rfl) ?_
      refine dl_end ?_
      refine dw_ret ?_
      -- path ft
      exact ⟨.inr rfl, (resL_cell (us := (([.b false] ++ [.s 0 []]) ++ ([.b false] ++ [.s 0 []]))) ty28 rfl rfl rfl rfl (resL_tmp rfl resL_nil))⟩
  · refine dl_skip (sem_skip rfl) ?_
    refine dl_skip (sem_skip rfl) ?_
    refine dl_skip (sem_skip rfl) ?_
    refine dl_r (sem_pick rfl rfl rfl rfl) ?_
    refine dl_r (sem_move rfl rfl) ?_
    refine dl_skip (sem_skip rfl) ?_
    refine dl_skip (sem_skip rfl) ?_
    refine dl_skip (sem_skip rfl) ?_
    refine dl_r (sem_pick rfl rfl rfl rfl) ?_
    refine dl_end ?_
    refine dw_true rfl ?_
    refine dw_seq ?_
    -- region 2
    refine dw_region (by kernel_rfl) ?_
    refine dl_r (sem_build (us := (([.b false] ++ [.s 0 []]) ++ ([.b false] ++ [.s 0 []]))) fs28 zc28 rfl rfl rfl) ?_
    refine dl_st (sem_store_a ty28 rfl rfl rfl rfl rfl rfl) ?_
    refine dl_r (sem_assign rfl rfl) ?_
    refine dl_end ?_
    refine dw_ret ?_
    -- path t
    exact ⟨.inr rfl, (resL_cell (us := (([.b false] ++ [.s 0 []]) ++ ([.b false] ++ [.s 0 []]))) ty28 rfl rfl rfl rfl (resL_tmp rfl resL_nil))⟩
theorem rDisc_yes {R r e : Rat} (hR : Rz 20 R) (hr : Rz 20 r) (he : Rz 20 e) (hd : dscB R r e = true) : Ok Tryz.prog 9 [dR R, dR r, dR e] [dR (hfQ R r e), .c (.b true)] := by
  refine Ok.of (by kernel_rfl) Tryz.func9 rfl rfl ?_
  rw [show Tryz.f9.ntmps = 39 from rfl, show Tryz.f9.results.toList = [.cell 6 28, .tmp 7] from rfl]
  refine dw_seq ?_
  -- region 0
  refine dw_region (by kernel_rfl) ?_
  refine dl_new (sem_box_a rfl rfl) rfl ?_
  refine dl_new (sem_box_a rfl rfl) rfl ?_
  refine dl_new (sem_box_a rfl rfl) rfl ?_
  refine dl_new (sem_alloc zc28 rfl) rfl ?_
  refine dl_r (sem_assign rfl rfl) ?_
  refine dl_end ?_
  refine dw_seq ?_
  refine dw_seq ?_
  -- region 1
  refine dw_region (by kernel_rfl) ?_
  refine dl_r (sem_load (us := cR R) ty28 rfl rfl rfl rfl rfl) ?_
  refine dl_r (sem_call rfl rfl (sSign_ok) rfl) ?_
  refine dl_r (sem_cmp rfl rfl rfl rfl) ?_
  refine dl_rb (sem_move rfl rfl) (fun c1 hb1 => ?_)
  cases c1
  · refine dl_r (sem_load (us := cR r) ty28 rfl rfl rfl rfl rfl) ?_
    refine dl_r (sem_call rfl rfl (sSign_ok) rfl) ?_
    refine dl_r (sem_cmp rfl rfl rfl rfl) ?_
    refine dl_r (sem_pick rfl rfl rfl rfl) ?_
    refine dl_rb (sem_move rfl rfl) (fun c2 hb2 => ?_)
    cases c2
    · refine dl_r (sem_load (us := cR e) ty28 rfl rfl rfl rfl rfl) ?_
      refine dl_r (sem_call rfl rfl (sSign_ok) rfl) ?_
      refine dl_r (sem_cmp rfl rfl rfl rfl) ?_
      refine dl_r (sem_pick rfl rfl rfl rfl) ?_
      refine dl_end ?_
      refine dw_cond rfl (fun hc3 => ?_) (fun hc3 => ?_)
      · exact absurd hd (by rw [show dscB R r e = false from by unfold dscB; rw [hb1, hb2, hc3]; rfl]; decide)
      · have h0 := dsc_ne hb2 hc3
        have hz : Rz 200 (hfQ R r e) := hf_sz hR hr he h0
        refine dw_skip ?_
        refine dw_seq ?_
        -- region 3
        refine dw_region (by kernel_rfl) ?_
        refine dl_r (sem_load (us := cR R) ty28 rfl rfl rfl rfl rfl) ?_
        refine dl_r (sem_load (us := cR r) ty28 rfl rfl rfl rfl rfl) ?_
        refine dl_r (sem_load (us := cR e) ty28 rfl rfl rfl rfl rfl) ?_
        refine dl_r (sem_call rfl rfl (rHalf32_ok (by first | assumption | exact Rz.mono hR (by decide)) (by first | assumption | exact Rz.mono hr (by decide)) (by first | assumption | exact Rz.mono he (by decide)) h0) rfl) ?_
        refine dl_new (sem_alloc zc28 rfl) rfl ?_
        refine dl_st (sem_store_a ty28 rfl rfl rfl rfl rfl rfl) ?_
        refine dl_end ?_
        refine dw_seq ?_
        refine dw_seq ?_
        -- region 4
        refine dw_draw 10 [] follows_mixed (by kernel_rfl) rfl rfl ?_
        refine dq_r (sem_load (us := cR (hfQ R r e)) ty28 rfl rfl rfl rfl rfl) ?_
        refine dq_r (sem_call rfl rfl (rWhole32_ok (by omega) (by omega)) rfl) ?_
        refine dq_r (sem_call rfl rfl (sCmp_ok (by first | assumption | exact Rz.mono (by assumption) (by decide)) (by first | assumption | exact Rz.mono (Rz.int (Sz.small (k := 3) (by decide) (by decide) (by decide)) (by decide)) (by decide))) rfl) ?_
        refine dq_r (sem_cmp rfl rfl rfl rfl) ?_
        refine dq_rb (sem_move rfl rfl) (fun c4 hb4 => ?_)
        cases c4
        · refine dq_r (sem_load (us := cR (hfQ R r e)) ty28 rfl rfl rfl rfl rfl) ?_
          refine dq_r (sem_call rfl rfl (rWhole32_ok (by omega) (by omega)) rfl) ?_
          refine dq_r (sem_call rfl rfl (sCmp_ok (by first | assumption | exact Rz.mono (by assumption) (by decide)) (by first | assumption | exact Rz.mono (Rz.int (Sz.neg (Sz.small (k := 3) (by decide) (by decide) (by decide))) (by decide)) (by decide))) rfl) ?_
          refine dq_r (sem_cmp rfl rfl rfl rfl) ?_
          refine dq_r (sem_pick rfl rfl rfl rfl) ?_
          refine dq_end ?_
          refine dl_start0 ?_
          refine dl_end ?_
          refine dw_cond rfl (fun hc5 => ?_) (fun hc5 => ?_)
          · exact absurd hd (by rw [show dscB R r e = false from by unfold dscB; rw [hb1, hb2, hc3, hb4, (dsc_m (R := R) (r := r) (e := e)).symm.trans hc5]; rfl]; decide)
          · refine dw_skip ?_
            refine dw_seq ?_
            -- region 6
            refine dw_region (by kernel_rfl) ?_
            refine dl_r (sem_load (us := cR (hfQ R r e)) ty28 rfl rfl rfl rfl rfl) ?_
            refine dl_st (sem_store_a ty28 rfl rfl rfl rfl rfl rfl) ?_
            refine dl_r (sem_assign rfl rfl) ?_
            refine dl_end ?_
            refine dw_ret ?_
            -- path ffFfF
            exact ⟨.inr rfl, (resL_cell (us := cR (hfQ R r e)) ty28 rfl rfl rfl rfl (resL_tmp rfl resL_nil))⟩
        · exact absurd hd (by rw [show dscB R r e = false from by unfold dscB; rw [hb1, hb2, hc3, hb4]; rfl]; decide)
    · exact absurd hd (by rw [show dscB R r e = false from by unfold dscB; rw [hb1, hb2]; rfl]; decide)
  · exact absurd hd (by rw [show dscB R r e = false from by unfold dscB; rw [hb1]; rfl]; decide)
theorem rStr_no {u r : Rat} (hu : Rz 20 u) (hr : Rz 20 r) (hd : strB u r = false) : Ok Tryz.prog 16 [dR u, dR r] [.a (([.b false] ++ [cM ([])]) ++ ([.b false] ++ [cM ([])])), .c (.i .i64 1)] := by
  refine Ok.of (by kernel_rfl) Tryz.func16 rfl rfl ?_
  rw [show Tryz.f16.ntmps = 28 from rfl, show Tryz.f16.results.toList = [.cell 4 28, .tmp 5] from rfl]
  refine dw_seq ?_
  -- region 0
  refine dw_region (by kernel_rfl) ?_
  refine dl_new (sem_box_a rfl rfl) rfl ?_
  refine dl_new (sem_box_a rfl rfl) rfl ?_
  refine dl_new (sem_alloc zc28 rfl) rfl ?_
  refine dl_r (sem_assign rfl rfl) ?_
  refine dl_end ?_
  refine dw_seq ?_
  refine dw_seq ?_
  -- region 1
  refine dw_draw 16 [] follows_mixed (by kernel_rfl) rfl rfl ?_
  refine dq_r (sem_load (us := cR r) ty28 rfl rfl rfl rfl rfl) ?_
  refine dq_r (sem_call rfl rfl (sSign_ok) rfl) ?_
  refine dq_r (sem_cmp rfl rfl rfl rfl) ?_
  refine dq_rb (sem_move rfl rfl) (fun c1 hb1 => ?_)
  cases c1
  · refine dq_r (sem_load (us := cR u) ty28 rfl rfl rfl rfl rfl) ?_
    refine dq_r (sem_call rfl rfl (sSign_ok) rfl) ?_
    refine dq_r (sem_cmp rfl rfl rfl rfl) ?_
    refine dq_r (sem_pick rfl rfl rfl rfl) ?_
    refine dq_rb (sem_move rfl rfl) (fun c2 hb2 => ?_)
    cases c2
    · refine dq_r (sem_load (us := cR u) ty28 rfl rfl rfl rfl rfl) ?_
      refine dq_r (sem_load (us := cR r) ty28 rfl rfl rfl rfl rfl) ?_
      refine dq_r (sem_load (us := cR r) ty28 rfl rfl rfl rfl rfl) ?_
      refine dq_r (sem_call rfl rfl (sAdd_ok (by first | assumption | exact Rz.mono hr (by decide)) (by first | assumption | exact Rz.mono hr (by decide))) rfl) ?_
      refine dq_r (sem_call rfl rfl (sCmp_ok (by first | assumption | exact Rz.mono hu (by decide)) (by first | assumption | exact Rz.mono (Rz.add hr hr) (by decide))) rfl) ?_
      refine dq_r (sem_cmp rfl rfl rfl rfl) ?_
      refine dq_r (sem_pick rfl rfl rfl rfl) ?_
      refine dq_end ?_
      refine dl_start0 ?_
      refine dl_end ?_
      refine dw_cond rfl (fun hc3 => ?_) (fun hc3 => ?_)
      · refine dw_seq ?_
        -- region 2
        refine dw_region (by kernel_rfl) ?_
        refine dl_r (sem_build (us := (([.b false] ++ [.s 0 []]) ++ ([.b false] ++ [.s 0 []]))) fs28 zc28 rfl rfl rfl) ?_
        refine dl_st (sem_store_a ty28 rfl rfl rfl rfl rfl rfl) ?_
        refine dl_r (sem_assign rfl rfl) ?_
        refine dl_end ?_
        refine dw_ret ?_
        -- path ffT
        exact ⟨.inr rfl, (resL_cell (us := (([.b false] ++ [.s 0 []]) ++ ([.b false] ++ [.s 0 []]))) ty28 rfl rfl rfl rfl (resL_tmp rfl resL_nil))⟩
      · exact absurd hd (by rw [show strB u r = true from by unfold strB; rw [hb1, hb2, hc3]; rfl]; decide)
    · refine dq_skip (sem_skip rfl) ?_
      refine dq_skip (sem_skip rfl) ?_
      refine dq_skip (sem_skip rfl) ?_
      refine dq_skip (sem_skip rfl) ?_
      refine dq_skip (sem_skip rfl) ?_
      refine dq_skip (sem_skip rfl) ?_
      refine dq_r (sem_pick rfl rfl rfl rfl) ?_
      refine dq_end ?_
      refine dl_start0 ?_
      refine dl_end ?_
      refine dw_true rfl ?_
      refine dw_seq ?_
      -- region 2
      refine dw_region (by kernel_rfl) ?_
      refine dl_r (sem_build (us := (([.b false] ++ [.s 0 []]) ++ ([.b false] ++ [.s 0 []]))) fs28 zc28 rfl rfl rfl) ?_
      refine dl_st (sem_store_a ty28 rfl rfl rfl rfl rfl rfl) ?_
      refine dl_r (sem_assign rfl rfl) ?_
      refine dl_end ?_
      refine dw_ret ?_
      -- path ft
      exact ⟨.inr rfl, (resL_cell (us := (([.b false] ++ [.s 0 []]) ++ ([.b false] ++ [.s 0 []]))) ty28 rfl rfl rfl rfl (resL_tmp rfl resL_nil))⟩
  · refine dq_skip (sem_skip rfl) ?_
    refine dq_skip (sem_skip rfl) ?_
    refine dq_skip (sem_skip rfl) ?_
    refine dq_r (sem_pick rfl rfl rfl rfl) ?_
    refine dq_r (sem_move rfl rfl) ?_
    refine dq_skip (sem_skip rfl) ?_
    refine dq_skip (sem_skip rfl) ?_
    refine dq_skip (sem_skip rfl) ?_
    refine dq_skip (sem_skip rfl) ?_
    refine dq_skip (sem_skip rfl) ?_
    refine dq_skip (sem_skip rfl) ?_
    refine dq_r (sem_pick rfl rfl rfl rfl) ?_
    refine dq_end ?_
    refine dl_start0 ?_
    refine dl_end ?_
    refine dw_true rfl ?_
    refine dw_seq ?_
    -- region 2
    refine dw_region (by kernel_rfl) ?_
    refine dl_r (sem_build (us := (([.b false] ++ [.s 0 []]) ++ ([.b false] ++ [.s 0 []]))) fs28 zc28 rfl rfl rfl) ?_
    refine dl_st (sem_store_a ty28 rfl rfl rfl rfl rfl rfl) ?_
    refine dl_r (sem_assign rfl rfl) ?_
    refine dl_end ?_
    refine dw_ret ?_
    -- path t
    exact ⟨.inr rfl, (resL_cell (us := (([.b false] ++ [.s 0 []]) ++ ([.b false] ++ [.s 0 []]))) ty28 rfl rfl rfl rfl (resL_tmp rfl resL_nil))⟩
theorem rStr_yes {u r : Rat} (hu : Rz 20 u) (hr : Rz 20 r) (hd : strB u r = true) : Ok Tryz.prog 16 [dR u, dR r] [dR (((1 : Int) : Rat) - u / r), .c (.i .i64 0)] := by
  refine Ok.of (by kernel_rfl) Tryz.func16 rfl rfl ?_
  rw [show Tryz.f16.ntmps = 28 from rfl, show Tryz.f16.results.toList = [.cell 4 28, .tmp 5] from rfl]
  refine dw_seq ?_
  -- region 0
  refine dw_region (by kernel_rfl) ?_
  refine dl_new (sem_box_a rfl rfl) rfl ?_
  refine dl_new (sem_box_a rfl rfl) rfl ?_
  refine dl_new (sem_alloc zc28 rfl) rfl ?_
  refine dl_r (sem_assign rfl rfl) ?_
  refine dl_end ?_
  refine dw_seq ?_
  refine dw_seq ?_
  -- region 1
  refine dw_draw 16 [] follows_mixed (by kernel_rfl) rfl rfl ?_
  refine dq_r (sem_load (us := cR r) ty28 rfl rfl rfl rfl rfl) ?_
  refine dq_r (sem_call rfl rfl (sSign_ok) rfl) ?_
  refine dq_r (sem_cmp rfl rfl rfl rfl) ?_
  refine dq_rb (sem_move rfl rfl) (fun c1 hb1 => ?_)
  cases c1
  · refine dq_r (sem_load (us := cR u) ty28 rfl rfl rfl rfl rfl) ?_
    refine dq_r (sem_call rfl rfl (sSign_ok) rfl) ?_
    refine dq_r (sem_cmp rfl rfl rfl rfl) ?_
    refine dq_r (sem_pick rfl rfl rfl rfl) ?_
    refine dq_rb (sem_move rfl rfl) (fun c2 hb2 => ?_)
    cases c2
    · refine dq_r (sem_load (us := cR u) ty28 rfl rfl rfl rfl rfl) ?_
      refine dq_r (sem_load (us := cR r) ty28 rfl rfl rfl rfl rfl) ?_
      refine dq_r (sem_load (us := cR r) ty28 rfl rfl rfl rfl rfl) ?_
      refine dq_r (sem_call rfl rfl (sAdd_ok (by first | assumption | exact Rz.mono hr (by decide)) (by first | assumption | exact Rz.mono hr (by decide))) rfl) ?_
      refine dq_r (sem_call rfl rfl (sCmp_ok (by first | assumption | exact Rz.mono hu (by decide)) (by first | assumption | exact Rz.mono (Rz.add hr hr) (by decide))) rfl) ?_
      refine dq_r (sem_cmp rfl rfl rfl rfl) ?_
      refine dq_r (sem_pick rfl rfl rfl rfl) ?_
      refine dq_end ?_
      refine dl_start0 ?_
      refine dl_end ?_
      refine dw_cond rfl (fun hc3 => ?_) (fun hc3 => ?_)
      · exact absurd hd (by rw [show strB u r = false from by unfold strB; rw [hb1, hb2, hc3]; rfl]; decide)
      · have h0 := str_ne hb1
        refine dw_skip ?_
        refine dw_seq ?_
        -- region 3
        refine dw_draw 5 [] follows_mixed (by kernel_rfl) rfl rfl ?_
        refine dq_r (sem_call rfl rfl (rWhole32_ok (by omega) (by omega)) rfl) ?_
        refine dq_r (sem_load (us := cR u) ty28 rfl rfl rfl rfl rfl) ?_
        refine dq_r (sem_load (us := cR r) ty28 rfl rfl rfl rfl rfl) ?_
        refine dq_r (sem_call rfl rfl (sOver_ok (by first | assumption | exact Rz.mono hu (by decide)) (by first | assumption | exact Rz.mono hr (by decide)) (by assumption)) rfl) ?_
        refine dq_r (sem_call rfl rfl (sSub_ok (by first | assumption | exact Rz.mono (Rz.int (Sz.small (k := 3) (by decide) (by decide) (by decide)) (by decide)) (by decide)) (by first | assumption | exact Rz.mono (Rz.div hu hr (by assumption)) (by decide))) rfl) ?_
        refine dq_end ?_
        refine dl_start0 ?_
        refine dl_st (sem_store_a ty28 rfl rfl rfl rfl rfl rfl) ?_
        refine dl_r (sem_assign rfl rfl) ?_
        refine dl_end ?_
        refine dw_ret ?_
        -- path ffF
        exact ⟨.inr rfl, (resL_cell (us := cR ((((1 : Int) : Rat)) - (u / r))) ty28 rfl rfl rfl rfl (resL_tmp rfl resL_nil))⟩
    · exact absurd hd (by rw [show strB u r = false from by unfold strB; rw [hb1, hb2]; rfl]; decide)
  · exact absurd hd (by rw [show strB u r = false from by unfold strB; rw [hb1]; rfl]; decide)
theorem rWid_no {u r : Rat} (hu : Rz 100 u) (_hr : Rz 20 r) (hd : widB r u = false) : Ok Tryz.prog 18 [dR r, dR u] [.a (([.b false] ++ [cM ([])]) ++ ([.b false] ++ [cM ([])])), .c (.i .i64 1)] := by
  refine Ok.of (by kernel_rfl) Tryz.func18 rfl rfl ?_
  rw [show Tryz.f18.ntmps = 20 from rfl, show Tryz.f18.results.toList = [.cell 4 28, .tmp 5] from rfl]
  refine dw_seq ?_
  -- region 0
  refine dw_region (by kernel_rfl) ?_
  refine dl_new (sem_box_a rfl rfl) rfl ?_
  refine dl_new (sem_box_a rfl rfl) rfl ?_
  refine dl_new (sem_alloc zc28 rfl) rfl ?_
  refine dl_r (sem_assign rfl rfl) ?_
  refine dl_end ?_
  refine dw_seq ?_
  refine dw_seq ?_
  -- region 1
  refine dw_region (by kernel_rfl) ?_
  refine dl_r (sem_load (us := cR r) ty28 rfl rfl rfl rfl rfl) ?_
  refine dl_r (sem_call rfl rfl (sSign_ok) rfl) ?_
  refine dl_r (sem_cmp rfl rfl rfl rfl) ?_
  refine dl_rb (sem_move rfl rfl) (fun c1 hb1 => ?_)
  cases c1
  · refine dl_r (sem_load (us := cR u) ty28 rfl rfl rfl rfl rfl) ?_
    refine dl_r (sem_call rfl rfl (rCos32_ok (by first | assumption | exact Rz.mono hu (by decide))) rfl) ?_
    refine dl_r (sem_not rfl rfl) ?_
    refine dl_r (sem_pick rfl rfl rfl rfl) ?_
    refine dl_end ?_
    refine dw_cond rfl (fun hc2 => ?_) (fun hc2 => ?_)
    · refine dw_seq ?_
      -- region 2
      refine dw_region (by kernel_rfl) ?_
      refine dl_r (sem_build (us := (([.b false] ++ [.s 0 []]) ++ ([.b false] ++ [.s 0 []]))) fs28 zc28 rfl rfl rfl) ?_
      refine dl_st (sem_store_a ty28 rfl rfl rfl rfl rfl rfl) ?_
      refine dl_r (sem_assign rfl rfl) ?_
      refine dl_end ?_
      refine dw_ret ?_
      -- path fT
      exact ⟨.inr rfl, (resL_cell (us := (([.b false] ++ [.s 0 []]) ++ ([.b false] ++ [.s 0 []]))) ty28 rfl rfl rfl rfl (resL_tmp rfl resL_nil))⟩
    · exact absurd hd (by rw [show widB r u = true from by unfold widB; rw [hb1, hc2]; rfl]; decide)
  · refine dl_skip (sem_skip rfl) ?_
    refine dl_skip (sem_skip rfl) ?_
    refine dl_skip (sem_skip rfl) ?_
    refine dl_r (sem_pick rfl rfl rfl rfl) ?_
    refine dl_end ?_
    refine dw_true rfl ?_
    refine dw_seq ?_
    -- region 2
    refine dw_region (by kernel_rfl) ?_
    refine dl_r (sem_build (us := (([.b false] ++ [.s 0 []]) ++ ([.b false] ++ [.s 0 []]))) fs28 zc28 rfl rfl rfl) ?_
    refine dl_st (sem_store_a ty28 rfl rfl rfl rfl rfl rfl) ?_
    refine dl_r (sem_assign rfl rfl) ?_
    refine dl_end ?_
    refine dw_ret ?_
    -- path t
    exact ⟨.inr rfl, (resL_cell (us := (([.b false] ++ [.s 0 []]) ++ ([.b false] ++ [.s 0 []]))) ty28 rfl rfl rfl rfl (resL_tmp rfl resL_nil))⟩
theorem rWid_yes {u r : Rat} (hu : Rz 100 u) (hr : Rz 20 r) (hd : widB r u = true) : Ok Tryz.prog 18 [dR r, dR u] [dR (r * (((1 : Int) : Rat) - u)), .c (.i .i64 0)] := by
  refine Ok.of (by kernel_rfl) Tryz.func18 rfl rfl ?_
  rw [show Tryz.f18.ntmps = 20 from rfl, show Tryz.f18.results.toList = [.cell 4 28, .tmp 5] from rfl]
  refine dw_seq ?_
  -- region 0
  refine dw_region (by kernel_rfl) ?_
  refine dl_new (sem_box_a rfl rfl) rfl ?_
  refine dl_new (sem_box_a rfl rfl) rfl ?_
  refine dl_new (sem_alloc zc28 rfl) rfl ?_
  refine dl_r (sem_assign rfl rfl) ?_
  refine dl_end ?_
  refine dw_seq ?_
  refine dw_seq ?_
  -- region 1
  refine dw_region (by kernel_rfl) ?_
  refine dl_r (sem_load (us := cR r) ty28 rfl rfl rfl rfl rfl) ?_
  refine dl_r (sem_call rfl rfl (sSign_ok) rfl) ?_
  refine dl_r (sem_cmp rfl rfl rfl rfl) ?_
  refine dl_rb (sem_move rfl rfl) (fun c1 hb1 => ?_)
  cases c1
  · refine dl_r (sem_load (us := cR u) ty28 rfl rfl rfl rfl rfl) ?_
    refine dl_r (sem_call rfl rfl (rCos32_ok (by first | assumption | exact Rz.mono hu (by decide))) rfl) ?_
    refine dl_r (sem_not rfl rfl) ?_
    refine dl_r (sem_pick rfl rfl rfl rfl) ?_
    refine dl_end ?_
    refine dw_cond rfl (fun hc2 => ?_) (fun hc2 => ?_)
    · exact absurd hd (by rw [show widB r u = false from by unfold widB; rw [hb1, hc2]; rfl]; decide)
    · refine dw_skip ?_
      refine dw_seq ?_
      -- region 3
      refine dw_draw 5 [] follows_mixed (by kernel_rfl) rfl rfl ?_
      refine dq_r (sem_load (us := cR r) ty28 rfl rfl rfl rfl rfl) ?_
      refine dq_r (sem_call rfl rfl (rWhole32_ok (by omega) (by omega)) rfl) ?_
      refine dq_r (sem_load (us := cR u) ty28 rfl rfl rfl rfl rfl) ?_
      refine dq_r (sem_call rfl rfl (sSub_ok (by first | assumption | exact Rz.mono (Rz.int (Sz.small (k := 3) (by decide) (by decide) (by decide)) (by decide)) (by decide)) (by first | assumption | exact Rz.mono hu (by decide))) rfl) ?_
      refine dq_r (sem_call rfl rfl (sMul_ok (by first | assumption | exact Rz.mono hr (by decide)) (by first | assumption | exact Rz.mono (Rz.sub (Rz.int (Sz.small (k := 3) (by decide) (by decide) (by decide)) (by decide)) hu) (by decide))) rfl) ?_
      refine dq_end ?_
      refine dl_start0 ?_
      refine dl_st (sem_store_a ty28 rfl rfl rfl rfl rfl rfl) ?_
      refine dl_r (sem_assign rfl rfl) ?_
      refine dl_end ?_
      refine dw_ret ?_
      -- path fF
      exact ⟨.inr rfl, (resL_cell (us := cR (r * ((((1 : Int) : Rat)) - u))) ty28 rfl rfl rfl rfl (resL_tmp rfl resL_nil))⟩
  · exact absurd hd (by rw [show widB r u = false from by unfold widB; rw [hb1]; rfl]; decide)
theorem rHlf_ok {x c : Rat} (hx : Rz 60 x) (hc : Rz 20 c) : Ok Tryz.prog 43 [dR x, dR c] [.c (.b (hlfB x c))] := by
  refine Ok.of (by kernel_rfl) Tryz.func43 rfl rfl ?_
  rw [show Tryz.f43.ntmps = 21 from rfl, show Tryz.f43.results.toList = [.tmp 4] from rfl]
  refine dw_seq ?_
  -- region 0
  refine dw_region (by kernel_rfl) ?_
  refine dl_new (sem_box_a rfl rfl) rfl ?_
  refine dl_new (sem_box_a rfl rfl) rfl ?_
  refine dl_r (sem_assign rfl rfl) ?_
  refine dl_end ?_
  refine dw_seq ?_
  -- region 1
  refine dw_draw 7 [] follows_mixed (by kernel_rfl) rfl rfl ?_
  refine dq_r (sem_call rfl rfl (rWhole32_ok (by omega) (by omega)) rfl) ?_
  refine dq_r (sem_load (us := cR x) ty28 rfl rfl rfl rfl rfl) ?_
  refine dq_r (sem_call rfl rfl (sSquare_ok (by first | assumption | exact Rz.mono hx (by decide))) rfl) ?_
  refine dq_r (sem_call rfl rfl (sMul_ok (by first | assumption | exact Rz.mono (Rz.int (Sz.small (k := 3) (by decide) (by decide) (by decide)) (by decide)) (by decide)) (by first | assumption | exact Rz.mono (Rz.mul hx hx) (by decide))) rfl) ?_
  refine dq_r (sem_call rfl rfl (rWhole32_ok (by omega) (by omega)) rfl) ?_
  refine dq_r (sem_call rfl rfl (sSub_ok (by first | assumption | exact Rz.mono (Rz.mul (Rz.int (Sz.small (k := 3) (by decide) (by decide) (by decide)) (by decide)) (Rz.mul hx hx)) (by decide)) (by first | assumption | exact Rz.mono (Rz.int (Sz.small (k := 3) (by decide) (by decide) (by decide)) (by decide)) (by decide))) rfl) ?_
  refine dq_new (sem_alloc zc28 rfl) rfl ?_
  refine dq_end ?_
  refine dl_start1 ?_
  refine dl_st (sem_store_a ty28 rfl rfl rfl rfl rfl rfl) ?_
  refine dl_end ?_
  refine dw_seq ?_
  -- region 2
  refine dw_region (by kernel_rfl) ?_
  refine dl_r (sem_load (us := cR x) ty28 rfl rfl rfl rfl rfl) ?_
  refine dl_r (sem_call rfl rfl (sSign_ok) rfl) ?_
  refine dl_r (sem_cmp rfl rfl rfl rfl) ?_
  refine dl_rb (sem_move rfl rfl) (fun c1 hb1 => ?_)
  cases c1
  · refine dl_skip (sem_skip rfl) ?_
    refine dl_skip (sem_skip rfl) ?_
    refine dl_skip (sem_skip rfl) ?_
    refine dl_skip (sem_skip rfl) ?_
    refine dl_r (sem_pick rfl rfl rfl rfl) ?_
    refine dl_r (sem_assign rfl rfl) ?_
    refine dl_end ?_
    refine dw_ret ?_
    -- path f
    rw [hlfB_f hb1]
    exact ⟨.inr rfl, (resL_tmp rfl resL_nil)⟩
  · refine dl_r (sem_load (us := cR (((((2 : Int) : Rat)) * (x * x)) - (((1 : Int) : Rat)))) ty28 rfl rfl rfl rfl rfl) ?_
    refine dl_r (sem_load (us := cR c) ty28 rfl rfl rfl rfl rfl) ?_
    refine dl_r (sem_call rfl rfl (sCmp_ok (by first | assumption | exact Rz.mono (Rz.sub (Rz.mul (Rz.int (Sz.small (k := 3) (by decide) (by decide) (by decide)) (by decide)) (Rz.mul hx hx)) (Rz.int (Sz.small (k := 3) (by decide) (by decide) (by decide)) (by decide))) (by decide)) (by first | assumption | exact Rz.mono hc (by decide))) rfl) ?_
    refine dl_r (sem_cmp rfl rfl rfl rfl) ?_
    refine dl_r (sem_pick rfl rfl rfl rfl) ?_
    refine dl_r (sem_assign rfl rfl) ?_
    refine dl_end ?_
    refine dw_ret ?_
    -- path t
    rw [hlfB_t hb1]
    exact ⟨.inr rfl, (resL_tmp rfl resL_nil)⟩
theorem rAll_ok {a t : Int} {c : Rat} (hc : Rz 20 c) (ha : 1 ≤ a) (ha2 : a ≤ 10000000) (ht : 1 ≤ t) (ht2 : t ≤ 10000000) {s : Int} (hs : 0 ≤ s) (hs2 : s ≤ 10000002) : Ok Tryz.prog 14 [.c (.i .i64 a), .c (.i .i64 t), .c (.i .i64 s), dR c] [.c (.b (alwR a t s c))] := by
  have hza : Sz 3 a := Sz.small (by decide) (by omega) (by omega)
  have hzt : Sz 3 t := Sz.small (by decide) (by omega) (by omega)
  have hzs : Sz 3 s := Sz.small (by decide) (by omega) (by omega)
  have hz := cq_sz0 ha ht hs ha2 ht2 hs2
  have h0 := cq_ne (a := a) (t := t) (s := s) ha ht hs
  refine Ok.of (by kernel_rfl) Tryz.func14 rfl rfl ?_
  rw [show Tryz.f14.ntmps = 28 from rfl, show Tryz.f14.results.toList = [.tmp 8] from rfl]
  refine dw_seq ?_
  -- region 0
  refine dw_region (by kernel_rfl) ?_
  refine dl_new (sem_box_a rfl rfl) rfl ?_
  refine dl_r (sem_assign rfl rfl) ?_
  refine dl_end ?_
  refine dw_seq ?_
  -- region 1
  refine dw_region (by kernel_rfl) ?_
  refine dl_r (sem_move rfl rfl) ?_
  refine dl_r (sem_move rfl rfl) ?_
  refine dl_r (sem_ari (r := a + t) rfl rfl (ari_i64_add (by omega) (by omega)) rfl) ?_
  refine dl_r (sem_call rfl rfl (rWhole32_ok (by omega) (by omega)) rfl) ?_
  refine dl_r (sem_move rfl rfl) ?_
  refine dl_r (sem_call rfl rfl (rWhole32_ok (by omega) (by omega)) rfl) ?_
  refine dl_r (sem_move rfl rfl) ?_
  refine dl_r (sem_move rfl rfl) ?_
  refine dl_r (sem_ari (r := a + s) rfl rfl (ari_i64_add (by omega) (by omega)) rfl) ?_
  refine dl_r (sem_call rfl rfl (rWhole32_ok (by omega) (by omega)) rfl) ?_
  refine dl_r (sem_call rfl rfl (rcast1 (rHalf32_ok (by first | assumption | exact Rz.mono (Rz.int (Sz.addm hza hzt) (by decide)) (by decide)) (by first | assumption | exact Rz.mono (Rz.int hzt (by decide)) (by decide)) (by first | assumption | exact Rz.mono (Rz.int (Sz.addm hza hzs) (by decide)) (by decide)) h0) (x' := cq a t s) rfl) rfl) ?_
  refine dl_new (sem_alloc zc28 rfl) rfl ?_
  refine dl_st (sem_store_a ty28 rfl rfl rfl rfl rfl rfl) ?_
  refine dl_end ?_
  refine dw_seq ?_
  refine dw_seq ?_
  -- region 2
  refine dw_draw 4 [] follows_mixed (by kernel_rfl) rfl rfl ?_
  refine dq_r (sem_load (us := cR (cq a t s)) ty28 rfl rfl rfl rfl rfl) ?_
  refine dq_r (sem_call rfl rfl (rWhole32_ok (by omega) (by omega)) rfl) ?_
  refine dq_r (sem_call rfl rfl (sCmp_ok (by first | assumption | exact Rz.mono (by assumption) (by decide)) (by first | assumption | exact Rz.mono (Rz.int (Sz.small (k := 3) (by decide) (by decide) (by decide)) (by decide)) (by decide))) rfl) ?_
  refine dq_r (sem_cmp rfl rfl rfl rfl) ?_
  refine dq_end ?_
  refine dl_start0 ?_
  refine dl_end ?_
  refine dw_cond rfl (fun hc1 => ?_) (fun hc1 => ?_)
  · refine dw_seq ?_
    -- region 3
    refine dw_region (by kernel_rfl) ?_
    refine dl_r (sem_assign rfl rfl) ?_
    refine dl_end ?_
    refine dw_ret ?_
    -- path T
    rw [alwR_t hc1]
    exact ⟨.inr rfl, (resL_tmp rfl resL_nil)⟩
  · refine dw_skip ?_
    refine dw_seq ?_
    -- region 4
    refine dw_region (by kernel_rfl) ?_
    refine dl_r (sem_load (us := cR (cq a t s)) ty28 rfl rfl rfl rfl rfl) ?_
    refine dl_r (sem_load (us := cR c) ty28 rfl rfl rfl rfl rfl) ?_
    refine dl_r (sem_call rfl rfl (rHlf_ok hz hc) rfl) ?_
    refine dl_r (sem_assign rfl rfl) ?_
    refine dl_end ?_
    refine dw_ret ?_
    -- path F
    rw [alwR_f hc1]
    exact ⟨.inr rfl, (resL_tmp rfl resL_nil)⟩
theorem rSte_1 {a t : Int} {c : Rat} (hc : Rz 20 c) (hd : stpB a t c = false) : Ok Tryz.prog 13 [.c (.i .i64 a), .c (.i .i64 t), dR c] [.c (.i .i64 1)] := by
  refine Ok.of (by kernel_rfl) Tryz.func13 rfl rfl ?_
  rw [show Tryz.f13.ntmps = 26 from rfl, show Tryz.f13.results.toList = [.tmp 6] from rfl]
  refine dw_seq ?_
  -- region 0
  refine dw_region (by kernel_rfl) ?_
  refine dl_new (sem_box_a rfl rfl) rfl ?_
  refine dl_r (sem_assign rfl rfl) ?_
  refine dl_end ?_
  refine dw_seq ?_
  refine dw_seq ?_
  -- region 1
  refine dw_region (by kernel_rfl) ?_
  refine dl_r (sem_move rfl rfl) ?_
  refine dl_r (sem_cmp rfl rfl rfl rfl) ?_
  refine dl_rb (sem_move rfl rfl) (fun c1 hb1 => ?_)
  cases c1
  · refine dl_r (sem_move rfl rfl) ?_
    refine dl_r (sem_cmp rfl rfl rfl rfl) ?_
    refine dl_r (sem_pick rfl rfl rfl rfl) ?_
    refine dl_rb (sem_move rfl rfl) (fun c2 hb2 => ?_)
    cases c2
    · refine dl_r (sem_move rfl rfl) ?_
      refine dl_r (sem_cmp rfl rfl rfl rfl) ?_
      refine dl_r (sem_pick rfl rfl rfl rfl) ?_
      refine dl_rb (sem_move rfl rfl) (fun c3 hb3 => ?_)
      cases c3
      · refine dl_r (sem_move rfl rfl) ?_
        refine dl_r (sem_cmp rfl rfl rfl rfl) ?_
        refine dl_r (sem_pick rfl rfl rfl rfl) ?_
        refine dl_rb (sem_move rfl rfl) (fun c4 hb4 => ?_)
        cases c4
        · refine dl_r (sem_load (us := cR c) ty28 rfl rfl rfl rfl rfl) ?_
          refine dl_r (sem_call rfl rfl (rCos32_ok (by first | assumption | exact Rz.mono hc (by decide))) rfl) ?_
          refine dl_r (sem_not rfl rfl) ?_
          refine dl_r (sem_pick rfl rfl rfl rfl) ?_
          refine dl_end ?_
          refine dw_cond rfl (fun hc5 => ?_) (fun hc5 => ?_)
          · refine dw_seq ?_
            -- region 2
            refine dw_region (by kernel_rfl) ?_
            refine dl_r (sem_assign rfl rfl) ?_
            refine dl_end ?_
            refine dw_ret ?_
            -- path ffffT
            exact ⟨.inr rfl, (resL_tmp rfl resL_nil)⟩
          · exact absurd hd (by rw [show stpB a t c = true from by unfold stpB; rw [hb1, hb2, hb3, hb4, hc5]; rfl]; decide)
        · refine dl_skip (sem_skip rfl) ?_
          refine dl_skip (sem_skip rfl) ?_
          refine dl_skip (sem_skip rfl) ?_
          refine dl_r (sem_pick rfl rfl rfl rfl) ?_
          refine dl_end ?_
          refine dw_true rfl ?_
          refine dw_seq ?_
          -- region 2
          refine dw_region (by kernel_rfl) ?_
          refine dl_r (sem_assign rfl rfl) ?_
          refine dl_end ?_
          refine dw_ret ?_
          -- path ffft
          exact ⟨.inr rfl, (resL_tmp rfl resL_nil)⟩
      · refine dl_skip (sem_skip rfl) ?_
        refine dl_skip (sem_skip rfl) ?_
        refine dl_r (sem_pick rfl rfl rfl rfl) ?_
        refine dl_r (sem_move rfl rfl) ?_
        refine dl_skip (sem_skip rfl) ?_
        refine dl_skip (sem_skip rfl) ?_
        refine dl_skip (sem_skip rfl) ?_
        refine dl_r (sem_pick rfl rfl rfl rfl) ?_
        refine dl_end ?_
        refine dw_true rfl ?_
        refine dw_seq ?_
        -- region 2
        refine dw_region (by kernel_rfl) ?_
        refine dl_r (sem_assign rfl rfl) ?_
        refine dl_end ?_
        refine dw_ret ?_
        -- path fft
        exact ⟨.inr rfl, (resL_tmp rfl resL_nil)⟩
    · refine dl_skip (sem_skip rfl) ?_
      refine dl_skip (sem_skip rfl) ?_
      refine dl_r (sem_pick rfl rfl rfl rfl) ?_
      refine dl_r (sem_move rfl rfl) ?_
      refine dl_skip (sem_skip rfl) ?_
      refine dl_skip (sem_skip rfl) ?_
      refine dl_r (sem_pick rfl rfl rfl rfl) ?_
      refine dl_r (sem_move rfl rfl) ?_
      refine dl_skip (sem_skip rfl) ?_
      refine dl_skip (sem_skip rfl) ?_
      refine dl_skip (sem_skip rfl) ?_
      refine dl_r (sem_pick rfl rfl rfl rfl) ?_
      refine dl_end ?_
      refine dw_true rfl ?_
      refine dw_seq ?_
      -- region 2
      refine dw_region (by kernel_rfl) ?_
      refine dl_r (sem_assign rfl rfl) ?_
      refine dl_end ?_
      refine dw_ret ?_
      -- path ft
      exact ⟨.inr rfl, (resL_tmp rfl resL_nil)⟩
  · refine dl_skip (sem_skip rfl) ?_
    refine dl_skip (sem_skip rfl) ?_
    refine dl_r (sem_pick rfl rfl rfl rfl) ?_
    refine dl_r (sem_move rfl rfl) ?_
    refine dl_skip (sem_skip rfl) ?_
    refine dl_skip (sem_skip rfl) ?_
    refine dl_r (sem_pick rfl rfl rfl rfl) ?_
    refine dl_r (sem_move rfl rfl) ?_
    refine dl_skip (sem_skip rfl) ?_
    refine dl_skip (sem_skip rfl) ?_
    refine dl_r (sem_pick rfl rfl rfl rfl) ?_
    refine dl_r (sem_move rfl rfl) ?_
    refine dl_skip (sem_skip rfl) ?_
    refine dl_skip (sem_skip rfl) ?_
    refine dl_skip (sem_skip rfl) ?_
    refine dl_r (sem_pick rfl rfl rfl rfl) ?_
    refine dl_end ?_
    refine dw_true rfl ?_
    refine dw_seq ?_
    -- region 2
    refine dw_region (by kernel_rfl) ?_
    refine dl_r (sem_assign rfl rfl) ?_
    refine dl_end ?_
    refine dw_ret ?_
    -- path t
    exact ⟨.inr rfl, (resL_tmp rfl resL_nil)⟩
theorem rSte_0 {a t : Int} {c : Rat} (hc : Rz 20 c) (hd : stpB a t c = true) : Ok Tryz.prog 13 [.c (.i .i64 a), .c (.i .i64 t), dR c] [.c (.i .i64 0)] := by
  refine Ok.of (by kernel_rfl) Tryz.func13 rfl rfl ?_
  rw [show Tryz.f13.ntmps = 26 from rfl, show Tryz.f13.results.toList = [.tmp 6] from rfl]
  refine dw_seq ?_
  -- region 0
  refine dw_region (by kernel_rfl) ?_
  refine dl_new (sem_box_a rfl rfl) rfl ?_
  refine dl_r (sem_assign rfl rfl) ?_
  refine dl_end ?_
  refine dw_seq ?_
  refine dw_seq ?_
  -- region 1
  refine dw_region (by kernel_rfl) ?_
  refine dl_r (sem_move rfl rfl) ?_
  refine dl_r (sem_cmp rfl rfl rfl rfl) ?_
  refine dl_rb (sem_move rfl rfl) (fun c1 hb1 => ?_)
  cases c1
  · refine dl_r (sem_move rfl rfl) ?_
    refine dl_r (sem_cmp rfl rfl rfl rfl) ?_
    refine dl_r (sem_pick rfl rfl rfl rfl) ?_
    refine dl_rb (sem_move rfl rfl) (fun c2 hb2 => ?_)
    cases c2
    · refine dl_r (sem_move rfl rfl) ?_
      refine dl_r (sem_cmp rfl rfl rfl rfl) ?_
      refine dl_r (sem_pick rfl rfl rfl rfl) ?_
      refine dl_rb (sem_move rfl rfl) (fun c3 hb3 => ?_)
      cases c3
      · refine dl_r (sem_move rfl rfl) ?_
        refine dl_r (sem_cmp rfl rfl rfl rfl) ?_
        refine dl_r (sem_pick rfl rfl rfl rfl) ?_
        refine dl_rb (sem_move rfl rfl) (fun c4 hb4 => ?_)
        cases c4
        · refine dl_r (sem_load (us := cR c) ty28 rfl rfl rfl rfl rfl) ?_
          refine dl_r (sem_call rfl rfl (rCos32_ok (by first | assumption | exact Rz.mono hc (by decide))) rfl) ?_
          refine dl_r (sem_not rfl rfl) ?_
          refine dl_r (sem_pick rfl rfl rfl rfl) ?_
          refine dl_end ?_
          refine dw_cond rfl (fun hc5 => ?_) (fun hc5 => ?_)
          · exact absurd hd (by rw [show stpB a t c = false from by unfold stpB; rw [hb1, hb2, hb3, hb4, hc5]; rfl]; decide)
          · refine dw_skip ?_
            refine dw_seq ?_
            -- region 3
            refine dw_region (by kernel_rfl) ?_
            refine dl_r (sem_assign rfl rfl) ?_
            refine dl_end ?_
            refine dw_ret ?_
            -- path ffffF
            exact ⟨.inr rfl, (resL_tmp rfl resL_nil)⟩
        · exact absurd hd (by rw [show stpB a t c = false from by unfold stpB; rw [hb1, hb2, hb3, hb4]; rfl]; decide)
      · exact absurd hd (by rw [show stpB a t c = false from by unfold stpB; rw [hb1, hb2, hb3]; rfl]; decide)
    · exact absurd hd (by rw [show stpB a t c = false from by unfold stpB; rw [hb1, hb2]; rfl]; decide)
  · exact absurd hd (by rw [show stpB a t c = false from by unfold stpB; rw [hb1]; rfl]; decide)
end Go.Proofs.YtedlgdliniokiaaGreat
/- Plain: what the laws of layer 32 need of sizes. -/
namespace Go.Proofs.YtedlgdliniokiaaGreat
open Go Go.RowKit
theorem rcast1e {P : Program} {f : FuncId} {ds rs : List D0} {x x' : Rat} (h : Ok P f ds (dR x :: rs)) (e : x = x') : Ok P f ds (dR x' :: rs) := by subst e; exact h
theorem hun_sz {n : Int} (h0 : -9223372036854775808 ≤ n) (h1 : n ≤ 9223372036854775807) : Rz 20 (Rat.divInt n 100) := Rz.of (Sz.small (by decide) h0 h1) (Sz.small (by decide) (by omega) (by omega)) (by omega)
theorem ang_sz {n : Int} (h0 : -9223372036854775808 ≤ n) (h1 : n ≤ 9223372036854775807) : Rz 20 (Rat.divInt n 16) := Rz.of (Sz.small (by decide) h0 h1) (Sz.small (by decide) (by omega) (by omega)) (by omega)
theorem dsc_parts {R r e : Rat} (h : dscB R r e = true) : decide (cmpR r 0 ≤ 0) = false ∧ decide (cmpR e 0 ≤ 0) = false := by
  unfold dscB at h
  cases h1 : decide (cmpR r 0 ≤ 0) <;> cases h2 : decide (cmpR e 0 ≤ 0) <;> cases h3 : decide (cmpR R 0 ≤ 0) <;> simp_all
theorem dsc_sz {R r e : Rat} (hR : Rz 20 R) (hr : Rz 20 r) (he : Rz 20 e) (h : dscB R r e = true) : Rz 200 (hfQ R r e) := hf_sz hR hr he (dsc_ne (dsc_parts h).1 (dsc_parts h).2)
theorem str_parts {u r : Rat} (h : strB u r = true) : 0 < r ∧ 0 ≤ u ∧ u ≤ r + r := by
  unfold strB at h
  rw [Bool.not_eq_true', Bool.or_eq_false_iff, Bool.or_eq_false_iff] at h
  obtain ⟨h1, h2, h3⟩ := h
  have h2 := of_decide_eq_false h2
  have h3 := of_decide_eq_false h3
  refine ⟨pos_of h1, cmpR_ge.1 (by omega), cmpR_le.1 (by omega)⟩
theorem str_ne2 {u r : Rat} (h : strB u r = true) : r ≠ 0 := by
  have := (str_parts h).1
  grind
theorem str_wid {u r : Rat} (h : strB u r = true) : widB r (((1 : Int) : Rat) - u / r) = true := by
  obtain ⟨h1, h2, h3⟩ := str_parts h
  have hq : u / r * r = u := Rat.div_mul_cancel (str_ne2 h)
  have e2 : ((1 : Int) : Rat) = 1 := rfl
  have h4 : 0 ≤ u / r := by
    apply Classical.byContradiction
    intro hn
    have := Rat.mul_lt_mul_of_pos_right (show u / r < 0 by grind) h1
    grind
  have h5 : u / r ≤ 2 := by
    apply Classical.byContradiction
    intro hn
    have := Rat.mul_lt_mul_of_pos_right (show 2 < u / r by grind) h1
    grind
  unfold widB cosB
  rw [decide_eq_false (show ¬ cmpR r 0 ≤ 0 by rw [cmpR_le]; grind), e2, decide_eq_true (show 1 - u / r ≤ 1 by grind), decide_eq_true (show -1 ≤ 1 - u / r by grind)]
  rfl
theorem str_sz {u r : Rat} (hu : Rz 20 u) (hr : Rz 20 r) (hn : r ≠ 0) : Rz 100 (((1 : Int) : Rat) - u / r) := by
  have h1 : Rz 3 ((1 : Int) : Rat) := Rz.num (by decide) (by decide)
  exact (h1.sub (hu.div hr hn)).mono (by decide)
theorem wid_sz {r c : Rat} (hr : Rz 20 r) (hc : Rz 20 c) : Rz 300 (r * (((1 : Int) : Rat) - c)) := by
  have h1 : Rz 3 ((1 : Int) : Rat) := Rz.num (by decide) (by decide)
  exact (hr.mul (h1.sub hc)).mono (by decide)
theorem stp_parts {a t : Int} {c : Rat} (h : stpB a t c = true) : 1 ≤ a ∧ a ≤ 10000000 ∧ 1 ≤ t ∧ t ≤ 10000000 ∧ cosB c = true := by
  unfold stpB at h
  rw [Bool.not_eq_true', Bool.or_eq_false_iff, Bool.or_eq_false_iff, Bool.or_eq_false_iff, Bool.or_eq_false_iff] at h
  obtain ⟨h1, h2, h3, h4, h5⟩ := h
  have h1 := of_decide_eq_false h1
  have h2 := of_decide_eq_false h2
  have h3 := of_decide_eq_false h3
  have h4 := of_decide_eq_false h4
  refine ⟨by omega, by omega, by omega, by omega, ?_⟩
  cases hc : cosB c with
  | true => rfl
  | false => rw [hc] at h5; cases h5
end Go.Proofs.YtedlgdliniokiaaGreat
