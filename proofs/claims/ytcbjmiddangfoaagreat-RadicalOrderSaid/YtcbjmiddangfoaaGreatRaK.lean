/- filter.Root. -/
import Derived.Test.YtcbjmiddangfoaaGreatRaJ
import Derived.Test.YtcbjmiddangfoaaGreatProg
namespace Go.Proofs.YtcbjmiddangfoaaGreat
open Go Go.RowKit
theorem fRoot2_ok {a b c : Rat} (ha : Rz 200 a) (hb : Rz 200 b) (hc : Rz 200 c) : Ok Tryz.prog 72 [.a (cR a ++ cR b ++ cR c)] [.a ([.i .i64 (rtLo a b c)] ++ [.i .i64 (rtHi a b c)]), .c (.b (rtOk a b c))] := by
  refine Ok.of (by kernel_rfl) Tryz.func72 rfl rfl ?_
  rw [show Tryz.f72.ntmps = 72 from rfl, show Tryz.f72.results.toList = [.cell 2 80, .tmp 3] from rfl]
  refine dw_seq ?_
  -- region 0
  refine dw_region (by kernel_rfl) ?_
  refine dl_new (sem_box_a rfl rfl) rfl ?_
  refine dl_new (sem_alloc zc80 rfl) rfl ?_
  refine dl_r (sem_assign rfl rfl) ?_
  refine dl_end ?_
  refine dw_seq ?_
  -- region 1
  refine dw_region (by kernel_rfl) ?_
  refine dl_r (sem_field fd39_0 rfl rfl) ?_
  refine dl_r (sem_load (us := cR a) ty26 rfl rfl rfl rfl rfl) ?_
  refine dl_r (sem_call rfl rfl (fFromRat_ok (by first | assumption | exact Rz.mono ha (by decide))) rfl) ?_
  refine dl_r (sem_move rfl rfl) ?_
  refine dl_r (sem_extract rfl rfl rfl) ?_
  refine dl_r (sem_extract rfl rfl rfl) ?_
  refine dl_new (sem_alloc zc80 rfl) rfl ?_
  refine dl_st (sem_store_a ty80 rfl rfl rfl rfl rfl rfl) ?_
  refine dl_r (sem_assign rfl rfl) ?_
  refine dl_end ?_
  refine dw_seq ?_
  refine dw_seq ?_
  -- region 2
  refine dw_region (by kernel_rfl) ?_
  refine dl_r (sem_move rfl rfl) ?_
  refine dl_r (sem_not rfl rfl) ?_
  refine dl_rb (sem_move rfl rfl) (fun c1 hb1 => ?_)
  cases c1
  · have ea := not_f hb1
    refine dl_r (sem_field fd39_1 rfl rfl) ?_
    refine dl_r (sem_load (us := cR b) ty26 rfl rfl rfl rfl rfl) ?_
    refine dl_r (sem_call rfl rfl (pSign_ok) rfl) ?_
    refine dl_r (sem_cmp rfl rfl rfl rfl) ?_
    refine dl_r (sem_pick rfl rfl rfl rfl) ?_
    refine dl_end ?_
    refine dw_cond rfl (fun hc2 => ?_) (fun hc2 => ?_)
    · obtain ⟨w1, w2, w3⟩ := rt_b (c := c) ea hc2
      refine dw_seq ?_
      -- region 3
      refine dw_region (by kernel_rfl) ?_
      refine dl_r (sem_load (us := ([.i .i64 (if frOk a then frLo a else 0)] ++ [.i .i64 (if frOk a then frHi a else 0)])) ty80 rfl rfl rfl rfl rfl) ?_
      refine dl_r (sem_move rfl rfl) ?_
      refine dl_st (sem_store_a ty80 rfl rfl rfl rfl rfl rfl) ?_
      refine dl_r (sem_assign rfl rfl) ?_
      refine dl_end ?_
      refine dw_ret ?_
      -- path fT
      have x1 : rtLo a b c = (if frOk a then frLo a else 0) := by rw [w1, ea]; rfl
      have x2 : rtHi a b c = (if frOk a then frHi a else 0) := by rw [w2, ea]; rfl
      have x3 : rtOk a b c = frOk a := by rw [w3, ea]
      rw [x1, x2, x3]
      exact ⟨.inr rfl, (resL_cell (us := ([.i .i64 (if frOk a then frLo a else 0)] ++ [.i .i64 (if frOk a then frHi a else 0)])) ty80 rfl rfl rfl rfl (resL_tmp rfl resL_nil))⟩
    · have hb0 := hc2
      refine dw_skip ?_
      refine dw_seq ?_
      -- region 4
      refine dw_region (by kernel_rfl) ?_
      refine dl_r (sem_field fd39_1 rfl rfl) ?_
      refine dl_r (sem_load (us := cR b) ty26 rfl rfl rfl rfl rfl) ?_
      refine dl_r (sem_call rfl rfl (fFromRat_ok (by first | assumption | exact Rz.mono hb (by decide))) rfl) ?_
      refine dl_r (sem_move rfl rfl) ?_
      refine dl_r (sem_extract rfl rfl rfl) ?_
      refine dl_r (sem_extract rfl rfl rfl) ?_
      refine dl_new (sem_alloc zc80 rfl) rfl ?_
      refine dl_st (sem_store_a ty80 rfl rfl rfl rfl rfl rfl) ?_
      refine dl_r (sem_assign rfl rfl) ?_
      refine dl_end ?_
      refine dw_seq ?_
      -- region 5
      refine dw_region (by kernel_rfl) ?_
      refine dl_r (sem_field fd39_2 rfl rfl) ?_
      refine dl_r (sem_load (us := cR c) ty26 rfl rfl rfl rfl rfl) ?_
      refine dl_r (sem_call rfl rfl (fFromRat_ok (by first | assumption | exact Rz.mono hc (by decide))) rfl) ?_
      refine dl_r (sem_move rfl rfl) ?_
      refine dl_r (sem_extract rfl rfl rfl) ?_
      refine dl_r (sem_extract rfl rfl rfl) ?_
      refine dl_new (sem_alloc zc80 rfl) rfl ?_
      refine dl_st (sem_store_a ty80 rfl rfl rfl rfl rfl rfl) ?_
      refine dl_r (sem_assign rfl rfl) ?_
      refine dl_end ?_
      refine dw_seq ?_
      refine dw_seq ?_
      -- region 6
      refine dw_region (by kernel_rfl) ?_
      refine dl_r (sem_move rfl rfl) ?_
      refine dl_r (sem_not rfl rfl) ?_
      refine dl_rb (sem_move rfl rfl) (fun c3 hb3 => ?_)
      cases c3
      · have eb := not_f hb3
        refine dl_r (sem_move rfl rfl) ?_
        refine dl_r (sem_not rfl rfl) ?_
        refine dl_r (sem_pick rfl rfl rfl rfl) ?_
        refine dl_rb (sem_move rfl rfl) (fun c4 hb4 => ?_)
        cases c4
        · have ec := not_f hb4
          refine dl_r (sem_field fd39_2 rfl rfl) ?_
          refine dl_r (sem_load (us := cR c) ty26 rfl rfl rfl rfl rfl) ?_
          refine dl_r (sem_call rfl rfl (pSign_ok) rfl) ?_
          refine dl_r (sem_cmp rfl rfl rfl rfl) ?_
          refine dl_r (sem_pick rfl rfl rfl rfl) ?_
          refine dl_end ?_
          refine dw_cond rfl (fun hc5 => ?_) (fun hc5 => ?_)
          · have hno : rtOk a b c = false := rt_x hb0 (by unfold rtX; rw [hc5, Bool.not_true, Bool.false_and, Bool.and_false, Bool.and_false])
            refine dw_seq ?_
            -- region 7
            refine dw_region (by kernel_rfl) ?_
            refine dl_r (sem_build (us := ([.i .i64 0] ++ [.i .i64 0])) fs80 zc80 rfl rfl rfl) ?_
            refine dl_st (sem_store_a ty80 rfl rfl rfl rfl rfl rfl) ?_
            refine dl_r (sem_assign rfl rfl) ?_
            refine dl_end ?_
            refine dw_ret ?_
            -- path fFffT
            rw [(rt_no hno).1, (rt_no hno).2, hno]
            exact ⟨.inr rfl, (resL_cell (us := ([.i .i64 0] ++ [.i .i64 0])) ty80 rfl rfl rfl rfl (resL_tmp rfl resL_nil))⟩
          · have hcn := hc5
            have bA := fr_bd ea
            have bB := fr_bd eb
            have bC := fr_bd ec
            have hH := frHi_nonneg (c := c) (r_nlt hc5)
            have bS := sq_bd (x := frLo c) (y := frHi c) (by omega) hH (by omega)
            refine Dw.weak (σ' := ⟨72, [(1, .p 1 0), (2, .p 2 0), (4, .p 4 0), (6, .p 6 0), (7, .p 7 0)], [(1, 39, (cR a ++ cR b ++ cR c)), (2, 80, ([.i .i64 0] ++ [.i .i64 0])), (4, 80, ([.i .i64 (frLo a)] ++ [.i .i64 (frHi a)])), (6, 80, ([.i .i64 (frLo b)] ++ [.i .i64 (frHi b)])), (7, 80, ([.i .i64 (frLo c)] ++ [.i .i64 (frHi c)]))]⟩) (sub_of ⟨rfl, rfl, rfl, rfl, rfl, trivial⟩ ⟨rfl, rfl, by rw [if_pos ea, if_pos ea]; rfl, by rw [if_pos eb, if_pos eb]; rfl, by rw [if_pos ec, if_pos ec]; rfl, trivial⟩ rfl) ?_
            refine dw_skip ?_
            refine dw_seq ?_
            refine dw_seq ?_
            -- region 8
            refine dw_region (by kernel_rfl) ?_
            refine dl_r (sem_load (us := ([.i .i64 (frLo c)] ++ [.i .i64 (frHi c)])) ty80 rfl rfl rfl rfl rfl) ?_
            refine dl_r (sem_call rfl rfl (fSqrt_ok (by omega) (by omega) (by omega) (by omega) (by omega)) rfl) ?_
            refine dl_r (sem_move rfl rfl) ?_
            refine dl_r (sem_extract rfl rfl rfl) ?_
            refine dl_r (sem_extract rfl rfl rfl) ?_
            refine dl_st (sem_store_a ty80 rfl rfl rfl rfl rfl rfl) ?_
            refine dl_r (sem_assign rfl rfl) ?_
            refine dl_end ?_
            refine dw_seq ?_
            -- region 9
            refine dw_region (by kernel_rfl) ?_
            refine dl_r (sem_move rfl rfl) ?_
            refine dl_r (sem_not rfl rfl) ?_
            refine dl_end ?_
            refine dw_false rfl ?_
            refine dw_skip ?_
            refine dw_seq ?_
            refine dw_seq ?_
            -- region 11
            refine dw_region (by kernel_rfl) ?_
            refine dl_r (sem_load (us := ([.i .i64 (frLo b)] ++ [.i .i64 (frHi b)])) ty80 rfl rfl rfl rfl rfl) ?_
            refine dl_r (sem_load (us := ([.i .i64 (sqLo (frLo c))] ++ [.i .i64 (sqHi (frHi c))])) ty80 rfl rfl rfl rfl rfl) ?_
            refine dl_r (sem_call rfl rfl (fMul_ok (by omega) (by omega) (by omega) (by omega) (by omega) (by omega) (by omega) (by omega)) rfl) ?_
            refine dl_r (sem_move rfl rfl) ?_
            refine dl_r (sem_extract rfl rfl rfl) ?_
            refine dl_r (sem_extract rfl rfl rfl) ?_
            refine dl_st (sem_store_a ty80 rfl rfl rfl rfl rfl rfl) ?_
            refine dl_r (sem_assign rfl rfl) ?_
            refine dl_end ?_
            refine dw_seq ?_
            -- region 12
            refine dw_region (by kernel_rfl) ?_
            refine dl_r (sem_move rfl rfl) ?_
            refine dl_r (sem_not rfl rfl) ?_
            refine dl_end ?_
            refine dw_cond rfl (fun hc6 => ?_) (fun hc6 => ?_)
            · have hno : rtOk a b c = false := rt_x hb0 (by unfold rtX rtMo; rw [not_t hc6, Bool.false_and, Bool.and_false, Bool.and_false, Bool.and_false])
              refine dw_seq ?_
              -- region 13
              refine dw_region (by kernel_rfl) ?_
              refine dl_r (sem_build (us := ([.i .i64 0] ++ [.i .i64 0])) fs80 zc80 rfl rfl rfl) ?_
              refine dl_st (sem_store_a ty80 rfl rfl rfl rfl rfl rfl) ?_
              refine dl_r (sem_assign rfl rfl) ?_
              refine dl_end ?_
              refine dw_ret ?_
              -- path fFffFT
              rw [(rt_no hno).1, (rt_no hno).2, hno]
              exact ⟨.inr rfl, (resL_cell (us := ([.i .i64 0] ++ [.i .i64 0])) ty80 rfl rfl rfl rfl (resL_tmp rfl resL_nil))⟩
            · have hm : rtMo b c = true := not_f hc6
              have bM := n_bd 4 hm
              obtain ⟨w1, w2, w3⟩ := rt_f ea hb0 eb ec hcn hm
              refine Dw.weak (σ' := ⟨72, [(1, .p 1 0), (2, .p 2 0), (4, .p 4 0), (6, .p 6 0), (7, .p 7 0)], [(1, 39, (cR a ++ cR b ++ cR c)), (2, 80, ([.i .i64 0] ++ [.i .i64 0])), (4, 80, ([.i .i64 (frLo a)] ++ [.i .i64 (frHi a)])), (6, 80, ([.i .i64 (rtMl b c)] ++ [.i .i64 (rtMh b c)])), (7, 80, ([.i .i64 (sqLo (frLo c))] ++ [.i .i64 (sqHi (frHi c))]))]⟩) (sub_of ⟨rfl, rfl, rfl, rfl, rfl, trivial⟩ ⟨rfl, rfl, rfl, by rw [if_pos (not_f hc6), if_pos (not_f hc6)]; rfl, rfl, trivial⟩ rfl) ?_
              refine dw_skip ?_
              refine dw_seq ?_
              -- region 14
              refine dw_region (by kernel_rfl) ?_
              refine dl_r (sem_load (us := ([.i .i64 (frLo a)] ++ [.i .i64 (frHi a)])) ty80 rfl rfl rfl rfl rfl) ?_
              refine dl_r (sem_load (us := ([.i .i64 (rtMl b c)] ++ [.i .i64 (rtMh b c)])) ty80 rfl rfl rfl rfl rfl) ?_
              refine dl_r (sem_call rfl rfl (fAdd_ok (x := frLo a) (y := frHi a) (u := rtMl b c) (v := rtMh b c) (by omega) (by omega) (by omega) (by omega) bM.1 bM.2.1 bM.2.2.1 bM.2.2.2) rfl) ?_
              refine dl_r (sem_extract rfl rfl rfl) ?_
              refine dl_r (sem_extract rfl rfl rfl) ?_
              refine dl_st (sem_store_a ty80 rfl rfl rfl rfl rfl rfl) ?_
              refine dl_r (sem_assign rfl rfl) ?_
              refine dl_end ?_
              refine dw_ret ?_
              -- path fFffFF
              rw [w1, w2, w3]
              exact ⟨.inr rfl, (resL_cell (us := ([.i .i64 (if okI (frLo a + rtMl b c) (frHi a + rtMh b c) then frLo a + rtMl b c else 0)] ++ [.i .i64 (if okI (frLo a + rtMl b c) (frHi a + rtMh b c) then frHi a + rtMh b c else 0)])) ty80 rfl rfl rfl rfl (resL_tmp rfl resL_nil))⟩
        · have hno : rtOk a b c = false := rt_x hb0 (by unfold rtX; rw [not_t hb4, Bool.false_and, Bool.and_false])
          refine dl_skip (sem_skip rfl) ?_
          refine dl_skip (sem_skip rfl) ?_
          refine dl_skip (sem_skip rfl) ?_
          refine dl_skip (sem_skip rfl) ?_
          refine dl_r (sem_pick rfl rfl rfl rfl) ?_
          refine dl_end ?_
          refine dw_true rfl ?_
          refine dw_seq ?_
          -- region 7
          refine dw_region (by kernel_rfl) ?_
          refine dl_r (sem_build (us := ([.i .i64 0] ++ [.i .i64 0])) fs80 zc80 rfl rfl rfl) ?_
          refine dl_st (sem_store_a ty80 rfl rfl rfl rfl rfl rfl) ?_
          refine dl_r (sem_assign rfl rfl) ?_
          refine dl_end ?_
          refine dw_ret ?_
          -- path fFft
          rw [(rt_no hno).1, (rt_no hno).2, hno]
          exact ⟨.inr rfl, (resL_cell (us := ([.i .i64 0] ++ [.i .i64 0])) ty80 rfl rfl rfl rfl (resL_tmp rfl resL_nil))⟩
      · have hno : rtOk a b c = false := rt_x hb0 (by unfold rtX; rw [not_t hb3]; rfl)
        refine dl_skip (sem_skip rfl) ?_
        refine dl_skip (sem_skip rfl) ?_
        refine dl_r (sem_pick rfl rfl rfl rfl) ?_
        refine dl_r (sem_move rfl rfl) ?_
        refine dl_skip (sem_skip rfl) ?_
        refine dl_skip (sem_skip rfl) ?_
        refine dl_skip (sem_skip rfl) ?_
        refine dl_skip (sem_skip rfl) ?_
        refine dl_r (sem_pick rfl rfl rfl rfl) ?_
        refine dl_end ?_
        refine dw_true rfl ?_
        refine dw_seq ?_
        -- region 7
        refine dw_region (by kernel_rfl) ?_
        refine dl_r (sem_build (us := ([.i .i64 0] ++ [.i .i64 0])) fs80 zc80 rfl rfl rfl) ?_
        refine dl_st (sem_store_a ty80 rfl rfl rfl rfl rfl rfl) ?_
        refine dl_r (sem_assign rfl rfl) ?_
        refine dl_end ?_
        refine dw_ret ?_
        -- path fFt
        rw [(rt_no hno).1, (rt_no hno).2, hno]
        exact ⟨.inr rfl, (resL_cell (us := ([.i .i64 0] ++ [.i .i64 0])) ty80 rfl rfl rfl rfl (resL_tmp rfl resL_nil))⟩
  · refine dl_skip (sem_skip rfl) ?_
    refine dl_skip (sem_skip rfl) ?_
    refine dl_skip (sem_skip rfl) ?_
    refine dl_skip (sem_skip rfl) ?_
    refine dl_r (sem_pick rfl rfl rfl rfl) ?_
    refine dl_end ?_
    refine dw_true rfl ?_
    refine dw_seq ?_
    -- region 3
    refine dw_region (by kernel_rfl) ?_
    refine dl_r (sem_load (us := ([.i .i64 (if frOk a then frLo a else 0)] ++ [.i .i64 (if frOk a then frHi a else 0)])) ty80 rfl rfl rfl rfl rfl) ?_
    refine dl_r (sem_move rfl rfl) ?_
    refine dl_st (sem_store_a ty80 rfl rfl rfl rfl rfl rfl) ?_
    refine dl_r (sem_assign rfl rfl) ?_
    refine dl_end ?_
    refine dw_ret ?_
    -- path t
    have hno : rtOk a b c = false := rt_a (not_t hb1)
    have x1 : rtLo a b c = (if frOk a then frLo a else 0) := by rw [(rt_no hno).1, not_t hb1]; rfl
    have x2 : rtHi a b c = (if frOk a then frHi a else 0) := by rw [(rt_no hno).2, not_t hb1]; rfl
    have x3 : rtOk a b c = frOk a := by rw [hno, not_t hb1]
    rw [x1, x2, x3]
    exact ⟨.inr rfl, (resL_cell (us := ([.i .i64 (if frOk a then frLo a else 0)] ++ [.i .i64 (if frOk a then frHi a else 0)])) ty80 rfl rfl rfl rfl (resL_tmp rfl resL_nil))⟩
end Go.Proofs.YtcbjmiddangfoaaGreat
/- Plain: the order that two intervals show. -/
namespace Go.Proofs.YtcbjmiddangfoaaGreat
open Go Go.RowKit
def apS (o1 o2 : Bool) (l1 h1 l2 h2 : Int) : Int := if (o1 && o2) = true then (if decide (h1 < l2) = true then -1 else if decide (l1 > h2) = true then 1 else 0) else 0
def apK (o1 o2 : Bool) (l1 h1 l2 h2 : Int) : Bool := (o1 && o2) && (decide (h1 < l2) || decide (l1 > h2))
end Go.Proofs.YtcbjmiddangfoaaGreat
/- radical.apart. -/
namespace Go.Proofs.YtcbjmiddangfoaaGreat
open Go Go.RowKit
theorem xApart_ok {a b c d e f : Rat} (ha : Rz 200 a) (hb : Rz 200 b) (hc : Rz 200 c) (hd : Rz 200 d) (he : Rz 200 e) (hf : Rz 200 f) : Ok Tryz.prog 41 [.a (cR a ++ cR b ++ cR c), .a (cR d ++ cR e ++ cR f)] [.c (.i .i64 (apS (rtOk a b c) (rtOk d e f) (rtLo a b c) (rtHi a b c) (rtLo d e f) (rtHi d e f))), .c (.b (apK (rtOk a b c) (rtOk d e f) (rtLo a b c) (rtHi a b c) (rtLo d e f) (rtHi d e f)))] := by
  refine Ok.of (by kernel_rfl) Tryz.func41 rfl rfl ?_
  rw [show Tryz.f41.ntmps = 39 from rfl, show Tryz.f41.results.toList = [.tmp 4, .tmp 5] from rfl]
  refine dw_seq ?_
  -- region 0
  refine dw_region (by kernel_rfl) ?_
  refine dl_new (sem_box_a rfl rfl) rfl ?_
  refine dl_new (sem_box_a rfl rfl) rfl ?_
  refine dl_r (sem_assign rfl rfl) ?_
  refine dl_r (sem_assign rfl rfl) ?_
  refine dl_end ?_
  refine dw_seq ?_
  -- region 1
  refine dw_region (by kernel_rfl) ?_
  refine dl_r (sem_load (us := (cR a ++ cR b ++ cR c)) ty39 rfl rfl rfl rfl rfl) ?_
  refine dl_r (sem_call rfl rfl (fRoot2_ok (by assumption) (by assumption) (by assumption)) rfl) ?_
  refine dl_r (sem_move rfl rfl) ?_
  refine dl_r (sem_extract rfl rfl rfl) ?_
  refine dl_r (sem_extract rfl rfl rfl) ?_
  refine dl_new (sem_alloc zc80 rfl) rfl ?_
  refine dl_st (sem_store_a ty80 rfl rfl rfl rfl rfl rfl) ?_
  refine dl_r (sem_assign rfl rfl) ?_
  refine dl_end ?_
  refine dw_seq ?_
  -- region 2
  refine dw_region (by kernel_rfl) ?_
  refine dl_r (sem_load (us := (cR d ++ cR e ++ cR f)) ty39 rfl rfl rfl rfl rfl) ?_
  refine dl_r (sem_call rfl rfl (fRoot2_ok (by assumption) (by assumption) (by assumption)) rfl) ?_
  refine dl_r (sem_move rfl rfl) ?_
  refine dl_r (sem_extract rfl rfl rfl) ?_
  refine dl_r (sem_extract rfl rfl rfl) ?_
  refine dl_new (sem_alloc zc80 rfl) rfl ?_
  refine dl_st (sem_store_a ty80 rfl rfl rfl rfl rfl rfl) ?_
  refine dl_r (sem_assign rfl rfl) ?_
  refine dl_end ?_
  refine dw_seq ?_
  refine dw_block ?_
  refine dw_seq ?_
  -- region 3
  refine dw_region (by kernel_rfl) ?_
  refine dl_r (sem_move rfl rfl) ?_
  refine dl_r (sem_not rfl rfl) ?_
  refine dl_rb (sem_move rfl rfl) (fun c1 hb1 => ?_)
  cases c1
  · refine dl_r (sem_move rfl rfl) ?_
    refine dl_r (sem_not rfl rfl) ?_
    refine dl_r (sem_pick rfl rfl rfl rfl) ?_
    refine dl_r (sem_assign rfl rfl) ?_
    refine dl_end ?_
    refine dw_cond rfl (fun hc2 => ?_) (fun hc2 => ?_)
    · refine dw_seq ?_
      -- region 4
      refine dw_region (by kernel_rfl) ?_
      refine dl_r (sem_assign rfl rfl) ?_
      refine dl_r (sem_assign rfl rfl) ?_
      refine dl_end ?_
      refine dw_ret ?_
      -- path fT
      rw [show apS (rtOk a b c) (rtOk d e f) (rtLo a b c) (rtHi a b c) (rtLo d e f) (rtHi d e f) = 0 from by unfold apS; rw [not_f hb1, not_t hc2]; rfl, show apK (rtOk a b c) (rtOk d e f) (rtLo a b c) (rtHi a b c) (rtLo d e f) (rtHi d e f) = false from by unfold apK; rw [not_f hb1, not_t hc2]; rfl]
      exact ⟨.inr rfl, (resL_tmp rfl (resL_tmp rfl resL_nil))⟩
    · refine dw_seq ?_
      -- region 5
      refine dw_region (by kernel_rfl) ?_
      refine dl_r (sem_field fd80_1 rfl rfl) ?_
      refine dl_r (sem_load1 ty2 rfl rfl rfl rfl) ?_
      refine dl_r (sem_field fd80_0 rfl rfl) ?_
      refine dl_r (sem_load1 ty2 rfl rfl rfl rfl) ?_
      refine dl_r (sem_cmp rfl rfl rfl rfl) ?_
      refine dl_r (sem_assign rfl rfl) ?_
      refine dl_end ?_
      refine dw_cond rfl (fun hc3 => ?_) (fun hc3 => ?_)
      · refine dw_seq ?_
        -- region 6
        refine dw_region (by kernel_rfl) ?_
        refine dl_r (sem_assign rfl rfl) ?_
        refine dl_r (sem_assign rfl rfl) ?_
        refine dl_end ?_
        refine dw_ret ?_
        -- path fFT
        rw [show apS (rtOk a b c) (rtOk d e f) (rtLo a b c) (rtHi a b c) (rtLo d e f) (rtHi d e f) = -1 from by unfold apS; rw [not_f hb1, not_f hc2, hc3]; rfl, show apK (rtOk a b c) (rtOk d e f) (rtLo a b c) (rtHi a b c) (rtLo d e f) (rtHi d e f) = true from by unfold apK; rw [not_f hb1, not_f hc2, hc3]; rfl]
        exact ⟨.inr rfl, (resL_tmp rfl (resL_tmp rfl resL_nil))⟩
      · refine dw_seq ?_
        -- region 7
        refine dw_region (by kernel_rfl) ?_
        refine dl_r (sem_field fd80_0 rfl rfl) ?_
        refine dl_r (sem_load1 ty2 rfl rfl rfl rfl) ?_
        refine dl_r (sem_field fd80_1 rfl rfl) ?_
        refine dl_r (sem_load1 ty2 rfl rfl rfl rfl) ?_
        refine dl_r (sem_cmp rfl rfl rfl rfl) ?_
        refine dl_r (sem_assign rfl rfl) ?_
        refine dl_end ?_
        refine dw_cond rfl (fun hc4 => ?_) (fun hc4 => ?_)
        · refine dw_seq ?_
          -- region 8
          refine dw_region (by kernel_rfl) ?_
          refine dl_r (sem_assign rfl rfl) ?_
          refine dl_r (sem_assign rfl rfl) ?_
          refine dl_end ?_
          refine dw_ret ?_
          -- path fFFT
          rw [show apS (rtOk a b c) (rtOk d e f) (rtLo a b c) (rtHi a b c) (rtLo d e f) (rtHi d e f) = 1 from by unfold apS; rw [not_f hb1, not_f hc2, hc3, hc4]; rfl, show apK (rtOk a b c) (rtOk d e f) (rtLo a b c) (rtHi a b c) (rtLo d e f) (rtHi d e f) = true from by unfold apK; rw [not_f hb1, not_f hc2, hc3, hc4]; rfl]
          exact ⟨.inr rfl, (resL_tmp rfl (resL_tmp rfl resL_nil))⟩
        · refine dw_skip ?_
          refine dw_seq ?_
          -- region 9
          refine dw_region (by kernel_rfl) ?_
          refine dl_r (sem_assign rfl rfl) ?_
          refine dl_r (sem_assign rfl rfl) ?_
          refine dl_end ?_
          refine dw_ret ?_
          -- path fFFF
          rw [show apS (rtOk a b c) (rtOk d e f) (rtLo a b c) (rtHi a b c) (rtLo d e f) (rtHi d e f) = 0 from by unfold apS; rw [not_f hb1, not_f hc2, hc3, hc4]; rfl, show apK (rtOk a b c) (rtOk d e f) (rtLo a b c) (rtHi a b c) (rtLo d e f) (rtHi d e f) = false from by unfold apK; rw [not_f hb1, not_f hc2, hc3, hc4]; rfl]
          exact ⟨.inr rfl, (resL_tmp rfl (resL_tmp rfl resL_nil))⟩
  · refine dl_skip (sem_skip rfl) ?_
    refine dl_skip (sem_skip rfl) ?_
    refine dl_r (sem_pick rfl rfl rfl rfl) ?_
    refine dl_r (sem_assign rfl rfl) ?_
    refine dl_end ?_
    refine dw_true rfl ?_
    refine dw_seq ?_
    -- region 4
    refine dw_region (by kernel_rfl) ?_
    refine dl_r (sem_assign rfl rfl) ?_
    refine dl_r (sem_assign rfl rfl) ?_
    refine dl_end ?_
    refine dw_ret ?_
    -- path t
    rw [show apS (rtOk a b c) (rtOk d e f) (rtLo a b c) (rtHi a b c) (rtLo d e f) (rtHi d e f) = 0 from by unfold apS; rw [not_t hb1]; rfl, show apK (rtOk a b c) (rtOk d e f) (rtLo a b c) (rtHi a b c) (rtLo d e f) (rtHi d e f) = false from by unfold apK; rw [not_t hb1]; rfl]
    exact ⟨.inr rfl, (resL_tmp rfl (resL_tmp rfl resL_nil))⟩
end Go.Proofs.YtcbjmiddangfoaaGreat
/- Data: calls that write a box of the caller through a pointer: the contract; radical's (*known).with. -/
namespace Go.Proofs.YtcbjmiddangfoaaGreat
open Go Go.RowKit
/-- Two boxes made behind a cell that was set. -/
theorem two_behind (w : World) (b : Nat) (v : Value) (U T : TypeId) (cs ds : Array Value) (u : Value) (hlt : b < w.heap.size) (hb : w.heap[b]? = some (.cells #[u] T (0, 0))) :
    (((w.setCell ⟨b, 0, none⟩ v).alloc (.cells cs U)).alloc (.cells ds U)).heap[w.heap.size + 1]? = some (.cells ds U (0, 0)) ∧
    (((w.setCell ⟨b, 0, none⟩ v).alloc (.cells cs U)).alloc (.cells ds U)).heap[b]? = some (.cells #[v] T (0, 0)) ∧ Mid b w (((w.setCell ⟨b, 0, none⟩ v).alloc (.cells cs U)).alloc (.cells ds U)) := by
  have hs : (w.setCell ⟨b, 0, none⟩ v).heap.size = w.heap.size := by simp
  refine ⟨?_, ?_, ?_⟩
  · have := heap_alloc_new ((w.setCell ⟨b, 0, none⟩ v).alloc (.cells cs U)) (.cells ds U)
    rw [heap_alloc_size, hs] at this
    exact this
  · rw [Below.heap_alloc _ _ _ (by rw [heap_alloc_size, hs]; omega), Below.heap_alloc _ _ _ (by rw [hs]; omega)]
    exact heap_setCell_same w b 0 #[u] T v hb
  · refine ⟨rfl, rfl, rfl, by rw [heap_alloc_size, heap_alloc_size, hs]; omega, fun c hc hne => ?_⟩
    rw [Below.heap_alloc _ _ _ (by rw [heap_alloc_size, hs]; omega), Below.heap_alloc _ _ _ (by rw [hs]; omega)]
    exact heap_setCell_other w ⟨b, 0, none⟩ c v hne
set_option maxRecDepth 10000 in
/-- with: the box holds ok and what came in. -/
theorem with_any (b : Nat) (ok c : Bool) (lo hi : Int) (w : World) (hb : w.heap[b]? = some (.cells #[.bool ok] 78 (0, 0))) :
    Calls Tryz.prog 56 #[.pointer (some ⟨b, 0, none⟩), .agg #[.int .i64 lo, .int .i64 hi], .bool c] w fun e w' =>
      e = .returned (.agg #[.int .i64 lo, .int .i64 hi]) ∧ w'.heap[b]? = some (.cells #[.bool (ok && c)] 78 (0, 0)) ∧ Mid b w w' := by
  have hlt : b < w.heap.size := (Array.getElem?_eq_some_iff.1 hb).1
  have e1 : ((w.alloc (.cells #[.int .i64 lo, .int .i64 hi] 80)).alloc (.cells #[.int .i64 0, .int .i64 0] 80)).heap[b]? = some (.cells #[.bool ok] 78 (0, 0)) := by
    rw [Below.heap_alloc _ _ _ (by simp; omega), Below.heap_alloc _ _ _ hlt]; exact hb
  have c1 : ((w.alloc (.cells #[.int .i64 lo, .int .i64 hi] 80)).alloc (.cells #[.int .i64 0, .int .i64 0] 80)).cell? ⟨b, 0, none⟩ = some (.bool ok) := (cells_of_box e1 0).trans rfl
  have f0 : w.frozen? ⟨b, 0, none⟩ = false := Bk.frozen (t := 78) (cs := #[.bool ok]) hb 0
  cases ok
  · go_enter Tryz.func56, Tryz.ntmps56
    go_wp2_with fail
    obtain ⟨h1, h2, h3⟩ := two_behind w b (.bool false) 80 78 #[.int .i64 lo, .int .i64 hi] #[.int .i64 lo, .int .i64 hi] _ hlt hb
    have k0 := (cells_of_box h1 0).trans rfl
    have k1 := (cells_of_box h1 1).trans rfl
    refine ⟨rfl, .agg #[.int .i64 lo, .int .i64 hi], ?_, rfl, h2, h3⟩
    simp [results, Tryz.results56, go_sem, k0, k1]
    try rfl
  · go_enter Tryz.func56, Tryz.ntmps56
    go_wp2_with fail
    obtain ⟨h1, h2, h3⟩ := two_behind w b (.bool c) 80 78 #[.int .i64 lo, .int .i64 hi] #[.int .i64 lo, .int .i64 hi] _ hlt hb
    have k0 := (cells_of_box h1 0).trans rfl
    have k1 := (cells_of_box h1 1).trans rfl
    refine ⟨rfl, .agg #[.int .i64 lo, .int .i64 hi], ?_, rfl, h2, h3⟩
    simp [results, Tryz.results56, go_sem, k0, k1]
    try rfl

/-- THE CONTRACT OF A CALL whose first argument points to a box of the caller: what the box holds before and behind. -/
structure OkP (P : Program) (f : FuncId) (U : TypeId) (cs0 cs1 : List CellD) (ds rs : List D0) : Prop where
  cal : callable P f = true
  run : ∀ (V : Nat → Prop) (b : Nat) (bs : Array Value) (vs : Array Value) (vl : List Value) (w : World), vs.toList = .pointer (some ⟨b, 0, none⟩) :: vl → (∀ c, V c → c < w.heap.size) → V b → w.heap[b]? = some (.cells bs U (0, 0)) → RdCs V w bs.toList cs0 → RdL V w vl ds →
    Calls P f vs w fun e w' => ∃ v, ∃ bs' : Array Value, e = .returned v ∧ w'.heap[b]? = some (.cells bs' U (0, 0)) ∧ Mid b w w' ∧ RdCs V w' bs'.toList cs1 ∧ RdR V w' v rs

section
variable {P : Program} {ops : Array Oper} {T : TF} {B : BF}
theorem sem_callp {dst : Option Nat} {fo x : Operand} {xs : List Operand} {args : Array Operand} {at_ : Array TypeId} {ty : TypeId} {pos : String} {af : Array Edge} {g : Option (Nat × Bool)} {f : FuncId} {k : Nat} {U : TypeId} {cs0 cs1 : List CellD} {ds rs : List D0}
    (hf : opd T fo = some (.v (.c (.f f)))) (hargs : args.toList = x :: xs) (hx : opd T x = some (.p k 0)) (ha : argsD T xs = some ds) (hb : B k = some (U, cs0)) (hok : OkP P f U cs0 cs1 ds rs) (hg : gd ops ⟨dst, .call ⟨.value fo, args, at_⟩, ty, pos, af, g⟩ T = some true) :
    Sem P ops ⟨dst, .call ⟨.value fo, args, at_⟩, ty, pos, af, g⟩ T B (.rs k U cs1 (resD rs)) := by
  refine ⟨by unfold resD; split <;> rfl, ⟨_, hb⟩, fun V β a w hs => ⟨gd_want hs hg, ?_⟩⟩
  have hin : ∀ y ∈ x :: xs, y ∈ (⟨dst, .call ⟨.value fo, args, at_⟩, ty, pos, af, g⟩ : Oper).op.operands := fun y hy => by
    have hx2 : y ∈ args := Array.mem_toList_iff.1 (by rw [hargs]; exact hy)
    simp [Op.operands, Call.operands, hx2]
  have h1 := RdC.func_eq (opd_reads hs (x := fo) (by simp [Op.operands, Call.operands]) hf)
  have h2 := argsD_reads hs xs ds (fun y hy => hin y (List.mem_cons_of_mem _ hy)) ha
  have h3 : a.eval x = .pointer (some ⟨β k, 0, none⟩) := opd_reads hs (hin x (List.mem_cons_self ..)) hx
  obtain ⟨hV, bs, e, hr⟩ := hs.box k U cs0 hb
  have hc := hok.cal
  unfold callable at hc
  cases hfn : P.funcs[f]? with
  | none => rw [hfn] at hc; cases hc
  | some fn =>
    rw [hfn] at hc
    simp only [Bool.and_eq_true, bne_iff_ne, ne_eq, Bool.not_eq_true'] at hc
    have hrun : (execOp a.eval ⟨dst, .call ⟨.value fo, args, at_⟩, ty, pos, af, g⟩).run P w = .ok (.enter f (args.map a.eval)) w := by
      have hb2 : fn.body ≠ none := by have := hc.2; cases hbb : fn.body with
        | none => rw [hbb] at this; cases this
        | some c => simp
      simp [execOp, resolve, h1, Deferred.ofValue, invoke, callFunc, program, Sem.run, hfn, hc.1, hb2]
    unfold Gives
    rw [hrun]
    refine (hok.run V (β k) bs (args.map a.eval) (xs.map a.eval) w (by rw [Array.toList_map, hargs, List.map_cons, h3]) hs.av hV e hr h2).mono ?_
    rintro e w' ⟨v, bs', rfl, hbl, hm, hr1, hr2⟩
    refine ⟨v, rfl, bs', hbl, hm, hr1, ?_⟩
    unfold RdR at hr2
    split at hr2
    · exact hr2
    · rename_i hne
      have e2 : resD rs = .t rs := by
        unfold resD
        split
        · rename_i d; exact absurd rfl (hne d)
        · rfl
      rw [e2]; exact hr2
/-- A pointer into a box is not nil. -/
theorem sem_nilCheck {dst : Option Nat} {x : Operand} {ty : TypeId} {pos : String} {af : Array Edge} {g : Option (Nat × Bool)} {k off : Nat}
    (hx : opd T x = some (.p k off)) (hg : gd ops ⟨dst, .nilCheck x, ty, pos, af, g⟩ T = some true) : Sem P ops ⟨dst, .nilCheck x, ty, pos, af, g⟩ T B (.r (.p k off)) :=
  sem_pure hg (fun l e => opd_ptr (ops := ops) (o := ⟨dst, .nilCheck x, ty, pos, af, g⟩) (by simp [Op.operands]) hx e)
    (fun V β a w hs => by
      have hp : a.eval x = .pointer (some ⟨β k, off, none⟩) := opd_reads hs (x := x) (by simp [Op.operands]) hx
      exact ⟨_, by simp [execOp, hp], rfl⟩)
end
/-- with. -/
theorem with_ok (ok c : Bool) (lo hi : Int) : OkP Tryz.prog 56 78 [.b ok] [.b (ok && c)] [.a [.i .i64 lo, .i .i64 hi], .c (.b c)] [.a [.i .i64 lo, .i .i64 hi]] :=
  ⟨by kernel_rfl, fun V b bs vs vl w hvs hV hb hbl hcs hds => by
    obtain ⟨vs⟩ := vs
    replace hvs : vs = _ := hvs
    subst hvs
    match vl, hds with
    | [], hds => have := hds.1; simp at this
    | v1 :: vl, hds =>
    obtain ⟨h1, hds⟩ := hds.uncons
    match vl, hds with
    | [], hds => have := hds.1; simp at this
    | v2 :: vl, hds =>
    obtain ⟨h2, hds⟩ := hds.uncons
    have hn : vl = [] := List.length_eq_zero_iff.1 hds.1
    subst hn
    have h2 := RdC.bool_eq h2
    subst h2
    obtain ⟨cs, rfl, h1⟩ := h1
    obtain ⟨cs⟩ := cs
    obtain ⟨bs⟩ := bs
    match cs, h1 with
    | [], h1 => have := h1.1; simp at this
    | x1 :: cs, h1 =>
    obtain ⟨g1, h1⟩ := h1.uncons
    match cs, h1 with
    | [], h1 => have := h1.1; simp at this
    | x2 :: cs, h1 =>
    obtain ⟨g2, h1⟩ := h1.uncons
    have hn : cs = [] := List.length_eq_zero_iff.1 h1.1
    subst hn
    have g1 := RdC.int_eq g1
    have g2 := RdC.int_eq g2
    subst g1 g2
    match bs, hcs with
    | [], hcs => have := hcs.1; simp at this
    | y1 :: bs, hcs =>
    obtain ⟨g3, hcs⟩ := hcs.uncons
    have hn : bs = [] := List.length_eq_zero_iff.1 hcs.1
    subst hn
    have g3 := RdC.bool_eq g3
    subst g3
    refine (with_any b ok c lo hi w hbl).mono ?_
    rintro e w' ⟨rfl, h3, h4⟩
    exact ⟨_, _, rfl, h3, h4, RdCs.cons (.b _) RdCs.nil, _, rfl, RdCs.cons (.i _ _) (RdCs.cons (.i _ _) RdCs.nil)⟩⟩
end Go.Proofs.YtcbjmiddangfoaaGreat
/- Plain: radical.quick: intervals through the sum. -/
namespace Go.Proofs.YtcbjmiddangfoaaGreat
open Go Go.RowKit
def Bd (x : Int) : Prop := -2305843009213693952 ≤ x ∧ x ≤ 2305843009213693952
theorem Bd.zero : Bd 0 := by unfold Bd; omega
def gL (e : Rat) : Int := if frOk e then frLo e else 0
def gH (e : Rat) : Int := if frOk e then frHi e else 0
theorem gl_bd (e : Rat) : Bd (gL e) := by
  unfold gL; split
  · rename_i h; have := fr_bd h; exact ⟨this.1, this.2.1⟩
  · exact Bd.zero
theorem gh_bd (e : Rat) : Bd (gH e) := by
  unfold gH; split
  · rename_i h; have := fr_bd h; exact ⟨this.2.2.1, this.2.2.2⟩
  · exact Bd.zero
theorem g_le (e : Rat) : gL e ≤ gH e := by
  unfold gL gH; split
  · exact fr_le e
  · exact Int.le_refl _
theorem gh_nneg {e : Rat} (h : ¬ e < 0) : ¬ gH e < 0 := by
  unfold gH; split
  · have := frHi_nonneg h; omega
  · omega
theorem ml_bd (e : Rat) : Bd (sqLo (gL e)) := by
  have := sq_bd (x := gL e) (y := 0) (gl_bd e).2 (by omega) (by omega)
  unfold Bd; omega
theorem mh_bd {e : Rat} (h : ¬ e < 0) : Bd (sqHi (gH e)) := by
  have := sq_bd (x := 0) (y := gH e) (by omega) (by have := gh_nneg h; omega) (gh_bd e).2
  unfold Bd; omega
theorem sc_le (x y : Int) : scLo x y ≤ scHi x y := by
  have h : scP x y / 65536 ≤ scUp (scP x y) := by unfold scUp; split <;> omega
  unfold scLo scHi; split <;> omega
theorem lh_le (x y u v : Int) : loN x y u v 4 ≤ hiN x y u v 4 := by
  exact Int.le_trans (Int.min_le_right _ _) (Int.le_trans (sc_le _ _) (Int.le_max_right _ _))
def pL (x y u v : Int) : Int := if okN x y u v 4 then loN x y u v 4 else 0
def pH (x y u v : Int) : Int := if okN x y u v 4 then hiN x y u v 4 else 0
theorem pl_bd (x y u v : Int) : Bd (pL x y u v) := by
  unfold pL; split
  · rename_i h; have := n_bd 4 h; exact ⟨this.1, this.2.1⟩
  · exact Bd.zero
theorem ph_bd (x y u v : Int) : Bd (pH x y u v) := by
  unfold pH; split
  · rename_i h; have := n_bd 4 h; exact ⟨this.2.2.1, this.2.2.2⟩
  · exact Bd.zero
theorem p_le (x y u v : Int) : pL x y u v ≤ pH x y u v := by
  unfold pL pH; split
  · exact lh_le x y u v
  · exact Int.le_refl _
def aL (x y u v : Int) : Int := if okI (x + u) (y + v) then x + u else 0
def aH (x y u v : Int) : Int := if okI (x + u) (y + v) then y + v else 0
theorem al_bd {x y u v : Int} (h : x ≤ y) (h2 : u ≤ v) : Bd (aL x y u v) := by
  unfold aL; split
  · rename_i h3; have := ok_bd h3; unfold Bd; omega
  · exact Bd.zero
theorem ah_bd {x y u v : Int} (h : x ≤ y) (h2 : u ≤ v) : Bd (aH x y u v) := by
  unfold aH; split
  · rename_i h3; have := ok_bd h3; unfold Bd; omega
  · exact Bd.zero
theorem a_le {x y u v : Int} (h : x ≤ y) (h2 : u ≤ v) : aL x y u v ≤ aH x y u v := by
  unfold aL aH; split <;> omega
theorem gFromRat_ok {e : Rat} (h : Rz 200 e) : Ok Tryz.prog 58 [dR e] [.a ([.i .i64 (gL e)] ++ [.i .i64 (gH e)]), .c (.b (frOk e))] := fFromRat_ok h
theorem gSqrt_ok {e : Rat} (h : ¬ e < 0) : Ok Tryz.prog 57 [.a ([.i .i64 (gL e)] ++ [.i .i64 (gH e)])] [.a ([.i .i64 (sqLo (gL e))] ++ [.i .i64 (sqHi (gH e))]), .c (.b true)] :=
  fSqrt_ok (gl_bd e).1 (gl_bd e).2 (gh_bd e).1 (gh_bd e).2 (gh_nneg h)
theorem gMul_ok {x y u v : Int} (h1 : Bd x) (h2 : Bd y) (h3 : Bd u) (h4 : Bd v) : Ok Tryz.prog 59 [.a ([.i .i64 x] ++ [.i .i64 y]), .a ([.i .i64 u] ++ [.i .i64 v])] [.a ([.i .i64 (pL x y u v)] ++ [.i .i64 (pH x y u v)]), .c (.b (okN x y u v 4))] :=
  fMul_ok h1.1 h1.2 h2.1 h2.2 h3.1 h3.2 h4.1 h4.2
theorem gAdd_ok {x y u v : Int} (h1 : Bd x) (h2 : Bd y) (h3 : Bd u) (h4 : Bd v) : Ok Tryz.prog 60 [.a ([.i .i64 x] ++ [.i .i64 y]), .a ([.i .i64 u] ++ [.i .i64 v])] [.a ([.i .i64 (aL x y u v)] ++ [.i .i64 (aH x y u v)]), .c (.b (okI (x + u) (y + v)))] :=
  fAdd_ok h1.1 h1.2 h2.1 h2.2 h3.1 h3.2 h4.1 h4.2
theorem gWith_ok {ok c : Bool} {x y : Int} : OkP Tryz.prog 56 78 [.b ok] [.b (ok && c)] [.a ([.i .i64 x] ++ [.i .i64 y]), .c (.b c)] [.a ([.i .i64 x] ++ [.i .i64 y])] := with_ok ok c x y
-- the parts
def qmL (M : Rat) : Int := sqLo (gL M)
def qmH (M : Rat) : Int := sqHi (gH M)
def qbL (B M : Rat) : Int := pL (gL B) (gH B) (sqLo (gL M)) (sqHi (gH M))
def qbH (B M : Rat) : Int := pH (gL B) (gH B) (sqLo (gL M)) (sqHi (gH M))
def qbK (B M : Rat) : Bool := okN (gL B) (gH B) (sqLo (gL M)) (sqHi (gH M)) 4
def qmnL (M N : Rat) : Int := pL (sqLo (gL M)) (sqHi (gH M)) (sqLo (gL N)) (sqHi (gH N))
def qmnH (M N : Rat) : Int := pH (sqLo (gL M)) (sqHi (gH M)) (sqLo (gL N)) (sqHi (gH N))
def qmnK (M N : Rat) : Bool := okN (sqLo (gL M)) (sqHi (gH M)) (sqLo (gL N)) (sqHi (gH N)) 4
def qdL (D M N : Rat) : Int := pL (gL D) (gH D) (qmnL M N) (qmnH M N)
def qdH (D M N : Rat) : Int := pH (gL D) (gH D) (qmnL M N) (qmnH M N)
def qdK (D M N : Rat) : Bool := okN (gL D) (gH D) (qmnL M N) (qmnH M N) 4
def qabL (A B M : Rat) : Int := aL (gL A) (gH A) (qbL B M) (qbH B M)
def qabH (A B M : Rat) : Int := aH (gL A) (gH A) (qbL B M) (qbH B M)
def qabK (A B M : Rat) : Bool := okI (gL A + qbL B M) (gH A + qbH B M)
def qcdL (C D M N : Rat) : Int := aL (qbL C N) (qbH C N) (qdL D M N) (qdH D M N)
def qcdH (C D M N : Rat) : Int := aH (qbL C N) (qbH C N) (qdL D M N) (qdH D M N)
def qcdK (C D M N : Rat) : Bool := okI (qbL C N + qdL D M N) (qbH C N + qdH D M N)
def qsL (A B C D M N : Rat) : Int := aL (qabL A B M) (qabH A B M) (qcdL C D M N) (qcdH C D M N)
def qsH (A B C D M N : Rat) : Int := aH (qabL A B M) (qabH A B M) (qcdL C D M N) (qcdH C D M N)
def qsK (A B C D M N : Rat) : Bool := okI (qabL A B M + qcdL C D M N) (qabH A B M + qcdH C D M N)
def qK1 (M N : Rat) : Bool := frOk M && frOk N
def qK2 (B C D M N : Rat) : Bool := qK1 M N && (frOk B && (qbK B M && (frOk C && (qbK C N && (frOk D && (qmnK M N && qdK D M N))))))
def qK3 (A B C D M N : Rat) : Bool := qK2 B C D M N && (frOk A && (qabK A B M && (qcdK C D M N && qsK A B C D M N)))
def qkK (A B C D M N : Rat) : Bool := qK3 A B C D M N && skI (qsL A B C D M N) (qsH A B C D M N)
def qkS (A B C D M N : Rat) : Int := if qK3 A B C D M N then sgI (qsL A B C D M N) (qsH A B C D M N) else 0
theorem qk_no {A B C D M N : Rat} (h : qK3 A B C D M N = false) : qkS A B C D M N = 0 ∧ qkK A B C D M N = false := by
  unfold qkS qkK; rw [h]; exact ⟨rfl, rfl⟩
theorem qk_yes {A B C D M N : Rat} (h : qK3 A B C D M N = true) : qkS A B C D M N = sgI (qsL A B C D M N) (qsH A B C D M N) ∧ qkK A B C D M N = skI (qsL A B C D M N) (qsH A B C D M N) := by
  unfold qkS qkK; rw [h]; exact ⟨rfl, rfl⟩
theorem qk_no2 {A B C D M N : Rat} (h : qK2 B C D M N = false) : qK3 A B C D M N = false := by unfold qK3; rw [h]; rfl
theorem qk_no1 {A B C D M N : Rat} (h : qK1 M N = false) : qK3 A B C D M N = false := qk_no2 (by unfold qK2; rw [h]; rfl)
theorem not_tf {b c : Bool} (h : (!b) = true) (e : c = b) : c = false := by rw [e]; simpa using h
theorem not_ff {b c : Bool} (h : (!b) = false) (e : c = b) : c = true := by rw [e]; simpa using h
-- those that the program's walk prints
def gbL (x y u v : Int) : Int := pL x y u v
end Go.Proofs.YtcbjmiddangfoaaGreat
/- radical.quick. -/
namespace Go.Proofs.YtcbjmiddangfoaaGreat
open Go Go.RowKit
theorem xQuick_ok {A B C D M N : Rat} (hA : Rz 200 A) (hB : Rz 200 B) (hC : Rz 200 C) (hD : Rz 200 D) (hM : Rz 200 M) (hN : Rz 200 N) (hm : ¬ M < 0) (hn : ¬ N < 0) : Ok Tryz.prog 27 [.a (cR A ++ cR B ++ cR C ++ cR D ++ cR M ++ cR N)] [.c (.i .i64 (qkS A B C D M N)), .c (.b (qkK A B C D M N))] := by
  refine Ok.of (by kernel_rfl) Tryz.func27 rfl rfl ?_
  rw [show Tryz.f27.ntmps = 126 from rfl, show Tryz.f27.results.toList = [.tmp 2, .tmp 3] from rfl]
  refine dw_seq ?_
  -- region 0
  refine dw_region (by kernel_rfl) ?_
  refine dl_new (sem_box_a rfl rfl) rfl ?_
  refine dl_r (sem_assign rfl rfl) ?_
  refine dl_r (sem_assign rfl rfl) ?_
  refine dl_end ?_
  refine dw_seq ?_
  -- region 1
  refine dw_region (by kernel_rfl) ?_
  refine dl_r (sem_build (us := ([.b true])) fs78 zc78 rfl rfl rfl) ?_
  refine dl_new (sem_box_a rfl rfl) rfl ?_
  refine dl_r (sem_assign rfl rfl) ?_
  refine dl_end ?_
  refine dw_seq ?_
  -- region 2
  refine dw_region (by kernel_rfl) ?_
  refine dl_r (sem_move rfl rfl) ?_
  refine dl_r (sem_move rfl rfl) ?_
  refine dl_r (sem_field fd28_4 rfl rfl) ?_
  refine dl_r (sem_load (us := cR M) ty26 rfl rfl rfl rfl rfl) ?_
  refine dl_r (sem_call rfl rfl (gFromRat_ok (by first | assumption | exact Rz.mono hM (by decide))) rfl) ?_
  refine dl_r (sem_extract rfl rfl rfl) ?_
  refine dl_r (sem_extract rfl rfl rfl) ?_
  refine dl_rs (sem_callp rfl rfl rfl rfl rfl (gWith_ok) rfl) ?_
  refine dl_r (sem_call rfl rfl (gSqrt_ok (by assumption)) rfl) ?_
  refine dl_r (sem_extract rfl rfl rfl) ?_
  refine dl_r (sem_extract rfl rfl rfl) ?_
  refine dl_rs (sem_callp rfl rfl rfl rfl rfl (gWith_ok) rfl) ?_
  refine dl_new (sem_alloc zc80 rfl) rfl ?_
  refine dl_st (sem_store_a ty80 rfl rfl rfl rfl rfl rfl) ?_
  refine dl_end ?_
  refine dw_seq ?_
  -- region 3
  refine dw_region (by kernel_rfl) ?_
  refine dl_r (sem_move rfl rfl) ?_
  refine dl_r (sem_move rfl rfl) ?_
  refine dl_r (sem_field fd28_5 rfl rfl) ?_
  refine dl_r (sem_load (us := cR N) ty26 rfl rfl rfl rfl rfl) ?_
  refine dl_r (sem_call rfl rfl (gFromRat_ok (by first | assumption | exact Rz.mono hN (by decide))) rfl) ?_
  refine dl_r (sem_extract rfl rfl rfl) ?_
  refine dl_r (sem_extract rfl rfl rfl) ?_
  refine dl_rs (sem_callp rfl rfl rfl rfl rfl (gWith_ok) rfl) ?_
  refine dl_r (sem_call rfl rfl (gSqrt_ok (by assumption)) rfl) ?_
  refine dl_r (sem_extract rfl rfl rfl) ?_
  refine dl_r (sem_extract rfl rfl rfl) ?_
  refine dl_rs (sem_callp rfl rfl rfl rfl rfl (gWith_ok) rfl) ?_
  refine dl_new (sem_alloc zc80 rfl) rfl ?_
  refine dl_st (sem_store_a ty80 rfl rfl rfl rfl rfl rfl) ?_
  refine dl_end ?_
  refine dw_seq ?_
  refine dw_seq ?_
  -- region 4
  refine dw_region (by kernel_rfl) ?_
  refine dl_r (sem_move rfl rfl) ?_
  refine dl_r (sem_nilCheck rfl rfl) ?_
  refine dl_r (sem_field fd78_0 rfl rfl) ?_
  refine dl_r (sem_load1 ty4 rfl rfl rfl rfl) ?_
  refine dl_r (sem_not rfl rfl) ?_
  refine dl_end ?_
  refine dw_cond rfl (fun hc1 => ?_) (fun hc1 => ?_)
  · refine dw_seq ?_
    -- region 5
    refine dw_region (by kernel_rfl) ?_
    refine dl_r (sem_assign rfl rfl) ?_
    refine dl_r (sem_assign rfl rfl) ?_
    refine dl_end ?_
    refine dw_ret ?_
    -- path T
    have hk : qK3 A B C D M N = false := qk_no1 (not_tf hc1 (by unfold qK1; simp only [Bool.true_and, Bool.and_true]; try rfl))
    rw [(qk_no hk).1, (qk_no hk).2]
    exact ⟨.inr rfl, (resL_tmp rfl (resL_tmp rfl resL_nil))⟩
  · refine dw_skip ?_
    refine dw_seq ?_
    -- region 6
    refine dw_draw 14 [12] follows_mixed (by kernel_rfl) rfl rfl ?_
    refine dq_r (sem_move rfl rfl) ?_
    refine dq_r (sem_move rfl rfl) ?_
    refine dq_r (sem_field fd28_1 rfl rfl) ?_
    refine dq_r (sem_load (us := cR B) ty26 rfl rfl rfl rfl rfl) ?_
    refine dq_r (sem_call rfl rfl (gFromRat_ok (by first | assumption | exact Rz.mono hB (by decide))) rfl) ?_
    refine dq_r (sem_extract rfl rfl rfl) ?_
    refine dq_r (sem_extract rfl rfl rfl) ?_
    refine dq_rs (sem_callp rfl rfl rfl rfl rfl (gWith_ok) rfl) rfl rfl rfl rfl rfl (by kernel_rfl) ?_
    refine dq_r (sem_load (us := ([.i .i64 (sqLo (gL M))] ++ [.i .i64 (sqHi (gH M))])) ty80 rfl rfl rfl rfl rfl) ?_
    refine dq_r (sem_call rfl rfl (gMul_ok (gl_bd _) (gh_bd _) (ml_bd _) (mh_bd (by assumption))) rfl) ?_
    refine dq_r (sem_extract rfl rfl rfl) ?_
    refine dq_r (sem_extract rfl rfl rfl) ?_
    refine dq_rs (sem_callp rfl rfl rfl rfl rfl (gWith_ok) rfl) rfl rfl rfl rfl rfl (by kernel_rfl) ?_
    refine dq_new (sem_alloc zc80 rfl) rfl ?_
    refine dq_end ?_
    refine dl_start3 ?_
    refine dl_st (sem_store_a ty80 rfl rfl rfl rfl rfl rfl) ?_
    refine dl_end ?_
    refine dw_seq ?_
    -- region 7
    refine dw_draw 14 [12] follows_mixed (by kernel_rfl) rfl rfl ?_
    refine dq_r (sem_move rfl rfl) ?_
    refine dq_r (sem_move rfl rfl) ?_
    refine dq_r (sem_field fd28_2 rfl rfl) ?_
    refine dq_r (sem_load (us := cR C) ty26 rfl rfl rfl rfl rfl) ?_
    refine dq_r (sem_call rfl rfl (gFromRat_ok (by first | assumption | exact Rz.mono hC (by decide))) rfl) ?_
    refine dq_r (sem_extract rfl rfl rfl) ?_
    refine dq_r (sem_extract rfl rfl rfl) ?_
    refine dq_rs (sem_callp rfl rfl rfl rfl rfl (gWith_ok) rfl) rfl rfl rfl rfl rfl (by kernel_rfl) ?_
    refine dq_r (sem_load (us := ([.i .i64 (sqLo (gL N))] ++ [.i .i64 (sqHi (gH N))])) ty80 rfl rfl rfl rfl rfl) ?_
    refine dq_r (sem_call rfl rfl (gMul_ok (gl_bd _) (gh_bd _) (ml_bd _) (mh_bd (by assumption))) rfl) ?_
    refine dq_r (sem_extract rfl rfl rfl) ?_
    refine dq_r (sem_extract rfl rfl rfl) ?_
    refine dq_rs (sem_callp rfl rfl rfl rfl rfl (gWith_ok) rfl) rfl rfl rfl rfl rfl (by kernel_rfl) ?_
    refine dq_new (sem_alloc zc80 rfl) rfl ?_
    refine dq_end ?_
    refine dl_start3 ?_
    refine dl_st (sem_store_a ty80 rfl rfl rfl rfl rfl rfl) ?_
    refine dl_end ?_
    refine dw_seq ?_
    -- region 8
    refine dw_draw 20 [12] follows_mixed (by kernel_rfl) rfl rfl ?_
    refine dq_r (sem_move rfl rfl) ?_
    refine dq_r (sem_move rfl rfl) ?_
    refine dq_r (sem_field fd28_3 rfl rfl) ?_
    refine dq_r (sem_load (us := cR D) ty26 rfl rfl rfl rfl rfl) ?_
    refine dq_r (sem_call rfl rfl (gFromRat_ok (by first | assumption | exact Rz.mono hD (by decide))) rfl) ?_
    refine dq_r (sem_extract rfl rfl rfl) ?_
    refine dq_r (sem_extract rfl rfl rfl) ?_
    refine dq_rs (sem_callp rfl rfl rfl rfl rfl (gWith_ok) rfl) rfl rfl rfl rfl rfl (by kernel_rfl) ?_
    refine dq_r (sem_move rfl rfl) ?_
    refine dq_r (sem_load (us := ([.i .i64 (sqLo (gL M))] ++ [.i .i64 (sqHi (gH M))])) ty80 rfl rfl rfl rfl rfl) ?_
    refine dq_r (sem_load (us := ([.i .i64 (sqLo (gL N))] ++ [.i .i64 (sqHi (gH N))])) ty80 rfl rfl rfl rfl rfl) ?_
    refine dq_r (sem_call rfl rfl (gMul_ok (ml_bd _) (mh_bd (by assumption)) (ml_bd _) (mh_bd (by assumption))) rfl) ?_
    refine dq_r (sem_extract rfl rfl rfl) ?_
    refine dq_r (sem_extract rfl rfl rfl) ?_
    refine dq_rs (sem_callp rfl rfl rfl rfl rfl (gWith_ok) rfl) rfl rfl rfl rfl rfl (by kernel_rfl) ?_
    refine dq_r (sem_call rfl rfl (gMul_ok (gl_bd _) (gh_bd _) (pl_bd _ _ _ _) (ph_bd _ _ _ _)) rfl) ?_
    refine dq_r (sem_extract rfl rfl rfl) ?_
    refine dq_r (sem_extract rfl rfl rfl) ?_
    refine dq_rs (sem_callp rfl rfl rfl rfl rfl (gWith_ok) rfl) rfl rfl rfl rfl rfl (by kernel_rfl) ?_
    refine dq_new (sem_alloc zc80 rfl) rfl ?_
    refine dq_end ?_
    refine dl_start4 ?_
    refine dl_st (sem_store_a ty80 rfl rfl rfl rfl rfl rfl) ?_
    refine dl_end ?_
    refine dw_seq ?_
    refine dw_seq ?_
    -- region 9
    refine dw_region (by kernel_rfl) ?_
    refine dl_r (sem_move rfl rfl) ?_
    refine dl_r (sem_nilCheck rfl rfl) ?_
    refine dl_r (sem_field fd78_0 rfl rfl) ?_
    refine dl_r (sem_load1 ty4 rfl rfl rfl rfl) ?_
    refine dl_r (sem_not rfl rfl) ?_
    refine dl_end ?_
    refine dw_cond rfl (fun hc2 => ?_) (fun hc2 => ?_)
    · refine dw_seq ?_
      -- region 10
      refine dw_region (by kernel_rfl) ?_
      refine dl_r (sem_assign rfl rfl) ?_
      refine dl_r (sem_assign rfl rfl) ?_
      refine dl_end ?_
      refine dw_ret ?_
      -- path FT
      have hk : qK3 A B C D M N = false := qk_no2 (not_tf hc2 (by unfold qK2 qK1; simp only [Bool.true_and, Bool.and_true, Bool.and_assoc]; try rfl))
      rw [(qk_no hk).1, (qk_no hk).2]
      exact ⟨.inr rfl, (resL_tmp rfl (resL_tmp rfl resL_nil))⟩
    · refine dw_skip ?_
      refine dw_seq ?_
      -- region 11
      refine dw_draw 26 [12] follows_mixed (by kernel_rfl) rfl rfl ?_
      refine dq_r (sem_move rfl rfl) ?_
      refine dq_r (sem_move rfl rfl) ?_
      refine dq_r (sem_move rfl rfl) ?_
      refine dq_r (sem_field fd28_0 rfl rfl) ?_
      refine dq_r (sem_load (us := cR A) ty26 rfl rfl rfl rfl rfl) ?_
      refine dq_r (sem_call rfl rfl (gFromRat_ok (by first | assumption | exact Rz.mono hA (by decide))) rfl) ?_
      refine dq_r (sem_extract rfl rfl rfl) ?_
      refine dq_r (sem_extract rfl rfl rfl) ?_
      refine dq_rs (sem_callp rfl rfl rfl rfl rfl (gWith_ok) rfl) rfl rfl rfl rfl rfl (by kernel_rfl) ?_
      refine dq_r (sem_load (us := ([.i .i64 (pL (gL B) (gH B) (sqLo (gL M)) (sqHi (gH M)))] ++ [.i .i64 (pH (gL B) (gH B) (sqLo (gL M)) (sqHi (gH M)))])) ty80 rfl rfl rfl rfl rfl) ?_
      refine dq_r (sem_call rfl rfl (gAdd_ok (gl_bd _) (gh_bd _) (pl_bd _ _ _ _) (ph_bd _ _ _ _)) rfl) ?_
      refine dq_r (sem_extract rfl rfl rfl) ?_
      refine dq_r (sem_extract rfl rfl rfl) ?_
      refine dq_rs (sem_callp rfl rfl rfl rfl rfl (gWith_ok) rfl) rfl rfl rfl rfl rfl (by kernel_rfl) ?_
      refine dq_r (sem_move rfl rfl) ?_
      refine dq_r (sem_load (us := ([.i .i64 (pL (gL C) (gH C) (sqLo (gL N)) (sqHi (gH N)))] ++ [.i .i64 (pH (gL C) (gH C) (sqLo (gL N)) (sqHi (gH N)))])) ty80 rfl rfl rfl rfl rfl) ?_
      refine dq_r (sem_load (us := ([.i .i64 (pL (gL D) (gH D) (pL (sqLo (gL M)) (sqHi (gH M)) (sqLo (gL N)) (sqHi (gH N))) (pH (sqLo (gL M)) (sqHi (gH M)) (sqLo (gL N)) (sqHi (gH N))))] ++ [.i .i64 (pH (gL D) (gH D) (pL (sqLo (gL M)) (sqHi (gH M)) (sqLo (gL N)) (sqHi (gH N))) (pH (sqLo (gL M)) (sqHi (gH M)) (sqLo (gL N)) (sqHi (gH N))))])) ty80 rfl rfl rfl rfl rfl) ?_
      refine dq_r (sem_call rfl rfl (gAdd_ok (pl_bd _ _ _ _) (ph_bd _ _ _ _) (pl_bd _ _ _ _) (ph_bd _ _ _ _)) rfl) ?_
      refine dq_r (sem_extract rfl rfl rfl) ?_
      refine dq_r (sem_extract rfl rfl rfl) ?_
      refine dq_rs (sem_callp rfl rfl rfl rfl rfl (gWith_ok) rfl) rfl rfl rfl rfl rfl (by kernel_rfl) ?_
      refine dq_r (sem_call rfl rfl (gAdd_ok (al_bd (by first | exact g_le _ | exact p_le _ _ _ _) (by first | exact g_le _ | exact p_le _ _ _ _)) (ah_bd (by first | exact g_le _ | exact p_le _ _ _ _) (by first | exact g_le _ | exact p_le _ _ _ _)) (al_bd (by first | exact g_le _ | exact p_le _ _ _ _) (by first | exact g_le _ | exact p_le _ _ _ _)) (ah_bd (by first | exact g_le _ | exact p_le _ _ _ _) (by first | exact g_le _ | exact p_le _ _ _ _))) rfl) ?_
      refine dq_r (sem_extract rfl rfl rfl) ?_
      refine dq_r (sem_extract rfl rfl rfl) ?_
      refine dq_rs (sem_callp rfl rfl rfl rfl rfl (gWith_ok) rfl) rfl rfl rfl rfl rfl (by kernel_rfl) ?_
      refine dq_new (sem_alloc zc80 rfl) rfl ?_
      refine dq_end ?_
      refine dl_start5 ?_
      refine dl_st (sem_store_a ty80 rfl rfl rfl rfl rfl rfl) ?_
      refine dl_end ?_
      refine dw_seq ?_
      refine dw_seq ?_
      -- region 12
      refine dw_region (by kernel_rfl) ?_
      refine dl_r (sem_move rfl rfl) ?_
      refine dl_r (sem_nilCheck rfl rfl) ?_
      refine dl_r (sem_field fd78_0 rfl rfl) ?_
      refine dl_r (sem_load1 ty4 rfl rfl rfl rfl) ?_
      refine dl_r (sem_not rfl rfl) ?_
      refine dl_end ?_
      refine dw_cond rfl (fun hc3 => ?_) (fun hc3 => ?_)
      · refine dw_seq ?_
        -- region 13
        refine dw_region (by kernel_rfl) ?_
        refine dl_r (sem_assign rfl rfl) ?_
        refine dl_r (sem_assign rfl rfl) ?_
        refine dl_end ?_
        refine dw_ret ?_
        -- path FFT
        have hk : qK3 A B C D M N = false := not_tf hc3 (by unfold qK3 qK2 qK1; simp only [Bool.true_and, Bool.and_true, Bool.and_assoc]; try rfl)
        rw [(qk_no hk).1, (qk_no hk).2]
        exact ⟨.inr rfl, (resL_tmp rfl (resL_tmp rfl resL_nil))⟩
      · refine dw_skip ?_
        refine dw_seq ?_
        -- region 14
        refine dw_region (by kernel_rfl) ?_
        refine dl_r (sem_load (us := ([.i .i64 (aL (aL (gL A) (gH A) (pL (gL B) (gH B) (sqLo (gL M)) (sqHi (gH M))) (pH (gL B) (gH B) (sqLo (gL M)) (sqHi (gH M)))) (aH (gL A) (gH A) (pL (gL B) (gH B) (sqLo (gL M)) (sqHi (gH M))) (pH (gL B) (gH B) (sqLo (gL M)) (sqHi (gH M)))) (aL (pL (gL C) (gH C) (sqLo (gL N)) (sqHi (gH N))) (pH (gL C) (gH C) (sqLo (gL N)) (sqHi (gH N))) (pL (gL D) (gH D) (pL (sqLo (gL M)) (sqHi (gH M)) (sqLo (gL N)) (sqHi (gH N))) (pH (sqLo (gL M)) (sqHi (gH M)) (sqLo (gL N)) (sqHi (gH N)))) (pH (gL D) (gH D) (pL (sqLo (gL M)) (sqHi (gH M)) (sqLo (gL N)) (sqHi (gH N))) (pH (sqLo (gL M)) (sqHi (gH M)) (sqLo (gL N)) (sqHi (gH N))))) (aH (pL (gL C) (gH C) (sqLo (gL N)) (sqHi (gH N))) (pH (gL C) (gH C) (sqLo (gL N)) (sqHi (gH N))) (pL (gL D) (gH D) (pL (sqLo (gL M)) (sqHi (gH M)) (sqLo (gL N)) (sqHi (gH N))) (pH (sqLo (gL M)) (sqHi (gH M)) (sqLo (gL N)) (sqHi (gH N)))) (pH (gL D) (gH D) (pL (sqLo (gL M)) (sqHi (gH M)) (sqLo (gL N)) (sqHi (gH N))) (pH (sqLo (gL M)) (sqHi (gH M)) (sqLo (gL N)) (sqHi (gH N))))))] ++ [.i .i64 (aH (aL (gL A) (gH A) (pL (gL B) (gH B) (sqLo (gL M)) (sqHi (gH M))) (pH (gL B) (gH B) (sqLo (gL M)) (sqHi (gH M)))) (aH (gL A) (gH A) (pL (gL B) (gH B) (sqLo (gL M)) (sqHi (gH M))) (pH (gL B) (gH B) (sqLo (gL M)) (sqHi (gH M)))) (aL (pL (gL C) (gH C) (sqLo (gL N)) (sqHi (gH N))) (pH (gL C) (gH C) (sqLo (gL N)) (sqHi (gH N))) (pL (gL D) (gH D) (pL (sqLo (gL M)) (sqHi (gH M)) (sqLo (gL N)) (sqHi (gH N))) (pH (sqLo (gL M)) (sqHi (gH M)) (sqLo (gL N)) (sqHi (gH N)))) (pH (gL D) (gH D) (pL (sqLo (gL M)) (sqHi (gH M)) (sqLo (gL N)) (sqHi (gH N))) (pH (sqLo (gL M)) (sqHi (gH M)) (sqLo (gL N)) (sqHi (gH N))))) (aH (pL (gL C) (gH C) (sqLo (gL N)) (sqHi (gH N))) (pH (gL C) (gH C) (sqLo (gL N)) (sqHi (gH N))) (pL (gL D) (gH D) (pL (sqLo (gL M)) (sqHi (gH M)) (sqLo (gL N)) (sqHi (gH N))) (pH (sqLo (gL M)) (sqHi (gH M)) (sqLo (gL N)) (sqHi (gH N)))) (pH (gL D) (gH D) (pL (sqLo (gL M)) (sqHi (gH M)) (sqLo (gL N)) (sqHi (gH N))) (pH (sqLo (gL M)) (sqHi (gH M)) (sqLo (gL N)) (sqHi (gH N))))))])) ty80 rfl rfl rfl rfl rfl) ?_
        refine dl_r (sem_call rfl rfl (fSign_ok) rfl) ?_
        refine dl_r (sem_extract rfl rfl rfl) ?_
        refine dl_r (sem_extract rfl rfl rfl) ?_
        refine dl_r (sem_assign rfl rfl) ?_
        refine dl_r (sem_assign rfl rfl) ?_
        refine dl_end ?_
        refine dw_ret ?_
        -- path FFF
        have hk : qK3 A B C D M N = true := not_ff hc3 (by unfold qK3 qK2 qK1; simp only [Bool.true_and, Bool.and_true, Bool.and_assoc]; try rfl)
        rw [(qk_yes hk).1, (qk_yes hk).2]
        exact ⟨.inr rfl, (resL_tmp rfl (resL_tmp rfl resL_nil))⟩
end Go.Proofs.YtcbjmiddangfoaaGreat
/- Plain: the program's sign of a sum with two square roots, its order of two values. -/
namespace Go.Proofs.YtcbjmiddangfoaaGreat
open Go Go.RowKit
def sgnP (A B C D M N : Rat) : Int := if M < 0 ∨ N < 0 then 0 else if qkK A B C D M N = true then qkS A B C D M N else signQ A B C D M N
theorem sgnP_n {A B C D M N : Rat} (h : M < 0 ∨ N < 0) : sgnP A B C D M N = 0 := by unfold sgnP; rw [if_pos h]
theorem sgnP_q {A B C D M N : Rat} (h : ¬ M < 0) (h' : ¬ N < 0) (hq : qkK A B C D M N = true) : sgnP A B C D M N = qkS A B C D M N := by unfold sgnP; rw [if_neg (fun e => e.elim h h'), if_pos hq]
theorem sgnP_p {A B C D M N : Rat} (h : ¬ M < 0) (h' : ¬ N < 0) (hq : qkK A B C D M N = false) : sgnP A B C D M N = comb (plainS A B M) (plainS C D M * cmpR N 0) (plainS (A * A + M * (B * B) - N * (C * C + M * (D * D))) (A * B - N * (C * D) + (A * B - N * (C * D))) M) := by
  unfold sgnP; rw [if_neg (fun e => e.elim h h'), hq, if_neg (by decide), signQ_p h h']
  unfold quadA quadB
  rw [Rat.mul_comm M (B * B), Rat.mul_comm M (D * D)]
def cmpP (a b c d e f : Rat) : Int :=
  if (cmpR b 0 == 0) = true ∧ (cmpR e 0 == 0) = true then cmpR a d else
  if apK (rtOk a b c) (rtOk d e f) (rtLo a b c) (rtHi a b c) (rtLo d e f) (rtHi d e f) = true then apS (rtOk a b c) (rtOk d e f) (rtLo a b c) (rtHi a b c) (rtLo d e f) (rtHi d e f) else
  if (cmpR c f == 0) = true then plainS (a - d) (b - e) c else sgnP (a - d) b (-e) 0 c f
section
variable {a b c d e f : Rat}
theorem cmpP_r (h : (cmpR b 0 == 0) = true) (h2 : (cmpR e 0 == 0) = true) : cmpP a b c d e f = cmpR a d := by unfold cmpP; rw [if_pos ⟨h, h2⟩]
theorem cmpP_a (h : ¬ ((cmpR b 0 == 0) = true ∧ (cmpR e 0 == 0) = true)) (h2 : apK (rtOk a b c) (rtOk d e f) (rtLo a b c) (rtHi a b c) (rtLo d e f) (rtHi d e f) = true) :
    cmpP a b c d e f = apS (rtOk a b c) (rtOk d e f) (rtLo a b c) (rtHi a b c) (rtLo d e f) (rtHi d e f) := by unfold cmpP; rw [if_neg h, if_pos h2]
theorem cmpP_c (h : ¬ ((cmpR b 0 == 0) = true ∧ (cmpR e 0 == 0) = true)) (h2 : apK (rtOk a b c) (rtOk d e f) (rtLo a b c) (rtHi a b c) (rtLo d e f) (rtHi d e f) = false) (h3 : (cmpR c f == 0) = true) :
    cmpP a b c d e f = plainS (a - d) (b - e) c := by unfold cmpP; rw [if_neg h, h2, if_neg (by decide), if_pos h3]
theorem cmpP_s (h : ¬ ((cmpR b 0 == 0) = true ∧ (cmpR e 0 == 0) = true)) (h2 : apK (rtOk a b c) (rtOk d e f) (rtLo a b c) (rtHi a b c) (rtLo d e f) (rtHi d e f) = false) (h3 : (cmpR c f == 0) = false) :
    cmpP a b c d e f = sgnP (a - d) b (-e) 0 c f := by unfold cmpP; rw [if_neg h, h2, if_neg (by decide), h3, if_neg (by decide)]
theorem nb_l {b c : Bool} (h : b = false) : ¬ (b = true ∧ c = true) := fun e => by rw [h] at e; exact absurd e.1 (by decide)
theorem nb_r {b c : Bool} (h : c = false) : ¬ (b = true ∧ c = true) := fun e => by rw [h] at e; exact absurd e.2 (by decide)
end
end Go.Proofs.YtcbjmiddangfoaaGreat
/- radical.Sign. -/
namespace Go.Proofs.YtcbjmiddangfoaaGreat
open Go Go.RowKit
theorem xSignAdd_ok {a b : Rat} (ha : Rz 300 a) (hb : Rz 300 b) : Ok Tryz.prog 29 [dR a, dR b] [dR (a + b)] := by
  refine Ok.of (by kernel_rfl) Tryz.func29 rfl rfl ?_
  rw [show Tryz.f29.ntmps = 8 from rfl, show Tryz.f29.results.toList = [.cell 4 26] from rfl]
  refine dw_seq ?_
  -- region 0
  refine dw_region (by kernel_rfl) ?_
  refine dl_new (sem_box_a rfl rfl) rfl ?_
  refine dl_new (sem_box_a rfl rfl) rfl ?_
  refine dl_new (sem_alloc zc26 rfl) rfl ?_
  refine dl_end ?_
  refine dw_seq ?_
  -- region 1
  refine dw_region (by kernel_rfl) ?_
  refine dl_r (sem_load (us := cR a) ty26 rfl rfl rfl rfl rfl) ?_
  refine dl_r (sem_load (us := cR b) ty26 rfl rfl rfl rfl rfl) ?_
  refine dl_r (sem_call rfl rfl (pAdd_ok (by first | assumption | exact Rz.mono ha (by decide)) (by first | assumption | exact Rz.mono hb (by decide))) rfl) ?_
  refine dl_st (sem_store_a ty26 rfl rfl rfl rfl rfl rfl) ?_
  refine dl_end ?_
  refine dw_ret ?_
  -- path 
  exact ⟨.inr rfl, (resL_cell (us := cR (a + b)) ty26 rfl rfl rfl rfl resL_nil)⟩
theorem xSign_ok {A B C D M N : Rat} (hA : Rz 8 A) (hB : Rz 8 B) (hC : Rz 8 C) (hD : Rz 8 D) (hM : Rz 8 M) (hN : Rz 8 N) : Ok Tryz.prog 9 [.a (cR A ++ cR B ++ cR C ++ cR D ++ cR M ++ cR N)] [.c (.i .i64 (sgnP A B C D M N))] := by
  have z1 := prod_bd (plainS_bd C D M) (cmpR_bd N 0)
  have z2 := prod_bd (plainS_bd A B M) (plainS_bd (A * A + M * (B * B) - N * (C * C + M * (D * D))) ((A * B - N * (C * D)) + (A * B - N * (C * D))) M)
  have kA : Rz 200 A := hA.mono (by decide)
  have kB : Rz 200 B := hB.mono (by decide)
  have kC : Rz 200 C := hC.mono (by decide)
  have kD : Rz 200 D := hD.mono (by decide)
  have kM : Rz 200 M := hM.mono (by decide)
  have kN : Rz 200 N := hN.mono (by decide)
  refine Ok.of (by kernel_rfl) Tryz.func9 rfl rfl ?_
  rw [show Tryz.f9.ntmps = 127 from rfl, show Tryz.f9.results.toList = [.tmp 2] from rfl]
  refine dw_seq ?_
  -- region 0
  refine dw_region (by kernel_rfl) ?_
  refine dl_new (sem_box_a rfl rfl) rfl ?_
  refine dl_r (sem_assign rfl rfl) ?_
  refine dl_end ?_
  refine dw_seq ?_
  refine dw_seq ?_
  -- region 1
  refine dw_region (by kernel_rfl) ?_
  refine dl_r (sem_field fd28_4 rfl rfl) ?_
  refine dl_r (sem_load (us := cR M) ty26 rfl rfl rfl rfl rfl) ?_
  refine dl_r (sem_call rfl rfl (pSign_ok) rfl) ?_
  refine dl_r (sem_cmp rfl rfl rfl rfl) ?_
  refine dl_rb (sem_move rfl rfl) (fun c1 hb1 => ?_)
  cases c1
  · have n1 := r_nlt hb1
    refine dl_r (sem_field fd28_5 rfl rfl) ?_
    refine dl_r (sem_load (us := cR N) ty26 rfl rfl rfl rfl rfl) ?_
    refine dl_r (sem_call rfl rfl (pSign_ok) rfl) ?_
    refine dl_r (sem_cmp rfl rfl rfl rfl) ?_
    refine dl_r (sem_pick rfl rfl rfl rfl) ?_
    refine dl_end ?_
    refine dw_cond rfl (fun hc2 => ?_) (fun hc2 => ?_)
    · refine dw_seq ?_
      -- region 2
      refine dw_region (by kernel_rfl) ?_
      refine dl_r (sem_assign rfl rfl) ?_
      refine dl_end ?_
      refine dw_ret ?_
      -- path fT
      rw [sgnP_n (.inr (r_lt hc2))]
      exact ⟨.inr rfl, (resL_tmp rfl resL_nil)⟩
    · have n2 := r_nlt hc2
      refine dw_skip ?_
      refine dw_seq ?_
      refine dw_seq ?_
      -- region 3
      refine dw_region (by kernel_rfl) ?_
      refine dl_r (sem_load (us := (cR A ++ cR B ++ cR C ++ cR D ++ cR M ++ cR N)) ty28 rfl rfl rfl rfl rfl) ?_
      refine dl_r (sem_call rfl rfl (xQuick_ok (by assumption) (by assumption) (by assumption) (by assumption) (by assumption) (by assumption) (by assumption) (by assumption)) rfl) ?_
      refine dl_r (sem_move rfl rfl) ?_
      refine dl_r (sem_extract rfl rfl rfl) ?_
      refine dl_r (sem_extract rfl rfl rfl) ?_
      refine dl_r (sem_assign rfl rfl) ?_
      refine dl_r (sem_assign rfl rfl) ?_
      refine dl_end ?_
      refine dw_seq ?_
      -- region 4
      refine dw_region (by kernel_rfl) ?_
      refine dl_r (sem_move rfl rfl) ?_
      refine dl_end ?_
      refine dw_cond rfl (fun hc3 => ?_) (fun hc3 => ?_)
      · refine dw_seq ?_
        -- region 5
        refine dw_region (by kernel_rfl) ?_
        refine dl_r (sem_move rfl rfl) ?_
        refine dl_r (sem_assign rfl rfl) ?_
        refine dl_end ?_
        refine dw_ret ?_
        -- path fFT
        rw [sgnP_q n1 n2 hc3]
        exact ⟨.inr rfl, (resL_tmp rfl resL_nil)⟩
      · refine dw_skip ?_
        refine dw_seq ?_
        -- region 6
        refine dw_draw 20 [] follows_mixed (by kernel_rfl) rfl rfl ?_
        refine dq_r (sem_field fd28_0 rfl rfl) ?_
        refine dq_r (sem_load (us := cR A) ty26 rfl rfl rfl rfl rfl) ?_
        refine dq_r (sem_field fd28_1 rfl rfl) ?_
        refine dq_r (sem_load (us := cR B) ty26 rfl rfl rfl rfl rfl) ?_
        refine dq_r (sem_field fd28_4 rfl rfl) ?_
        refine dq_r (sem_load (us := cR M) ty26 rfl rfl rfl rfl rfl) ?_
        refine dq_r (sem_call rfl rfl (xPlain_ok (by first | assumption | exact Rz.mono hA (by decide)) (by first | assumption | exact Rz.mono hB (by decide)) (by first | assumption | exact Rz.mono hM (by decide))) rfl) ?_
        refine dq_r (sem_field fd28_2 rfl rfl) ?_
        refine dq_r (sem_load (us := cR C) ty26 rfl rfl rfl rfl rfl) ?_
        refine dq_r (sem_field fd28_3 rfl rfl) ?_
        refine dq_r (sem_load (us := cR D) ty26 rfl rfl rfl rfl rfl) ?_
        refine dq_r (sem_field fd28_4 rfl rfl) ?_
        refine dq_r (sem_load (us := cR M) ty26 rfl rfl rfl rfl rfl) ?_
        refine dq_r (sem_call rfl rfl (xPlain_ok (by first | assumption | exact Rz.mono hC (by decide)) (by first | assumption | exact Rz.mono hD (by decide)) (by first | assumption | exact Rz.mono hM (by decide))) rfl) ?_
        refine dq_r (sem_field fd28_5 rfl rfl) ?_
        refine dq_r (sem_load (us := cR N) ty26 rfl rfl rfl rfl rfl) ?_
        refine dq_r (sem_call rfl rfl (pSign_ok) rfl) ?_
        refine dq_r (sem_ari (r := (plainS C D M) * (cmpR N 0)) rfl rfl (ari_i64_mul (by omega) (by omega)) rfl) ?_
        refine dq_r (sem_assign rfl rfl) ?_
        refine dq_r (sem_assign rfl rfl) ?_
        refine dq_end ?_
        refine dl_start0 ?_
        refine dl_end ?_
        refine dw_seq ?_
        refine dw_block ?_
        refine dw_seq ?_
        -- region 7
        refine dw_region (by kernel_rfl) ?_
        refine dl_r (sem_move rfl rfl) ?_
        refine dl_r (sem_cmp rfl rfl rfl rfl) ?_
        refine dl_rb (sem_move rfl rfl) (fun c4 hb4 => ?_)
        cases c4
        · refine dl_r (sem_move rfl rfl) ?_
          refine dl_r (sem_move rfl rfl) ?_
          refine dl_r (sem_cmp rfl rfl rfl rfl) ?_
          refine dl_r (sem_pick rfl rfl rfl rfl) ?_
          refine dl_r (sem_assign rfl rfl) ?_
          refine dl_end ?_
          refine dw_cond rfl (fun hc5 => ?_) (fun hc5 => ?_)
          · refine dw_seq ?_
            -- region 8
            refine dw_region (by kernel_rfl) ?_
            refine dl_r (sem_move rfl rfl) ?_
            refine dl_r (sem_assign rfl rfl) ?_
            refine dl_end ?_
            refine dw_ret ?_
            -- path fFFfT
            rw [sgnP_p n1 n2 hc3, comb_eq hc5]
            exact ⟨.inr rfl, (resL_tmp rfl resL_nil)⟩
          · refine dw_seq ?_
            -- region 9
            refine dw_region (by kernel_rfl) ?_
            refine dl_r (sem_move rfl rfl) ?_
            refine dl_r (sem_cmp rfl rfl rfl rfl) ?_
            refine dl_r (sem_assign rfl rfl) ?_
            refine dl_end ?_
            refine dw_cond rfl (fun hc6 => ?_) (fun hc6 => ?_)
            · refine dw_seq ?_
              -- region 10
              refine dw_region (by kernel_rfl) ?_
              refine dl_r (sem_move rfl rfl) ?_
              refine dl_r (sem_assign rfl rfl) ?_
              refine dl_end ?_
              refine dw_ret ?_
              -- path fFFfFT
              rw [sgnP_p n1 n2 hc3, comb_s0 hc6]
              exact ⟨.inr rfl, (resL_tmp rfl resL_nil)⟩
            · refine dw_skip ?_
              refine dw_seq ?_
              -- region 11
              refine dw_region (by kernel_rfl) ?_
              refine dl_r (sem_assign rfl rfl) ?_
              refine dl_end ?_
              refine dw_seq ?_
              -- region 12
              refine dw_region (by kernel_rfl) ?_
              refine dl_r (sem_assign rfl rfl) ?_
              refine dl_end ?_
              refine dw_seq ?_
              -- region 13
              refine dw_draw 42 [] follows_mixed (by kernel_rfl) rfl rfl ?_
              refine dq_r (sem_move rfl rfl) ?_
              refine dq_r (sem_move rfl rfl) ?_
              refine dq_r (sem_field fd28_0 rfl rfl) ?_
              refine dq_r (sem_load (us := cR A) ty26 rfl rfl rfl rfl rfl) ?_
              refine dq_r (sem_field fd28_0 rfl rfl) ?_
              refine dq_r (sem_load (us := cR A) ty26 rfl rfl rfl rfl rfl) ?_
              refine dq_r (sem_call rfl rfl (pMul_ok (by first | assumption | exact Rz.mono hA (by decide)) (by first | assumption | exact Rz.mono hA (by decide))) rfl) ?_
              refine dq_r (sem_move rfl rfl) ?_
              refine dq_r (sem_field fd28_4 rfl rfl) ?_
              refine dq_r (sem_load (us := cR M) ty26 rfl rfl rfl rfl rfl) ?_
              refine dq_r (sem_move rfl rfl) ?_
              refine dq_r (sem_field fd28_1 rfl rfl) ?_
              refine dq_r (sem_load (us := cR B) ty26 rfl rfl rfl rfl rfl) ?_
              refine dq_r (sem_field fd28_1 rfl rfl) ?_
              refine dq_r (sem_load (us := cR B) ty26 rfl rfl rfl rfl rfl) ?_
              refine dq_r (sem_call rfl rfl (pMul_ok (by first | assumption | exact Rz.mono hB (by decide)) (by first | assumption | exact Rz.mono hB (by decide))) rfl) ?_
              refine dq_r (sem_call rfl rfl (pMul_ok (by first | assumption | exact Rz.mono hM (by decide)) (by first | assumption | exact Rz.mono (Rz.mul hB hB) (by decide))) rfl) ?_
              refine dq_r (sem_call rfl rfl (xSignAdd_ok (by first | assumption | exact Rz.mono (Rz.mul hA hA) (by decide)) (by first | assumption | exact Rz.mono (Rz.mul hM (Rz.mul hB hB)) (by decide))) rfl) ?_
              refine dq_r (sem_move rfl rfl) ?_
              refine dq_r (sem_field fd28_5 rfl rfl) ?_
              refine dq_r (sem_load (us := cR N) ty26 rfl rfl rfl rfl rfl) ?_
              refine dq_r (sem_move rfl rfl) ?_
              refine dq_r (sem_move rfl rfl) ?_
              refine dq_r (sem_field fd28_2 rfl rfl) ?_
              refine dq_r (sem_load (us := cR C) ty26 rfl rfl rfl rfl rfl) ?_
              refine dq_r (sem_field fd28_2 rfl rfl) ?_
              refine dq_r (sem_load (us := cR C) ty26 rfl rfl rfl rfl rfl) ?_
              refine dq_r (sem_call rfl rfl (pMul_ok (by first | assumption | exact Rz.mono hC (by decide)) (by first | assumption | exact Rz.mono hC (by decide))) rfl) ?_
              refine dq_r (sem_move rfl rfl) ?_
              refine dq_r (sem_field fd28_4 rfl rfl) ?_
              refine dq_r (sem_load (us := cR M) ty26 rfl rfl rfl rfl rfl) ?_
              refine dq_r (sem_move rfl rfl) ?_
              refine dq_r (sem_field fd28_3 rfl rfl) ?_
              refine dq_r (sem_load (us := cR D) ty26 rfl rfl rfl rfl rfl) ?_
              refine dq_r (sem_field fd28_3 rfl rfl) ?_
              refine dq_r (sem_load (us := cR D) ty26 rfl rfl rfl rfl rfl) ?_
              refine dq_r (sem_call rfl rfl (pMul_ok (by first | assumption | exact Rz.mono hD (by decide)) (by first | assumption | exact Rz.mono hD (by decide))) rfl) ?_
              refine dq_r (sem_call rfl rfl (pMul_ok (by first | assumption | exact Rz.mono hM (by decide)) (by first | assumption | exact Rz.mono (Rz.mul hD hD) (by decide))) rfl) ?_
              refine dq_r (sem_call rfl rfl (xSignAdd_ok (by first | assumption | exact Rz.mono (Rz.mul hC hC) (by decide)) (by first | assumption | exact Rz.mono (Rz.mul hM (Rz.mul hD hD)) (by decide))) rfl) ?_
              refine dq_r (sem_call rfl rfl (pMul_ok (by first | assumption | exact Rz.mono hN (by decide)) (by first | assumption | exact Rz.mono (Rz.add (Rz.mul hC hC) (Rz.mul hM (Rz.mul hD hD))) (by decide))) rfl) ?_
              refine dq_r (sem_call rfl rfl (pSub_ok (by first | assumption | exact Rz.mono (Rz.add (Rz.mul hA hA) (Rz.mul hM (Rz.mul hB hB))) (by decide)) (by first | assumption | exact Rz.mono (Rz.mul hN (Rz.add (Rz.mul hC hC) (Rz.mul hM (Rz.mul hD hD)))) (by decide))) rfl) ?_
              refine dq_new (sem_alloc zc26 rfl) rfl ?_
              refine dq_end ?_
              refine dl_start1 ?_
              refine dl_st (sem_store_a ty26 rfl rfl rfl rfl rfl rfl) ?_
              refine dl_end ?_
              refine dw_seq ?_
              -- region 14
              refine dw_draw 18 [] follows_mixed (by kernel_rfl) rfl rfl ?_
              refine dq_r (sem_move rfl rfl) ?_
              refine dq_r (sem_field fd28_0 rfl rfl) ?_
              refine dq_r (sem_load (us := cR A) ty26 rfl rfl rfl rfl rfl) ?_
              refine dq_r (sem_field fd28_1 rfl rfl) ?_
              refine dq_r (sem_load (us := cR B) ty26 rfl rfl rfl rfl rfl) ?_
              refine dq_r (sem_call rfl rfl (pMul_ok (by first | assumption | exact Rz.mono hA (by decide)) (by first | assumption | exact Rz.mono hB (by decide))) rfl) ?_
              refine dq_r (sem_move rfl rfl) ?_
              refine dq_r (sem_field fd28_5 rfl rfl) ?_
              refine dq_r (sem_load (us := cR N) ty26 rfl rfl rfl rfl rfl) ?_
              refine dq_r (sem_move rfl rfl) ?_
              refine dq_r (sem_field fd28_2 rfl rfl) ?_
              refine dq_r (sem_load (us := cR C) ty26 rfl rfl rfl rfl rfl) ?_
              refine dq_r (sem_field fd28_3 rfl rfl) ?_
              refine dq_r (sem_load (us := cR D) ty26 rfl rfl rfl rfl rfl) ?_
              refine dq_r (sem_call rfl rfl (pMul_ok (by first | assumption | exact Rz.mono hC (by decide)) (by first | assumption | exact Rz.mono hD (by decide))) rfl) ?_
              refine dq_r (sem_call rfl rfl (pMul_ok (by first | assumption | exact Rz.mono hN (by decide)) (by first | assumption | exact Rz.mono (Rz.mul hC hD) (by decide))) rfl) ?_
              refine dq_r (sem_call rfl rfl (pSub_ok (by first | assumption | exact Rz.mono (Rz.mul hA hB) (by decide)) (by first | assumption | exact Rz.mono (Rz.mul hN (Rz.mul hC hD)) (by decide))) rfl) ?_
              refine dq_new (sem_alloc zc26 rfl) rfl ?_
              refine dq_end ?_
              refine dl_start1 ?_
              refine dl_st (sem_store_a ty26 rfl rfl rfl rfl rfl rfl) ?_
              refine dl_end ?_
              refine dw_seq ?_
              -- region 15
              refine dw_draw 11 [] follows_mixed (by kernel_rfl) rfl rfl ?_
              refine dq_r (sem_move rfl rfl) ?_
              refine dq_r (sem_load (us := cR (((A * A) + (M * (B * B))) - (N * ((C * C) + (M * (D * D)))))) ty26 rfl rfl rfl rfl rfl) ?_
              refine dq_r (sem_move rfl rfl) ?_
              refine dq_r (sem_load (us := cR ((A * B) - (N * (C * D)))) ty26 rfl rfl rfl rfl rfl) ?_
              refine dq_r (sem_load (us := cR ((A * B) - (N * (C * D)))) ty26 rfl rfl rfl rfl rfl) ?_
              refine dq_r (sem_call rfl rfl (xSignAdd_ok (by first | assumption | exact Rz.mono (Rz.sub (Rz.mul hA hB) (Rz.mul hN (Rz.mul hC hD))) (by decide)) (by first | assumption | exact Rz.mono (Rz.sub (Rz.mul hA hB) (Rz.mul hN (Rz.mul hC hD))) (by decide))) rfl) ?_
              refine dq_r (sem_field fd28_4 rfl rfl) ?_
              refine dq_r (sem_load (us := cR M) ty26 rfl rfl rfl rfl rfl) ?_
              refine dq_r (sem_call rfl rfl (xPlain_ok (by first | assumption | exact Rz.mono (Rz.sub (Rz.add (Rz.mul hA hA) (Rz.mul hM (Rz.mul hB hB))) (Rz.mul hN (Rz.add (Rz.mul hC hC) (Rz.mul hM (Rz.mul hD hD))))) (by decide)) (by first | assumption | exact Rz.mono (Rz.add (Rz.sub (Rz.mul hA hB) (Rz.mul hN (Rz.mul hC hD))) (Rz.sub (Rz.mul hA hB) (Rz.mul hN (Rz.mul hC hD)))) (by decide)) (by first | assumption | exact Rz.mono hM (by decide))) rfl) ?_
              refine dq_r (sem_ari (r := (plainS A B M) * (plainS (((A * A) + (M * (B * B))) - (N * ((C * C) + (M * (D * D))))) (((A * B) - (N * (C * D))) + ((A * B) - (N * (C * D)))) M)) rfl rfl (ari_i64_mul (by omega) (by omega)) rfl) ?_
              refine dq_r (sem_assign rfl rfl) ?_
              refine dq_end ?_
              refine dl_start0 ?_
              refine dl_end ?_
              refine dw_ret ?_
              -- path fFFfFF
              rw [sgnP_p n1 n2 hc3, comb_ne hc6 hb4 hc5]
              exact ⟨.inr rfl, (resL_tmp rfl resL_nil)⟩
        · refine dl_skip (sem_skip rfl) ?_
          refine dl_skip (sem_skip rfl) ?_
          refine dl_skip (sem_skip rfl) ?_
          refine dl_r (sem_pick rfl rfl rfl rfl) ?_
          refine dl_r (sem_assign rfl rfl) ?_
          refine dl_end ?_
          refine dw_true rfl ?_
          refine dw_seq ?_
          -- region 8
          refine dw_region (by kernel_rfl) ?_
          refine dl_r (sem_move rfl rfl) ?_
          refine dl_r (sem_assign rfl rfl) ?_
          refine dl_end ?_
          refine dw_ret ?_
          -- path fFFt
          rw [sgnP_p n1 n2 hc3, comb_t0 hb4]
          exact ⟨.inr rfl, (resL_tmp rfl resL_nil)⟩
  · refine dl_skip (sem_skip rfl) ?_
    refine dl_skip (sem_skip rfl) ?_
    refine dl_skip (sem_skip rfl) ?_
    refine dl_skip (sem_skip rfl) ?_
    refine dl_r (sem_pick rfl rfl rfl rfl) ?_
    refine dl_end ?_
    refine dw_true rfl ?_
    refine dw_seq ?_
    -- region 2
    refine dw_region (by kernel_rfl) ?_
    refine dl_r (sem_assign rfl rfl) ?_
    refine dl_end ?_
    refine dw_ret ?_
    -- path t
    rw [sgnP_n (.inl (r_lt hb1))]
    exact ⟨.inr rfl, (resL_tmp rfl resL_nil)⟩
end Go.Proofs.YtcbjmiddangfoaaGreat
/- radical.Cmp. -/
namespace Go.Proofs.YtcbjmiddangfoaaGreat
open Go Go.RowKit
theorem xCmp_ok {a b c d e f : Rat} (ha : Rz 100 a) (hb : Rz 8 b) (hc : Rz 8 c) (hd : Rz 100 d) (he : Rz 8 e) (hf : Rz 8 f) (h1 : Rz 8 (a - d)) : Ok Tryz.prog 15 [.a (cR a ++ cR b ++ cR c), .a (cR d ++ cR e ++ cR f)] [.c (.i .i64 (cmpP a b c d e f))] := by
  have ka : Rz 300 a := ha.mono (by decide)
  have la : Rz 200 a := ha.mono (by decide)
  have kb : Rz 300 b := hb.mono (by decide)
  have lb : Rz 200 b := hb.mono (by decide)
  have kc : Rz 300 c := hc.mono (by decide)
  have lc : Rz 200 c := hc.mono (by decide)
  have kd : Rz 300 d := hd.mono (by decide)
  have ld : Rz 200 d := hd.mono (by decide)
  have ke : Rz 300 e := he.mono (by decide)
  have le : Rz 200 e := he.mono (by decide)
  have kf : Rz 300 f := hf.mono (by decide)
  have lf : Rz 200 f := hf.mono (by decide)
  have m2 : Rz 8 (-e) := he.neg
  have m0 : Rz 8 (0 : Rat) := Rz.int (n := 0) (Sz.small (by decide) (by decide) (by decide)) (by decide)
  have w1 : Rz 100 (a - d) := h1.mono (by decide)
  have w2 : Rz 100 (b - e) := (hb.sub he).mono (by decide)
  have w3 : Rz 100 c := hc.mono (by decide)
  refine Ok.of (by kernel_rfl) Tryz.func15 rfl rfl ?_
  rw [show Tryz.f15.ntmps = 53 from rfl, show Tryz.f15.results.toList = [.tmp 4] from rfl]
  refine dw_seq ?_
  -- region 0
  refine dw_region (by kernel_rfl) ?_
  refine dl_new (sem_box_a rfl rfl) rfl ?_
  refine dl_new (sem_box_a rfl rfl) rfl ?_
  refine dl_r (sem_assign rfl rfl) ?_
  refine dl_end ?_
  refine dw_seq ?_
  refine dw_seq ?_
  -- region 1
  refine dw_region (by kernel_rfl) ?_
  refine dl_r (sem_field fd39_1 rfl rfl) ?_
  refine dl_r (sem_load (us := cR b) ty26 rfl rfl rfl rfl rfl) ?_
  refine dl_r (sem_call rfl rfl (pSign_ok) rfl) ?_
  refine dl_r (sem_cmp rfl rfl rfl rfl) ?_
  refine dl_rb (sem_move rfl rfl) (fun c1 hb1 => ?_)
  cases c1
  · refine dl_skip (sem_skip rfl) ?_
    refine dl_skip (sem_skip rfl) ?_
    refine dl_skip (sem_skip rfl) ?_
    refine dl_skip (sem_skip rfl) ?_
    refine dl_r (sem_pick rfl rfl rfl rfl) ?_
    refine dl_end ?_
    refine dw_false rfl ?_
    refine dw_skip ?_
    refine dw_seq ?_
    refine dw_seq ?_
    -- region 3
    refine dw_region (by kernel_rfl) ?_
    refine dl_r (sem_load (us := (cR a ++ cR b ++ cR c)) ty39 rfl rfl rfl rfl rfl) ?_
    refine dl_r (sem_load (us := (cR d ++ cR e ++ cR f)) ty39 rfl rfl rfl rfl rfl) ?_
    refine dl_r (sem_call rfl rfl (xApart_ok (by assumption) (by assumption) (by assumption) (by assumption) (by assumption) (by assumption)) rfl) ?_
    refine dl_r (sem_move rfl rfl) ?_
    refine dl_r (sem_extract rfl rfl rfl) ?_
    refine dl_r (sem_extract rfl rfl rfl) ?_
    refine dl_r (sem_assign rfl rfl) ?_
    refine dl_r (sem_assign rfl rfl) ?_
    refine dl_end ?_
    refine dw_seq ?_
    -- region 4
    refine dw_region (by kernel_rfl) ?_
    refine dl_r (sem_move rfl rfl) ?_
    refine dl_end ?_
    refine dw_cond rfl (fun hc2 => ?_) (fun hc2 => ?_)
    · refine dw_seq ?_
      -- region 5
      refine dw_region (by kernel_rfl) ?_
      refine dl_r (sem_move rfl rfl) ?_
      refine dl_r (sem_assign rfl rfl) ?_
      refine dl_end ?_
      refine dw_ret ?_
      -- path fT
      rw [cmpP_a (nb_l hb1) hc2]
      exact ⟨.inr rfl, (resL_tmp rfl resL_nil)⟩
    · refine dw_skip ?_
      refine dw_seq ?_
      refine dw_seq ?_
      -- region 6
      refine dw_region (by kernel_rfl) ?_
      refine dl_r (sem_field fd39_2 rfl rfl) ?_
      refine dl_r (sem_load (us := cR c) ty26 rfl rfl rfl rfl rfl) ?_
      refine dl_r (sem_field fd39_2 rfl rfl) ?_
      refine dl_r (sem_load (us := cR f) ty26 rfl rfl rfl rfl rfl) ?_
      refine dl_r (sem_call rfl rfl (pCmp_ok (by first | assumption | exact Rz.mono hc (by decide)) (by first | assumption | exact Rz.mono hf (by decide))) rfl) ?_
      refine dl_r (sem_cmp rfl rfl rfl rfl) ?_
      refine dl_end ?_
      refine dw_cond rfl (fun hc3 => ?_) (fun hc3 => ?_)
      · refine dw_seq ?_
        -- region 7
        refine dw_draw 14 [] follows_mixed (by kernel_rfl) rfl rfl ?_
        refine dq_r (sem_field fd39_0 rfl rfl) ?_
        refine dq_r (sem_load (us := cR a) ty26 rfl rfl rfl rfl rfl) ?_
        refine dq_r (sem_field fd39_0 rfl rfl) ?_
        refine dq_r (sem_load (us := cR d) ty26 rfl rfl rfl rfl rfl) ?_
        refine dq_r (sem_call rfl rfl (pSub_ok (by first | assumption | exact Rz.mono ha (by decide)) (by first | assumption | exact Rz.mono hd (by decide))) rfl) ?_
        refine dq_r (sem_field fd39_1 rfl rfl) ?_
        refine dq_r (sem_load (us := cR b) ty26 rfl rfl rfl rfl rfl) ?_
        refine dq_r (sem_field fd39_1 rfl rfl) ?_
        refine dq_r (sem_load (us := cR e) ty26 rfl rfl rfl rfl rfl) ?_
        refine dq_r (sem_call rfl rfl (pSub_ok (by first | assumption | exact Rz.mono hb (by decide)) (by first | assumption | exact Rz.mono he (by decide))) rfl) ?_
        refine dq_r (sem_field fd39_2 rfl rfl) ?_
        refine dq_r (sem_load (us := cR c) ty26 rfl rfl rfl rfl rfl) ?_
        refine dq_r (sem_call rfl rfl (xPlain_ok w1 w2 w3) rfl) ?_
        refine dq_r (sem_assign rfl rfl) ?_
        refine dq_end ?_
        refine dl_start0 ?_
        refine dl_end ?_
        refine dw_ret ?_
        -- path fFT
        rw [cmpP_c (nb_l hb1) hc2 hc3]
        exact ⟨.inr rfl, (resL_tmp rfl resL_nil)⟩
      · refine dw_skip ?_
        refine dw_seq ?_
        -- region 8
        refine dw_region (by kernel_rfl) ?_
        refine dl_r (sem_load (us := (cR a ++ cR b ++ cR c)) ty39 rfl rfl rfl rfl rfl) ?_
        refine dl_r (sem_load (us := (cR d ++ cR e ++ cR f)) ty39 rfl rfl rfl rfl rfl) ?_
        refine dl_r (sem_call rfl rfl (xSub_ok (by assumption) (by assumption) (by assumption) (by assumption) (by assumption) (by assumption)) rfl) ?_
        refine dl_r (sem_call rfl rfl (xSign_ok (by assumption) (by assumption) (by assumption) (by assumption) (by assumption) (by assumption)) rfl) ?_
        refine dl_r (sem_assign rfl rfl) ?_
        refine dl_end ?_
        refine dw_ret ?_
        -- path fFF
        rw [cmpP_s (nb_l hb1) hc2 hc3]
        exact ⟨.inr rfl, (resL_tmp rfl resL_nil)⟩
  · refine dl_r (sem_field fd39_1 rfl rfl) ?_
    refine dl_r (sem_load (us := cR e) ty26 rfl rfl rfl rfl rfl) ?_
    refine dl_r (sem_call rfl rfl (pSign_ok) rfl) ?_
    refine dl_r (sem_cmp rfl rfl rfl rfl) ?_
    refine dl_r (sem_pick rfl rfl rfl rfl) ?_
    refine dl_end ?_
    refine dw_cond rfl (fun hc4 => ?_) (fun hc4 => ?_)
    · refine dw_seq ?_
      -- region 2
      refine dw_region (by kernel_rfl) ?_
      refine dl_r (sem_field fd39_0 rfl rfl) ?_
      refine dl_r (sem_load (us := cR a) ty26 rfl rfl rfl rfl rfl) ?_
      refine dl_r (sem_field fd39_0 rfl rfl) ?_
      refine dl_r (sem_load (us := cR d) ty26 rfl rfl rfl rfl rfl) ?_
      refine dl_r (sem_call rfl rfl (pCmp_ok (by first | assumption | exact Rz.mono ha (by decide)) (by first | assumption | exact Rz.mono hd (by decide))) rfl) ?_
      refine dl_r (sem_assign rfl rfl) ?_
      refine dl_end ?_
      refine dw_ret ?_
      -- path tT
      rw [cmpP_r hb1 hc4]
      exact ⟨.inr rfl, (resL_tmp rfl resL_nil)⟩
    · refine dw_skip ?_
      refine dw_seq ?_
      refine dw_seq ?_
      -- region 3
      refine dw_region (by kernel_rfl) ?_
      refine dl_r (sem_load (us := (cR a ++ cR b ++ cR c)) ty39 rfl rfl rfl rfl rfl) ?_
      refine dl_r (sem_load (us := (cR d ++ cR e ++ cR f)) ty39 rfl rfl rfl rfl rfl) ?_
      refine dl_r (sem_call rfl rfl (xApart_ok (by assumption) (by assumption) (by assumption) (by assumption) (by assumption) (by assumption)) rfl) ?_
      refine dl_r (sem_move rfl rfl) ?_
      refine dl_r (sem_extract rfl rfl rfl) ?_
      refine dl_r (sem_extract rfl rfl rfl) ?_
      refine dl_r (sem_assign rfl rfl) ?_
      refine dl_r (sem_assign rfl rfl) ?_
      refine dl_end ?_
      refine dw_seq ?_
      -- region 4
      refine dw_region (by kernel_rfl) ?_
      refine dl_r (sem_move rfl rfl) ?_
      refine dl_end ?_
      refine dw_cond rfl (fun hc5 => ?_) (fun hc5 => ?_)
      · refine dw_seq ?_
        -- region 5
        refine dw_region (by kernel_rfl) ?_
        refine dl_r (sem_move rfl rfl) ?_
        refine dl_r (sem_assign rfl rfl) ?_
        refine dl_end ?_
        refine dw_ret ?_
        -- path tFT
        rw [cmpP_a (nb_r hc4) hc5]
        exact ⟨.inr rfl, (resL_tmp rfl resL_nil)⟩
      · refine dw_skip ?_
        refine dw_seq ?_
        refine dw_seq ?_
        -- region 6
        refine dw_region (by kernel_rfl) ?_
        refine dl_r (sem_field fd39_2 rfl rfl) ?_
        refine dl_r (sem_load (us := cR c) ty26 rfl rfl rfl rfl rfl) ?_
        refine dl_r (sem_field fd39_2 rfl rfl) ?_
        refine dl_r (sem_load (us := cR f) ty26 rfl rfl rfl rfl rfl) ?_
        refine dl_r (sem_call rfl rfl (pCmp_ok (by first | assumption | exact Rz.mono hc (by decide)) (by first | assumption | exact Rz.mono hf (by decide))) rfl) ?_
        refine dl_r (sem_cmp rfl rfl rfl rfl) ?_
        refine dl_end ?_
        refine dw_cond rfl (fun hc6 => ?_) (fun hc6 => ?_)
        · refine dw_seq ?_
          -- region 7
          refine dw_draw 14 [] follows_mixed (by kernel_rfl) rfl rfl ?_
          refine dq_r (sem_field fd39_0 rfl rfl) ?_
          refine dq_r (sem_load (us := cR a) ty26 rfl rfl rfl rfl rfl) ?_
          refine dq_r (sem_field fd39_0 rfl rfl) ?_
          refine dq_r (sem_load (us := cR d) ty26 rfl rfl rfl rfl rfl) ?_
          refine dq_r (sem_call rfl rfl (pSub_ok (by first | assumption | exact Rz.mono ha (by decide)) (by first | assumption | exact Rz.mono hd (by decide))) rfl) ?_
          refine dq_r (sem_field fd39_1 rfl rfl) ?_
          refine dq_r (sem_load (us := cR b) ty26 rfl rfl rfl rfl rfl) ?_
          refine dq_r (sem_field fd39_1 rfl rfl) ?_
          refine dq_r (sem_load (us := cR e) ty26 rfl rfl rfl rfl rfl) ?_
          refine dq_r (sem_call rfl rfl (pSub_ok (by first | assumption | exact Rz.mono hb (by decide)) (by first | assumption | exact Rz.mono he (by decide))) rfl) ?_
          refine dq_r (sem_field fd39_2 rfl rfl) ?_
          refine dq_r (sem_load (us := cR c) ty26 rfl rfl rfl rfl rfl) ?_
          refine dq_r (sem_call rfl rfl (xPlain_ok w1 w2 w3) rfl) ?_
          refine dq_r (sem_assign rfl rfl) ?_
          refine dq_end ?_
          refine dl_start0 ?_
          refine dl_end ?_
          refine dw_ret ?_
          -- path tFFT
          rw [cmpP_c (nb_r hc4) hc5 hc6]
          exact ⟨.inr rfl, (resL_tmp rfl resL_nil)⟩
        · refine dw_skip ?_
          refine dw_seq ?_
          -- region 8
          refine dw_region (by kernel_rfl) ?_
          refine dl_r (sem_load (us := (cR a ++ cR b ++ cR c)) ty39 rfl rfl rfl rfl rfl) ?_
          refine dl_r (sem_load (us := (cR d ++ cR e ++ cR f)) ty39 rfl rfl rfl rfl rfl) ?_
          refine dl_r (sem_call rfl rfl (xSub_ok (by assumption) (by assumption) (by assumption) (by assumption) (by assumption) (by assumption)) rfl) ?_
          refine dl_r (sem_call rfl rfl (xSign_ok (by assumption) (by assumption) (by assumption) (by assumption) (by assumption) (by assumption)) rfl) ?_
          refine dl_r (sem_assign rfl rfl) ?_
          refine dl_end ?_
          refine dw_ret ?_
          -- path tFFF
          rw [cmpP_s (nb_r hc4) hc5 hc6]
          exact ⟨.inr rfl, (resL_tmp rfl resL_nil)⟩
end Go.Proofs.YtcbjmiddangfoaaGreat
/- Plain: roots as the reference computes with them. -/
namespace Go.Proofs.YtcbjmiddangfoaaGreat
open Go Go.RowKit
def rB (b c : Rat) : Rat := if b = 0 ∨ c = 0 then 0 else b
def rC (b c : Rat) : Rat := if b = 0 ∨ c = 0 then 0 else c
theorem rB_z {b c : Rat} (h : b = 0 ∨ c = 0) : rB b c = 0 := by unfold rB; rw [if_pos h]
theorem rC_z {b c : Rat} (h : b = 0 ∨ c = 0) : rC b c = 0 := by unfold rC; rw [if_pos h]
theorem rB_n {b c : Rat} (h : b ≠ 0) (h' : c ≠ 0) : rB b c = b := by unfold rB; rw [if_neg (fun e => e.elim h h')]
theorem rC_n {b c : Rat} (h : b ≠ 0) (h' : c ≠ 0) : rC b c = c := by unfold rC; rw [if_neg (fun e => e.elim h h')]
/-- the sign of a + b sqrt(c), as the reference takes it -/
def s3 (a b c : Rat) : Int := if cmpR a 0 = cmpR b 0 ∨ cmpR b 0 = 0 then cmpR a 0 else if cmpR a 0 = 0 then cmpR b 0 else if 0 < a * a - b * b * c then cmpR a 0 else cmpR b 0
theorem s3_1 {a b c : Rat} (h : (cmpR a 0 == cmpR b 0) = true) : s3 a b c = cmpR a 0 := by unfold s3; rw [if_pos (.inl (by simpa using h))]
theorem s3_2 {a b c : Rat} (h : (cmpR b 0 == 0) = true) : s3 a b c = cmpR a 0 := by unfold s3; rw [if_pos (.inr (by simpa using h))]
theorem s3_n {a b c : Rat} (h : (cmpR a 0 == cmpR b 0) = false) (h2 : (cmpR b 0 == 0) = false) : s3 a b c = if cmpR a 0 = 0 then cmpR b 0 else if 0 < a * a - b * b * c then cmpR a 0 else cmpR b 0 := by
  unfold s3; rw [if_neg (fun e => e.elim (by simpa using h) (by simpa using h2))]
theorem r_gt {x : Rat} (h : decide (cmpR x 0 > 0) = true) : 0 < x := cmpR_gt0.1 (by simpa using h)
theorem r_ngt {x : Rat} (h : decide (cmpR x 0 > 0) = false) : ¬ 0 < x := fun e => by have := cmpR_gt0.2 e; simp at h; omega
theorem i_eq {s t : Int} (h : (s == t) = true) : s = t := by simpa using h
theorem i_ne {s t : Int} (h : (s == t) = false) : s ≠ t := by simpa using h
theorem fit_eq {b c e f : Rat} (hf : ¬ bad b c e f) (h1 : b ≠ 0) (h2 : e ≠ 0) : (cmpR c f == 0) = true := by
  rw [r_eqb']
  exact Classical.byContradiction fun h => hf ⟨h1, h2, h⟩
where
  r_eqb' {x y : Rat} : ((cmpR x y == 0) = true) = (x = y) := by rw [beq_iff_eq]; exact propext cmpR_eq0
end Go.Proofs.YtcbjmiddangfoaaGreat
/- Package swarfref03: signs, sums, products. -/
namespace Go.Proofs.YtcbjmiddangfoaaGreat
open Go Go.RowKit
-- no function swarf/swarfref03.square in this seat
-- no function swarf/swarfref03.norm in this seat
-- no function swarf/swarfref03.Sign in this seat
-- no function swarf/swarfref03.reduced in this seat
-- no function swarf/swarfref03.common in this seat
-- no function swarf/swarfref03.Add in this seat
-- no function swarf/swarfref03.Mul in this seat
-- no function swarf/swarfref03.AddRat in this seat
end Go.Proofs.YtcbjmiddangfoaaGreat
/- Points: Same, vectors, grids. -/
namespace Go.Proofs.YtcbjmiddangfoaaGreat
open Go Go.RowKit
-- no function swarf/swarfref03.Same in this seat
-- no function swarf/swarfref07.Same in this seat
-- no function swarf/swarfref07.SameVec in this seat
-- no function swarf/swarfref07.Back in this seat
-- no function swarf/swarfref07.Vec in this seat
-- no function swarf/point.OfGrid in this seat
-- no function swarf/point.Rational in this seat
-- no function swarf/point.Rational in this seat
-- no function swarf/swarfref07.OfGrid in this seat
-- no function swarf/swarfref07.Rational in this seat
-- no function swarf/swarfref07.Rational in this seat
end Go.Proofs.YtcbjmiddangfoaaGreat
/- Roots and points in reduced form: the reference. -/
namespace Go.Proofs.YtcbjmiddangfoaaGreat
open Go Go.RowKit
-- no function swarf/swarfref03.Valid in this seat
-- no function swarf/swarfref03.Small in this seat
-- no function swarf/swarfref03.Small in this seat
-- no function swarf/swarfref07.Valid in this seat
-- no function swarf/swarfref07.Small in this seat
-- no function swarf/swarfref07.Small in this seat
end Go.Proofs.YtcbjmiddangfoaaGreat
/- Plain: the order of points; perfect squares of fractions. -/
namespace Go.Proofs.YtcbjmiddangfoaaGreat
open Go Go.RowKit
def cmpC (a b c p q r : Rat) : Int := signQ (a - p) b (-q) 0 (zc b c) (zc q r)
def cmpPt (a1 b1 a2 b2 c p1 q1 p2 q2 r : Rat) : Int := if cmpC a1 b1 c p1 q1 r ≠ 0 then cmpC a1 b1 c p1 q1 r else cmpC a2 b2 c p2 q2 r
theorem cmpPt_t {a1 b1 a2 b2 c p1 q1 p2 q2 r : Rat} (h : (cmpC a1 b1 c p1 q1 r != 0) = true) : cmpPt a1 b1 a2 b2 c p1 q1 p2 q2 r = cmpC a1 b1 c p1 q1 r := by unfold cmpPt; rw [if_pos (by simpa using h)]
theorem cmpPt_f {a1 b1 a2 b2 c p1 q1 p2 q2 r : Rat} (h : (cmpC a1 b1 c p1 q1 r != 0) = false) : cmpPt a1 b1 a2 b2 c p1 q1 p2 q2 r = cmpC a2 b2 c p2 q2 r := by unfold cmpPt; rw [if_neg (by simpa using h)]
theorem Rz.zero {k : Nat} (hk : 1 ≤ k) : Rz k (0 : Rat) := ⟨⟨by have := pw_pos k; rw [Rat.zero_num]; omega, by have := pw_pos k; rw [Rat.zero_num]; omega⟩, by rw [Rat.zero_den]; exact Sz.one hk⟩
theorem Rz.zc {k : Nat} {b c : Rat} (h : Rz k c) (hk : 1 ≤ k) : Rz k (zc b c) := by
  unfold Go.Proofs.YtcbjmiddangfoaaGreat.zc
  split
  · exact Rz.zero hk
  · exact h
/-- the root of a fraction that is a square -/
def rt (c : Rat) : Rat := Rat.divInt (isqI c.num) (isqI (c.den : Int))
theorem rt_data {c : Rat} (h : sqR c = true) : dQ (if sqR c then isqI c.num else 0) (if sqR c then isqI (c.den : Int) else 0) = dR (rt c) := by
  rw [if_pos h, if_pos h]
  unfold sqR sqI at h
  simp only [Bool.and_eq_true, beq_iff_eq] at h
  obtain ⟨h1, h2⟩ := h
  have n0 := isqI_nonneg c.num
  have d0 := isqI_nonneg (c.den : Int)
  have dp := den_pos c
  have hd : 0 < isqI (c.den : Int) := by
    rcases Int.lt_trichotomy 0 (isqI (c.den : Int)) with e | e | e
    · exact e
    · rw [← e] at h2; simp at h2; omega
    · omega
  have hg : Int.gcd (isqI c.num) (isqI (c.den : Int)) = 1 := by
    have hr : Int.gcd c.num (c.den : Int) = 1 := c.reduced
    have d1 : Int.gcd (isqI c.num) (isqI (c.den : Int)) ∣ Int.gcd c.num (c.den : Int) := by
      refine Int.dvd_gcd ?_ ?_
      · have t : ((Int.gcd (isqI c.num) (isqI (c.den : Int)) : Nat) : Int) ∣ isqI c.num * isqI c.num := Int.dvd_mul_of_dvd_left (Int.gcd_dvd_left ..)
        rw [h1] at t; exact t
      · have t : ((Int.gcd (isqI c.num) (isqI (c.den : Int)) : Nat) : Int) ∣ isqI (c.den : Int) * isqI (c.den : Int) := Int.dvd_mul_of_dvd_left (Int.gcd_dvd_right ..)
        rw [h2] at t; exact t
    rw [hr] at d1
    exact Nat.dvd_one.1 d1
  unfold rt
  exact (dR_red1 hd (by rw [hg]; rfl)).symm
end Go.Proofs.YtcbjmiddangfoaaGreat
/- The order of points and the square of a root: the reference. -/
namespace Go.Proofs.YtcbjmiddangfoaaGreat
open Go Go.RowKit
-- no function swarf/swarfref07.Compare in this seat
-- no function swarf/swarfref07.Equal in this seat
-- no function swarf/swarfref03.Square in this seat
end Go.Proofs.YtcbjmiddangfoaaGreat
/- Plain: the program's order of points. -/
namespace Go.Proofs.YtcbjmiddangfoaaGreat
open Go Go.RowKit
def cmpCP (a b c p q r : Rat) : Int := cmpP a b (zc b c) p q (zc q r)
def cmpPP (a1 b1 a2 b2 c p1 q1 p2 q2 r : Rat) : Int := if cmpP a1 b1 (zc b1 c) p1 q1 (zc q1 r) ≠ 0 then cmpP a1 b1 (zc b1 c) p1 q1 (zc q1 r) else cmpP a2 b2 (zc b2 c) p2 q2 (zc q2 r)
theorem cmpPP_t {a1 b1 a2 b2 c p1 q1 p2 q2 r : Rat} (h : (cmpP a1 b1 (zc b1 c) p1 q1 (zc q1 r) != 0) = true) : cmpPP a1 b1 a2 b2 c p1 q1 p2 q2 r = cmpP a1 b1 (zc b1 c) p1 q1 (zc q1 r) := by unfold cmpPP; rw [if_pos (by simpa using h)]
theorem cmpPP_f {a1 b1 a2 b2 c p1 q1 p2 q2 r : Rat} (h : (cmpP a1 b1 (zc b1 c) p1 q1 (zc q1 r) != 0) = false) : cmpPP a1 b1 a2 b2 c p1 q1 p2 q2 r = cmpP a2 b2 (zc b2 c) p2 q2 (zc q2 r) := by unfold cmpPP; rw [if_neg (by simpa using h)]
end Go.Proofs.YtcbjmiddangfoaaGreat
/- point.Compare, Equal, Square. -/
namespace Go.Proofs.YtcbjmiddangfoaaGreat
open Go Go.RowKit
-- no function swarf/point.Compare in this seat
-- no function swarf/point.Equal in this seat
-- no function swarf/point.Square in this seat
end Go.Proofs.YtcbjmiddangfoaaGreat
/- Plain: the root of a square as a number; the zero root. -/
namespace Go.Proofs.YtcbjmiddangfoaaGreat
open Go Go.RowKit
theorem isqI_pos {x : Int} (h : 0 < x) : 0 < isqI x := by
  have h1 := isqI_lt (x := x) (by omega)
  have h2 := isqI_nonneg x
  by_cases e : isqI x = 0
  · rw [e] at h1; omega
  · omega
theorem Rz.rt {k : Nat} {c : Rat} (h : Rz k c) : Rz k (rt c) := Rz.of h.n.isq h.d.isq (by have := isqI_pos (den_pos c); omega)
theorem rt_cells {c : Rat} (h : sqR c = true) : cQ (if sqR c then isqI c.num else 0) (if sqR c then isqI (c.den : Int) else 0) = cR (rt c) := by
  have := rt_data h
  unfold dQ dR at this
  injection this
def zR : List CellD := [.b false, .s 0 [], .b false, .s 0 [], .b false, .s 0 [], .b false, .s 0 [], .b false, .s 0 [], .b false, .s 0 []]
end Go.Proofs.YtcbjmiddangfoaaGreat
/- swarfref03.Make, CmpRat. -/
namespace Go.Proofs.YtcbjmiddangfoaaGreat
open Go Go.RowKit
-- no function swarf/swarfref03.Make in this seat
-- no function swarf/swarfref03.Make in this seat
-- no function swarf/swarfref03.CmpRat in this seat
end Go.Proofs.YtcbjmiddangfoaaGreat
/- swarfref03.Of. -/
namespace Go.Proofs.YtcbjmiddangfoaaGreat
open Go Go.RowKit
-- no function swarf/swarfref03.Of in this seat
-- no function swarf/swarfref03.Of in this seat
end Go.Proofs.YtcbjmiddangfoaaGreat
/- Points: Make. -/
namespace Go.Proofs.YtcbjmiddangfoaaGreat
open Go Go.RowKit
-- no function swarf/point.Make in this seat
-- no function swarf/point.Make in this seat
-- no function swarf/swarfref07.Make in this seat
-- no function swarf/swarfref07.Make in this seat
end Go.Proofs.YtcbjmiddangfoaaGreat
/- Plain: the chapter's examples of points at their numbers. -/
namespace Go.Proofs.YtcbjmiddangfoaaGreat
open Go Go.RowKit
theorem rz_l {k : Nat} {x : Rat} (h : (decide (-1000000000 < x.num) && (decide (x.num < 1000000000) && (decide ((x.den : Int) < 1000000000) && decide (1 ≤ k)))) = true) : Rz k x := by
  simp only [Bool.and_eq_true, decide_eq_true_eq] at h
  have h1 := pw_le h.2.2.2
  have e : pw 1 = 1000000000 := by decide +kernel
  have hp := den_pos x
  exact ⟨⟨by omega, by omega⟩, ⟨by omega, by omega⟩⟩
section
variable {P : Program} {f : FuncId} {ds rs : List D0} {x y z u v x' y' z' u' v' : Rat}
theorem rcast2 (h : Ok P f ds [.a (cR x ++ cR y)]) (e1 : x = x') (e2 : y = y') : Ok P f ds [.a (cR x' ++ cR y')] := by subst e1 e2; exact h
theorem rcast3 (h : Ok P f ds [.a (cR x ++ cR y ++ cR z)]) (e1 : x = x') (e2 : y = y') (e3 : z = z') : Ok P f ds [.a (cR x' ++ cR y' ++ cR z')] := by subst e1 e2 e3; exact h
theorem rcast5 {rs : List D0} (h : Ok P f ds (.a (cR x ++ cR y ++ cR z ++ cR u ++ cR v) :: rs)) (e1 : x = x') (e2 : y = y') (e3 : z = z') (e4 : u = u') (e5 : v = v') : Ok P f ds (.a (cR x' ++ cR y' ++ cR z' ++ cR u' ++ cR v') :: rs) := by subst e1 e2 e3 e4 e5; exact h
theorem rcast5a (h : Ok P f ds [.a (cR x ++ cR y ++ cR z ++ cR u ++ cR v)]) (e1 : x = x') (e2 : y = y') (e3 : z = z') (e4 : u = u') (e5 : v = v') : Ok P f ds [.a (cR x' ++ cR y' ++ cR z' ++ cR u' ++ cR v')] := rcast5 h e1 e2 e3 e4 e5
theorem rcastb {b c : Bool} (h : Ok P f ds [.c (.b b)]) (e : b = c) : Ok P f ds [.c (.b c)] := by subst e; exact h
theorem rcasti {b c : Int} (h : Ok P f ds [.c (.i .i64 b)]) (e : b = c) : Ok P f ds [.c (.i .i64 c)] := by subst e; exact h
end
theorem aw_q8 : sqLo (frLo 8) = 185363 := isqI_unique (x := max (frLo 8) 0 * 65536) (by decide +kernel) (by decide) (by decide +kernel) (by decide +kernel)
theorem aw_h8 : isqI (frHi 8 * 65536) = 185363 := isqI_unique (by decide +kernel) (by decide) (by decide +kernel) (by decide +kernel)
theorem aw_q8h : sqHi (frHi 8) = 185364 := by unfold sqHi sqI; rw [aw_h8]; decide +kernel
theorem aw_q2 : sqLo (frLo 2) = 92681 := isqI_unique (x := max (frLo 2) 0 * 65536) (by decide +kernel) (by decide) (by decide +kernel) (by decide +kernel)
theorem aw_h2 : isqI (frHi 2 * 65536) = 92681 := isqI_unique (by decide +kernel) (by decide) (by decide +kernel) (by decide +kernel)
theorem aw_q2h : sqHi (frHi 2) = 92682 := by unfold sqHi sqI; rw [aw_h2]; decide +kernel
theorem aw_rt8 : rtOk 0 1 8 = true ∧ rtLo 0 1 8 = 185363 ∧ rtHi 0 1 8 = 185364 := by
  unfold rtLo rtHi rtOk rtX rtMo rtMl rtMh
  rw [aw_q8, aw_q8h]
  decide +kernel
theorem aw_rt2 : rtOk 0 2 2 = true ∧ rtLo 0 2 2 = 185362 ∧ rtHi 0 2 2 = 185364 := by
  unfold rtLo rtHi rtOk rtX rtMo rtMl rtMh
  rw [aw_q2, aw_q2h]
  decide +kernel
theorem aw_rt3 : rtOk 3 0 0 = true ∧ rtLo 3 0 0 = 196608 ∧ rtHi 3 0 0 = 196608 := by
  have e : rtOk 3 0 0 = true := by unfold rtOk; rw [show (cmpR 0 0 == 0) = true from by decide +kernel]; decide +kernel
  unfold rtLo rtHi
  rw [e]
  decide +kernel
theorem aw_k : qkK 0 1 (-2) 0 8 2 = false := by
  have g8 : gL 8 = frLo 8 ∧ gH 8 = frHi 8 := by decide +kernel
  have g2 : gL 2 = frLo 2 ∧ gH 2 = frHi 2 := by decide +kernel
  unfold qkK qsL qsH qabL qabH qcdL qcdH qbL qbH qdL qdH qmnL qmnH
  rw [g8.1, g8.2, g2.1, g2.2, aw_q8, aw_q8h, aw_q2, aw_q2h]
  rw [show skI (aL (aL (gL 0) (gH 0) (pL (gL 1) (gH 1) 185363 185364) (pH (gL 1) (gH 1) 185363 185364)) (aH (gL 0) (gH 0) (pL (gL 1) (gH 1) 185363 185364) (pH (gL 1) (gH 1) 185363 185364))
    (aL (pL (gL (-2)) (gH (-2)) 92681 92682) (pH (gL (-2)) (gH (-2)) 92681 92682) (pL (gL 0) (gH 0) (pL 185363 185364 92681 92682) (pH 185363 185364 92681 92682)) (pH (gL 0) (gH 0) (pL 185363 185364 92681 92682) (pH 185363 185364 92681 92682)))
    (aH (pL (gL (-2)) (gH (-2)) 92681 92682) (pH (gL (-2)) (gH (-2)) 92681 92682) (pL (gL 0) (gH 0) (pL 185363 185364 92681 92682) (pH 185363 185364 92681 92682)) (pH (gL 0) (gH 0) (pL 185363 185364 92681 92682) (pH 185363 185364 92681 92682))))
    (aH (aL (gL 0) (gH 0) (pL (gL 1) (gH 1) 185363 185364) (pH (gL 1) (gH 1) 185363 185364)) (aH (gL 0) (gH 0) (pL (gL 1) (gH 1) 185363 185364) (pH (gL 1) (gH 1) 185363 185364))
    (aL (pL (gL (-2)) (gH (-2)) 92681 92682) (pH (gL (-2)) (gH (-2)) 92681 92682) (pL (gL 0) (gH 0) (pL 185363 185364 92681 92682) (pH 185363 185364 92681 92682)) (pH (gL 0) (gH 0) (pL 185363 185364 92681 92682) (pH 185363 185364 92681 92682)))
    (aH (pL (gL (-2)) (gH (-2)) 92681 92682) (pH (gL (-2)) (gH (-2)) 92681 92682) (pL (gL 0) (gH 0) (pL 185363 185364 92681 92682) (pH 185363 185364 92681 92682)) (pH (gL 0) (gH 0) (pL 185363 185364 92681 92682) (pH 185363 185364 92681 92682)))) = false from by decide +kernel, Bool.and_false]
theorem aw_c1 : cmpPP 0 1 0 0 8 0 2 0 0 2 = 0 := by
  unfold cmpPP
  rw [show zc 1 8 = 8 from by decide +kernel, show zc 2 2 = 2 from by decide +kernel, show zc 0 8 = 0 from by decide +kernel, show zc 0 2 = 0 from by decide +kernel]
  have e1 : cmpP 0 1 8 0 2 2 = 0 := by
    rw [cmpP_s (nb_l (by decide +kernel)) (by rw [aw_rt8.1, aw_rt8.2.1, aw_rt8.2.2, aw_rt2.1, aw_rt2.2.1, aw_rt2.2.2]; decide +kernel) (by decide +kernel)]
    rw [show (0 : Rat) - 0 = 0 from by decide +kernel]
    unfold sgnP
    rw [aw_k]
    decide +kernel
  rw [e1, if_neg (by decide), cmpP_r (by decide +kernel) (by decide +kernel)]
  decide +kernel
theorem aw_c2 : cmpPP 0 1 0 0 8 3 0 (-1) 0 0 = -1 := by
  have e1 : cmpP 0 1 (zc 1 8) 3 0 (zc 0 0) = -1 := by
    rw [show zc 1 8 = 8 from by decide +kernel, show zc 0 0 = 0 from by decide +kernel]
    have hk : apK (rtOk 0 1 8) (rtOk 3 0 0) (rtLo 0 1 8) (rtHi 0 1 8) (rtLo 3 0 0) (rtHi 3 0 0) = true := by rw [aw_rt8.1, aw_rt8.2.1, aw_rt8.2.2, aw_rt3.1, aw_rt3.2.1, aw_rt3.2.2]; decide +kernel
    rw [cmpP_a (nb_l (by decide +kernel)) hk, aw_rt8.1, aw_rt8.2.1, aw_rt8.2.2, aw_rt3.1, aw_rt3.2.1, aw_rt3.2.2]
    decide +kernel
  unfold cmpPP
  rw [e1, if_pos (by decide)]
end Go.Proofs.YtcbjmiddangfoaaGreat
/- The examples of the chapter on points. -/
namespace Go.Proofs.YtcbjmiddangfoaaGreat
open Go Go.RowKit
-- no function swarf/swarflaw07.root in this seat
-- no function swarf/swarflaw07.root in this seat
-- no function swarf/swarflaw07.awake in this seat
end Go.Proofs.YtcbjmiddangfoaaGreat
/- Plain: what the laws of points lean on. -/
namespace Go.Proofs.YtcbjmiddangfoaaGreat
open Go Go.RowKit
/-- A slice made of values, given out at once. -/
theorem sem_slit_D {P : Program} {ops : Array Oper} {T : TF} {B : BF} {dst : Option Nat} {U e : TypeId} {ps : Array (Nat × Operand)} {ty : TypeId} {pos : String} {af : Array Edge} {g : Option (Nat × Bool)} {n m by_ : Nat} {zs us : List CellD} {dps : List (Nat × D0)}
    (hU : elB P U = some (e, m, by_, zs)) (hp : partsD T ps.toList = some dps) (hf : fillD (fun i => some (i * m, m)) (List.replicate n zs).flatten dps = some us) (hl : us.length = n * m) (hn : n * m ≤ 16777216) (hm : 0 < n * m)
    (hg : gd ops ⟨dst, .buildSlice U n ps, ty, pos, af, g⟩ T = some true) : Sem P ops ⟨dst, .buildSlice U n ps, ty, pos, af, g⟩ T B (.r (.v (.c (.s n us)))) := by
  have h := sem_slit (B := B) hU hp hf hn hm hg
  refine ⟨nop rfl, fun V β a w hs => ?_⟩
  obtain ⟨hw, hg⟩ := h V β a w hs
  refine ⟨hw, hg.mono ?_⟩
  rintro v w' ⟨vs, rfl, rfl, hr⟩
  refine ⟨?_, (Below.refl _ w).alloc (Nat.le_refl _) _⟩
  have hkeep := Keep.below (av := V) ((Below.refl w.heap.size w).alloc (Nat.le_refl _) (.cells vs e))
  have hr2 := hr.keep hkeep
  have hvl : vs.size = n * m := by have := hr.1; rw [hl] at this; simpa using this
  have hn0 : 0 < n := by
    rcases Nat.eq_zero_or_pos n with h0 | h0
    · rw [h0, Nat.zero_mul] at hm; omega
    · exact h0
  have hm0 : 0 < m := by
    rcases Nat.eq_zero_or_pos m with h0 | h0
    · rw [h0, Nat.mul_zero] at hm; omega
    · exact h0
  have hnm : n ≤ n * m := Nat.le_mul_of_pos_right n hm0
  refine .s w.heap.size 0 n m n _ (fun j => vs.getD j undef) hn0 (Nat.le_refl _) (by omega) hl (by simp) (fun h => by have := hs.av _ h; omega) (fun j hj => ?_) (fun j u hj => ?_)
  · rw [Nat.zero_add, cells_of_box (heap_alloc_new w (.cells vs e))]
    have : j < vs.size := by omega
    simp [Array.getD, this]
  · have hlt : j < n * m := by have := (List.getElem?_eq_some_iff.1 hj).1; omega
    refine hr2.2 j _ u ?_ hj
    rw [Array.getElem?_toList]
    have : j < vs.size := by omega
    simp [Array.getD, this]
theorem cI_zero : cI 0 = [.b false, .s 0 []] := by
  unfold cI cL
  rw [show (0 : Int).natAbs = 0 from rfl, lim_zero]
  rfl
theorem vRoot_bc {b c : Rat} (h : vRoot b c = true) : (b = 0 ↔ c = 0) := by
  unfold vRoot at h
  split at h
  · have h2 := of_decide_eq_true h
    exact ⟨fun _ => h2.2, fun _ => h2.1⟩
  · rename_i hn
    exact ⟨fun e => absurd (.inl e) hn, fun e => absurd (.inr e) hn⟩
theorem lm_x {b1 c1 b2 c2 : Rat} (h : vRoot b1 c1 = true) : zc b1 (zcp b1 b2 (cc b1 c1 c2)) = c1 := by
  by_cases hb : b1 = 0
  · rw [zc_t hb, (vRoot_bc h).1 hb]
  · rw [zc_f hb, zcp_f1 hb, cc_f hb]
theorem lm_y {b1 c1 b2 c2 : Rat} (h : vRoot b2 c2 = true) (hb0 : ¬ bad b1 c1 b2 c2) : zc b2 (zcp b1 b2 (cc b1 c1 c2)) = c2 := by
  by_cases hb : b2 = 0
  · rw [zc_t hb, (vRoot_bc h).1 hb]
  · rw [zc_f hb, zcp_f2 hb]
    by_cases h1 : b1 = 0
    · rw [cc_t h1]
    · rw [cc_f h1]
      apply Classical.byContradiction
      intro hc
      exact hb0 ⟨h1, hb, hc⟩
theorem Rz.zcp {k : Nat} {b1 b2 c : Rat} (h : Rz k c) (hk : 1 ≤ k) : Rz k (zcp b1 b2 c) := by
  unfold Go.Proofs.YtcbjmiddangfoaaGreat.zcp
  split
  · exact Rz.zero hk
  · exact h
theorem Rz.cc {k : Nat} {b1 c1 c2 : Rat} (h : Rz k c1) (h2 : Rz k c2) : Rz k (cc b1 c1 c2) := by
  unfold Go.Proofs.YtcbjmiddangfoaaGreat.cc
  split
  · exact h2
  · exact h
theorem rsame_refl (a b c : Rat) : rsame a b c a b c = true := rsame_iff.2 ⟨rfl, rfl, rfl⟩
theorem psame_refl (a b c d e : Rat) : psame a b c d e a b c d e = true := psame_iff.2 ⟨rfl, rfl, rfl, rfl, rfl⟩
theorem vsame_refl (a b : Rat) : vsame a b a b = true := by unfold vsame; simp
theorem and3_s {a b c : Bool} (h : ¬ ((a && (b && c)) = true)) : (a && (b && c)) = false := by simpa using h
end Go.Proofs.YtcbjmiddangfoaaGreat
/- Zero points are the same. -/
namespace Go.Proofs.YtcbjmiddangfoaaGreat
open Go Go.RowKit
def zF4 : List CellD := [.b false, .s 0 [], .b false, .s 0 []]
theorem nSame0 : Ok Tryz.prog 51 [.a [.b false, .s 0 []], .a [.b false, .s 0 []]] [.c (.b true)] := by
  have h := nSame_ok (x := 0) (y := 0) (Sz.small (by decide) (by decide) (by decide)) (Sz.small (by decide) (by decide) (by decide))
  unfold dI at h
  rw [cI_zero] at h
  exact h
theorem sSame0  : Ok Tryz.prog 24 [.a (zF4), .a (zF4)] [.c (.b true)] := by
  refine Ok.of (by kernel_rfl) Tryz.func24 rfl rfl ?_
  rw [show Tryz.f24.ntmps = 17 from rfl, show Tryz.f24.results.toList = [.tmp 4] from rfl]
  refine dw_seq ?_
  -- region 0
  refine dw_region (by kernel_rfl) ?_
  refine dl_new (sem_box_a rfl rfl) rfl ?_
  refine dl_new (sem_box_a rfl rfl) rfl ?_
  refine dl_r (sem_assign rfl rfl) ?_
  refine dl_end ?_
  refine dw_seq ?_
  -- region 1
  refine dw_region (by kernel_rfl) ?_
  refine dl_r (sem_field fd26_0 rfl rfl) ?_
  refine dl_r (sem_load ty24 rfl rfl rfl rfl rfl) ?_
  refine dl_r (sem_field fd26_0 rfl rfl) ?_
  refine dl_r (sem_load ty24 rfl rfl rfl rfl rfl) ?_
  refine dl_r (sem_call rfl rfl (nSame0) rfl) ?_
  refine dl_r (sem_move rfl rfl) ?_
  refine dl_r (sem_field fd26_1 rfl rfl) ?_
  refine dl_r (sem_load ty24 rfl rfl rfl rfl rfl) ?_
  refine dl_r (sem_field fd26_1 rfl rfl) ?_
  refine dl_r (sem_load ty24 rfl rfl rfl rfl rfl) ?_
  refine dl_r (sem_call rfl rfl (nSame0) rfl) ?_
  refine dl_r (sem_pick rfl rfl rfl rfl) ?_
  refine dl_r (sem_assign rfl rfl) ?_
  refine dl_end ?_
  refine dw_ret ?_
  -- path 
  exact ⟨.inr rfl, (resL_tmp rfl resL_nil)⟩
-- no function swarf/swarfref07.Same in this seat
-- no function swarf/swarfref07.SameVec in this seat
end Go.Proofs.YtcbjmiddangfoaaGreat
/- Data: a bool known by a proof. -/
namespace Go.Proofs.YtcbjmiddangfoaaGreat
open Go Go.RowKit
theorem sem_castb {P : Program} {ops : Array Oper} {o : Oper} {T : TF} {B : BF} {b c : Bool} (h : Sem P ops o T B (.r (.v (.c (.b b))))) (e : b = c) : Sem P ops o T B (.r (.v (.c (.b c)))) := by subst e; exact h
end Go.Proofs.YtcbjmiddangfoaaGreat
