/- The greatest step for an engagement: the program. -/
import Derived.Test.YtonjlikaacengaaGreatZaK
namespace Go.Proofs.YtonjlikaacengaaGreat
open Go Go.RowKit
theorem eAdd_ok {x y : Rat} (hx : Rz 300 x) (hy : Rz 300 y) : Ok Tryz.prog 103 [dR x, dR y] [dR (x + y)] := by
  refine Ok.of (by kernel_rfl) Tryz.func103 rfl rfl ?_
  rw [show Tryz.f103.ntmps = 8 from rfl, show Tryz.f103.results.toList = [.cell 4 28] from rfl]
  refine dw_seq ?_
  -- region 0
  refine dw_region (by kernel_rfl) ?_
  refine dl_new (sem_box_a rfl rfl) rfl ?_
  refine dl_new (sem_box_a rfl rfl) rfl ?_
  refine dl_new (sem_alloc zc28 rfl) rfl ?_
  refine dl_end ?_
  refine dw_seq ?_
  -- region 1
  refine dw_region (by kernel_rfl) ?_
  refine dl_r (sem_load (us := cR x) ty28 rfl rfl rfl rfl rfl) ?_
  refine dl_r (sem_load (us := cR y) ty28 rfl rfl rfl rfl rfl) ?_
  refine dl_r (sem_call rfl rfl (pAdd_ok (by first | assumption | exact Rz.mono hx (by decide)) (by first | assumption | exact Rz.mono hy (by decide))) rfl) ?_
  refine dl_st (sem_store_a ty28 rfl rfl rfl rfl rfl rfl) ?_
  refine dl_end ?_
  refine dw_ret ?_
  -- path 
  exact ⟨.inr rfl, (resL_cell (us := cR (x + y)) ty28 rfl rfl rfl rfl resL_nil)⟩
theorem eSub_ok {x y : Rat} (hx : Rz 300 x) (hy : Rz 300 y) : Ok Tryz.prog 102 [dR x, dR y] [dR (x - y)] := by
  refine Ok.of (by kernel_rfl) Tryz.func102 rfl rfl ?_
  rw [show Tryz.f102.ntmps = 8 from rfl, show Tryz.f102.results.toList = [.cell 4 28] from rfl]
  refine dw_seq ?_
  -- region 0
  refine dw_region (by kernel_rfl) ?_
  refine dl_new (sem_box_a rfl rfl) rfl ?_
  refine dl_new (sem_box_a rfl rfl) rfl ?_
  refine dl_new (sem_alloc zc28 rfl) rfl ?_
  refine dl_end ?_
  refine dw_seq ?_
  -- region 1
  refine dw_region (by kernel_rfl) ?_
  refine dl_r (sem_load (us := cR x) ty28 rfl rfl rfl rfl rfl) ?_
  refine dl_r (sem_load (us := cR y) ty28 rfl rfl rfl rfl rfl) ?_
  refine dl_r (sem_call rfl rfl (pSub_ok (by first | assumption | exact Rz.mono hx (by decide)) (by first | assumption | exact Rz.mono hy (by decide))) rfl) ?_
  refine dl_st (sem_store_a ty28 rfl rfl rfl rfl rfl rfl) ?_
  refine dl_end ?_
  refine dw_ret ?_
  -- path 
  exact ⟨.inr rfl, (resL_cell (us := cR (x - y)) ty28 rfl rfl rfl rfl resL_nil)⟩
theorem eMul_ok {x y : Rat} (hx : Rz 300 x) (hy : Rz 300 y) : Ok Tryz.prog 101 [dR x, dR y] [dR (x * y)] := by
  refine Ok.of (by kernel_rfl) Tryz.func101 rfl rfl ?_
  rw [show Tryz.f101.ntmps = 8 from rfl, show Tryz.f101.results.toList = [.cell 4 28] from rfl]
  refine dw_seq ?_
  -- region 0
  refine dw_region (by kernel_rfl) ?_
  refine dl_new (sem_box_a rfl rfl) rfl ?_
  refine dl_new (sem_box_a rfl rfl) rfl ?_
  refine dl_new (sem_alloc zc28 rfl) rfl ?_
  refine dl_end ?_
  refine dw_seq ?_
  -- region 1
  refine dw_region (by kernel_rfl) ?_
  refine dl_r (sem_load (us := cR x) ty28 rfl rfl rfl rfl rfl) ?_
  refine dl_r (sem_load (us := cR y) ty28 rfl rfl rfl rfl rfl) ?_
  refine dl_r (sem_call rfl rfl (pMul_ok (by first | assumption | exact Rz.mono hx (by decide)) (by first | assumption | exact Rz.mono hy (by decide))) rfl) ?_
  refine dl_st (sem_store_a ty28 rfl rfl rfl rfl rfl rfl) ?_
  refine dl_end ?_
  refine dw_ret ?_
  -- path 
  exact ⟨.inr rfl, (resL_cell (us := cR (x * y)) ty28 rfl rfl rfl rfl resL_nil)⟩
theorem eCos_ok {x : Rat} (hx : Rz 300 x) : Ok Tryz.prog 74 [dR x] [.c (.b (cosB x))] := by
  refine Ok.of (by kernel_rfl) Tryz.func74 rfl rfl ?_
  rw [show Tryz.f74.ntmps = 16 from rfl, show Tryz.f74.results.toList = [.tmp 2] from rfl]
  refine dw_seq ?_
  -- region 0
  refine dw_region (by kernel_rfl) ?_
  refine dl_new (sem_box_a rfl rfl) rfl ?_
  refine dl_r (sem_assign rfl rfl) ?_
  refine dl_end ?_
  refine dw_seq ?_
  -- region 1
  refine dw_region (by kernel_rfl) ?_
  refine dl_r (sem_call rfl rfl (pFrom_ok (by omega) (by omega)) rfl) ?_
  refine dl_new (sem_alloc zc28 rfl) rfl ?_
  refine dl_st (sem_store_a ty28 rfl rfl rfl rfl rfl rfl) ?_
  refine dl_end ?_
  refine dw_seq ?_
  -- region 2
  refine dw_draw 12 [] follows_mixed (by kernel_rfl) rfl rfl ?_
  refine dq_r (sem_load (us := cR x) ty28 rfl rfl rfl rfl rfl) ?_
  refine dq_r (sem_load (us := cR (((1 : Int) : Rat))) ty28 rfl rfl rfl rfl rfl) ?_
  refine dq_r (sem_call rfl rfl (pCmp_ok (by first | assumption | exact Rz.mono hx (by decide)) (by first | assumption | exact Rz.mono (Rz.int (Sz.small (k := 3) (by decide) (by decide) (by decide)) (by decide)) (by decide))) rfl) ?_
  refine dq_r (sem_cmp rfl rfl rfl rfl) ?_
  refine dq_rb (sem_move rfl rfl) (fun c1 hb1 => ?_)
  cases c1
  · refine dq_skip (sem_skip rfl) ?_
    refine dq_skip (sem_skip rfl) ?_
    refine dq_skip (sem_skip rfl) ?_
    refine dq_skip (sem_skip rfl) ?_
    refine dq_skip (sem_skip rfl) ?_
    refine dq_r (sem_pick rfl rfl rfl rfl) ?_
    refine dq_r (sem_assign rfl rfl) ?_
    refine dq_end ?_
    refine dl_start0 ?_
    refine dl_end ?_
    refine dw_ret ?_
    -- path f
    rw [cosB_f hb1]
    exact ⟨.inr rfl, (resL_tmp rfl resL_nil)⟩
  · refine dq_r (sem_load (us := cR x) ty28 rfl rfl rfl rfl rfl) ?_
    refine dq_r (sem_call rfl rfl (pNeg_ok (by first | assumption | exact Rz.mono hx (by decide))) rfl) ?_
    refine dq_r (sem_load (us := cR (((1 : Int) : Rat))) ty28 rfl rfl rfl rfl rfl) ?_
    refine dq_r (sem_call rfl rfl (pCmp_ok (by first | assumption | exact Rz.mono (Rz.neg hx) (by decide)) (by first | assumption | exact Rz.mono (Rz.int (Sz.small (k := 3) (by decide) (by decide) (by decide)) (by decide)) (by decide))) rfl) ?_
    refine dq_r (sem_cmp rfl rfl rfl rfl) ?_
    refine dq_r (sem_pick rfl rfl rfl rfl) ?_
    refine dq_r (sem_assign rfl rfl) ?_
    refine dq_end ?_
    refine dl_start0 ?_
    refine dl_end ?_
    refine dw_ret ?_
    -- path t
    rw [cosB_t hb1]
    exact ⟨.inr rfl, (resL_tmp rfl resL_nil)⟩
theorem tCos_ok {x : Rat} (hx : Rz 300 x) : Ok Tryz.prog 29 [dR x] [.c (.b (cosB x))] := by
  refine Ok.of (by kernel_rfl) Tryz.func29 rfl rfl ?_
  rw [show Tryz.f29.ntmps = 16 from rfl, show Tryz.f29.results.toList = [.tmp 2] from rfl]
  refine dw_seq ?_
  -- region 0
  refine dw_region (by kernel_rfl) ?_
  refine dl_new (sem_box_a rfl rfl) rfl ?_
  refine dl_r (sem_assign rfl rfl) ?_
  refine dl_end ?_
  refine dw_seq ?_
  -- region 1
  refine dw_region (by kernel_rfl) ?_
  refine dl_r (sem_call rfl rfl (pFrom_ok (by omega) (by omega)) rfl) ?_
  refine dl_new (sem_alloc zc28 rfl) rfl ?_
  refine dl_st (sem_store_a ty28 rfl rfl rfl rfl rfl rfl) ?_
  refine dl_end ?_
  refine dw_seq ?_
  -- region 2
  refine dw_draw 12 [] follows_mixed (by kernel_rfl) rfl rfl ?_
  refine dq_r (sem_load (us := cR x) ty28 rfl rfl rfl rfl rfl) ?_
  refine dq_r (sem_load (us := cR (((1 : Int) : Rat))) ty28 rfl rfl rfl rfl rfl) ?_
  refine dq_r (sem_call rfl rfl (pCmp_ok (by first | assumption | exact Rz.mono hx (by decide)) (by first | assumption | exact Rz.mono (Rz.int (Sz.small (k := 3) (by decide) (by decide) (by decide)) (by decide)) (by decide))) rfl) ?_
  refine dq_r (sem_cmp rfl rfl rfl rfl) ?_
  refine dq_rb (sem_move rfl rfl) (fun c1 hb1 => ?_)
  cases c1
  · refine dq_skip (sem_skip rfl) ?_
    refine dq_skip (sem_skip rfl) ?_
    refine dq_skip (sem_skip rfl) ?_
    refine dq_skip (sem_skip rfl) ?_
    refine dq_skip (sem_skip rfl) ?_
    refine dq_r (sem_pick rfl rfl rfl rfl) ?_
    refine dq_r (sem_assign rfl rfl) ?_
    refine dq_end ?_
    refine dl_start0 ?_
    refine dl_end ?_
    refine dw_ret ?_
    -- path f
    rw [cosB_f hb1]
    exact ⟨.inr rfl, (resL_tmp rfl resL_nil)⟩
  · refine dq_r (sem_load (us := cR x) ty28 rfl rfl rfl rfl rfl) ?_
    refine dq_r (sem_load (us := cR (((1 : Int) : Rat))) ty28 rfl rfl rfl rfl rfl) ?_
    refine dq_r (sem_call rfl rfl (pNeg_ok (by first | assumption | exact Rz.mono (Rz.int (Sz.small (k := 3) (by decide) (by decide) (by decide)) (by decide)) (by decide))) rfl) ?_
    refine dq_r (sem_call rfl rfl (pCmp_ok (by first | assumption | exact Rz.mono hx (by decide)) (by first | assumption | exact Rz.mono (Rz.neg (Rz.int (Sz.small (k := 3) (by decide) (by decide) (by decide)) (by decide))) (by decide))) rfl) ?_
    refine dq_r (sem_cmp rfl rfl rfl rfl) ?_
    refine dq_r (sem_pick rfl rfl rfl rfl) ?_
    refine dq_r (sem_assign rfl rfl) ?_
    refine dq_end ?_
    refine dl_start0 ?_
    refine dl_end ?_
    refine dw_ret ?_
    -- path t
    rw [cosB_t2 hb1]
    exact ⟨.inr rfl, (resL_tmp rfl resL_nil)⟩
theorem eHalf_ok {R r e : Rat} (hR : Rz 20 R) (hr : Rz 20 r) (he : Rz 20 e) (h0 : ((2 : Int) : Rat) * (e * r) ≠ 0) : Ok Tryz.prog 100 [dR R, dR r, dR e] [dR (hfQ R r e)] := by
  refine Ok.of (by kernel_rfl) Tryz.func100 rfl rfl ?_
  rw [show Tryz.f100.ntmps = 35 from rfl, show Tryz.f100.results.toList = [.cell 6 28] from rfl]
  refine dw_seq ?_
  -- region 0
  refine dw_region (by kernel_rfl) ?_
  refine dl_new (sem_box_a rfl rfl) rfl ?_
  refine dl_new (sem_box_a rfl rfl) rfl ?_
  refine dl_new (sem_box_a rfl rfl) rfl ?_
  refine dl_new (sem_alloc zc28 rfl) rfl ?_
  refine dl_end ?_
  refine dw_seq ?_
  -- region 1
  refine dw_draw 12 [] follows_mixed (by kernel_rfl) rfl rfl ?_
  refine dq_r (sem_load (us := cR R) ty28 rfl rfl rfl rfl rfl) ?_
  refine dq_r (sem_load (us := cR R) ty28 rfl rfl rfl rfl rfl) ?_
  refine dq_r (sem_call rfl rfl (eMul_ok (by first | assumption | exact Rz.mono hR (by decide)) (by first | assumption | exact Rz.mono hR (by decide))) rfl) ?_
  refine dq_r (sem_load (us := cR e) ty28 rfl rfl rfl rfl rfl) ?_
  refine dq_r (sem_load (us := cR e) ty28 rfl rfl rfl rfl rfl) ?_
  refine dq_r (sem_call rfl rfl (eMul_ok (by first | assumption | exact Rz.mono he (by decide)) (by first | assumption | exact Rz.mono he (by decide))) rfl) ?_
  refine dq_r (sem_call rfl rfl (eSub_ok (by first | assumption | exact Rz.mono (Rz.mul hR hR) (by decide)) (by first | assumption | exact Rz.mono (Rz.mul he he) (by decide))) rfl) ?_
  refine dq_r (sem_load (us := cR r) ty28 rfl rfl rfl rfl rfl) ?_
  refine dq_r (sem_load (us := cR r) ty28 rfl rfl rfl rfl rfl) ?_
  refine dq_r (sem_call rfl rfl (eMul_ok (by first | assumption | exact Rz.mono hr (by decide)) (by first | assumption | exact Rz.mono hr (by decide))) rfl) ?_
  refine dq_r (sem_call rfl rfl (eSub_ok (by first | assumption | exact Rz.mono (Rz.sub (Rz.mul hR hR) (Rz.mul he he)) (by decide)) (by first | assumption | exact Rz.mono (Rz.mul hr hr) (by decide))) rfl) ?_
  refine dq_new (sem_alloc zc28 rfl) rfl ?_
  refine dq_end ?_
  refine dl_start1 ?_
  refine dl_st (sem_store_a ty28 rfl rfl rfl rfl rfl rfl) ?_
  refine dl_end ?_
  refine dw_seq ?_
  -- region 2
  refine dw_draw 13 [8] follows_mixed (by kernel_rfl) rfl rfl ?_
  refine dq_r (sem_load (us := cR (((R * R) - (e * e)) - (r * r))) ty28 rfl rfl rfl rfl rfl) ?_
  refine dq_r (sem_call rfl rfl (pFrom_ok (by omega) (by omega)) rfl) ?_
  refine dq_r (sem_load (us := cR e) ty28 rfl rfl rfl rfl rfl) ?_
  refine dq_r (sem_load (us := cR r) ty28 rfl rfl rfl rfl rfl) ?_
  refine dq_r (sem_call rfl rfl (eMul_ok (by first | assumption | exact Rz.mono he (by decide)) (by first | assumption | exact Rz.mono hr (by decide))) rfl) ?_
  refine dq_r (sem_call rfl rfl (eMul_ok (by first | assumption | exact Rz.mono (Rz.int (Sz.small (k := 3) (by decide) (by decide) (by decide)) (by decide)) (by decide)) (by first | assumption | exact Rz.mono (Rz.mul he hr) (by decide))) rfl) ?_
  refine dq_r (sem_call rfl rfl (pDiv_ok (by first | assumption | exact Rz.mono (Rz.sub (Rz.sub (Rz.mul hR hR) (Rz.mul he he)) (Rz.mul hr hr)) (by decide)) (by first | assumption | exact Rz.mono (Rz.mul (Rz.int (Sz.small (k := 3) (by decide) (by decide) (by decide)) (by decide)) (Rz.mul he hr)) (by decide)) h0) rfl) ?_
  refine dq_r (sem_move rfl rfl) ?_
  refine dq_r (sem_extract rfl rfl rfl) ?_
  refine dq_r (sem_extract rfl rfl rfl) ?_
  refine dq_new (sem_alloc zc28 rfl) rfl ?_
  refine dq_sn (sem_store_a ty28 rfl rfl rfl rfl rfl rfl) rfl rfl rfl ?_
  refine dq_r (sem_assign rfl rfl) ?_
  refine dq_end ?_
  refine dl_start2 ?_
  refine dl_end ?_
  refine dw_seq ?_
  refine dw_seq ?_
  -- region 3
  refine dw_region (by kernel_rfl) ?_
  refine dl_r (sem_move rfl rfl) ?_
  refine dl_r (sem_cmp rfl rfl rfl rfl) ?_
  refine dl_end ?_
  refine dw_false rfl ?_
  refine dw_skip ?_
  refine dw_seq ?_
  -- region 5
  refine dw_region (by kernel_rfl) ?_
  refine dl_r (sem_load (us := cR ((((R * R) - (e * e)) - (r * r)) / ((((2 : Int) : Rat)) * (e * r)))) ty28 rfl rfl rfl rfl rfl) ?_
  refine dl_st (sem_store_a ty28 rfl rfl rfl rfl rfl rfl) ?_
  refine dl_end ?_
  refine dw_ret ?_
  -- path 
  exact ⟨.inr rfl, (resL_cell (us := cR ((((R * R) - (e * e)) - (r * r)) / ((((2 : Int) : Rat)) * (e * r)))) ty28 rfl rfl rfl rfl resL_nil)⟩
theorem eAll_ok {a t : Int} {c : Rat} (hc : Rz 20 c) (ha : 1 ≤ a) (ha2 : a ≤ 10000000) (ht : 1 ≤ t) (ht2 : t ≤ 10000000) {s : Int} (hs : 1 ≤ s) (hs2 : s ≤ 10000001) : Ok Tryz.prog 77 [.c (.i .i64 a), .c (.i .i64 t), .c (.i .i64 s), dR c] [.c (.b (alw a t s c))] := by
  have hza : Sz 3 a := Sz.small (by decide) (by omega) (by omega)
  have hzt : Sz 3 t := Sz.small (by decide) (by omega) (by omega)
  have hzs : Sz 3 s := Sz.small (by decide) (by omega) (by omega)
  have hz := cq_sz ha ht hs ha2 ht2 hs2
  have h0 : ((2 : Int) : Rat) * ((((a + s : Int)) : Rat) * ((t : Int) : Rat)) ≠ 0 := by
    have : (0 : Rat) < ((2 : Int) : Rat) * ((((a + s : Int)) : Rat) * ((t : Int) : Rat)) := Rat.mul_pos (by decide) (et_pos ha ht (by omega))
    grind
  refine Ok.of (by kernel_rfl) Tryz.func77 rfl rfl ?_
  rw [show Tryz.f77.ntmps = 44 from rfl, show Tryz.f77.results.toList = [.tmp 8] from rfl]
  refine dw_seq ?_
  -- region 0
  refine dw_region (by kernel_rfl) ?_
  refine dl_new (sem_box_a rfl rfl) rfl ?_
  refine dl_r (sem_assign rfl rfl) ?_
  refine dl_end ?_
  refine dw_seq ?_
  -- region 1
  refine dw_region (by kernel_rfl) ?_
  refine dl_r (sem_call rfl rfl (pFrom_ok (by omega) (by omega)) rfl) ?_
  refine dl_new (sem_alloc zc28 rfl) rfl ?_
  refine dl_st (sem_store_a ty28 rfl rfl rfl rfl rfl rfl) ?_
  refine dl_end ?_
  refine dw_seq ?_
  -- region 2
  refine dw_region (by kernel_rfl) ?_
  refine dl_r (sem_move rfl rfl) ?_
  refine dl_r (sem_move rfl rfl) ?_
  refine dl_r (sem_ari (r := a + t) rfl rfl (ari_i64_add (by omega) (by omega)) rfl) ?_
  refine dl_r (sem_call rfl rfl (pFrom_ok (by omega) (by omega)) rfl) ?_
  refine dl_r (sem_move rfl rfl) ?_
  refine dl_r (sem_call rfl rfl (pFrom_ok (by omega) (by omega)) rfl) ?_
  refine dl_r (sem_move rfl rfl) ?_
  refine dl_r (sem_move rfl rfl) ?_
  refine dl_r (sem_ari (r := a + s) rfl rfl (ari_i64_add (by omega) (by omega)) rfl) ?_
  refine dl_r (sem_call rfl rfl (pFrom_ok (by omega) (by omega)) rfl) ?_
  refine dl_r (sem_call rfl rfl (rcast1 (eHalf_ok (by first | assumption | exact Rz.mono (Rz.int (Sz.addm hza hzt) (by decide)) (by decide)) (by first | assumption | exact Rz.mono (Rz.int hzt (by decide)) (by decide)) (by first | assumption | exact Rz.mono (Rz.int (Sz.addm hza hzs) (by decide)) (by decide)) h0) (x' := cq a t s) rfl) rfl) ?_
  refine dl_new (sem_alloc zc28 rfl) rfl ?_
  refine dl_st (sem_store_a ty28 rfl rfl rfl rfl rfl rfl) ?_
  refine dl_end ?_
  refine dw_seq ?_
  refine dw_seq ?_
  -- region 3
  refine dw_region (by kernel_rfl) ?_
  refine dl_r (sem_load (us := cR (cq a t s)) ty28 rfl rfl rfl rfl rfl) ?_
  refine dl_r (sem_load (us := cR (((1 : Int) : Rat))) ty28 rfl rfl rfl rfl rfl) ?_
  refine dl_r (sem_call rfl rfl (pCmp_ok (by first | assumption | exact Rz.mono (by assumption) (by decide)) (by first | assumption | exact Rz.mono (Rz.int (Sz.small (k := 3) (by decide) (by decide) (by decide)) (by decide)) (by decide))) rfl) ?_
  refine dl_r (sem_cmp rfl rfl rfl rfl) ?_
  refine dl_end ?_
  refine dw_cond rfl (fun hc1 => ?_) (fun hc1 => ?_)
  · exact (no_full ha ht hs hc1).elim
  · refine dw_skip ?_
    refine dw_seq ?_
    -- region 5
    refine dw_region (by kernel_rfl) ?_
    refine dl_r (sem_load (us := cR (cq a t s)) ty28 rfl rfl rfl rfl rfl) ?_
    refine dl_r (sem_load (us := cR (cq a t s)) ty28 rfl rfl rfl rfl rfl) ?_
    refine dl_r (sem_call rfl rfl (eMul_ok (by first | assumption | exact Rz.mono (by assumption) (by decide)) (by first | assumption | exact Rz.mono (by assumption) (by decide))) rfl) ?_
    refine dl_new (sem_alloc zc28 rfl) rfl ?_
    refine dl_st (sem_store_a ty28 rfl rfl rfl rfl rfl rfl) ?_
    refine dl_end ?_
    refine dw_seq ?_
    -- region 6
    refine dw_draw 14 [] follows_mixed (by kernel_rfl) rfl rfl ?_
    refine dq_r (sem_load (us := cR (cq a t s)) ty28 rfl rfl rfl rfl rfl) ?_
    refine dq_r (sem_call rfl rfl (pSign_ok) rfl) ?_
    refine dq_r (sem_cmp rfl rfl rfl rfl) ?_
    refine dq_rb (sem_move rfl rfl) (fun c2 hb2 => ?_)
    cases c2
    · refine dq_skip (sem_skip rfl) ?_
      refine dq_skip (sem_skip rfl) ?_
      refine dq_skip (sem_skip rfl) ?_
      refine dq_skip (sem_skip rfl) ?_
      refine dq_skip (sem_skip rfl) ?_
      refine dq_skip (sem_skip rfl) ?_
      refine dq_skip (sem_skip rfl) ?_
      refine dq_skip (sem_skip rfl) ?_
      refine dq_r (sem_pick rfl rfl rfl rfl) ?_
      refine dq_r (sem_assign rfl rfl) ?_
      refine dq_end ?_
      refine dl_start0 ?_
      refine dl_end ?_
      refine dw_ret ?_
      -- path Ff
      rw [alw_f hb2]
      exact ⟨.inr rfl, (resL_tmp rfl resL_nil)⟩
    · refine dq_r (sem_load (us := cR ((cq a t s) * (cq a t s))) ty28 rfl rfl rfl rfl rfl) ?_
      refine dq_r (sem_load (us := cR ((cq a t s) * (cq a t s))) ty28 rfl rfl rfl rfl rfl) ?_
      refine dq_r (sem_call rfl rfl (eAdd_ok (by first | assumption | exact Rz.mono (Rz.mul (by assumption) (by assumption)) (by decide)) (by first | assumption | exact Rz.mono (Rz.mul (by assumption) (by assumption)) (by decide))) rfl) ?_
      refine dq_r (sem_load (us := cR (((1 : Int) : Rat))) ty28 rfl rfl rfl rfl rfl) ?_
      refine dq_r (sem_call rfl rfl (eSub_ok (by first | assumption | exact Rz.mono (Rz.add (Rz.mul (by assumption) (by assumption)) (Rz.mul (by assumption) (by assumption))) (by decide)) (by first | assumption | exact Rz.mono (Rz.int (Sz.small (k := 3) (by decide) (by decide) (by decide)) (by decide)) (by decide))) rfl) ?_
      refine dq_r (sem_load (us := cR c) ty28 rfl rfl rfl rfl rfl) ?_
      refine dq_r (sem_call rfl rfl (pCmp_ok (by first | assumption | exact Rz.mono (Rz.sub (Rz.add (Rz.mul (by assumption) (by assumption)) (Rz.mul (by assumption) (by assumption))) (Rz.int (Sz.small (k := 3) (by decide) (by decide) (by decide)) (by decide))) (by decide)) (by first | assumption | exact Rz.mono hc (by decide))) rfl) ?_
      refine dq_r (sem_cmp rfl rfl rfl rfl) ?_
      refine dq_r (sem_pick rfl rfl rfl rfl) ?_
      refine dq_r (sem_assign rfl rfl) ?_
      refine dq_end ?_
      refine dl_start0 ?_
      refine dl_end ?_
      refine dw_ret ?_
      -- path Ft
      rw [alw_t hb2]
      exact ⟨.inr rfl, (resL_tmp rfl resL_nil)⟩
theorem eStp1_ok {a t : Int} {c : Rat} (hc : Rz 20 c) (ha : 1 ≤ a) (ha2 : a ≤ 10000000) (ht : 1 ≤ t) (ht2 : t ≤ 10000000) {n : Int} (h0 : 0 ≤ n) (h1 : n ≤ t) : Ok Tryz.prog 76 [.c (.i .i64 n), .c (.p ([.i .i64 a])), .c (.p ([.i .i64 t])), .c (.p (cR c))] [.c (.b (!alw a t (n + 1) c))] := by
  refine Ok.of (by kernel_rfl) Tryz.func76 rfl rfl ?_
  rw [show Tryz.f76.ntmps = 13 from rfl, show Tryz.f76.results.toList = [.tmp 5] from rfl]
  refine dw_seq ?_
  -- region 0
  refine dw_region (by kernel_rfl) ?_
  refine dl_r (sem_assign rfl rfl) ?_
  refine dl_end ?_
  refine dw_seq ?_
  -- region 1
  refine dw_region (by kernel_rfl) ?_
  refine dl_r (sem_loadP1 ty2 rfl rfl rfl) ?_
  refine dl_r (sem_loadP1 ty2 rfl rfl rfl) ?_
  refine dl_r (sem_move rfl rfl) ?_
  refine dl_r (sem_ari (r := n + 1) rfl rfl (ari_i64_add (by omega) (by omega)) rfl) ?_
  refine dl_r (sem_loadP (us := cR c) ty28 rfl rfl rfl rfl) ?_
  refine dl_r (sem_call rfl rfl (eAll_ok hc ha ha2 ht ht2 (by omega) (by omega)) rfl) ?_
  refine dl_r (sem_not rfl rfl) ?_
  refine dl_r (sem_assign rfl rfl) ?_
  refine dl_end ?_
  refine dw_ret ?_
  -- path 
  exact ⟨.inr rfl, (resL_tmp rfl resL_nil)⟩
theorem eSrch_ok {a t N r : Int} {c : Rat} (hN0 : 0 ≤ N) (hN : N ≤ 1000000000) (hr0 : 0 ≤ r) (hr1 : r ≤ N) (hφ : ∀ i : Int, 0 ≤ i → i < N → Ok Tryz.prog 76 [.c (.i .i64 i), .c (.p ([.i .i64 a])), .c (.p ([.i .i64 t])), .c (.p (cR c))] [.c (.b (decide (r ≤ i)))]) : Ok Tryz.prog 75 [.c (.i .i64 N), .c (.k 76 [.p ([.i .i64 a]), .p ([.i .i64 t]), .p (cR c)])] [.c (.i .i64 r)] := by
  refine Ok.of (by kernel_rfl) Tryz.func75 rfl rfl ?_
  rw [show Tryz.f75.ntmps = 26 from rfl, show Tryz.f75.results.toList = [.tmp 4] from rfl]
  refine dw_seq ?_
  -- region 0
  refine dw_region (by kernel_rfl) ?_
  refine dl_r (sem_assign rfl rfl) ?_
  refine dl_end ?_
  refine dw_seq ?_
  -- region 1
  refine dw_region (by kernel_rfl) ?_
  refine dl_r (sem_move rfl rfl) ?_
  refine dl_r (sem_assign rfl rfl) ?_
  refine dl_r (sem_assign rfl rfl) ?_
  refine dl_end ?_
  refine dw_seq ?_
  refine dw_block ?_
  refine dw_loop (ι := {p : Int × Int // 0 ≤ p.1 ∧ p.1 ≤ r ∧ r ≤ p.2 ∧ p.2 ≤ N}) (fun i => ⟨26, [(0, .v (.c (.i .i64 N))), (1, .v (.c (.k 76 [.p ([.i .i64 a]), .p ([.i .i64 t]), .p (cR c)]))), (5, .v (.c (.i .i64 i.1.1))), (6, .v (.c (.i .i64 i.1.2)))], []⟩) (fun i => (i.1.2 - i.1.1).toNat) ⟨(0, N), by show (0 : Int) ≤ 0; omega, hr0, hr1, by show N ≤ N; omega⟩ (sub_of ⟨rfl, rfl, rfl, rfl, trivial⟩ trivial rfl) ?_
  rintro ⟨⟨lo, hi⟩, g1, g2, g3, g4⟩
  replace g1 : 0 ≤ lo := g1
  replace g2 : lo ≤ r := g2
  replace g3 : r ≤ hi := g3
  replace g4 : hi ≤ N := g4
  show Dw _ _ ⟨26, [(0, .v (.c (.i .i64 N))), (1, .v (.c (.k 76 [.p ([.i .i64 a]), .p ([.i .i64 t]), .p (cR c)]))), (5, .v (.c (.i .i64 lo))), (6, .v (.c (.i .i64 hi)))], []⟩ _
  refine dw_seq ?_
  refine dw_seq ?_
  -- region 2
  refine dw_region (by kernel_rfl) ?_
  refine dl_r (sem_move rfl rfl) ?_
  refine dl_r (sem_move rfl rfl) ?_
  refine dl_r (sem_cmp rfl rfl rfl rfl) ?_
  refine dl_end ?_
  refine dw_cond rfl (fun hc1 => ?_) (fun hc1 => ?_)
  · have hlt : lo < hi := of_decide_eq_true hc1
    refine dw_skip ?_
    refine dw_block ?_
    refine dw_seq ?_
    -- region 3
    refine dw_region (by kernel_rfl) ?_
    refine dl_r (sem_move rfl rfl) ?_
    refine dl_r (sem_move rfl rfl) ?_
    refine dl_r (sem_ari (r := lo + hi) rfl rfl (ari_i64_add (by omega) (by omega)) rfl) ?_
    refine dl_r (sem_conv' (r := lo + hi) und3 und117 rfl (nwu64 (by omega) (by omega)) rfl) ?_
    refine dl_r (sem_shrC (r := (lo + hi) / 2) rfl rfl (by decide) shr_half rfl) ?_
    refine dl_r (sem_conv' (r := (lo + hi) / 2) und117 und3 rfl (nw64 (by omega) (by omega)) rfl) ?_
    refine dl_r (sem_assign rfl rfl) ?_
    refine dl_end ?_
    refine dw_seq ?_
    -- region 4
    refine dw_region (by kernel_rfl) ?_
    refine dl_r (sem_move rfl rfl) ?_
    refine dl_r (sem_move rfl rfl) ?_
    refine dl_r (sem_callk rfl rfl (hφ _ (by omega) (by omega)) rfl) ?_
    refine dl_r (sem_not rfl rfl) ?_
    refine dl_end ?_
    refine dw_cond rfl (fun hc2 => ?_) (fun hc2 => ?_)
    · have hm : ¬ r ≤ (lo + hi) / 2 := by simpa using hc2
      -- region 5
      refine dw_region (by kernel_rfl) ?_
      refine dl_r (sem_move rfl rfl) ?_
      refine dl_r (sem_ari (r := ((lo + hi) / 2) + 1) rfl rfl (ari_i64_add (by omega) (by omega)) rfl) ?_
      refine dl_r (sem_assign rfl rfl) ?_
      refine dl_end ?_
      exact ⟨⟨((lo + hi) / 2 + 1, hi), by show 0 ≤ (lo + hi) / 2 + 1; omega, by show (lo + hi) / 2 + 1 ≤ r; omega, g3, g4⟩, sub_of ⟨rfl, rfl, rfl, rfl, trivial⟩ trivial rfl, by show (hi - ((lo + hi) / 2 + 1)).toNat < (hi - lo).toNat; omega⟩
    · have hm : r ≤ (lo + hi) / 2 := by simpa using hc2
      -- region 6
      refine dw_region (by kernel_rfl) ?_
      refine dl_r (sem_move rfl rfl) ?_
      refine dl_r (sem_assign rfl rfl) ?_
      refine dl_end ?_
      exact ⟨⟨(lo, (lo + hi) / 2), g1, g2, by show r ≤ (lo + hi) / 2; omega, by show (lo + hi) / 2 ≤ N; omega⟩, sub_of ⟨rfl, rfl, rfl, rfl, trivial⟩ trivial rfl, by show ((lo + hi) / 2 - lo).toNat < (hi - lo).toNat; omega⟩
  · have hlo : r = lo := by have := of_decide_eq_false hc1; omega
    refine dw_exit ?_
    refine dw_seq ?_
    -- region 7
    refine dw_region (by kernel_rfl) ?_
    refine dl_r (sem_move rfl rfl) ?_
    refine dl_r (sem_assign rfl rfl) ?_
    refine dl_end ?_
    refine dw_ret ?_
    -- path F
    rw [hlo]
    exact ⟨.inr rfl, (resL_tmp rfl resL_nil)⟩
theorem eStep_ok {a t : Int} {c : Rat} (hc : Rz 20 c) (ha : 1 ≤ a) (ha2 : a ≤ 10000000) (ht : 1 ≤ t) (ht2 : t ≤ 10000000) {r : Int} (hcos : cosB c = true) (hr0 : 0 ≤ r) (hr1 : r ≤ t + 1) (hφ : ∀ i : Int, 0 ≤ i → i < t + 1 → alw a t (i + 1) c = decide (i < r)) : Ok Tryz.prog 41 [.c (.i .i64 a), .c (.i .i64 t), dR c] [.c (.i .i64 r), .c (.i .i64 0)] := by
  refine Ok.of (by kernel_rfl) Tryz.func41 rfl rfl ?_
  rw [show Tryz.f41.ntmps = 33 from rfl, show Tryz.f41.results.toList = [.tmp 6, .tmp 7] from rfl]
  refine dw_seq ?_
  -- region 0
  refine dw_region (by kernel_rfl) ?_
  refine dl_new (sem_box_c rfl rfl) rfl ?_
  refine dl_new (sem_box_c rfl rfl) rfl ?_
  refine dl_new (sem_box_a rfl rfl) rfl ?_
  refine dl_r (sem_assign rfl rfl) ?_
  refine dl_r (sem_assign rfl rfl) ?_
  refine dl_end ?_
  refine dw_seq ?_
  refine dw_seq ?_
  -- region 1
  refine dw_region (by kernel_rfl) ?_
  refine dl_r (sem_load1 ty2 rfl rfl rfl rfl) ?_
  refine dl_r (sem_castb (c := false) (sem_cmp rfl rfl rfl rfl) (decide_eq_false (by omega))) ?_
  refine dl_r (sem_move rfl rfl) ?_
  refine dl_r (sem_load1 ty2 rfl rfl rfl rfl) ?_
  refine dl_r (sem_castb (c := false) (sem_cmp rfl rfl rfl rfl) (decide_eq_false (by omega))) ?_
  refine dl_r (sem_pick rfl rfl rfl rfl) ?_
  refine dl_r (sem_move rfl rfl) ?_
  refine dl_r (sem_load1 ty2 rfl rfl rfl rfl) ?_
  refine dl_r (sem_castb (c := false) (sem_cmp rfl rfl rfl rfl) (decide_eq_false (by omega))) ?_
  refine dl_r (sem_pick rfl rfl rfl rfl) ?_
  refine dl_r (sem_move rfl rfl) ?_
  refine dl_r (sem_load1 ty2 rfl rfl rfl rfl) ?_
  refine dl_r (sem_castb (c := false) (sem_cmp rfl rfl rfl rfl) (decide_eq_false (by omega))) ?_
  refine dl_r (sem_pick rfl rfl rfl rfl) ?_
  refine dl_r (sem_move rfl rfl) ?_
  refine dl_r (sem_load (us := cR c) ty28 rfl rfl rfl rfl rfl) ?_
  refine dl_r (sem_call rfl rfl (rcastb (eCos_ok (by first | assumption | exact Rz.mono hc (by decide))) hcos) rfl) ?_
  refine dl_r (sem_not rfl rfl) ?_
  refine dl_r (sem_pick rfl rfl rfl rfl) ?_
  refine dl_end ?_
  refine dw_false rfl ?_
  refine dw_skip ?_
  refine dw_seq ?_
  -- region 3
  refine dw_freeze (t := 3) (k := 3) rfl rfl ?_
  refine dw_freeze (t := 4) (k := 4) rfl rfl ?_
  refine dw_freeze (t := 5) (k := 5) rfl rfl ?_
  refine dw_region (by kernel_rfl) ?_
  refine dl_r (sem_loadP1 ty2 rfl rfl rfl) ?_
  refine dl_r (sem_ari (r := t + 1) rfl rfl (ari_i64_add (by omega) (by omega)) rfl) ?_
  refine dl_r (sem_mkfn (us := [.p ([.i .i64 a]), .p ([.i .i64 t]), .p (cR c)]) rfl rfl) ?_
  refine dl_r (sem_call rfl rfl (eSrch_ok (by omega) (by omega) hr0 hr1 (fun i g1 g2 => rcastb (eStp1_ok hc ha ha2 ht ht2 g1 (by omega)) (by rw [hφ i g1 g2]; exact not_lt_le i r))) rfl) ?_
  refine dl_r (sem_assign rfl rfl) ?_
  refine dl_end ?_
  refine dw_seq ?_
  -- region 4
  refine dw_region (by kernel_rfl) ?_
  refine dl_r (sem_move rfl rfl) ?_
  refine dl_r (sem_assign rfl rfl) ?_
  refine dl_r (sem_assign rfl rfl) ?_
  refine dl_end ?_
  refine dw_ret ?_
  -- path 
  exact ⟨.inr rfl, (resL_tmp rfl (resL_tmp rfl resL_nil))⟩
theorem tBnd_ok {a t : Int} {c : Rat} (hc : Rz 20 c) (ha : 1 ≤ a) (ha2 : a ≤ 10000000) (ht : 1 ≤ t) (ht2 : t ≤ 10000000) {s : Int} (hcos : cosB c = true) (hs : 1 ≤ s) (hs2 : s ≤ t + 1) : Ok Tryz.prog 32 [.c (.i .i64 s), .c (.i .i64 a), .c (.i .i64 t), dR c] [.c (.b (alw a t s c))] := by
  obtain ⟨r, hr0, hr1, hφ⟩ := step_ex c ha ht
  refine Ok.of (by kernel_rfl) Tryz.func32 rfl rfl ?_
  rw [show Tryz.f32.ntmps = 25 from rfl, show Tryz.f32.results.toList = [.tmp 8] from rfl]
  refine dw_seq ?_
  -- region 0
  refine dw_region (by kernel_rfl) ?_
  refine dl_new (sem_box_a rfl rfl) rfl ?_
  refine dl_r (sem_assign rfl rfl) ?_
  refine dl_end ?_
  refine dw_seq ?_
  -- region 1
  refine dw_region (by kernel_rfl) ?_
  refine dl_r (sem_move rfl rfl) ?_
  refine dl_r (sem_move rfl rfl) ?_
  refine dl_r (sem_load (us := cR c) ty28 rfl rfl rfl rfl rfl) ?_
  refine dl_r (sem_call rfl rfl (eStep_ok hc ha ha2 ht ht2 hcos hr0 hr1 hφ) rfl) ?_
  refine dl_r (sem_move rfl rfl) ?_
  refine dl_r (sem_extract rfl rfl rfl) ?_
  refine dl_r (sem_extract rfl rfl rfl) ?_
  refine dl_r (sem_assign rfl rfl) ?_
  refine dl_r (sem_assign rfl rfl) ?_
  refine dl_end ?_
  refine dw_seq ?_
  -- region 2
  refine dw_region (by kernel_rfl) ?_
  refine dl_r (sem_move rfl rfl) ?_
  refine dl_r (sem_cmp rfl rfl rfl rfl) ?_
  refine dl_r (sem_move rfl rfl) ?_
  refine dl_r (sem_move rfl rfl) ?_
  refine dl_r (sem_move rfl rfl) ?_
  refine dl_r (sem_cmp rfl rfl rfl rfl) ?_
  refine dl_r (sem_pick rfl rfl rfl rfl) ?_
  refine dl_r (sem_assign rfl rfl) ?_
  refine dl_end ?_
  refine dw_ret ?_
  -- path 
  rw [show alw a t s c = decide (s ≤ r) from by
      have h9 := hφ (s - 1) (by omega) (by omega)
      rw [Int.sub_add_cancel] at h9
      rw [h9]
      exact decide_eq_decide.2 (by omega)]
  exact ⟨.inr rfl, (resL_tmp rfl resL_nil)⟩
end Go.Proofs.YtonjlikaacengaaGreat
/- Engaged: the program. -/
namespace Go.Proofs.YtonjlikaacengaaGreat
open Go Go.RowKit
theorem tEg_bad {n : Nat} {us : List CellD} (_hl : us.length = n * 2) (_hJ : us.all isJ = true) {a t : Int} {c : Rat} (hc : Rz 20 c) (hA : a < 1 ∨ a > t ∨ t > 10000000 ∨ cosB c = false) : Ok Tryz.prog 8 [.c (.s n us), .c (.i .i64 a), .c (.i .i64 t), dR c] [.c (.b false)] := by
  refine Ok.of (by kernel_rfl) Tryz.func8 rfl rfl ?_
  rw [show Tryz.f8.ntmps = 134 from rfl, show Tryz.f8.results.toList = [.tmp 8] from rfl]
  refine dw_seq ?_
  -- region 0
  refine dw_region (by kernel_rfl) ?_
  refine dl_new (sem_box_a rfl rfl) rfl ?_
  refine dl_r (sem_assign rfl rfl) ?_
  refine dl_end ?_
  refine dw_seq ?_
  refine dw_seq ?_
  -- region 1
  refine dw_region (by kernel_rfl) ?_
  refine dl_r (sem_move rfl rfl) ?_
  refine dl_r (sem_cmp rfl rfl rfl rfl) ?_
  refine dl_rb (sem_move rfl rfl) (fun c1 hb1 => ?_)
  cases c1
  · refine dl_r (sem_move rfl rfl) ?_
    refine dl_r (sem_move rfl rfl) ?_
    refine dl_r (sem_cmp rfl rfl rfl rfl) ?_
    refine dl_r (sem_pick rfl rfl rfl rfl) ?_
    refine dl_rb (sem_move rfl rfl) (fun c2 hb2 => ?_)
    cases c2
    · refine dl_r (sem_move rfl rfl) ?_
      refine dl_r (sem_cmp rfl rfl rfl rfl) ?_
      refine dl_r (sem_pick rfl rfl rfl rfl) ?_
      refine dl_rb (sem_move rfl rfl) (fun c3 hb3 => ?_)
      cases c3
      · refine dl_r (sem_load (us := cR c) ty28 rfl rfl rfl rfl rfl) ?_
        refine dl_r (sem_call rfl rfl (tCos_ok (by first | assumption | exact Rz.mono hc (by decide))) rfl) ?_
        refine dl_r (sem_not rfl rfl) ?_
        refine dl_r (sem_pick rfl rfl rfl rfl) ?_
        refine dl_end ?_
        refine dw_cond rfl (fun hc4 => ?_) (fun hc4 => ?_)
        · refine dw_seq ?_
          -- region 2
          refine dw_region (by kernel_rfl) ?_
          refine dl_r (sem_assign rfl rfl) ?_
          refine dl_end ?_
          refine dw_ret ?_
          -- path fffT
          exact ⟨.inr rfl, (resL_tmp rfl resL_nil)⟩
        · rcases hA with h | h | h | h
          · exact absurd h (of_decide_eq_false hb1)
          · exact absurd h (of_decide_eq_false hb2)
          · exact absurd h (of_decide_eq_false hb3)
          · simp [h] at hc4
      · refine dl_skip (sem_skip rfl) ?_
        refine dl_skip (sem_skip rfl) ?_
        refine dl_skip (sem_skip rfl) ?_
        refine dl_r (sem_pick rfl rfl rfl rfl) ?_
        refine dl_end ?_
        refine dw_true rfl ?_
        refine dw_seq ?_
        -- region 2
        refine dw_region (by kernel_rfl) ?_
        refine dl_r (sem_assign rfl rfl) ?_
        refine dl_end ?_
        refine dw_ret ?_
        -- path fft
        exact ⟨.inr rfl, (resL_tmp rfl resL_nil)⟩
    · refine dl_skip (sem_skip rfl) ?_
      refine dl_skip (sem_skip rfl) ?_
      refine dl_r (sem_pick rfl rfl rfl rfl) ?_
      refine dl_r (sem_move rfl rfl) ?_
      refine dl_skip (sem_skip rfl) ?_
      refine dl_skip (sem_skip rfl) ?_
      refine dl_skip (sem_skip rfl) ?_
      refine dl_r (sem_pick rfl rfl rfl rfl) ?_
      refine dl_end ?_
      refine dw_true rfl ?_
      refine dw_seq ?_
      -- region 2
      refine dw_region (by kernel_rfl) ?_
      refine dl_r (sem_assign rfl rfl) ?_
      refine dl_end ?_
      refine dw_ret ?_
      -- path ft
      exact ⟨.inr rfl, (resL_tmp rfl resL_nil)⟩
  · refine dl_skip (sem_skip rfl) ?_
    refine dl_skip (sem_skip rfl) ?_
    refine dl_skip (sem_skip rfl) ?_
    refine dl_r (sem_pick rfl rfl rfl rfl) ?_
    refine dl_r (sem_move rfl rfl) ?_
    refine dl_skip (sem_skip rfl) ?_
    refine dl_skip (sem_skip rfl) ?_
    refine dl_r (sem_pick rfl rfl rfl rfl) ?_
    refine dl_r (sem_move rfl rfl) ?_
    refine dl_skip (sem_skip rfl) ?_
    refine dl_skip (sem_skip rfl) ?_
    refine dl_skip (sem_skip rfl) ?_
    refine dl_r (sem_pick rfl rfl rfl rfl) ?_
    refine dl_end ?_
    refine dw_true rfl ?_
    refine dw_seq ?_
    -- region 2
    refine dw_region (by kernel_rfl) ?_
    refine dl_r (sem_assign rfl rfl) ?_
    refine dl_end ?_
    refine dw_ret ?_
    -- path t
    exact ⟨.inr rfl, (resL_tmp rfl resL_nil)⟩
theorem tEg_few {n : Nat} {us : List CellD} (hl : us.length = n * 2) (_hJ : us.all isJ = true) (hn : n ≤ 9000000000000000000) {a t : Int} {c : Rat} (hc : Rz 20 c) (ha : 1 ≤ a) (hat : a ≤ t) (ht2 : t ≤ 10000000) (hcos : cosB c = true) (hn2 : n < 2) : Ok Tryz.prog 8 [.c (.s n us), .c (.i .i64 a), .c (.i .i64 t), dR c] [.c (.b true)] := by
  refine Ok.of (by kernel_rfl) Tryz.func8 rfl rfl ?_
  rw [show Tryz.f8.ntmps = 134 from rfl, show Tryz.f8.results.toList = [.tmp 8] from rfl]
  refine dw_seq ?_
  -- region 0
  refine dw_region (by kernel_rfl) ?_
  refine dl_new (sem_box_a rfl rfl) rfl ?_
  refine dl_r (sem_assign rfl rfl) ?_
  refine dl_end ?_
  refine dw_seq ?_
  refine dw_seq ?_
  -- region 1
  refine dw_region (by kernel_rfl) ?_
  refine dl_r (sem_move rfl rfl) ?_
  refine dl_r (sem_castb (c := false) (sem_cmp rfl rfl rfl rfl) (decide_eq_false (by omega))) ?_
  refine dl_r (sem_move rfl rfl) ?_
  refine dl_r (sem_move rfl rfl) ?_
  refine dl_r (sem_move rfl rfl) ?_
  refine dl_r (sem_castb (c := false) (sem_cmp rfl rfl rfl rfl) (decide_eq_false (by omega))) ?_
  refine dl_r (sem_pick rfl rfl rfl rfl) ?_
  refine dl_r (sem_move rfl rfl) ?_
  refine dl_r (sem_move rfl rfl) ?_
  refine dl_r (sem_castb (c := false) (sem_cmp rfl rfl rfl rfl) (decide_eq_false (by omega))) ?_
  refine dl_r (sem_pick rfl rfl rfl rfl) ?_
  refine dl_r (sem_move rfl rfl) ?_
  refine dl_r (sem_load (us := cR c) ty28 rfl rfl rfl rfl rfl) ?_
  refine dl_r (sem_call rfl rfl (rcastb (tCos_ok (by first | assumption | exact Rz.mono hc (by decide))) hcos) rfl) ?_
  refine dl_r (sem_not rfl rfl) ?_
  refine dl_r (sem_pick rfl rfl rfl rfl) ?_
  refine dl_end ?_
  refine dw_false rfl ?_
  refine dw_skip ?_
  refine dw_seq ?_
  refine dw_seq ?_
  -- region 3
  refine dw_region (by kernel_rfl) ?_
  refine dl_r (sem_move rfl rfl) ?_
  refine dl_r (sem_len sl22 rfl rfl) ?_
  refine dl_r (sem_castb (c := true) (sem_cmp rfl rfl rfl rfl) (decide_eq_true (by omega))) ?_
  refine dl_end ?_
  refine dw_true rfl ?_
  refine dw_seq ?_
  -- region 4
  refine dw_region (by kernel_rfl) ?_
  refine dl_r (sem_assign rfl rfl) ?_
  refine dl_end ?_
  refine dw_ret ?_
  -- path 
  exact ⟨.inr rfl, (resL_tmp rfl resL_nil)⟩
theorem tEg_no {n : Nat} {us : List CellD} (hl : us.length = n * 2) (hJ : us.all isJ = true) (hn : n ≤ 9000000000000000000) {a t : Int} {c : Rat} (hc : Rz 20 c) (ha : 1 ≤ a) (hat : a ≤ t) (ht2 : t ≤ 10000000) (hcos : cosB c = true) (hn2 : 2 ≤ n) (hok : dk us 1 = false) : Ok Tryz.prog 8 [.c (.s n us), .c (.i .i64 a), .c (.i .i64 t), dR c] [.c (.b false)] := by
  refine Ok.of (by kernel_rfl) Tryz.func8 rfl rfl ?_
  rw [show Tryz.f8.ntmps = 134 from rfl, show Tryz.f8.results.toList = [.tmp 8] from rfl]
  refine dw_seq ?_
  -- region 0
  refine dw_region (by kernel_rfl) ?_
  refine dl_new (sem_box_a rfl rfl) rfl ?_
  refine dl_r (sem_assign rfl rfl) ?_
  refine dl_end ?_
  refine dw_seq ?_
  refine dw_seq ?_
  -- region 1
  refine dw_region (by kernel_rfl) ?_
  refine dl_r (sem_move rfl rfl) ?_
  refine dl_r (sem_castb (c := false) (sem_cmp rfl rfl rfl rfl) (decide_eq_false (by omega))) ?_
  refine dl_r (sem_move rfl rfl) ?_
  refine dl_r (sem_move rfl rfl) ?_
  refine dl_r (sem_move rfl rfl) ?_
  refine dl_r (sem_castb (c := false) (sem_cmp rfl rfl rfl rfl) (decide_eq_false (by omega))) ?_
  refine dl_r (sem_pick rfl rfl rfl rfl) ?_
  refine dl_r (sem_move rfl rfl) ?_
  refine dl_r (sem_move rfl rfl) ?_
  refine dl_r (sem_castb (c := false) (sem_cmp rfl rfl rfl rfl) (decide_eq_false (by omega))) ?_
  refine dl_r (sem_pick rfl rfl rfl rfl) ?_
  refine dl_r (sem_move rfl rfl) ?_
  refine dl_r (sem_load (us := cR c) ty28 rfl rfl rfl rfl rfl) ?_
  refine dl_r (sem_call rfl rfl (rcastb (tCos_ok (by first | assumption | exact Rz.mono hc (by decide))) hcos) rfl) ?_
  refine dl_r (sem_not rfl rfl) ?_
  refine dl_r (sem_pick rfl rfl rfl rfl) ?_
  refine dl_end ?_
  refine dw_false rfl ?_
  refine dw_skip ?_
  refine dw_seq ?_
  refine dw_seq ?_
  -- region 3
  refine dw_region (by kernel_rfl) ?_
  refine dl_r (sem_move rfl rfl) ?_
  refine dl_r (sem_len sl22 rfl rfl) ?_
  refine dl_r (sem_castb (c := false) (sem_cmp rfl rfl rfl rfl) (decide_eq_false (by omega))) ?_
  refine dl_end ?_
  refine dw_false rfl ?_
  refine dw_skip ?_
  refine dw_seq ?_
  -- region 5
  refine dw_draw 13 [9] follows_mixed (by kernel_rfl) rfl rfl ?_
  refine dq_r (sem_move rfl rfl) ?_
  refine dq_r (sem_index (us := [.i .i64 (ci us (0 * 2))] ++ [.i .i64 (ci us (0 * 2 + 1))] ++ us.drop (0 * 2 + 2)) sl22 rfl rfl (by omega) (hl) (ci_drop2 hl hJ (by omega)) rfl) ?_
  refine dq_r (sem_loadq (us := ([.i .i64 (ci us (0 * 2))] ++ [.i .i64 (ci us (0 * 2 + 1))])) ty34 rfl rfl rfl rfl) ?_
  refine dq_r (sem_move rfl rfl) ?_
  refine dq_r (sem_index (us := [.i .i64 (ci us (1 * 2))] ++ [.i .i64 (ci us (1 * 2 + 1))] ++ us.drop (1 * 2 + 2)) sl22 rfl rfl (by omega) (hl) (ci_drop2 hl hJ (by omega)) rfl) ?_
  refine dq_r (sem_loadq (us := ([.i .i64 (ci us (1 * 2))] ++ [.i .i64 (ci us (1 * 2 + 1))])) ty34 rfl rfl rfl rfl) ?_
  refine dq_r (sem_call rfl rfl (icast2b tDir_ok (x' := dX us 1) (y' := dY us 1) rfl rfl hok) rfl) ?_
  refine dq_r (sem_move rfl rfl) ?_
  refine dq_r (sem_extract rfl rfl rfl) ?_
  refine dq_r (sem_extract rfl rfl rfl) ?_
  refine dq_new (sem_alloc zc34 rfl) rfl ?_
  refine dq_sn (sem_store_a ty34 rfl rfl rfl rfl rfl rfl) rfl rfl rfl ?_
  refine dq_r (sem_assign rfl rfl) ?_
  refine dq_end ?_
  refine dl_start2 ?_
  refine dl_end ?_
  refine dw_seq ?_
  -- region 6
  refine dw_region (by kernel_rfl) ?_
  refine dl_r (sem_assign rfl rfl) ?_
  refine dl_end ?_
  refine dw_seq ?_
  refine dw_seq ?_
  -- region 7
  refine dw_region (by kernel_rfl) ?_
  refine dl_r (sem_move rfl rfl) ?_
  refine dl_r (sem_len sl22 rfl rfl) ?_
  refine dl_r (sem_move rfl rfl) ?_
  refine dl_end ?_
  refine dw_block ?_
  refine dw_loop (ι := Nat) (fun i => match i with | _ => ⟨134, [(0, .v (.c (.s n us))), (10, .v (.c (.b false))), (46, .v (.c (.s n us))), (47, .v (.c (.i .i64 (n : Int)))), (48, .v (.c (.i .i64 0)))], []⟩) (fun i => 0 - i) 0 (sub_of ⟨rfl, rfl, rfl, rfl, rfl, trivial⟩ trivial rfl) ?_
  intro i
  match i with
  | _ =>
    show Dw _ _ ⟨134, [(0, .v (.c (.s n us))), (10, .v (.c (.b false))), (46, .v (.c (.s n us))), (47, .v (.c (.i .i64 (n : Int)))), (48, .v (.c (.i .i64 0)))], []⟩ _
    refine dw_seq ?_
    -- region 8
    refine dw_region (by kernel_rfl) ?_
    refine dl_r (sem_castb (c := true) (sem_cmp rfl rfl rfl rfl) (decide_eq_true (by omega))) ?_
    refine dl_end ?_
    refine dw_seq ?_
    refine dw_true rfl ?_
    refine dw_skip ?_
    refine dw_seq ?_
    refine dw_block ?_
    refine dw_seq ?_
    -- region 9
    refine dw_region (by kernel_rfl) ?_
    refine dl_r (sem_move rfl rfl) ?_
    refine dl_r (sem_index (us := [.i .i64 (ci us (0 * 2))] ++ [.i .i64 (ci us (0 * 2 + 1))] ++ us.drop (0 * 2 + 2)) sl22 rfl rfl (by omega) (hl) (ci_drop2 hl hJ (by omega)) rfl) ?_
    refine dl_r (sem_loadq (us := ([.i .i64 (ci us (0 * 2))] ++ [.i .i64 (ci us (0 * 2 + 1))])) ty34 rfl rfl rfl rfl) ?_
    refine dl_new (sem_alloc zc34 rfl) rfl ?_
    refine dl_r (sem_assign rfl rfl) ?_
    refine dl_st (sem_store_a ty34 rfl rfl rfl rfl rfl rfl) ?_
    refine dl_end ?_
    refine dw_seq ?_
    refine dw_seq ?_
    -- region 10
    refine dw_region (by kernel_rfl) ?_
    refine dl_r (sem_move rfl rfl) ?_
    refine dl_r (sem_not rfl rfl) ?_
    refine dl_r (sem_move rfl rfl) ?_
    refine dl_skip (sem_skip rfl) ?_
    refine dl_skip (sem_skip rfl) ?_
    refine dl_skip (sem_skip rfl) ?_
    refine dl_skip (sem_skip rfl) ?_
    refine dl_skip (sem_skip rfl) ?_
    refine dl_skip (sem_skip rfl) ?_
    refine dl_skip (sem_skip rfl) ?_
    refine dl_r (sem_pick rfl rfl rfl rfl) ?_
    refine dl_end ?_
    refine dw_true rfl ?_
    refine dw_seq ?_
    -- region 11
    refine dw_region (by kernel_rfl) ?_
    refine dl_r (sem_assign rfl rfl) ?_
    refine dl_end ?_
    refine dw_ret ?_
    -- path L0
    exact ⟨.inr rfl, (resL_tmp rfl resL_nil)⟩
theorem tEg_ok {n : Nat} {us : List CellD} (hl : us.length = n * 2) (hJ : us.all isJ = true) (hn : n ≤ 9000000000000000000) {a t : Int} {c : Rat} (hc : Rz 20 c) (ha : 1 ≤ a) (hat : a ≤ t) (ht2 : t ≤ 10000000) (hcos : cosB c = true) (hn2 : 2 ≤ n) (hok : dk us 1 = true) : Ok Tryz.prog 8 [.c (.s n us), .c (.i .i64 a), .c (.i .i64 t), dR c] [.c (.b (engB us n a t c))] := by
  refine Ok.of (by kernel_rfl) Tryz.func8 rfl rfl ?_
  rw [show Tryz.f8.ntmps = 134 from rfl, show Tryz.f8.results.toList = [.tmp 8] from rfl]
  refine dw_seq ?_
  -- region 0
  refine dw_region (by kernel_rfl) ?_
  refine dl_new (sem_box_a rfl rfl) rfl ?_
  refine dl_r (sem_assign rfl rfl) ?_
  refine dl_end ?_
  refine dw_seq ?_
  refine dw_seq ?_
  -- region 1
  refine dw_region (by kernel_rfl) ?_
  refine dl_r (sem_move rfl rfl) ?_
  refine dl_r (sem_castb (c := false) (sem_cmp rfl rfl rfl rfl) (decide_eq_false (by omega))) ?_
  refine dl_r (sem_move rfl rfl) ?_
  refine dl_r (sem_move rfl rfl) ?_
  refine dl_r (sem_move rfl rfl) ?_
  refine dl_r (sem_castb (c := false) (sem_cmp rfl rfl rfl rfl) (decide_eq_false (by omega))) ?_
  refine dl_r (sem_pick rfl rfl rfl rfl) ?_
  refine dl_r (sem_move rfl rfl) ?_
  refine dl_r (sem_move rfl rfl) ?_
  refine dl_r (sem_castb (c := false) (sem_cmp rfl rfl rfl rfl) (decide_eq_false (by omega))) ?_
  refine dl_r (sem_pick rfl rfl rfl rfl) ?_
  refine dl_r (sem_move rfl rfl) ?_
  refine dl_r (sem_load (us := cR c) ty28 rfl rfl rfl rfl rfl) ?_
  refine dl_r (sem_call rfl rfl (rcastb (tCos_ok (by first | assumption | exact Rz.mono hc (by decide))) hcos) rfl) ?_
  refine dl_r (sem_not rfl rfl) ?_
  refine dl_r (sem_pick rfl rfl rfl rfl) ?_
  refine dl_end ?_
  refine dw_false rfl ?_
  refine dw_skip ?_
  refine dw_seq ?_
  refine dw_seq ?_
  -- region 3
  refine dw_region (by kernel_rfl) ?_
  refine dl_r (sem_move rfl rfl) ?_
  refine dl_r (sem_len sl22 rfl rfl) ?_
  refine dl_r (sem_castb (c := false) (sem_cmp rfl rfl rfl rfl) (decide_eq_false (by omega))) ?_
  refine dl_end ?_
  refine dw_false rfl ?_
  refine dw_skip ?_
  refine dw_seq ?_
  -- region 5
  refine dw_draw 13 [9] follows_mixed (by kernel_rfl) rfl rfl ?_
  refine dq_r (sem_move rfl rfl) ?_
  refine dq_r (sem_index (us := [.i .i64 (ci us (0 * 2))] ++ [.i .i64 (ci us (0 * 2 + 1))] ++ us.drop (0 * 2 + 2)) sl22 rfl rfl (by omega) (hl) (ci_drop2 hl hJ (by omega)) rfl) ?_
  refine dq_r (sem_loadq (us := ([.i .i64 (ci us (0 * 2))] ++ [.i .i64 (ci us (0 * 2 + 1))])) ty34 rfl rfl rfl rfl) ?_
  refine dq_r (sem_move rfl rfl) ?_
  refine dq_r (sem_index (us := [.i .i64 (ci us (1 * 2))] ++ [.i .i64 (ci us (1 * 2 + 1))] ++ us.drop (1 * 2 + 2)) sl22 rfl rfl (by omega) (hl) (ci_drop2 hl hJ (by omega)) rfl) ?_
  refine dq_r (sem_loadq (us := ([.i .i64 (ci us (1 * 2))] ++ [.i .i64 (ci us (1 * 2 + 1))])) ty34 rfl rfl rfl rfl) ?_
  refine dq_r (sem_call rfl rfl (icast2b tDir_ok (x' := dX us 1) (y' := dY us 1) rfl rfl hok) rfl) ?_
  refine dq_r (sem_move rfl rfl) ?_
  refine dq_r (sem_extract rfl rfl rfl) ?_
  refine dq_r (sem_extract rfl rfl rfl) ?_
  refine dq_new (sem_alloc zc34 rfl) rfl ?_
  refine dq_sn (sem_store_a ty34 rfl rfl rfl rfl rfl rfl) rfl rfl rfl ?_
  refine dq_r (sem_assign rfl rfl) ?_
  refine dq_end ?_
  refine dl_start2 ?_
  refine dl_end ?_
  refine dw_seq ?_
  -- region 6
  refine dw_region (by kernel_rfl) ?_
  refine dl_r (sem_assign rfl rfl) ?_
  refine dl_end ?_
  refine dw_seq ?_
  refine dw_seq ?_
  -- region 7
  refine dw_region (by kernel_rfl) ?_
  refine dl_r (sem_move rfl rfl) ?_
  refine dl_r (sem_len sl22 rfl rfl) ?_
  refine dl_r (sem_move rfl rfl) ?_
  refine dl_end ?_
  refine dw_block ?_
  refine dw_loop (ι := {j : Nat // j ≤ n ∧ ∀ i, i < j → eg us a i = false}) (fun i => ⟨134, [(0, .v (.c (.s n us))), (1, .v (.c (.i .i64 a))), (2, .v (.c (.i .i64 t))), (7, .p 7 0), (9, .p 9 0), (10, .v (.c (.b true))), (11, .v (.c (.i .i64 (gmx us i.1)))), (46, .v (.c (.s n us))), (47, .v (.c (.i .i64 (n : Int)))), (48, .v (.c (.i .i64 (i.1 : Int))))], [(7, 28, cR c), (9, 34, ([.i .i64 (dX us 1)] ++ [.i .i64 (dY us 1)]))]⟩) (fun i => n - i.1) ⟨0, Nat.zero_le _, fun i hi => absurd hi (Nat.not_lt_zero i)⟩ (sub_of ⟨rfl, rfl, rfl, rfl, rfl, rfl, rfl, rfl, rfl, rfl, trivial⟩ ⟨rfl, rfl, trivial⟩ rfl) ?_
  rintro ⟨j, h2, h3⟩
  replace h2 : j ≤ n := h2
  replace h3 : ∀ i, i < j → eg us a i = false := h3
  show Dw _ _ ⟨134, [(0, .v (.c (.s n us))), (1, .v (.c (.i .i64 a))), (2, .v (.c (.i .i64 t))), (7, .p 7 0), (9, .p 9 0), (10, .v (.c (.b true))), (11, .v (.c (.i .i64 (gmx us j)))), (46, .v (.c (.s n us))), (47, .v (.c (.i .i64 (n : Int)))), (48, .v (.c (.i .i64 (j : Int))))], [(7, 28, cR c), (9, 34, ([.i .i64 (dX us 1)] ++ [.i .i64 (dY us 1)]))]⟩ _
  refine dw_seq ?_
  -- region 8
  refine dw_region (by kernel_rfl) ?_
  refine dl_r (sem_cmp rfl rfl rfl rfl) ?_
  refine dl_end ?_
  refine dw_seq ?_
  refine dw_cond rfl (fun hc1 => ?_) (fun hc1 => ?_)
  · have g1 : j < n := by have := of_decide_eq_true hc1; omega
    refine dw_skip ?_
    refine dw_seq ?_
    refine dw_block ?_
    refine dw_seq ?_
    -- region 9
    refine dw_region (by kernel_rfl) ?_
    refine dl_r (sem_move rfl rfl) ?_
    refine dl_r (sem_index (us := [.i .i64 (ci us (j * 2))] ++ [.i .i64 (ci us (j * 2 + 1))] ++ us.drop (j * 2 + 2)) sl22 rfl rfl (by omega) (hl) (ci_drop2 hl hJ (by omega)) rfl) ?_
    refine dl_r (sem_loadq (us := ([.i .i64 (ci us (j * 2))] ++ [.i .i64 (ci us (j * 2 + 1))])) ty34 rfl rfl rfl rfl) ?_
    refine dl_new (sem_alloc zc34 rfl) rfl ?_
    refine dl_r (sem_assign rfl rfl) ?_
    refine dl_st (sem_store_a ty34 rfl rfl rfl rfl rfl rfl) ?_
    refine dl_end ?_
    refine dw_seq ?_
    refine dw_seq ?_
    -- region 10
    refine dw_region (by kernel_rfl) ?_
    refine dl_r (sem_move rfl rfl) ?_
    refine dl_r (sem_not rfl rfl) ?_
    refine dl_r (sem_move rfl rfl) ?_
    refine dl_r (sem_field fd34_0 rfl rfl) ?_
    refine dl_r (sem_load1 ty2 rfl rfl rfl rfl) ?_
    refine dl_r (sem_field fd34_1 rfl rfl) ?_
    refine dl_r (sem_load1 ty2 rfl rfl rfl rfl) ?_
    refine dl_r (sem_slit_D (n := 2) (us := [.i .i64 (ci us (j * 2))] ++ [.i .i64 (ci us (j * 2 + 1))]) el95 rfl rfl rfl (by decide) (by decide) rfl) ?_
    refine dl_r (sem_call rfl rfl (tGrid2) rfl) ?_
    refine dl_r (sem_not rfl rfl) ?_
    refine dl_r (sem_pick rfl rfl rfl rfl) ?_
    refine dl_end ?_
    refine dw_cond rfl (fun hc2 => ?_) (fun hc2 => ?_)
    · have e1 := eg_1 (a := a) hc2
      refine dw_seq ?_
      -- region 11
      refine dw_region (by kernel_rfl) ?_
      refine dl_r (sem_assign rfl rfl) ?_
      refine dl_end ?_
      refine dw_ret ?_
      -- path TT
      rw [engB_f g1 e1]
      exact ⟨.inr rfl, (resL_tmp rfl resL_nil)⟩
    · have e1 := fr_1 hc2
      refine dw_skip ?_
      refine dw_seq ?_
      refine dw_seq ?_
      -- region 12
      refine dw_region (by kernel_rfl) ?_
      refine dl_r (sem_move rfl rfl) ?_
      refine dl_r (sem_cmp rfl rfl rfl rfl) ?_
      refine dl_end ?_
      refine dw_cond rfl (fun hc3 => ?_) (fun hc3 => ?_)
      · have e2 : j = 0 := by have := eq_of_beq hc3; omega
        have e3 := eg_0 (a := a) e1 e2
        refine dw_exit ?_
        -- region 18
        refine dw_region (by kernel_rfl) ?_
        refine dl_r (sem_ari (r := ((j + 1 : Nat) : Int)) rfl rfl ((ari_i64_add (by omega) (by omega)).trans (congrArg some (by omega))) rfl) ?_
        refine dl_r (sem_move rfl rfl) ?_
        refine dl_end ?_
        exact ⟨⟨j + 1, by omega, fun i hi => (Nat.lt_or_ge i j).elim (h3 i) (fun h9 => by rw [show i = j by omega]; exact e3)⟩, sub_of ⟨rfl, rfl, rfl, rfl, rfl, rfl, by rw [← gmx_0 e2]; rfl, rfl, rfl, rfl, trivial⟩ ⟨rfl, rfl, trivial⟩ rfl, by show n - (j + 1) < n - j; omega⟩
      · have e2 : j ≠ 0 := by intro h0; subst h0; simp at hc3
        have b1 := far_n e1.1
        have b2 := far_n e1.2
        have b3 := eg_far (h3 (j - 1) (by omega))
        refine dw_skip ?_
        refine dw_seq ?_
        -- region 13
        refine dw_draw 13 [14] follows_mixed (by kernel_rfl) rfl rfl ?_
        refine dq_r (sem_move rfl rfl) ?_
        refine dq_r (sem_move rfl rfl) ?_
        refine dq_r (sem_ari (r := ((j - 1 : Nat) : Int)) rfl rfl ((ari_i64_sub (by omega) (by omega)).trans (congrArg some (by omega))) rfl) ?_
        refine dq_r (sem_index (us := [.i .i64 (ci us ((j - 1) * 2))] ++ [.i .i64 (ci us ((j - 1) * 2 + 1))] ++ us.drop ((j - 1) * 2 + 2)) sl22 rfl rfl (by omega) (hl) (ci_drop2 hl hJ (by omega)) rfl) ?_
        refine dq_r (sem_loadq (us := ([.i .i64 (ci us ((j - 1) * 2))] ++ [.i .i64 (ci us ((j - 1) * 2 + 1))])) ty34 rfl rfl rfl rfl) ?_
        refine dq_r (sem_load (us := ([.i .i64 (ci us (j * 2))] ++ [.i .i64 (ci us (j * 2 + 1))])) ty34 rfl rfl rfl rfl rfl) ?_
        refine dq_r (sem_call rfl rfl (icast2b tDir_ok (x' := dX us j) (y' := dY us j) (c := dk us j) rfl rfl rfl) rfl) ?_
        refine dq_r (sem_move rfl rfl) ?_
        refine dq_r (sem_extract rfl rfl rfl) ?_
        refine dq_r (sem_extract rfl rfl rfl) ?_
        refine dq_new (sem_alloc zc34 rfl) rfl ?_
        refine dq_sn (sem_store_a ty34 rfl rfl rfl rfl rfl rfl) rfl rfl rfl ?_
        refine dq_r (sem_assign rfl rfl) ?_
        refine dq_end ?_
        refine dl_start2 ?_
        refine dl_end ?_
        refine dw_seq ?_
        -- region 14
        refine dw_draw 38 [] follows_mixed (by kernel_rfl) rfl rfl ?_
        refine dq_r (sem_field fd34_0 rfl rfl) ?_
        refine dq_r (sem_load1 ty2 rfl rfl rfl rfl) ?_
        refine dq_r (sem_move rfl rfl) ?_
        refine dq_r (sem_move rfl rfl) ?_
        refine dq_r (sem_ari (r := ((j - 1 : Nat) : Int)) rfl rfl ((ari_i64_sub (by omega) (by omega)).trans (congrArg some (by omega))) rfl) ?_
        refine dq_r (sem_index (us := [.i .i64 (ci us ((j - 1) * 2))] ++ [.i .i64 (ci us ((j - 1) * 2 + 1))] ++ us.drop ((j - 1) * 2 + 2)) sl22 rfl rfl (by omega) (hl) (ci_drop2 hl hJ (by omega)) rfl) ?_
        refine dq_r (sem_fieldq fd34_0 rfl rfl rfl) ?_
        refine dq_r (sem_loadq1 ty2 rfl rfl rfl) ?_
        refine dq_r (sem_ari (r := ci us (j * 2) - ci us ((j - 1) * 2)) rfl rfl (ari_i64_sub (by omega) (by omega)) rfl) ?_
        refine dq_r (sem_move rfl rfl) ?_
        refine dq_r (sem_move rfl rfl) ?_
        refine dq_r (sem_ari (r := ((j - 1 : Nat) : Int)) rfl rfl ((ari_i64_sub (by omega) (by omega)).trans (congrArg some (by omega))) rfl) ?_
        refine dq_r (sem_index (us := [.i .i64 (ci us ((j - 1) * 2))] ++ [.i .i64 (ci us ((j - 1) * 2 + 1))] ++ us.drop ((j - 1) * 2 + 2)) sl22 rfl rfl (by omega) (hl) (ci_drop2 hl hJ (by omega)) rfl) ?_
        refine dq_r (sem_fieldq fd34_0 rfl rfl rfl) ?_
        refine dq_r (sem_loadq1 ty2 rfl rfl rfl) ?_
        refine dq_r (sem_field fd34_0 rfl rfl) ?_
        refine dq_r (sem_load1 ty2 rfl rfl rfl rfl) ?_
        refine dq_r (sem_ari (r := ci us ((j - 1) * 2) - ci us (j * 2)) rfl rfl (ari_i64_sub (by omega) (by omega)) rfl) ?_
        refine dq_r (sem_field fd34_1 rfl rfl) ?_
        refine dq_r (sem_load1 ty2 rfl rfl rfl rfl) ?_
        refine dq_r (sem_move rfl rfl) ?_
        refine dq_r (sem_move rfl rfl) ?_
        refine dq_r (sem_ari (r := ((j - 1 : Nat) : Int)) rfl rfl ((ari_i64_sub (by omega) (by omega)).trans (congrArg some (by omega))) rfl) ?_
        refine dq_r (sem_index (us := [.i .i64 (ci us ((j - 1) * 2))] ++ [.i .i64 (ci us ((j - 1) * 2 + 1))] ++ us.drop ((j - 1) * 2 + 2)) sl22 rfl rfl (by omega) (hl) (ci_drop2 hl hJ (by omega)) rfl) ?_
        refine dq_r (sem_fieldq fd34_1 rfl rfl rfl) ?_
        refine dq_r (sem_loadq1 ty2 rfl rfl rfl) ?_
        refine dq_r (sem_ari (r := ci us (j * 2 + 1) - ci us ((j - 1) * 2 + 1)) rfl rfl (ari_i64_sub (by omega) (by omega)) rfl) ?_
        refine dq_r (sem_move rfl rfl) ?_
        refine dq_r (sem_move rfl rfl) ?_
        refine dq_r (sem_ari (r := ((j - 1 : Nat) : Int)) rfl rfl ((ari_i64_sub (by omega) (by omega)).trans (congrArg some (by omega))) rfl) ?_
        refine dq_r (sem_index (us := [.i .i64 (ci us ((j - 1) * 2))] ++ [.i .i64 (ci us ((j - 1) * 2 + 1))] ++ us.drop ((j - 1) * 2 + 2)) sl22 rfl rfl (by omega) (hl) (ci_drop2 hl hJ (by omega)) rfl) ?_
        refine dq_r (sem_fieldq fd34_1 rfl rfl rfl) ?_
        refine dq_r (sem_loadq1 ty2 rfl rfl rfl) ?_
        refine dq_r (sem_field fd34_1 rfl rfl) ?_
        refine dq_r (sem_load1 ty2 rfl rfl rfl rfl) ?_
        refine dq_r (sem_ari (r := ci us ((j - 1) * 2 + 1) - ci us (j * 2 + 1)) rfl rfl (ari_i64_sub (by omega) (by omega)) rfl) ?_
        refine dq_r (sem_casti (c := stp us j) (sem_max4 rfl rfl rfl rfl rfl) rfl) ?_
        refine dq_r (sem_assign rfl rfl) ?_
        refine dq_end ?_
        refine dl_start0 ?_
        refine dl_end ?_
        refine dw_seq ?_
        refine dw_seq ?_
        -- region 15
        refine dw_region (by kernel_rfl) ?_
        refine dl_r (sem_move rfl rfl) ?_
        refine dl_r (sem_not rfl rfl) ?_
        refine dl_rb (sem_move rfl rfl) (fun c4 hb4 => ?_)
        cases c4
        · refine dl_r (sem_load (us := ([.i .i64 (dX us j)] ++ [.i .i64 (dY us j)])) ty34 rfl rfl rfl rfl rfl) ?_
          refine dl_r (sem_load (us := ([.i .i64 (dX us 1)] ++ [.i .i64 (dY us 1)])) ty34 rfl rfl rfl rfl rfl) ?_
          refine dl_r (sem_sne rfl rfl rfl rfl (by kernel_rfl) (fun w => eq_g2 (dX us j) (dY us j) (dX us 1) (dY us 1) w) rfl) ?_
          refine dl_r (sem_pick rfl rfl rfl rfl) ?_
          refine dl_rb (sem_move rfl rfl) (fun c5 hb5 => ?_)
          cases c5
          · refine dl_r (sem_move rfl rfl) ?_
            refine dl_r (sem_move rfl rfl) ?_
            refine dl_r (sem_cmp rfl rfl rfl rfl) ?_
            refine dl_r (sem_pick rfl rfl rfl rfl) ?_
            refine dl_end ?_
            refine dw_cond rfl (fun hc6 => ?_) (fun hc6 => ?_)
            · have e3 := eg_4 e2 hc6
              refine dw_seq ?_
              -- region 16
              refine dw_region (by kernel_rfl) ?_
              refine dl_r (sem_assign rfl rfl) ?_
              refine dl_end ?_
              refine dw_ret ?_
              -- path TFFffT
              rw [engB_f g1 e3]
              exact ⟨.inr rfl, (resL_tmp rfl resL_nil)⟩
            · have e3 := eg_5 e1 hb4 hb5 hc6
              refine dw_skip ?_
              -- region 17
              refine dw_region (by kernel_rfl) ?_
              refine dl_r (sem_move rfl rfl) ?_
              refine dl_r (sem_move rfl rfl) ?_
              refine dl_r (sem_max rfl rfl rfl) ?_
              refine dl_r (sem_assign rfl rfl) ?_
              refine dl_end ?_
              -- region 18
              refine dw_region (by kernel_rfl) ?_
              refine dl_r (sem_ari (r := ((j + 1 : Nat) : Int)) rfl rfl ((ari_i64_add (by omega) (by omega)).trans (congrArg some (by omega))) rfl) ?_
              refine dl_r (sem_move rfl rfl) ?_
              refine dl_end ?_
              exact ⟨⟨j + 1, by omega, fun i hi => (Nat.lt_or_ge i j).elim (h3 i) (fun h9 => by rw [show i = j by omega]; exact e3)⟩, sub_of ⟨rfl, rfl, rfl, rfl, rfl, rfl, by rw [← gmx_s e2]; rfl, rfl, rfl, rfl, trivial⟩ ⟨rfl, rfl, trivial⟩ rfl, by show n - (j + 1) < n - j; omega⟩
          · have e3 := eg_3 (a := a) e2 hb5
            refine dl_skip (sem_skip rfl) ?_
            refine dl_skip (sem_skip rfl) ?_
            refine dl_skip (sem_skip rfl) ?_
            refine dl_r (sem_pick rfl rfl rfl rfl) ?_
            refine dl_end ?_
            refine dw_true rfl ?_
            refine dw_seq ?_
            -- region 16
            refine dw_region (by kernel_rfl) ?_
            refine dl_r (sem_assign rfl rfl) ?_
            refine dl_end ?_
            refine dw_ret ?_
            -- path TFFft
            rw [engB_f g1 e3]
            exact ⟨.inr rfl, (resL_tmp rfl resL_nil)⟩
        · have e3 := eg_2 (a := a) e2 hb4
          refine dl_skip (sem_skip rfl) ?_
          refine dl_skip (sem_skip rfl) ?_
          refine dl_skip (sem_skip rfl) ?_
          refine dl_r (sem_pick rfl rfl rfl rfl) ?_
          refine dl_r (sem_move rfl rfl) ?_
          refine dl_skip (sem_skip rfl) ?_
          refine dl_skip (sem_skip rfl) ?_
          refine dl_skip (sem_skip rfl) ?_
          refine dl_r (sem_pick rfl rfl rfl rfl) ?_
          refine dl_end ?_
          refine dw_true rfl ?_
          refine dw_seq ?_
          -- region 16
          refine dw_region (by kernel_rfl) ?_
          refine dl_r (sem_assign rfl rfl) ?_
          refine dl_end ?_
          refine dw_ret ?_
          -- path TFFt
          rw [engB_f g1 e3]
          exact ⟨.inr rfl, (resL_tmp rfl resL_nil)⟩
  · have hj : j = n := by have := of_decide_eq_false hc1; omega
    subst hj
    have m1 := gmx_le (a := a) (by omega) _ h3
    have m2 := gmx_ge hn2 h3
    refine dw_exit ?_
    refine dw_seq ?_
    -- region 19
    refine dw_region (by kernel_rfl) ?_
    refine dl_r (sem_move rfl rfl) ?_
    refine dl_r (sem_move rfl rfl) ?_
    refine dl_r (sem_move rfl rfl) ?_
    refine dl_r (sem_load (us := cR c) ty28 rfl rfl rfl rfl rfl) ?_
    refine dl_r (sem_call rfl rfl (tBnd_ok hc ha (by omega) (by omega) ht2 hcos m2 (by omega)) rfl) ?_
    refine dl_r (sem_assign rfl rfl) ?_
    refine dl_end ?_
    refine dw_ret ?_
    -- path F
    rw [engB_t h3]
    exact ⟨.inr rfl, (resL_tmp rfl resL_nil)⟩
end Go.Proofs.YtonjlikaacengaaGreat
