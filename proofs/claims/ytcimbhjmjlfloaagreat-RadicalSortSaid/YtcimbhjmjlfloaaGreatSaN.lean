/- Plain: what the laws of radicals lean on; the program's Sign and Cmp as the reference's. -/
import Derived.Test.YtcimbhjmjlfloaaGreatSaM
namespace Go.Proofs.YtcimbhjmjlfloaaGreat
open Go Go.RowKit
theorem sgnP_signQ (A B C D M N : Rat) : sgnP A B C D M N = signQ A B C D M N := by
  by_cases h : M < 0 ∨ N < 0
  · rw [sgnP_n h, signQ_n h]
  · have hM : 0 ≤ M := by grind
    have hN : 0 ≤ N := by grind
    rw [sgnP_eq hM hN, signQ_sg hM hN]
theorem xSignQ_ok {A B C D M N : Rat} (hA : Rz 8 A) (hB : Rz 8 B) (hC : Rz 8 C) (hD : Rz 8 D) (hM : Rz 8 M) (hN : Rz 8 N) :
    Ok Tryz.prog 13 [.a (cR A ++ cR B ++ cR C ++ cR D ++ cR M ++ cR N)] [.c (.i .i64 (signQ A B C D M N))] := rcasti (xSign_ok hA hB hC hD hM hN) (sgnP_signQ _ _ _ _ _ _)
theorem xCmpQ_ok {a b c d e f : Rat} (ha : Rz 100 a) (hb : Rz 8 b) (hc : Rz 8 c) (hd : Rz 100 d) (he : Rz 8 e) (hf : Rz 8 f) (h1 : Rz 8 (a - d)) (c0 : 0 ≤ c) (f0 : 0 ≤ f) :
    Ok Tryz.prog 21 [.a (cR a ++ cR b ++ cR c), .a (cR d ++ cR e ++ cR f)] [.c (.i .i64 (signQ (a - d) b (-e) 0 c f))] := rcasti (xCmp_ok ha hb hc hd he hf h1) ((cmpP_eq c0 f0).trans (signQ_val c0 f0).symm)
theorem rcast1 {P : Program} {f : FuncId} {ds : List D0} {x x' : Rat} (h : Ok P f ds [dR x]) (e : x = x') : Ok P f ds [dR x'] := by subst e; exact h
theorem rcast1l {P : Program} {f : FuncId} {ds rs : List D0} {x x' : Rat} (h : Ok P f ds (dR x :: rs)) (e : x = x') : Ok P f ds (dR x' :: rs) := by subst e; exact h
theorem icast1 {P : Program} {f : FuncId} {ds : List D0} {x x' : Int} (h : Ok P f ds [dI x]) (e : x = x') : Ok P f ds [dI x'] := by subst e; exact h
section
variable {P : Program} {f : FuncId} {ds rs : List D0} {x y z x' y' z' : Rat}
end
def invN (a b c : Rat) : Rat := 1 / (a * a - b * b * c)
def rtSg (a b c : Rat) : Int := if cmpR b 0 = 0 ∨ cmpR a 0 = cmpR b 0 then cmpR a 0 else if cmpR a 0 = 0 then cmpR b 0 else cmpR a 0 * cmpR (a * a - b * b * c) 0
section
variable {a b c : Rat}
theorem rtSg_0 (h : (cmpR b 0 == 0) = true) : rtSg a b c = cmpR a 0 := by unfold rtSg; rw [if_pos (.inl (by simpa using h))]
theorem rtSg_e (h : (cmpR a 0 == cmpR b 0) = true) : rtSg a b c = cmpR a 0 := by unfold rtSg; rw [if_pos (.inr (by simpa using h))]
theorem rtSg_z (h : (cmpR b 0 == 0) = false) (h2 : (cmpR a 0 == cmpR b 0) = false) (h3 : (cmpR a 0 == 0) = true) : rtSg a b c = cmpR b 0 := by
  unfold rtSg; rw [if_neg (fun e => e.elim (by simpa using h) (by simpa using h2)), if_pos (by simpa using h3)]
theorem rtSg_n (h : (cmpR b 0 == 0) = false) (h2 : (cmpR a 0 == cmpR b 0) = false) (h3 : (cmpR a 0 == 0) = false) : rtSg a b c = cmpR a 0 * cmpR (a * a - b * b * c) 0 := by
  unfold rtSg; rw [if_neg (fun e => e.elim (by simpa using h) (by simpa using h2)), if_neg (by simpa using h3)]
end
/-- a short number's limbs -/
theorem lim_le {k : Nat} {x : Int} (h : Sz k x) : (lim x.natAbs).length ≤ k := lim_len h
theorem len2 {k : Nat} {x : Int} (h : Sz k x) (m : Int) (hk : (k : Int) ≤ m) : decide (((lim x.natAbs).length : Int) > m) = false := decide_eq_false (by have := lim_le h; omega)
end Go.Proofs.YtcimbhjmjlfloaaGreat
/- PointTranslate, PointAt: the laws at all readings. -/
namespace Go.Proofs.YtcimbhjmjlfloaaGreat
open Go Go.RowKit
theorem r_cancel (a d : Rat) : a + d + -d = a := by grind
-- no function swarf/swarflaw07.smallVec in this seat
-- no function swarf/swarflaw07.smallVec in this seat
-- no function swarf/swarflaw07.PointTranslate in this seat
-- no function swarf/swarflaw07.PointTranslate in this seat
-- no function swarf/swarflaw07.PointTranslate in this seat
-- no function swarf/swarflaw07.PointTranslate in this seat
-- no function swarf/swarflaw07.PointAt in this seat
-- no function swarf/swarflaw07.PointAt in this seat
-- no function swarf/swarflaw07.PointAt in this seat
-- no function swarf/swarflaw07.PointAt in this seat
-- no function swarf/swarflaw07.PointAt in this seat
end Go.Proofs.YtcimbhjmjlfloaaGreat
/- root.Floor, point.Near, PointNear: the law at all readings. -/
namespace Go.Proofs.YtcimbhjmjlfloaaGreat
open Go Go.RowKit
theorem dv1 (n : Int) : Rat.divInt n 1 = (n : Rat) := by rw [Rat.divInt_eq_div]; have : ((1 : Int) : Rat) = 1 := rfl; rw [this]; grind
theorem nrR_sz {a b c u : Rat} (ha : Rz 3 a) (hb : Rz 3 b) (hc : Rz 3 c) (hu : Rz 3 u) (u0 : 0 < u) : Rz 34 (nrR a b c u) := by
  have z0 : u ≠ 0 := by grind
  have kk : Rz 4 (1 / u) := (Rz.div (k := 1) (rz_l (by decide +kernel)) hu z0).mono (by decide)
  have fs : Sz 26 (flR (a * (1 / u)) (b * (1 / u)) (zc (b * (1 / u)) c)) := flR_sz (ha.mul kk) (hb.mul kk) (Rz.zc hc (by decide))
  unfold nrR
  exact ((Rz.int fs (by decide)).mul hu).mono (by decide)
theorem zc_val {b b1 b2 c : Rat} (h : vPt b1 b2 c = true) (hb : b ≠ 0 → ¬ (b1 = 0 ∧ b2 = 0)) : b ≠ 0 → 0 < zc b c ∧ sqR (zc b c) = false := by
  intro h0
  rw [zc_f h0]
  unfold vPt at h
  rw [if_neg (hb h0), Bool.and_eq_true] at h
  exact ⟨of_decide_eq_true h.1, by simpa using h.2⟩
theorem zc_val1 {b1 b2 c : Rat} (h : vPt b1 b2 c = true) : b1 ≠ 0 → 0 < zc b1 c ∧ sqR (zc b1 c) = false := zc_val h (fun g e => g e.1)
theorem zc_val2 {b1 b2 c : Rat} (h : vPt b1 b2 c = true) : b2 ≠ 0 → 0 < zc b2 c ∧ sqR (zc b2 c) = false := zc_val h (fun g e => g e.2)
theorem rtZero_ok  : Ok Tryz.prog 94 [] [dR 0] := by
  refine Ok.of (by kernel_rfl) Tryz.func94 rfl rfl ?_
  rw [show Tryz.f94.ntmps = 2 from rfl, show Tryz.f94.results.toList = [.cell 0 28] from rfl]
  refine dw_seq ?_
  -- region 0
  refine dw_region (by kernel_rfl) ?_
  refine dl_new (sem_alloc zc28 rfl) rfl ?_
  refine dl_end ?_
  refine dw_seq ?_
  -- region 1
  refine dw_region (by kernel_rfl) ?_
  refine dl_r (sem_call rfl rfl (pFrom_ok (by omega) (by omega)) rfl) ?_
  refine dl_st (sem_store_a ty28 rfl rfl rfl rfl rfl rfl) ?_
  refine dl_end ?_
  refine dw_ret ?_
  -- path 
  rw [z_int]
  exact ⟨.inr rfl, (resL_cell (us := cR (((0 : Int) : Rat))) ty28 rfl rfl rfl rfl resL_nil)⟩
theorem rtReduced_ok {a b c : Rat} : Ok Tryz.prog 121 [dR a, dR b, dR c] [.a (cR a ++ cR b ++ cR (zc b c))] := by
  refine Ok.of (by kernel_rfl) Tryz.func121 rfl rfl ?_
  rw [show Tryz.f121.ntmps = 15 from rfl, show Tryz.f121.results.toList = [.cell 6 30] from rfl]
  refine dw_seq ?_
  -- region 0
  refine dw_region (by kernel_rfl) ?_
  refine dl_new (sem_box_a rfl rfl) rfl ?_
  refine dl_new (sem_box_a rfl rfl) rfl ?_
  refine dl_new (sem_box_a rfl rfl) rfl ?_
  refine dl_new (sem_alloc zc30 rfl) rfl ?_
  refine dl_end ?_
  refine dw_seq ?_
  refine dw_seq ?_
  -- region 1
  refine dw_region (by kernel_rfl) ?_
  refine dl_r (sem_load (us := cR b) ty28 rfl rfl rfl rfl rfl) ?_
  refine dl_r (sem_call rfl rfl (pSign_ok) rfl) ?_
  refine dl_r (sem_cmp rfl rfl rfl rfl) ?_
  refine dl_end ?_
  refine dw_cond rfl (fun hc1 => ?_) (fun hc1 => ?_)
  · -- region 2
    refine dw_region (by kernel_rfl) ?_
    refine dl_r (sem_call rfl rfl (rtZero_ok) rfl) ?_
    refine dl_st (sem_store_a ty28 rfl rfl rfl rfl rfl rfl) ?_
    refine dl_end ?_
    refine dw_seq ?_
    -- region 3
    refine dw_region (by kernel_rfl) ?_
    refine dl_r (sem_load (us := cR a) ty28 rfl rfl rfl rfl rfl) ?_
    refine dl_r (sem_load (us := cR b) ty28 rfl rfl rfl rfl rfl) ?_
    refine dl_r (sem_load (us := cR 0) ty28 rfl rfl rfl rfl rfl) ?_
    refine dl_r (sem_build (us := (cR a ++ cR b ++ cR 0)) fs30 zc30 rfl rfl rfl) ?_
    refine dl_st (sem_store_a ty30 rfl rfl rfl rfl rfl rfl) ?_
    refine dl_end ?_
    refine dw_ret ?_
    -- path T
    rw [zc_t (r_eq hc1)]
    exact ⟨.inr rfl, (resL_cell (us := (cR a ++ cR b ++ cR 0)) ty30 rfl rfl rfl rfl resL_nil)⟩
  · refine dw_skip ?_
    refine dw_seq ?_
    -- region 3
    refine dw_region (by kernel_rfl) ?_
    refine dl_r (sem_load (us := cR a) ty28 rfl rfl rfl rfl rfl) ?_
    refine dl_r (sem_load (us := cR b) ty28 rfl rfl rfl rfl rfl) ?_
    refine dl_r (sem_load (us := cR c) ty28 rfl rfl rfl rfl rfl) ?_
    refine dl_r (sem_build (us := (cR a ++ cR b ++ cR c)) fs30 zc30 rfl rfl rfl) ?_
    refine dl_st (sem_store_a ty30 rfl rfl rfl rfl rfl rfl) ?_
    refine dl_end ?_
    refine dw_ret ?_
    -- path F
    rw [zc_f (r_ne hc1)]
    exact ⟨.inr rfl, (resL_cell (us := (cR a ++ cR b ++ cR c)) ty30 rfl rfl rfl rfl resL_nil)⟩
theorem rtScale_ok {a b c k : Rat} (ha : Rz 300 a) (hb : Rz 300 b) (hk : Rz 300 k) : Ok Tryz.prog 100 [.a (cR a ++ cR b ++ cR c), dR k] [.a (cR (a * k) ++ cR (b * k) ++ cR (zc (b * k) c))] := by
  refine Ok.of (by kernel_rfl) Tryz.func100 rfl rfl ?_
  rw [show Tryz.f100.ntmps = 16 from rfl, show Tryz.f100.results.toList = [.cell 4 30] from rfl]
  refine dw_seq ?_
  -- region 0
  refine dw_region (by kernel_rfl) ?_
  refine dl_new (sem_box_a rfl rfl) rfl ?_
  refine dl_new (sem_box_a rfl rfl) rfl ?_
  refine dl_new (sem_alloc zc30 rfl) rfl ?_
  refine dl_end ?_
  refine dw_seq ?_
  -- region 1
  refine dw_draw 11 [] follows_mixed (by kernel_rfl) rfl rfl ?_
  refine dq_r (sem_field fd30_0 rfl rfl) ?_
  refine dq_r (sem_load (us := cR a) ty28 rfl rfl rfl rfl rfl) ?_
  refine dq_r (sem_load (us := cR k) ty28 rfl rfl rfl rfl rfl) ?_
  refine dq_r (sem_call rfl rfl (pMul_ok (by first | assumption | exact Rz.mono ha (by decide)) (by first | assumption | exact Rz.mono hk (by decide))) rfl) ?_
  refine dq_r (sem_field fd30_1 rfl rfl) ?_
  refine dq_r (sem_load (us := cR b) ty28 rfl rfl rfl rfl rfl) ?_
  refine dq_r (sem_load (us := cR k) ty28 rfl rfl rfl rfl rfl) ?_
  refine dq_r (sem_call rfl rfl (pMul_ok (by first | assumption | exact Rz.mono hb (by decide)) (by first | assumption | exact Rz.mono hk (by decide))) rfl) ?_
  refine dq_r (sem_field fd30_2 rfl rfl) ?_
  refine dq_r (sem_load (us := cR c) ty28 rfl rfl rfl rfl rfl) ?_
  refine dq_r (sem_call rfl rfl (rtReduced_ok) rfl) ?_
  refine dq_end ?_
  refine dl_start0 ?_
  refine dl_st (sem_store_a ty30 rfl rfl rfl rfl rfl rfl) ?_
  refine dl_end ?_
  refine dw_ret ?_
  -- path 
  exact ⟨.inr rfl, (resL_cell (us := (cR (a * k) ++ cR (b * k) ++ cR (zc (b * k) c))) ty30 rfl rfl rfl rfl resL_nil)⟩
theorem rtFloor_ok {a b c : Rat} (ha : Rz 20 a) (hb : Rz 20 b) (hc : Rz 20 c) : Ok Tryz.prog 57 [.a (cR a ++ cR b ++ cR c)] [dI (flR a b c)] := by
  have hn : (a.den : Int) * ((b * b * c).den : Int) ≠ 0 := mul_ne (den_ne a) (den_ne (b * b * c))
  refine Ok.of (by kernel_rfl) Tryz.func57 rfl rfl ?_
  rw [show Tryz.f57.ntmps = 69 from rfl, show Tryz.f57.results.toList = [.cell 2 26] from rfl]
  refine dw_seq ?_
  -- region 0
  refine dw_region (by kernel_rfl) ?_
  refine dl_new (sem_box_a rfl rfl) rfl ?_
  refine dl_new (sem_alloc zc26 rfl) rfl ?_
  refine dl_end ?_
  refine dw_seq ?_
  refine dw_seq ?_
  -- region 1
  refine dw_region (by kernel_rfl) ?_
  refine dl_r (sem_field fd30_1 rfl rfl) ?_
  refine dl_r (sem_load (us := cR b) ty28 rfl rfl rfl rfl rfl) ?_
  refine dl_r (sem_call rfl rfl (pSign_ok) rfl) ?_
  refine dl_r (sem_cmp rfl rfl rfl rfl) ?_
  refine dl_end ?_
  refine dw_cond rfl (fun hc1 => ?_) (fun hc1 => ?_)
  · refine dw_seq ?_
    -- region 2
    refine dw_region (by kernel_rfl) ?_
    refine dl_r (sem_field fd30_0 rfl rfl) ?_
    refine dl_r (sem_load (us := cR a) ty28 rfl rfl rfl rfl rfl) ?_
    refine dl_r (sem_call rfl rfl (pFloor_ok (by first | assumption | exact Rz.mono ha (by decide))) rfl) ?_
    refine dl_st (sem_store_a ty26 rfl rfl rfl rfl rfl rfl) ?_
    refine dl_end ?_
    refine dw_ret ?_
    -- path T
    rw [flR_0 (r_eq hc1)]
    exact ⟨.inr rfl, (resL_cell (us := cI (a.num.fdiv (a.den : Int))) ty26 rfl rfl rfl rfl resL_nil)⟩
  · refine dw_skip ?_
    refine dw_seq ?_
    -- region 3
    refine dw_draw 9 [] follows_mixed (by kernel_rfl) rfl rfl ?_
    refine dq_r (sem_field fd30_1 rfl rfl) ?_
    refine dq_r (sem_load (us := cR b) ty28 rfl rfl rfl rfl rfl) ?_
    refine dq_r (sem_field fd30_1 rfl rfl) ?_
    refine dq_r (sem_load (us := cR b) ty28 rfl rfl rfl rfl rfl) ?_
    refine dq_r (sem_call rfl rfl (pMul_ok (by first | assumption | exact Rz.mono hb (by decide)) (by first | assumption | exact Rz.mono hb (by decide))) rfl) ?_
    refine dq_r (sem_field fd30_2 rfl rfl) ?_
    refine dq_r (sem_load (us := cR c) ty28 rfl rfl rfl rfl rfl) ?_
    refine dq_r (sem_call rfl rfl (pMul_ok (by first | assumption | exact Rz.mono (Rz.mul hb hb) (by decide)) (by first | assumption | exact Rz.mono hc (by decide))) rfl) ?_
    refine dq_new (sem_alloc zc28 rfl) rfl ?_
    refine dq_end ?_
    refine dl_start1 ?_
    refine dl_st (sem_store_a ty28 rfl rfl rfl rfl rfl rfl) ?_
    refine dl_end ?_
    refine dw_seq ?_
    -- region 4
    refine dw_draw 9 [4, 5] follows_mixed (by kernel_rfl) rfl rfl ?_
    refine dq_r (sem_field fd30_0 rfl rfl) ?_
    refine dq_r (sem_field fd28_1 rfl rfl) ?_
    refine dq_r (sem_load (us := cI (a.den : Int)) ty26 rfl rfl rfl rfl rfl) ?_
    refine dq_r (sem_field fd28_1 rfl rfl) ?_
    refine dq_r (sem_load (us := cI ((((b * b) * c).den : Int))) ty26 rfl rfl rfl rfl rfl) ?_
    refine dq_new (sem_alloc zc26 rfl) rfl ?_
    refine dq_new (sem_alloc zc26 rfl) rfl ?_
    refine dq_sn (sem_store_a ty26 rfl rfl rfl rfl rfl rfl) rfl rfl rfl rfl ?_
    refine dq_sn (sem_store_a ty26 rfl rfl rfl rfl rfl rfl) rfl rfl rfl rfl ?_
    refine dq_end ?_
    refine dl_start4 ?_
    refine dl_end ?_
    refine dw_seq ?_
    -- region 5
    refine dw_draw 9 [] follows_mixed (by kernel_rfl) rfl rfl ?_
    refine dq_r (sem_load (us := cI (a.den : Int)) ty26 rfl rfl rfl rfl rfl) ?_
    refine dq_r (sem_load (us := cI (a.den : Int)) ty26 rfl rfl rfl rfl rfl) ?_
    refine dq_r (sem_call rfl rfl (iMul_ok (by first | assumption | exact Sz.mono (Rz.d ha) (by decide)) (by first | assumption | exact Sz.mono (Rz.d ha) (by decide))) rfl) ?_
    refine dq_r (sem_field fd28_0 rfl rfl) ?_
    refine dq_r (sem_load (us := cI (((b * b) * c).num)) ty26 rfl rfl rfl rfl rfl) ?_
    refine dq_r (sem_load (us := cI ((((b * b) * c).den : Int))) ty26 rfl rfl rfl rfl rfl) ?_
    refine dq_r (sem_call rfl rfl (iMul_ok (by first | assumption | exact Sz.mono (Rz.n (Rz.mul (Rz.mul hb hb) hc)) (by decide)) (by first | assumption | exact Sz.mono (Rz.d (Rz.mul (Rz.mul hb hb) hc)) (by decide))) rfl) ?_
    refine dq_r (sem_call rfl rfl (iMul_ok (by first | assumption | exact Sz.mono (Sz.mul (Rz.d ha) (Rz.d ha)) (by decide)) (by first | assumption | exact Sz.mono (Sz.mul (Rz.n (Rz.mul (Rz.mul hb hb) hc)) (Rz.d (Rz.mul (Rz.mul hb hb) hc))) (by decide))) rfl) ?_
    refine dq_new (sem_alloc zc26 rfl) rfl ?_
    refine dq_end ?_
    refine dl_start1 ?_
    refine dl_st (sem_store_a ty26 rfl rfl rfl rfl rfl rfl) ?_
    refine dl_end ?_
    refine dw_seq ?_
    -- region 6
    refine dw_region (by kernel_rfl) ?_
    refine dl_r (sem_load (us := cI (((a.den : Int) * (a.den : Int)) * ((((b * b) * c).num) * ((((b * b) * c).den : Int))))) ty26 rfl rfl rfl rfl rfl) ?_
    refine dl_r (sem_call rfl rfl (iSqrt_ok (by first | assumption | exact Sz.mono (Sz.mul (Sz.mul (Rz.d ha) (Rz.d ha)) (Sz.mul (Rz.n (Rz.mul (Rz.mul hb hb) hc)) (Rz.d (Rz.mul (Rz.mul hb hb) hc)))) (by decide))) rfl) ?_
    refine dl_r (sem_move rfl rfl) ?_
    refine dl_r (sem_extract rfl rfl rfl) ?_
    refine dl_r (sem_extract rfl rfl rfl) ?_
    refine dl_new (sem_alloc zc26 rfl) rfl ?_
    refine dl_st (sem_store_a ty26 rfl rfl rfl rfl rfl rfl) ?_
    refine dl_r (sem_assign rfl rfl) ?_
    refine dl_end ?_
    refine dw_seq ?_
    refine dw_seq ?_
    -- region 7
    refine dw_region (by kernel_rfl) ?_
    refine dl_r (sem_field fd30_1 rfl rfl) ?_
    refine dl_r (sem_load (us := cR b) ty28 rfl rfl rfl rfl rfl) ?_
    refine dl_r (sem_call rfl rfl (pSign_ok) rfl) ?_
    refine dl_r (sem_cmp rfl rfl rfl rfl) ?_
    refine dl_end ?_
    refine dw_cond rfl (fun hc2 => ?_) (fun hc2 => ?_)
    · -- region 8
      refine dw_draw 4 [] follows_mixed (by kernel_rfl) rfl rfl ?_
      refine dq_r (sem_load (us := cI (isqI (((a.den : Int) * (a.den : Int)) * ((((b * b) * c).num) * ((((b * b) * c).den : Int)))))) ty26 rfl rfl rfl rfl rfl) ?_
      refine dq_r (sem_call rfl rfl (iFrom_ok (by omega) (by omega)) rfl) ?_
      refine dq_r (sem_call rfl rfl (iAdd_ok (by first | assumption | exact Sz.mono (Sz.isq (Sz.mul (Sz.mul (Rz.d ha) (Rz.d ha)) (Sz.mul (Rz.n (Rz.mul (Rz.mul hb hb) hc)) (Rz.d (Rz.mul (Rz.mul hb hb) hc))))) (by decide)) (by first | assumption | exact Sz.mono (Sz.small (k := 3) (by decide) (by decide) (by decide)) (by decide))) rfl) ?_
      refine dq_r (sem_call rfl rfl (iNeg_ok (by first | assumption | exact Sz.mono (Sz.addm (Sz.isq (Sz.mul (Sz.mul (Rz.d ha) (Rz.d ha)) (Sz.mul (Rz.n (Rz.mul (Rz.mul hb hb) hc)) (Rz.d (Rz.mul (Rz.mul hb hb) hc))))) (Sz.small (k := 3) (by decide) (by decide) (by decide))) (by decide))) rfl) ?_
      refine dq_end ?_
      refine dl_start0 ?_
      refine dl_st (sem_store_a ty26 rfl rfl rfl rfl rfl rfl) ?_
      refine dl_end ?_
      refine dw_seq ?_
      -- region 9
      refine dw_draw 20 [9, 10] follows_mixed (by kernel_rfl) rfl rfl ?_
      refine dq_r (sem_field fd30_0 rfl rfl) ?_
      refine dq_r (sem_field fd28_0 rfl rfl) ?_
      refine dq_r (sem_load (us := cI a.num) ty26 rfl rfl rfl rfl rfl) ?_
      refine dq_r (sem_load (us := cI ((((b * b) * c).den : Int))) ty26 rfl rfl rfl rfl rfl) ?_
      refine dq_r (sem_call rfl rfl (iMul_ok (by first | assumption | exact Sz.mono (Rz.n ha) (by decide)) (by first | assumption | exact Sz.mono (Rz.d (Rz.mul (Rz.mul hb hb) hc)) (by decide))) rfl) ?_
      refine dq_r (sem_load (us := cI (-((isqI (((a.den : Int) * (a.den : Int)) * ((((b * b) * c).num) * ((((b * b) * c).den : Int))))) + 1))) ty26 rfl rfl rfl rfl rfl) ?_
      refine dq_r (sem_call rfl rfl (iAdd_ok (by first | assumption | exact Sz.mono (Sz.mul (Rz.n ha) (Rz.d (Rz.mul (Rz.mul hb hb) hc))) (by decide)) (by first | assumption | exact Sz.mono (Sz.neg (Sz.addm (Sz.isq (Sz.mul (Sz.mul (Rz.d ha) (Rz.d ha)) (Sz.mul (Rz.n (Rz.mul (Rz.mul hb hb) hc)) (Rz.d (Rz.mul (Rz.mul hb hb) hc))))) (Sz.small (k := 3) (by decide) (by decide) (by decide)))) (by decide))) rfl) ?_
      refine dq_r (sem_load (us := cI (a.den : Int)) ty26 rfl rfl rfl rfl rfl) ?_
      refine dq_r (sem_load (us := cI ((((b * b) * c).den : Int))) ty26 rfl rfl rfl rfl rfl) ?_
      refine dq_r (sem_call rfl rfl (iMul_ok (by first | assumption | exact Sz.mono (Rz.d ha) (by decide)) (by first | assumption | exact Sz.mono (Rz.d (Rz.mul (Rz.mul hb hb) hc)) (by decide))) rfl) ?_
      refine dq_r (sem_call rfl rfl (iDivMod_ok (by first | assumption | exact Sz.mono (Sz.addm (Sz.mul (Rz.n ha) (Rz.d (Rz.mul (Rz.mul hb hb) hc))) (Sz.neg (Sz.addm (Sz.isq (Sz.mul (Sz.mul (Rz.d ha) (Rz.d ha)) (Sz.mul (Rz.n (Rz.mul (Rz.mul hb hb) hc)) (Rz.d (Rz.mul (Rz.mul hb hb) hc))))) (Sz.small (k := 3) (by decide) (by decide) (by decide))))) (by decide)) (by first | assumption | exact Sz.mono (Sz.mul (Rz.d ha) (Rz.d (Rz.mul (Rz.mul hb hb) hc))) (by decide)) (by assumption)) rfl) ?_
      refine dq_r (sem_move rfl rfl) ?_
      refine dq_r (sem_extract rfl rfl rfl) ?_
      refine dq_r (sem_extract rfl rfl rfl) ?_
      refine dq_r (sem_extract rfl rfl rfl) ?_
      refine dq_new (sem_alloc zc26 rfl) rfl ?_
      refine dq_new (sem_alloc zc26 rfl) rfl ?_
      refine dq_sn (sem_store_a ty26 rfl rfl rfl rfl rfl rfl) rfl rfl rfl rfl ?_
      refine dq_sn (sem_store_a ty26 rfl rfl rfl rfl rfl rfl) rfl rfl rfl rfl ?_
      refine dq_r (sem_assign rfl rfl) ?_
      refine dq_end ?_
      refine dl_start4 ?_
      refine dl_end ?_
      refine dw_seq ?_
      -- region 10
      refine dw_region (by kernel_rfl) ?_
      refine dl_r (sem_load (us := cI (((a.num * ((((b * b) * c).den : Int))) + (-((isqI (((a.den : Int) * (a.den : Int)) * ((((b * b) * c).num) * ((((b * b) * c).den : Int))))) + 1))).fdiv ((a.den : Int) * ((((b * b) * c).den : Int))))) ty26 rfl rfl rfl rfl rfl) ?_
      refine dl_st (sem_store_a ty26 rfl rfl rfl rfl rfl rfl) ?_
      refine dl_end ?_
      refine dw_ret ?_
      -- path FT
      rw [flR_n (r_ne hc1) (r_lt hc2)]
      exact ⟨.inr rfl, (resL_cell (us := cI (((a.num * ((((b * b) * c).den : Int))) + (-((isqI (((a.den : Int) * (a.den : Int)) * ((((b * b) * c).num) * ((((b * b) * c).den : Int))))) + 1))).fdiv ((a.den : Int) * ((((b * b) * c).den : Int))))) ty26 rfl rfl rfl rfl resL_nil)⟩
    · refine dw_skip ?_
      refine dw_seq ?_
      -- region 9
      refine dw_draw 20 [9, 10] follows_mixed (by kernel_rfl) rfl rfl ?_
      refine dq_r (sem_field fd30_0 rfl rfl) ?_
      refine dq_r (sem_field fd28_0 rfl rfl) ?_
      refine dq_r (sem_load (us := cI a.num) ty26 rfl rfl rfl rfl rfl) ?_
      refine dq_r (sem_load (us := cI ((((b * b) * c).den : Int))) ty26 rfl rfl rfl rfl rfl) ?_
      refine dq_r (sem_call rfl rfl (iMul_ok (by first | assumption | exact Sz.mono (Rz.n ha) (by decide)) (by first | assumption | exact Sz.mono (Rz.d (Rz.mul (Rz.mul hb hb) hc)) (by decide))) rfl) ?_
      refine dq_r (sem_load (us := cI (isqI (((a.den : Int) * (a.den : Int)) * ((((b * b) * c).num) * ((((b * b) * c).den : Int)))))) ty26 rfl rfl rfl rfl rfl) ?_
      refine dq_r (sem_call rfl rfl (iAdd_ok (by first | assumption | exact Sz.mono (Sz.mul (Rz.n ha) (Rz.d (Rz.mul (Rz.mul hb hb) hc))) (by decide)) (by first | assumption | exact Sz.mono (Sz.isq (Sz.mul (Sz.mul (Rz.d ha) (Rz.d ha)) (Sz.mul (Rz.n (Rz.mul (Rz.mul hb hb) hc)) (Rz.d (Rz.mul (Rz.mul hb hb) hc))))) (by decide))) rfl) ?_
      refine dq_r (sem_load (us := cI (a.den : Int)) ty26 rfl rfl rfl rfl rfl) ?_
      refine dq_r (sem_load (us := cI ((((b * b) * c).den : Int))) ty26 rfl rfl rfl rfl rfl) ?_
      refine dq_r (sem_call rfl rfl (iMul_ok (by first | assumption | exact Sz.mono (Rz.d ha) (by decide)) (by first | assumption | exact Sz.mono (Rz.d (Rz.mul (Rz.mul hb hb) hc)) (by decide))) rfl) ?_
      refine dq_r (sem_call rfl rfl (iDivMod_ok (by first | assumption | exact Sz.mono (Sz.addm (Sz.mul (Rz.n ha) (Rz.d (Rz.mul (Rz.mul hb hb) hc))) (Sz.isq (Sz.mul (Sz.mul (Rz.d ha) (Rz.d ha)) (Sz.mul (Rz.n (Rz.mul (Rz.mul hb hb) hc)) (Rz.d (Rz.mul (Rz.mul hb hb) hc)))))) (by decide)) (by first | assumption | exact Sz.mono (Sz.mul (Rz.d ha) (Rz.d (Rz.mul (Rz.mul hb hb) hc))) (by decide)) (by assumption)) rfl) ?_
      refine dq_r (sem_move rfl rfl) ?_
      refine dq_r (sem_extract rfl rfl rfl) ?_
      refine dq_r (sem_extract rfl rfl rfl) ?_
      refine dq_r (sem_extract rfl rfl rfl) ?_
      refine dq_new (sem_alloc zc26 rfl) rfl ?_
      refine dq_new (sem_alloc zc26 rfl) rfl ?_
      refine dq_sn (sem_store_a ty26 rfl rfl rfl rfl rfl rfl) rfl rfl rfl rfl ?_
      refine dq_sn (sem_store_a ty26 rfl rfl rfl rfl rfl rfl) rfl rfl rfl rfl ?_
      refine dq_r (sem_assign rfl rfl) ?_
      refine dq_end ?_
      refine dl_start4 ?_
      refine dl_end ?_
      refine dw_seq ?_
      -- region 10
      refine dw_region (by kernel_rfl) ?_
      refine dl_r (sem_load (us := cI (((a.num * ((((b * b) * c).den : Int))) + (isqI (((a.den : Int) * (a.den : Int)) * ((((b * b) * c).num) * ((((b * b) * c).den : Int)))))).fdiv ((a.den : Int) * ((((b * b) * c).den : Int))))) ty26 rfl rfl rfl rfl rfl) ?_
      refine dl_st (sem_store_a ty26 rfl rfl rfl rfl rfl rfl) ?_
      refine dl_end ?_
      refine dw_ret ?_
      -- path FF
      rw [flR_p (r_ne hc1) (r_nlt hc2)]
      exact ⟨.inr rfl, (resL_cell (us := cI (((a.num * ((((b * b) * c).den : Int))) + (isqI (((a.den : Int) * (a.den : Int)) * ((((b * b) * c).num) * ((((b * b) * c).den : Int)))))).fdiv ((a.den : Int) * ((((b * b) * c).den : Int))))) ty26 rfl rfl rfl rfl resL_nil)⟩
-- no function swarf/point.near in this seat
-- no function swarf/point.Near in this seat
-- no function swarf/point.Near in this seat
-- no function swarf/point.Near in this seat
-- no function swarf/swarfref03.CmpRat in this seat
-- no function swarf/swarflaw07.near in this seat
-- no function swarf/swarflaw07.PointNear in this seat
-- no function swarf/swarflaw07.PointNear in this seat
-- no function swarf/swarflaw07.PointNear in this seat
-- no function swarf/swarflaw07.PointNear in this seat
-- no function swarf/swarflaw07.PointNear in this seat
-- no function swarf/swarflaw07.PointNear in this seat
end Go.Proofs.YtcimbhjmjlfloaaGreat
/- Layers 3 and 5: what the examples of radicals need. -/
namespace Go.Proofs.YtcimbhjmjlfloaaGreat
open Go Go.RowKit
theorem rtFromRat_ok {a : Rat} : Ok Tryz.prog 54 [dR a] [.a (cR a ++ cR 0 ++ cR 0)] := by
  refine Ok.of (by kernel_rfl) Tryz.func54 rfl rfl ?_
  rw [show Tryz.f54.ntmps = 7 from rfl, show Tryz.f54.results.toList = [.cell 2 30] from rfl]
  refine dw_seq ?_
  -- region 0
  refine dw_region (by kernel_rfl) ?_
  refine dl_new (sem_box_a rfl rfl) rfl ?_
  refine dl_new (sem_alloc zc30 rfl) rfl ?_
  refine dl_end ?_
  refine dw_seq ?_
  -- region 1
  refine dw_draw 4 [] follows_mixed (by kernel_rfl) rfl rfl ?_
  refine dq_r (sem_load (us := cR a) ty28 rfl rfl rfl rfl rfl) ?_
  refine dq_r (sem_call rfl rfl (rtZero_ok) rfl) ?_
  refine dq_r (sem_call rfl rfl (rtZero_ok) rfl) ?_
  refine dq_r (sem_build (us := (cR a ++ cR 0 ++ cR 0)) fs30 zc30 rfl rfl rfl) ?_
  refine dq_end ?_
  refine dl_start0 ?_
  refine dl_st (sem_store_a ty30 rfl rfl rfl rfl rfl rfl) ?_
  refine dl_end ?_
  refine dw_ret ?_
  -- path 
  exact ⟨.inr rfl, (resL_cell (us := (cR a ++ cR 0 ++ cR 0)) ty30 rfl rfl rfl rfl resL_nil)⟩
theorem rtNeg_ok {a b c : Rat} (ha : Rz 300 a) (hb : Rz 300 b) : Ok Tryz.prog 31 [.a (cR a ++ cR b ++ cR c)] [.a (cR (-a) ++ cR (-b) ++ cR c)] := by
  refine Ok.of (by kernel_rfl) Tryz.func31 rfl rfl ?_
  rw [show Tryz.f31.ntmps = 12 from rfl, show Tryz.f31.results.toList = [.cell 2 30] from rfl]
  refine dw_seq ?_
  -- region 0
  refine dw_region (by kernel_rfl) ?_
  refine dl_new (sem_box_a rfl rfl) rfl ?_
  refine dl_new (sem_alloc zc30 rfl) rfl ?_
  refine dl_end ?_
  refine dw_seq ?_
  -- region 1
  refine dw_draw 9 [] follows_mixed (by kernel_rfl) rfl rfl ?_
  refine dq_r (sem_field fd30_0 rfl rfl) ?_
  refine dq_r (sem_load (us := cR a) ty28 rfl rfl rfl rfl rfl) ?_
  refine dq_r (sem_call rfl rfl (pNeg_ok (by first | assumption | exact Rz.mono ha (by decide))) rfl) ?_
  refine dq_r (sem_field fd30_1 rfl rfl) ?_
  refine dq_r (sem_load (us := cR b) ty28 rfl rfl rfl rfl rfl) ?_
  refine dq_r (sem_call rfl rfl (pNeg_ok (by first | assumption | exact Rz.mono hb (by decide))) rfl) ?_
  refine dq_r (sem_field fd30_2 rfl rfl) ?_
  refine dq_r (sem_load (us := cR c) ty28 rfl rfl rfl rfl rfl) ?_
  refine dq_r (sem_build (us := (cR (-a) ++ cR (-b) ++ cR c)) fs30 zc30 rfl rfl rfl) ?_
  refine dq_end ?_
  refine dl_start0 ?_
  refine dl_st (sem_store_a ty30 rfl rfl rfl rfl rfl rfl) ?_
  refine dl_end ?_
  refine dw_ret ?_
  -- path 
  exact ⟨.inr rfl, (resL_cell (us := (cR (-a) ++ cR (-b) ++ cR c)) ty30 rfl rfl rfl rfl resL_nil)⟩
theorem rtNorm_ok {a b c : Rat} (ha : Rz 50 a) (hb : Rz 50 b) (hc : Rz 50 c) : Ok Tryz.prog 99 [.a (cR a ++ cR b ++ cR c)] [dR (a * a - b * b * c)] := by
  refine Ok.of (by kernel_rfl) Tryz.func99 rfl rfl ?_
  rw [show Tryz.f99.ntmps = 17 from rfl, show Tryz.f99.results.toList = [.cell 2 28] from rfl]
  refine dw_seq ?_
  -- region 0
  refine dw_region (by kernel_rfl) ?_
  refine dl_new (sem_box_a rfl rfl) rfl ?_
  refine dl_new (sem_alloc zc28 rfl) rfl ?_
  refine dl_end ?_
  refine dw_seq ?_
  -- region 1
  refine dw_draw 14 [] follows_mixed (by kernel_rfl) rfl rfl ?_
  refine dq_r (sem_field fd30_0 rfl rfl) ?_
  refine dq_r (sem_load (us := cR a) ty28 rfl rfl rfl rfl rfl) ?_
  refine dq_r (sem_field fd30_0 rfl rfl) ?_
  refine dq_r (sem_load (us := cR a) ty28 rfl rfl rfl rfl rfl) ?_
  refine dq_r (sem_call rfl rfl (pMul_ok (by first | assumption | exact Rz.mono ha (by decide)) (by first | assumption | exact Rz.mono ha (by decide))) rfl) ?_
  refine dq_r (sem_field fd30_1 rfl rfl) ?_
  refine dq_r (sem_load (us := cR b) ty28 rfl rfl rfl rfl rfl) ?_
  refine dq_r (sem_field fd30_1 rfl rfl) ?_
  refine dq_r (sem_load (us := cR b) ty28 rfl rfl rfl rfl rfl) ?_
  refine dq_r (sem_call rfl rfl (pMul_ok (by first | assumption | exact Rz.mono hb (by decide)) (by first | assumption | exact Rz.mono hb (by decide))) rfl) ?_
  refine dq_r (sem_field fd30_2 rfl rfl) ?_
  refine dq_r (sem_load (us := cR c) ty28 rfl rfl rfl rfl rfl) ?_
  refine dq_r (sem_call rfl rfl (pMul_ok (by first | assumption | exact Rz.mono (Rz.mul hb hb) (by decide)) (by first | assumption | exact Rz.mono hc (by decide))) rfl) ?_
  refine dq_r (sem_call rfl rfl (pSub_ok (by first | assumption | exact Rz.mono (Rz.mul ha ha) (by decide)) (by first | assumption | exact Rz.mono (Rz.mul (Rz.mul hb hb) hc) (by decide))) rfl) ?_
  refine dq_end ?_
  refine dl_start0 ?_
  refine dl_st (sem_store_a ty28 rfl rfl rfl rfl rfl rfl) ?_
  refine dl_end ?_
  refine dw_ret ?_
  -- path 
  exact ⟨.inr rfl, (resL_cell (us := cR ((a * a) - ((b * b) * c))) ty28 rfl rfl rfl rfl resL_nil)⟩
theorem rtSign_ok {a b c : Rat} (ha : Rz 50 a) (hb : Rz 50 b) (hc : Rz 50 c) : Ok Tryz.prog 98 [.a (cR a ++ cR b ++ cR c)] [.c (.i .i64 (rtSg a b c))] := by
  have hp := prod_bd (cmpR_bd a 0) (cmpR_bd (a * a - b * b * c) 0)
  refine Ok.of (by kernel_rfl) Tryz.func98 rfl rfl ?_
  rw [show Tryz.f98.ntmps = 29 from rfl, show Tryz.f98.results.toList = [.tmp 2] from rfl]
  refine dw_seq ?_
  -- region 0
  refine dw_region (by kernel_rfl) ?_
  refine dl_new (sem_box_a rfl rfl) rfl ?_
  refine dl_r (sem_assign rfl rfl) ?_
  refine dl_end ?_
  refine dw_seq ?_
  -- region 1
  refine dw_draw 8 [] follows_mixed (by kernel_rfl) rfl rfl ?_
  refine dq_r (sem_field fd30_0 rfl rfl) ?_
  refine dq_r (sem_load (us := cR a) ty28 rfl rfl rfl rfl rfl) ?_
  refine dq_r (sem_call rfl rfl (pSign_ok) rfl) ?_
  refine dq_r (sem_field fd30_1 rfl rfl) ?_
  refine dq_r (sem_load (us := cR b) ty28 rfl rfl rfl rfl rfl) ?_
  refine dq_r (sem_call rfl rfl (pSign_ok) rfl) ?_
  refine dq_r (sem_assign rfl rfl) ?_
  refine dq_r (sem_assign rfl rfl) ?_
  refine dq_end ?_
  refine dl_start0 ?_
  refine dl_end ?_
  refine dw_seq ?_
  refine dw_block ?_
  refine dw_seq ?_
  -- region 2
  refine dw_region (by kernel_rfl) ?_
  refine dl_r (sem_move rfl rfl) ?_
  refine dl_r (sem_cmp rfl rfl rfl rfl) ?_
  refine dl_rb (sem_move rfl rfl) (fun c1 hb1 => ?_)
  cases c1
  · refine dl_r (sem_move rfl rfl) ?_
    refine dl_r (sem_move rfl rfl) ?_
    refine dl_r (sem_cmp rfl rfl rfl rfl) ?_
    refine dl_r (sem_pick rfl rfl rfl rfl) ?_
    refine dl_r (sem_assign rfl rfl) ?_
    refine dl_end ?_
    refine dw_cond rfl (fun hc2 => ?_) (fun hc2 => ?_)
    · refine dw_seq ?_
      -- region 3
      refine dw_region (by kernel_rfl) ?_
      refine dl_r (sem_move rfl rfl) ?_
      refine dl_r (sem_assign rfl rfl) ?_
      refine dl_end ?_
      refine dw_ret ?_
      -- path fT
      rw [rtSg_e hc2]
      exact ⟨.inr rfl, (resL_tmp rfl resL_nil)⟩
    · refine dw_seq ?_
      -- region 4
      refine dw_region (by kernel_rfl) ?_
      refine dl_r (sem_move rfl rfl) ?_
      refine dl_r (sem_cmp rfl rfl rfl rfl) ?_
      refine dl_r (sem_assign rfl rfl) ?_
      refine dl_end ?_
      refine dw_cond rfl (fun hc3 => ?_) (fun hc3 => ?_)
      · refine dw_seq ?_
        -- region 5
        refine dw_region (by kernel_rfl) ?_
        refine dl_r (sem_move rfl rfl) ?_
        refine dl_r (sem_assign rfl rfl) ?_
        refine dl_end ?_
        refine dw_ret ?_
        -- path fFT
        rw [rtSg_z hb1 hc2 hc3]
        exact ⟨.inr rfl, (resL_tmp rfl resL_nil)⟩
      · refine dw_skip ?_
        refine dw_seq ?_
        -- region 6
        refine dw_region (by kernel_rfl) ?_
        refine dl_r (sem_move rfl rfl) ?_
        refine dl_r (sem_load (us := (cR a ++ cR b ++ cR c)) ty30 rfl rfl rfl rfl rfl) ?_
        refine dl_r (sem_call rfl rfl (rtNorm_ok (by assumption) (by assumption) (by assumption)) rfl) ?_
        refine dl_r (sem_call rfl rfl (pSign_ok) rfl) ?_
        refine dl_r (sem_ari (r := (cmpR a 0) * (cmpR (a * a - b * b * c) 0)) rfl rfl (ari_i64_mul (by omega) (by omega)) rfl) ?_
        refine dl_r (sem_assign rfl rfl) ?_
        refine dl_end ?_
        refine dw_ret ?_
        -- path fFF
        rw [rtSg_n hb1 hc2 hc3]
        exact ⟨.inr rfl, (resL_tmp rfl resL_nil)⟩
  · refine dl_skip (sem_skip rfl) ?_
    refine dl_skip (sem_skip rfl) ?_
    refine dl_skip (sem_skip rfl) ?_
    refine dl_r (sem_pick rfl rfl rfl rfl) ?_
    refine dl_r (sem_assign rfl rfl) ?_
    refine dl_end ?_
    refine dw_true rfl ?_
    refine dw_seq ?_
    -- region 3
    refine dw_region (by kernel_rfl) ?_
    refine dl_r (sem_move rfl rfl) ?_
    refine dl_r (sem_assign rfl rfl) ?_
    refine dl_end ?_
    refine dw_ret ?_
    -- path t
    rw [rtSg_0 hb1]
    exact ⟨.inr rfl, (resL_tmp rfl resL_nil)⟩
theorem xLess_ok {a b c d : Rat} (ha : Rz 300 a) (hd : Rz 300 d) : Ok Tryz.prog 59 [.a (cR a ++ cR b ++ cR c), dR d] [.a (cR (a - d) ++ cR b ++ cR c)] := by
  refine Ok.of (by kernel_rfl) Tryz.func59 rfl rfl ?_
  rw [show Tryz.f59.ntmps = 11 from rfl, show Tryz.f59.results.toList = [.cell 4 30] from rfl]
  refine dw_seq ?_
  -- region 0
  refine dw_region (by kernel_rfl) ?_
  refine dl_new (sem_box_a rfl rfl) rfl ?_
  refine dl_new (sem_box_a rfl rfl) rfl ?_
  refine dl_new (sem_alloc zc30 rfl) rfl ?_
  refine dl_end ?_
  refine dw_seq ?_
  -- region 1
  refine dw_region (by kernel_rfl) ?_
  refine dl_r (sem_field fd30_0 rfl rfl) ?_
  refine dl_r (sem_load (us := cR a) ty28 rfl rfl rfl rfl rfl) ?_
  refine dl_r (sem_load (us := cR d) ty28 rfl rfl rfl rfl rfl) ?_
  refine dl_r (sem_call rfl rfl (pSub_ok (by first | assumption | exact Rz.mono ha (by decide)) (by first | assumption | exact Rz.mono hd (by decide))) rfl) ?_
  refine dl_r (sem_field fd30_0 rfl rfl) ?_
  refine dl_st (sem_store (us := (cR (a - d) ++ cR b ++ cR c)) ty28 rfl rfl rfl rfl (Nat.le_of_ble_eq_true rfl) rfl rfl) ?_
  refine dl_end ?_
  refine dw_seq ?_
  -- region 2
  refine dw_region (by kernel_rfl) ?_
  refine dl_r (sem_load (us := (cR (a - d) ++ cR b ++ cR c)) ty30 rfl rfl rfl rfl rfl) ?_
  refine dl_st (sem_store_a ty30 rfl rfl rfl rfl rfl rfl) ?_
  refine dl_end ?_
  refine dw_ret ?_
  -- path 
  exact ⟨.inr rfl, (resL_cell (us := (cR (a - d) ++ cR b ++ cR c)) ty30 rfl rfl rfl rfl resL_nil)⟩
theorem xEqual_ok {a b c d e f : Rat} (ha : Rz 100 a) (hb : Rz 8 b) (hc : Rz 8 c) (hd : Rz 100 d) (he : Rz 8 e) (hf : Rz 8 f) (h1 : Rz 8 (a - d)) (c0 : 0 ≤ c) (f0 : 0 ≤ f) : Ok Tryz.prog 14 [.a (cR a ++ cR b ++ cR c), .a (cR d ++ cR e ++ cR f)] [.c (.b (signQ (a - d) b (-e) 0 c f == 0))] := by
  refine Ok.of (by kernel_rfl) Tryz.func14 rfl rfl ?_
  rw [show Tryz.f14.ntmps = 9 from rfl, show Tryz.f14.results.toList = [.tmp 4] from rfl]
  refine dw_seq ?_
  -- region 0
  refine dw_region (by kernel_rfl) ?_
  refine dl_new (sem_box_a rfl rfl) rfl ?_
  refine dl_new (sem_box_a rfl rfl) rfl ?_
  refine dl_r (sem_assign rfl rfl) ?_
  refine dl_end ?_
  refine dw_seq ?_
  -- region 1
  refine dw_region (by kernel_rfl) ?_
  refine dl_r (sem_load (us := (cR a ++ cR b ++ cR c)) ty30 rfl rfl rfl rfl rfl) ?_
  refine dl_r (sem_load (us := (cR d ++ cR e ++ cR f)) ty30 rfl rfl rfl rfl rfl) ?_
  refine dl_r (sem_call rfl rfl (xCmpQ_ok (by assumption) (by assumption) (by assumption) (by assumption) (by assumption) (by assumption) (by assumption) (by assumption) (by assumption)) rfl) ?_
  refine dl_r (sem_cmp rfl rfl rfl rfl) ?_
  refine dl_r (sem_assign rfl rfl) ?_
  refine dl_end ?_
  refine dw_ret ?_
  -- path 
  exact ⟨.inr rfl, (resL_tmp rfl resL_nil)⟩
theorem xCmpRat_ok {a b c d : Rat} (ha : Rz 100 a) (hb : Rz 8 b) (hc : Rz 8 c) (hd : Rz 100 d) (h1 : Rz 8 (a - d)) (c0 : 0 ≤ c) : Ok Tryz.prog 28 [.a (cR a ++ cR b ++ cR c), dR d] [.c (.i .i64 (signQ (a - d) b (-0) 0 c 0))] := by
  have z0 : Rz 8 (0 : Rat) := Rz.zero (by decide)
  refine Ok.of (by kernel_rfl) Tryz.func28 rfl rfl ?_
  rw [show Tryz.f28.ntmps = 9 from rfl, show Tryz.f28.results.toList = [.tmp 4] from rfl]
  refine dw_seq ?_
  -- region 0
  refine dw_region (by kernel_rfl) ?_
  refine dl_new (sem_box_a rfl rfl) rfl ?_
  refine dl_new (sem_box_a rfl rfl) rfl ?_
  refine dl_r (sem_assign rfl rfl) ?_
  refine dl_end ?_
  refine dw_seq ?_
  -- region 1
  refine dw_draw 5 [] follows_mixed (by kernel_rfl) rfl rfl ?_
  refine dq_r (sem_load (us := (cR a ++ cR b ++ cR c)) ty30 rfl rfl rfl rfl rfl) ?_
  refine dq_r (sem_load (us := cR d) ty28 rfl rfl rfl rfl rfl) ?_
  refine dq_r (sem_call rfl rfl (rtFromRat_ok) rfl) ?_
  refine dq_r (sem_call rfl rfl (xCmpQ_ok (by assumption) (by assumption) (by assumption) (by assumption) z0 z0 h1 c0 Rat.le_refl) rfl) ?_
  refine dq_r (sem_assign rfl rfl) ?_
  refine dq_end ?_
  refine dl_start0 ?_
  refine dl_end ?_
  refine dw_ret ?_
  -- path 
  exact ⟨.inr rfl, (resL_tmp rfl resL_nil)⟩
end Go.Proofs.YtcimbhjmjlfloaaGreat
/- The examples of the chapter on radicals. -/
namespace Go.Proofs.YtcimbhjmjlfloaaGreat
open Go Go.RowKit
theorem rtInv_ok {a b c : Rat} (ha : Rz 20 a) (hb : Rz 20 b) (hc : Rz 20 c) (h1 : rtSg a b c ≠ 0) (h2 : a * a - b * b * c ≠ 0) : Ok Tryz.prog 58 [.a (cR a ++ cR b ++ cR c)] [.a (cR (a * invN a b c) ++ cR (-b * invN a b c) ++ cR (zc (-b * invN a b c) c)), .c (.i .i64 0)] := by
  have o1 : Rz 300 (1 : Rat) := rz_l (by decide +kernel)
  have n1 : Rz 101 (a * a - b * b * c) := ((ha.mul ha).sub ((hb.mul hb).mul hc)).mono (by decide)
  have n2 : Rz 300 (a * a - b * b * c) := n1.mono (by decide)
  have i1 : Rz 300 (invN a b c) := (Rz.div (k := 1) (rz_l (by decide +kernel)) n1 h2).mono (by decide)
  have ka : Rz 300 a := ha.mono (by decide)
  have kb : Rz 300 (-b) := (hb.mono (by decide)).neg
  have wa : Rz 50 a := ha.mono (by decide)
  have wb : Rz 50 b := hb.mono (by decide)
  have wc : Rz 50 c := hc.mono (by decide)
  refine Ok.of (by kernel_rfl) Tryz.func58 rfl rfl ?_
  rw [show Tryz.f58.ntmps = 31 from rfl, show Tryz.f58.results.toList = [.cell 2 30, .tmp 3] from rfl]
  refine dw_seq ?_
  -- region 0
  refine dw_region (by kernel_rfl) ?_
  refine dl_new (sem_box_a rfl rfl) rfl ?_
  refine dl_new (sem_alloc zc30 rfl) rfl ?_
  refine dl_r (sem_assign rfl rfl) ?_
  refine dl_end ?_
  refine dw_seq ?_
  refine dw_seq ?_
  -- region 1
  refine dw_region (by kernel_rfl) ?_
  refine dl_r (sem_load (us := (cR a ++ cR b ++ cR c)) ty30 rfl rfl rfl rfl rfl) ?_
  refine dl_r (sem_call rfl rfl (rtSign_ok wa wb wc) rfl) ?_
  refine dl_r (sem_cmp rfl rfl rfl rfl) ?_
  refine dl_end ?_
  refine dw_cond rfl (fun hc1 => ?_) (fun hc1 => ?_)
  · exact absurd (by simpa using hc1) h1
  · refine dw_skip ?_
    refine dw_seq ?_
    -- region 3
    refine dw_draw 10 [4] follows_mixed (by kernel_rfl) rfl rfl ?_
    refine dq_r (sem_call rfl rfl ((show Ok Tryz.prog 26 [.c (.i .i64 1)] [dR 1] from pFrom_ok (by omega) (by omega))) rfl) ?_
    refine dq_r (sem_load (us := (cR a ++ cR b ++ cR c)) ty30 rfl rfl rfl rfl rfl) ?_
    refine dq_r (sem_call rfl rfl (rtNorm_ok wa wb wc) rfl) ?_
    refine dq_r (sem_call rfl rfl (pDiv_ok o1 n2 h2) rfl) ?_
    refine dq_r (sem_move rfl rfl) ?_
    refine dq_r (sem_extract rfl rfl rfl) ?_
    refine dq_r (sem_extract rfl rfl rfl) ?_
    refine dq_new (sem_alloc zc28 rfl) rfl ?_
    refine dq_sn (sem_store_a ty28 rfl rfl rfl rfl rfl rfl) rfl rfl rfl rfl ?_
    refine dq_r (sem_assign rfl rfl) ?_
    refine dq_end ?_
    refine dl_start2 ?_
    refine dl_end ?_
    refine dw_seq ?_
    refine dw_seq ?_
    -- region 4
    refine dw_region (by kernel_rfl) ?_
    refine dl_r (sem_move rfl rfl) ?_
    refine dl_r (sem_cmp rfl rfl rfl rfl) ?_
    refine dl_end ?_
    refine dw_false rfl ?_
    refine dw_skip ?_
    refine dw_seq ?_
    -- region 6
    refine dw_draw 10 [] follows_mixed (by kernel_rfl) rfl rfl ?_
    refine dq_r (sem_field fd30_0 rfl rfl) ?_
    refine dq_r (sem_load (us := cR a) ty28 rfl rfl rfl rfl rfl) ?_
    refine dq_r (sem_field fd30_1 rfl rfl) ?_
    refine dq_r (sem_load (us := cR b) ty28 rfl rfl rfl rfl rfl) ?_
    refine dq_r (sem_call rfl rfl (pNeg_ok (by first | assumption | exact Rz.mono hb (by decide))) rfl) ?_
    refine dq_r (sem_field fd30_2 rfl rfl) ?_
    refine dq_r (sem_load (us := cR c) ty28 rfl rfl rfl rfl rfl) ?_
    refine dq_r (sem_build (us := (cR a ++ cR (-b) ++ cR c)) fs30 zc30 rfl rfl rfl) ?_
    refine dq_r (sem_load (us := cR (invN a b c)) ty28 rfl rfl rfl rfl rfl) ?_
    refine dq_r (sem_call rfl rfl (rtScale_ok ka kb i1) rfl) ?_
    refine dq_end ?_
    refine dl_start0 ?_
    refine dl_st (sem_store_a ty30 rfl rfl rfl rfl rfl rfl) ?_
    refine dl_r (sem_assign rfl rfl) ?_
    refine dl_end ?_
    refine dw_ret ?_
    -- path F
    exact ⟨.inr rfl, (resL_cell (us := (cR (a * invN a b c) ++ cR (-b * invN a b c) ++ cR (zc (-b * invN a b c) c))) ty30 rfl rfl rfl rfl (resL_tmp rfl resL_nil))⟩
theorem lwNum_ok {n : Int} (h0 : -9223372036854775808 ≤ n) (h1 : n ≤ 9223372036854775807) : Ok Tryz.prog 9 [.c (.i .i64 n)] [dR (((n : Int) : Rat))] := by
  refine Ok.of (by kernel_rfl) Tryz.func9 rfl rfl ?_
  rw [show Tryz.f9.ntmps = 5 from rfl, show Tryz.f9.results.toList = [.cell 2 28] from rfl]
  refine dw_seq ?_
  -- region 0
  refine dw_region (by kernel_rfl) ?_
  refine dl_new (sem_alloc zc28 rfl) rfl ?_
  refine dl_end ?_
  refine dw_seq ?_
  -- region 1
  refine dw_region (by kernel_rfl) ?_
  refine dl_r (sem_move rfl rfl) ?_
  refine dl_r (sem_call rfl rfl (sFrom_ok h0 h1) rfl) ?_
  refine dl_st (sem_store_a ty28 rfl rfl rfl rfl rfl rfl) ?_
  refine dl_end ?_
  refine dw_ret ?_
  -- path 
  exact ⟨.inr rfl, (resL_cell (us := cR (((n : Int) : Rat))) ty28 rfl rfl rfl rfl resL_nil)⟩
theorem lwRt5_1_2  : Ok Tryz.prog 11 [.c (.i .i64 1), .c (.i .i64 2)] [.a (cR 0 ++ cR 1 ++ cR 2)] := by
  refine Ok.of (by kernel_rfl) Tryz.func11 rfl rfl ?_
  rw [show Tryz.f11.ntmps = 11 from rfl, show Tryz.f11.results.toList = [.cell 4 30] from rfl]
  refine dw_seq ?_
  -- region 0
  refine dw_region (by kernel_rfl) ?_
  refine dl_new (sem_alloc zc30 rfl) rfl ?_
  refine dl_end ?_
  refine dw_seq ?_
  -- region 1
  refine dw_region (by kernel_rfl) ?_
  refine dl_r (sem_call rfl rfl (rcast1 (x' := 0) (lwNum_ok (by decide) (by decide)) (by decide +kernel)) rfl) ?_
  refine dl_r (sem_move rfl rfl) ?_
  refine dl_r (sem_call rfl rfl (rcast1 (x' := 1) (lwNum_ok (by decide) (by decide)) (by decide +kernel)) rfl) ?_
  refine dl_r (sem_move rfl rfl) ?_
  refine dl_r (sem_call rfl rfl (rcast1 (x' := 2) (lwNum_ok (by decide) (by decide)) (by decide +kernel)) rfl) ?_
  refine dl_r (sem_build (us := (cR 0 ++ cR 1 ++ cR 2)) fs30 zc30 rfl rfl rfl) ?_
  refine dl_st (sem_store_a ty30 rfl rfl rfl rfl rfl rfl) ?_
  refine dl_end ?_
  refine dw_ret ?_
  -- path 
  exact ⟨.inr rfl, (resL_cell (us := (cR 0 ++ cR 1 ++ cR 2)) ty30 rfl rfl rfl rfl resL_nil)⟩
theorem lwRt5_1_3  : Ok Tryz.prog 11 [.c (.i .i64 1), .c (.i .i64 3)] [.a (cR 0 ++ cR 1 ++ cR 3)] := by
  refine Ok.of (by kernel_rfl) Tryz.func11 rfl rfl ?_
  rw [show Tryz.f11.ntmps = 11 from rfl, show Tryz.f11.results.toList = [.cell 4 30] from rfl]
  refine dw_seq ?_
  -- region 0
  refine dw_region (by kernel_rfl) ?_
  refine dl_new (sem_alloc zc30 rfl) rfl ?_
  refine dl_end ?_
  refine dw_seq ?_
  -- region 1
  refine dw_region (by kernel_rfl) ?_
  refine dl_r (sem_call rfl rfl (rcast1 (x' := 0) (lwNum_ok (by decide) (by decide)) (by decide +kernel)) rfl) ?_
  refine dl_r (sem_move rfl rfl) ?_
  refine dl_r (sem_call rfl rfl (rcast1 (x' := 1) (lwNum_ok (by decide) (by decide)) (by decide +kernel)) rfl) ?_
  refine dl_r (sem_move rfl rfl) ?_
  refine dl_r (sem_call rfl rfl (rcast1 (x' := 3) (lwNum_ok (by decide) (by decide)) (by decide +kernel)) rfl) ?_
  refine dl_r (sem_build (us := (cR 0 ++ cR 1 ++ cR 3)) fs30 zc30 rfl rfl rfl) ?_
  refine dl_st (sem_store_a ty30 rfl rfl rfl rfl rfl rfl) ?_
  refine dl_end ?_
  refine dw_ret ?_
  -- path 
  exact ⟨.inr rfl, (resL_cell (us := (cR 0 ++ cR 1 ++ cR 3)) ty30 rfl rfl rfl rfl resL_nil)⟩
theorem lwRt5_1_8  : Ok Tryz.prog 11 [.c (.i .i64 1), .c (.i .i64 8)] [.a (cR 0 ++ cR 1 ++ cR 8)] := by
  refine Ok.of (by kernel_rfl) Tryz.func11 rfl rfl ?_
  rw [show Tryz.f11.ntmps = 11 from rfl, show Tryz.f11.results.toList = [.cell 4 30] from rfl]
  refine dw_seq ?_
  -- region 0
  refine dw_region (by kernel_rfl) ?_
  refine dl_new (sem_alloc zc30 rfl) rfl ?_
  refine dl_end ?_
  refine dw_seq ?_
  -- region 1
  refine dw_region (by kernel_rfl) ?_
  refine dl_r (sem_call rfl rfl (rcast1 (x' := 0) (lwNum_ok (by decide) (by decide)) (by decide +kernel)) rfl) ?_
  refine dl_r (sem_move rfl rfl) ?_
  refine dl_r (sem_call rfl rfl (rcast1 (x' := 1) (lwNum_ok (by decide) (by decide)) (by decide +kernel)) rfl) ?_
  refine dl_r (sem_move rfl rfl) ?_
  refine dl_r (sem_call rfl rfl (rcast1 (x' := 8) (lwNum_ok (by decide) (by decide)) (by decide +kernel)) rfl) ?_
  refine dl_r (sem_build (us := (cR 0 ++ cR 1 ++ cR 8)) fs30 zc30 rfl rfl rfl) ?_
  refine dl_st (sem_store_a ty30 rfl rfl rfl rfl rfl rfl) ?_
  refine dl_end ?_
  refine dw_ret ?_
  -- path 
  exact ⟨.inr rfl, (resL_cell (us := (cR 0 ++ cR 1 ++ cR 8)) ty30 rfl rfl rfl rfl resL_nil)⟩
theorem lwRt5_2_2  : Ok Tryz.prog 11 [.c (.i .i64 2), .c (.i .i64 2)] [.a (cR 0 ++ cR 2 ++ cR 2)] := by
  refine Ok.of (by kernel_rfl) Tryz.func11 rfl rfl ?_
  rw [show Tryz.f11.ntmps = 11 from rfl, show Tryz.f11.results.toList = [.cell 4 30] from rfl]
  refine dw_seq ?_
  -- region 0
  refine dw_region (by kernel_rfl) ?_
  refine dl_new (sem_alloc zc30 rfl) rfl ?_
  refine dl_end ?_
  refine dw_seq ?_
  -- region 1
  refine dw_region (by kernel_rfl) ?_
  refine dl_r (sem_call rfl rfl (rcast1 (x' := 0) (lwNum_ok (by decide) (by decide)) (by decide +kernel)) rfl) ?_
  refine dl_r (sem_move rfl rfl) ?_
  refine dl_r (sem_call rfl rfl (rcast1 (x' := 2) (lwNum_ok (by decide) (by decide)) (by decide +kernel)) rfl) ?_
  refine dl_r (sem_move rfl rfl) ?_
  refine dl_r (sem_call rfl rfl (rcast1 (x' := 2) (lwNum_ok (by decide) (by decide)) (by decide +kernel)) rfl) ?_
  refine dl_r (sem_build (us := (cR 0 ++ cR 2 ++ cR 2)) fs30 zc30 rfl rfl rfl) ?_
  refine dl_st (sem_store_a ty30 rfl rfl rfl rfl rfl rfl) ?_
  refine dl_end ?_
  refine dw_ret ?_
  -- path 
  exact ⟨.inr rfl, (resL_cell (us := (cR 0 ++ cR 2 ++ cR 2)) ty30 rfl rfl rfl rfl resL_nil)⟩
theorem cSum  : Ok Tryz.prog 8 [dR 25, dR 4, dR 1, dR 2] [.c (.i .i64 0), .c (.i .i64 0)] := by
  refine Ok.of (by kernel_rfl) Tryz.func8 rfl rfl ?_
  rw [show Tryz.f8.ntmps = 48 from rfl, show Tryz.f8.results.toList = [.tmp 8, .tmp 9] from rfl]
  refine dw_seq ?_
  -- region 0
  refine dw_region (by kernel_rfl) ?_
  refine dl_new (sem_box_a rfl rfl) rfl ?_
  refine dl_new (sem_box_a rfl rfl) rfl ?_
  refine dl_new (sem_box_a rfl rfl) rfl ?_
  refine dl_new (sem_box_a rfl rfl) rfl ?_
  refine dl_r (sem_assign rfl rfl) ?_
  refine dl_r (sem_assign rfl rfl) ?_
  refine dl_end ?_
  refine dw_seq ?_
  refine dw_seq ?_
  -- region 1
  refine dw_region (by kernel_rfl) ?_
  refine dl_r (sem_load (us := cR 25) ty28 rfl rfl rfl rfl rfl) ?_
  refine dl_r (sem_load (us := cR 4) ty28 rfl rfl rfl rfl rfl) ?_
  refine dl_r (sem_load (us := cR 1) ty28 rfl rfl rfl rfl rfl) ?_
  refine dl_r (sem_load (us := cR 2) ty28 rfl rfl rfl rfl rfl) ?_
  refine dl_r (sem_slit_D (n := 4) (us := cR 25 ++ cR 4 ++ cR 1 ++ cR 2) el55 rfl rfl rfl (by decide) (by decide) rfl) ?_
  refine dl_r (sem_len sl55 rfl rfl) ?_
  refine dl_r (sem_move rfl rfl) ?_
  refine dl_end ?_
  refine dw_block ?_
  refine dw_loop (ι := Nat) (fun i => match i with | 0 => ⟨48, [(4, .p 4 0), (5, .p 5 0), (6, .p 6 0), (7, .p 7 0), (8, .v (.c (.i .i64 0))), (9, .v (.c (.i .i64 0))), (18, .v (.c (.s 4 (cR 25 ++ cR 4 ++ cR 1 ++ cR 2)))), (19, .v (.c (.i .i64 4))), (20, .v (.c (.i .i64 0)))], [(4, 28, cR 25), (5, 28, cR 4), (6, 28, cR 1), (7, 28, cR 2)]⟩ | 1 => ⟨48, [(4, .p 4 0), (5, .p 5 0), (6, .p 6 0), (7, .p 7 0), (8, .v (.c (.i .i64 0))), (9, .v (.c (.i .i64 0))), (18, .v (.c (.s 4 (cR 25 ++ cR 4 ++ cR 1 ++ cR 2)))), (19, .v (.c (.i .i64 4))), (20, .v (.c (.i .i64 1)))], [(4, 28, cR 25), (5, 28, cR 4), (6, 28, cR 1), (7, 28, cR 2)]⟩ | 2 => ⟨48, [(4, .p 4 0), (5, .p 5 0), (6, .p 6 0), (7, .p 7 0), (8, .v (.c (.i .i64 0))), (9, .v (.c (.i .i64 0))), (18, .v (.c (.s 4 (cR 25 ++ cR 4 ++ cR 1 ++ cR 2)))), (19, .v (.c (.i .i64 4))), (20, .v (.c (.i .i64 2)))], [(4, 28, cR 25), (5, 28, cR 4), (6, 28, cR 1), (7, 28, cR 2)]⟩ | 3 => ⟨48, [(4, .p 4 0), (5, .p 5 0), (6, .p 6 0), (7, .p 7 0), (8, .v (.c (.i .i64 0))), (9, .v (.c (.i .i64 0))), (18, .v (.c (.s 4 (cR 25 ++ cR 4 ++ cR 1 ++ cR 2)))), (19, .v (.c (.i .i64 4))), (20, .v (.c (.i .i64 3)))], [(4, 28, cR 25), (5, 28, cR 4), (6, 28, cR 1), (7, 28, cR 2)]⟩ | _ + 4 => ⟨48, [(4, .p 4 0), (5, .p 5 0), (6, .p 6 0), (7, .p 7 0), (8, .v (.c (.i .i64 0))), (9, .v (.c (.i .i64 0))), (18, .v (.c (.s 4 (cR 25 ++ cR 4 ++ cR 1 ++ cR 2)))), (19, .v (.c (.i .i64 4))), (20, .v (.c (.i .i64 4)))], [(4, 28, cR 25), (5, 28, cR 4), (6, 28, cR 1), (7, 28, cR 2)]⟩) (fun i => 4 - i) 0 (sub_of ⟨rfl, rfl, rfl, rfl, rfl, rfl, rfl, rfl, rfl, trivial⟩ ⟨rfl, rfl, rfl, rfl, trivial⟩ rfl) ?_
  intro i
  match i with
  | 0 =>
    show Dw _ _ ⟨48, [(4, .p 4 0), (5, .p 5 0), (6, .p 6 0), (7, .p 7 0), (8, .v (.c (.i .i64 0))), (9, .v (.c (.i .i64 0))), (18, .v (.c (.s 4 (cR 25 ++ cR 4 ++ cR 1 ++ cR 2)))), (19, .v (.c (.i .i64 4))), (20, .v (.c (.i .i64 0)))], [(4, 28, cR 25), (5, 28, cR 4), (6, 28, cR 1), (7, 28, cR 2)]⟩ _
    refine dw_seq ?_
    -- region 2
    refine dw_region (by kernel_rfl) ?_
    refine dl_r (sem_cmp rfl rfl rfl rfl) ?_
    refine dl_end ?_
    refine dw_seq ?_
    refine dw_true rfl ?_
    refine dw_skip ?_
    refine dw_seq ?_
    refine dw_block ?_
    refine dw_seq ?_
    -- region 3
    refine dw_region (by kernel_rfl) ?_
    refine dl_r (sem_index sl55 rfl rfl (by decide) rfl rfl rfl) ?_
    refine dl_r (sem_loadq (us := cR 25) ty28 rfl rfl rfl rfl) ?_
    refine dl_new (sem_alloc zc28 rfl) rfl ?_
    refine dl_st (sem_store_a ty28 rfl rfl rfl rfl rfl rfl) ?_
    refine dl_end ?_
    refine dw_seq ?_
    -- region 4
    refine dw_region (by kernel_rfl) ?_
    refine dl_r (sem_load (us := cR 25) ty28 rfl rfl rfl rfl rfl) ?_
    refine dl_r (sem_call rfl rfl (rcasti (c := 1) pSign_ok (by decide +kernel)) rfl) ?_
    refine dl_r (sem_cmp rfl rfl rfl rfl) ?_
    refine dl_end ?_
    refine dw_false rfl ?_
    refine dw_skip ?_
    -- region 6
    refine dw_region (by kernel_rfl) ?_
    refine dl_r (sem_ari (r := 1) rfl rfl rfl rfl) ?_
    refine dl_r (sem_move rfl rfl) ?_
    refine dl_end ?_
    exact ⟨1, sub_of ⟨rfl, rfl, rfl, rfl, rfl, rfl, rfl, rfl, rfl, trivial⟩ ⟨rfl, rfl, rfl, rfl, trivial⟩ rfl, by show 4 - 1 < 4 - 0; decide⟩
  | 1 =>
    show Dw _ _ ⟨48, [(4, .p 4 0), (5, .p 5 0), (6, .p 6 0), (7, .p 7 0), (8, .v (.c (.i .i64 0))), (9, .v (.c (.i .i64 0))), (18, .v (.c (.s 4 (cR 25 ++ cR 4 ++ cR 1 ++ cR 2)))), (19, .v (.c (.i .i64 4))), (20, .v (.c (.i .i64 1)))], [(4, 28, cR 25), (5, 28, cR 4), (6, 28, cR 1), (7, 28, cR 2)]⟩ _
    refine dw_seq ?_
    -- region 2
    refine dw_region (by kernel_rfl) ?_
    refine dl_r (sem_cmp rfl rfl rfl rfl) ?_
    refine dl_end ?_
    refine dw_seq ?_
    refine dw_true rfl ?_
    refine dw_skip ?_
    refine dw_seq ?_
    refine dw_block ?_
    refine dw_seq ?_
    -- region 3
    refine dw_region (by kernel_rfl) ?_
    refine dl_r (sem_index sl55 rfl rfl (by decide) rfl rfl rfl) ?_
    refine dl_r (sem_loadq (us := cR 4) ty28 rfl rfl rfl rfl) ?_
    refine dl_new (sem_alloc zc28 rfl) rfl ?_
    refine dl_st (sem_store_a ty28 rfl rfl rfl rfl rfl rfl) ?_
    refine dl_end ?_
    refine dw_seq ?_
    -- region 4
    refine dw_region (by kernel_rfl) ?_
    refine dl_r (sem_load (us := cR 4) ty28 rfl rfl rfl rfl rfl) ?_
    refine dl_r (sem_call rfl rfl (rcasti (c := 1) pSign_ok (by decide +kernel)) rfl) ?_
    refine dl_r (sem_cmp rfl rfl rfl rfl) ?_
    refine dl_end ?_
    refine dw_false rfl ?_
    refine dw_skip ?_
    -- region 6
    refine dw_region (by kernel_rfl) ?_
    refine dl_r (sem_ari (r := 2) rfl rfl rfl rfl) ?_
    refine dl_r (sem_move rfl rfl) ?_
    refine dl_end ?_
    exact ⟨2, sub_of ⟨rfl, rfl, rfl, rfl, rfl, rfl, rfl, rfl, rfl, trivial⟩ ⟨rfl, rfl, rfl, rfl, trivial⟩ rfl, by show 4 - 2 < 4 - 1; decide⟩
  | 2 =>
    show Dw _ _ ⟨48, [(4, .p 4 0), (5, .p 5 0), (6, .p 6 0), (7, .p 7 0), (8, .v (.c (.i .i64 0))), (9, .v (.c (.i .i64 0))), (18, .v (.c (.s 4 (cR 25 ++ cR 4 ++ cR 1 ++ cR 2)))), (19, .v (.c (.i .i64 4))), (20, .v (.c (.i .i64 2)))], [(4, 28, cR 25), (5, 28, cR 4), (6, 28, cR 1), (7, 28, cR 2)]⟩ _
    refine dw_seq ?_
    -- region 2
    refine dw_region (by kernel_rfl) ?_
    refine dl_r (sem_cmp rfl rfl rfl rfl) ?_
    refine dl_end ?_
    refine dw_seq ?_
    refine dw_true rfl ?_
    refine dw_skip ?_
    refine dw_seq ?_
    refine dw_block ?_
    refine dw_seq ?_
    -- region 3
    refine dw_region (by kernel_rfl) ?_
    refine dl_r (sem_index sl55 rfl rfl (by decide) rfl rfl rfl) ?_
    refine dl_r (sem_loadq (us := cR 1) ty28 rfl rfl rfl rfl) ?_
    refine dl_new (sem_alloc zc28 rfl) rfl ?_
    refine dl_st (sem_store_a ty28 rfl rfl rfl rfl rfl rfl) ?_
    refine dl_end ?_
    refine dw_seq ?_
    -- region 4
    refine dw_region (by kernel_rfl) ?_
    refine dl_r (sem_load (us := cR 1) ty28 rfl rfl rfl rfl rfl) ?_
    refine dl_r (sem_call rfl rfl (rcasti (c := 1) pSign_ok (by decide +kernel)) rfl) ?_
    refine dl_r (sem_cmp rfl rfl rfl rfl) ?_
    refine dl_end ?_
    refine dw_false rfl ?_
    refine dw_skip ?_
    -- region 6
    refine dw_region (by kernel_rfl) ?_
    refine dl_r (sem_ari (r := 3) rfl rfl rfl rfl) ?_
    refine dl_r (sem_move rfl rfl) ?_
    refine dl_end ?_
    exact ⟨3, sub_of ⟨rfl, rfl, rfl, rfl, rfl, rfl, rfl, rfl, rfl, trivial⟩ ⟨rfl, rfl, rfl, rfl, trivial⟩ rfl, by show 4 - 3 < 4 - 2; decide⟩
  | 3 =>
    show Dw _ _ ⟨48, [(4, .p 4 0), (5, .p 5 0), (6, .p 6 0), (7, .p 7 0), (8, .v (.c (.i .i64 0))), (9, .v (.c (.i .i64 0))), (18, .v (.c (.s 4 (cR 25 ++ cR 4 ++ cR 1 ++ cR 2)))), (19, .v (.c (.i .i64 4))), (20, .v (.c (.i .i64 3)))], [(4, 28, cR 25), (5, 28, cR 4), (6, 28, cR 1), (7, 28, cR 2)]⟩ _
    refine dw_seq ?_
    -- region 2
    refine dw_region (by kernel_rfl) ?_
    refine dl_r (sem_cmp rfl rfl rfl rfl) ?_
    refine dl_end ?_
    refine dw_seq ?_
    refine dw_true rfl ?_
    refine dw_skip ?_
    refine dw_seq ?_
    refine dw_block ?_
    refine dw_seq ?_
    -- region 3
    refine dw_region (by kernel_rfl) ?_
    refine dl_r (sem_index sl55 rfl rfl (by decide) rfl rfl rfl) ?_
    refine dl_r (sem_loadq (us := cR 2) ty28 rfl rfl rfl rfl) ?_
    refine dl_new (sem_alloc zc28 rfl) rfl ?_
    refine dl_st (sem_store_a ty28 rfl rfl rfl rfl rfl rfl) ?_
    refine dl_end ?_
    refine dw_seq ?_
    -- region 4
    refine dw_region (by kernel_rfl) ?_
    refine dl_r (sem_load (us := cR 2) ty28 rfl rfl rfl rfl rfl) ?_
    refine dl_r (sem_call rfl rfl (rcasti (c := 1) pSign_ok (by decide +kernel)) rfl) ?_
    refine dl_r (sem_cmp rfl rfl rfl rfl) ?_
    refine dl_end ?_
    refine dw_false rfl ?_
    refine dw_skip ?_
    -- region 6
    refine dw_region (by kernel_rfl) ?_
    refine dl_r (sem_ari (r := 4) rfl rfl rfl rfl) ?_
    refine dl_r (sem_move rfl rfl) ?_
    refine dl_end ?_
    exact ⟨4, sub_of ⟨rfl, rfl, rfl, rfl, rfl, rfl, rfl, rfl, rfl, trivial⟩ ⟨rfl, rfl, rfl, rfl, trivial⟩ rfl, by show 4 - 4 < 4 - 3; decide⟩
  | z + 4 =>
    show Dw _ _ ⟨48, [(4, .p 4 0), (5, .p 5 0), (6, .p 6 0), (7, .p 7 0), (8, .v (.c (.i .i64 0))), (9, .v (.c (.i .i64 0))), (18, .v (.c (.s 4 (cR 25 ++ cR 4 ++ cR 1 ++ cR 2)))), (19, .v (.c (.i .i64 4))), (20, .v (.c (.i .i64 4)))], [(4, 28, cR 25), (5, 28, cR 4), (6, 28, cR 1), (7, 28, cR 2)]⟩ _
    refine dw_seq ?_
    -- region 2
    refine dw_region (by kernel_rfl) ?_
    refine dl_r (sem_cmp rfl rfl rfl rfl) ?_
    refine dl_end ?_
    refine dw_seq ?_
    refine dw_false rfl ?_
    refine dw_exit ?_
    refine dw_seq ?_
    -- region 7
    refine dw_draw 10 [] follows_mixed (by kernel_rfl) rfl rfl ?_
    refine dq_r (sem_load (us := cR 25) ty28 rfl rfl rfl rfl rfl) ?_
    refine dq_r (sem_load (us := cR 4) ty28 rfl rfl rfl rfl rfl) ?_
    refine dq_r (sem_call rfl rfl (rcast1 (x' := 21) (pSub_ok (rz_l (by decide +kernel)) (rz_l (by decide +kernel))) (by decide +kernel)) rfl) ?_
    refine dq_r (sem_load (us := cR 1) ty28 rfl rfl rfl rfl rfl) ?_
    refine dq_r (sem_call rfl rfl (rcast1 (x' := 20) (pSub_ok (rz_l (by decide +kernel)) (rz_l (by decide +kernel))) (by decide +kernel)) rfl) ?_
    refine dq_r (sem_load (us := cR 2) ty28 rfl rfl rfl rfl rfl) ?_
    refine dq_r (sem_load (us := cR 2) ty28 rfl rfl rfl rfl rfl) ?_
    refine dq_r (sem_call rfl rfl (rcast1 (x' := 4) (pMul_ok (rz_l (by decide +kernel)) (rz_l (by decide +kernel))) (by decide +kernel)) rfl) ?_
    refine dq_r (sem_call rfl rfl (rcast1 (x' := 16) (pSub_ok (rz_l (by decide +kernel)) (rz_l (by decide +kernel))) (by decide +kernel)) rfl) ?_
    refine dq_new (sem_alloc zc28 rfl) rfl ?_
    refine dq_end ?_
    refine dl_start1 ?_
    refine dl_st (sem_store_a ty28 rfl rfl rfl rfl rfl rfl) ?_
    refine dl_end ?_
    refine dw_seq ?_
    -- region 8
    refine dw_draw 4 [] follows_mixed (by kernel_rfl) rfl rfl ?_
    refine dq_r (sem_call rfl rfl (rcast1 (x' := -2) (pFrom_ok (by decide) (by decide)) (by decide +kernel)) rfl) ?_
    refine dq_r (sem_load (us := cR 2) ty28 rfl rfl rfl rfl rfl) ?_
    refine dq_r (sem_call rfl rfl (rcast1 (x' := -4) (pMul_ok (rz_l (by decide +kernel)) (rz_l (by decide +kernel))) (by decide +kernel)) rfl) ?_
    refine dq_new (sem_alloc zc28 rfl) rfl ?_
    refine dq_end ?_
    refine dl_start1 ?_
    refine dl_st (sem_store_a ty28 rfl rfl rfl rfl rfl rfl) ?_
    refine dl_end ?_
    refine dw_seq ?_
    -- region 9
    refine dw_draw 10 [] follows_mixed (by kernel_rfl) rfl rfl ?_
    refine dq_r (sem_load (us := cR 16) ty28 rfl rfl rfl rfl rfl) ?_
    refine dq_r (sem_load (us := cR (-4)) ty28 rfl rfl rfl rfl rfl) ?_
    refine dq_r (sem_load (us := cR (-4)) ty28 rfl rfl rfl rfl rfl) ?_
    refine dq_r (sem_call rfl rfl (rcast1 (x' := -2) (pFrom_ok (by decide) (by decide)) (by decide +kernel)) rfl) ?_
    refine dq_r (sem_load (us := cR 4) ty28 rfl rfl rfl rfl rfl) ?_
    refine dq_r (sem_load (us := cR 1) ty28 rfl rfl rfl rfl rfl) ?_
    refine dq_r (sem_build (us := (cR 16 ++ cR (-4) ++ cR (-4) ++ cR (-2) ++ cR 4 ++ cR 1)) fs45 zc45 rfl rfl rfl) ?_
    refine dq_r (sem_call rfl rfl (rcasti (c := 0) (xSignQ_ok (rz_l (by decide +kernel)) (rz_l (by decide +kernel)) (rz_l (by decide +kernel)) (rz_l (by decide +kernel)) (rz_l (by decide +kernel)) (rz_l (by decide +kernel))) (by decide +kernel)) rfl) ?_
    refine dq_r (sem_assign rfl rfl) ?_
    refine dq_r (sem_assign rfl rfl) ?_
    refine dq_end ?_
    refine dl_start0 ?_
    refine dl_end ?_
    refine dw_ret ?_
    -- path L4
    exact ⟨.inr rfl, (resL_tmp rfl (resL_tmp rfl resL_nil))⟩
theorem cbt1  : Ok Tryz.prog 30 [.a (cR (1 / 2) ++ cR (1 / 2) ++ cR 3), .a (cR 1 ++ cR 1 ++ cR 2)] [dR 2] := by
  refine Ok.of (by kernel_rfl) Tryz.func30 rfl rfl ?_
  rw [show Tryz.f30.ntmps = 74 from rfl, show Tryz.f30.results.toList = [.cell 4 28] from rfl]
  refine dw_seq ?_
  -- region 0
  refine dw_region (by kernel_rfl) ?_
  refine dl_new (sem_box_a rfl rfl) rfl ?_
  refine dl_new (sem_box_a rfl rfl) rfl ?_
  refine dl_new (sem_alloc zc28 rfl) rfl ?_
  refine dl_end ?_
  refine dw_seq ?_
  -- region 1
  refine dw_region (by kernel_rfl) ?_
  refine dl_r (sem_call rfl rfl (rcast1 (x' := 1) (pFrom_ok (by decide) (by decide)) (by decide +kernel)) rfl) ?_
  refine dl_new (sem_alloc zc28 rfl) rfl ?_
  refine dl_st (sem_store_a ty28 rfl rfl rfl rfl rfl rfl) ?_
  refine dl_end ?_
  refine dw_seq ?_
  -- region 2
  refine dw_region (by kernel_rfl) ?_
  refine dl_r (sem_load (us := (cR (1 / 2) ++ cR (1 / 2) ++ cR 3)) ty30 rfl rfl rfl rfl rfl) ?_
  refine dl_r (sem_call rfl rfl (icast1 (x' := 1) (rtFloor_ok (rz_l (by decide +kernel)) (rz_l (by decide +kernel)) (rz_l (by decide +kernel))) (by decide +kernel)) rfl) ?_
  refine dl_r (sem_call rfl rfl ((show Ok Tryz.prog 52 [.c (.i .i64 1)] [dI 1] from iFrom_ok (by decide) (by decide))) rfl) ?_
  refine dl_r (sem_call rfl rfl (rcast1l (x' := 1) (pMake_ok (Sz.small (by decide) (by decide) (by decide)) (Sz.small (by decide) (by decide) (by decide)) (by decide)) (by decide +kernel)) rfl) ?_
  refine dl_r (sem_move rfl rfl) ?_
  refine dl_r (sem_extract rfl rfl rfl) ?_
  refine dl_r (sem_extract rfl rfl rfl) ?_
  refine dl_new (sem_alloc zc28 rfl) rfl ?_
  refine dl_st (sem_store_a ty28 rfl rfl rfl rfl rfl rfl) ?_
  refine dl_r (sem_assign rfl rfl) ?_
  refine dl_end ?_
  refine dw_seq ?_
  -- region 3
  refine dw_region (by kernel_rfl) ?_
  refine dl_r (sem_load (us := cR 1) ty28 rfl rfl rfl rfl rfl) ?_
  refine dl_r (sem_load (us := cR 1) ty28 rfl rfl rfl rfl rfl) ?_
  refine dl_r (sem_call rfl rfl (rcast1 (x' := 2) (pAdd_ok (rz_l (by decide +kernel)) (rz_l (by decide +kernel))) (by decide +kernel)) rfl) ?_
  refine dl_new (sem_alloc zc28 rfl) rfl ?_
  refine dl_st (sem_store_a ty28 rfl rfl rfl rfl rfl rfl) ?_
  refine dl_end ?_
  refine dw_seq ?_
  refine dw_seq ?_
  -- region 4
  refine dw_region (by kernel_rfl) ?_
  refine dl_r (sem_load (us := (cR 1 ++ cR 1 ++ cR 2)) ty30 rfl rfl rfl rfl rfl) ?_
  refine dl_r (sem_load (us := cR 2) ty28 rfl rfl rfl rfl rfl) ?_
  refine dl_r (sem_call rfl rfl (rcasti (c := 1) (xCmpRat_ok (rz_l (by decide +kernel)) (rz_l (by decide +kernel)) (rz_l (by decide +kernel)) (rz_l (by decide +kernel)) (rz_l (by decide +kernel)) (by decide +kernel)) (by decide +kernel)) rfl) ?_
  refine dl_r (sem_cmp rfl rfl rfl rfl) ?_
  refine dl_end ?_
  refine dw_true rfl ?_
  refine dw_seq ?_
  -- region 5
  refine dw_region (by kernel_rfl) ?_
  refine dl_r (sem_load (us := cR 2) ty28 rfl rfl rfl rfl rfl) ?_
  refine dl_st (sem_store_a ty28 rfl rfl rfl rfl rfl rfl) ?_
  refine dl_end ?_
  refine dw_ret ?_
  -- path 
  exact ⟨.inr rfl, (resL_cell (us := cR 2) ty28 rfl rfl rfl rfl resL_nil)⟩
theorem cbt2  : Ok Tryz.prog 30 [.a (cR 0 ++ cR 1 ++ cR 2), .a (cR 0 ++ cR 1 ++ cR 3)] [dR (3 / 2)] := by
  refine Ok.of (by kernel_rfl) Tryz.func30 rfl rfl ?_
  rw [show Tryz.f30.ntmps = 74 from rfl, show Tryz.f30.results.toList = [.cell 4 28] from rfl]
  refine dw_seq ?_
  -- region 0
  refine dw_region (by kernel_rfl) ?_
  refine dl_new (sem_box_a rfl rfl) rfl ?_
  refine dl_new (sem_box_a rfl rfl) rfl ?_
  refine dl_new (sem_alloc zc28 rfl) rfl ?_
  refine dl_end ?_
  refine dw_seq ?_
  -- region 1
  refine dw_region (by kernel_rfl) ?_
  refine dl_r (sem_call rfl rfl (rcast1 (x' := 1) (pFrom_ok (by decide) (by decide)) (by decide +kernel)) rfl) ?_
  refine dl_new (sem_alloc zc28 rfl) rfl ?_
  refine dl_st (sem_store_a ty28 rfl rfl rfl rfl rfl rfl) ?_
  refine dl_end ?_
  refine dw_seq ?_
  -- region 2
  refine dw_region (by kernel_rfl) ?_
  refine dl_r (sem_load (us := (cR 0 ++ cR 1 ++ cR 2)) ty30 rfl rfl rfl rfl rfl) ?_
  refine dl_r (sem_call rfl rfl (icast1 (x' := 1) (rtFloor_ok (rz_l (by decide +kernel)) (rz_l (by decide +kernel)) (rz_l (by decide +kernel))) (by decide +kernel)) rfl) ?_
  refine dl_r (sem_call rfl rfl ((show Ok Tryz.prog 52 [.c (.i .i64 1)] [dI 1] from iFrom_ok (by decide) (by decide))) rfl) ?_
  refine dl_r (sem_call rfl rfl (rcast1l (x' := 1) (pMake_ok (Sz.small (by decide) (by decide) (by decide)) (Sz.small (by decide) (by decide) (by decide)) (by decide)) (by decide +kernel)) rfl) ?_
  refine dl_r (sem_move rfl rfl) ?_
  refine dl_r (sem_extract rfl rfl rfl) ?_
  refine dl_r (sem_extract rfl rfl rfl) ?_
  refine dl_new (sem_alloc zc28 rfl) rfl ?_
  refine dl_st (sem_store_a ty28 rfl rfl rfl rfl rfl rfl) ?_
  refine dl_r (sem_assign rfl rfl) ?_
  refine dl_end ?_
  refine dw_seq ?_
  -- region 3
  refine dw_region (by kernel_rfl) ?_
  refine dl_r (sem_load (us := cR 1) ty28 rfl rfl rfl rfl rfl) ?_
  refine dl_r (sem_load (us := cR 1) ty28 rfl rfl rfl rfl rfl) ?_
  refine dl_r (sem_call rfl rfl (rcast1 (x' := 2) (pAdd_ok (rz_l (by decide +kernel)) (rz_l (by decide +kernel))) (by decide +kernel)) rfl) ?_
  refine dl_new (sem_alloc zc28 rfl) rfl ?_
  refine dl_st (sem_store_a ty28 rfl rfl rfl rfl rfl rfl) ?_
  refine dl_end ?_
  refine dw_seq ?_
  refine dw_seq ?_
  -- region 4
  refine dw_region (by kernel_rfl) ?_
  refine dl_r (sem_load (us := (cR 0 ++ cR 1 ++ cR 3)) ty30 rfl rfl rfl rfl rfl) ?_
  refine dl_r (sem_load (us := cR 2) ty28 rfl rfl rfl rfl rfl) ?_
  refine dl_r (sem_call rfl rfl (rcasti (c := -1) (xCmpRat_ok (rz_l (by decide +kernel)) (rz_l (by decide +kernel)) (rz_l (by decide +kernel)) (rz_l (by decide +kernel)) (rz_l (by decide +kernel)) (by decide +kernel)) (by decide +kernel)) rfl) ?_
  refine dl_r (sem_cmp rfl rfl rfl rfl) ?_
  refine dl_end ?_
  refine dw_false rfl ?_
  refine dw_skip ?_
  refine dw_seq ?_
  -- region 6
  refine dw_region (by kernel_rfl) ?_
  refine dl_r (sem_load (us := (cR 0 ++ cR 1 ++ cR 3)) ty30 rfl rfl rfl rfl rfl) ?_
  refine dl_r (sem_load (us := cR 1) ty28 rfl rfl rfl rfl rfl) ?_
  refine dl_r (sem_call rfl rfl (rcast3 (x' := -1) (y' := 1) (z' := 3) (xLess_ok (rz_l (by decide +kernel)) (rz_l (by decide +kernel))) (by decide +kernel) rfl rfl) rfl) ?_
  refine dl_r (sem_call rfl rfl (rcast3l (x' := 1 / 2) (y' := 1 / 2) (z' := 3) (rtInv_ok (rz_l (by decide +kernel)) (rz_l (by decide +kernel)) (rz_l (by decide +kernel)) (by decide +kernel) (by decide +kernel)) (by decide +kernel) (by decide +kernel) (by decide +kernel)) rfl) ?_
  refine dl_r (sem_move rfl rfl) ?_
  refine dl_r (sem_extract rfl rfl rfl) ?_
  refine dl_r (sem_extract rfl rfl rfl) ?_
  refine dl_new (sem_alloc zc30 rfl) rfl ?_
  refine dl_st (sem_store_a ty30 rfl rfl rfl rfl rfl rfl) ?_
  refine dl_r (sem_assign rfl rfl) ?_
  refine dl_end ?_
  refine dw_seq ?_
  -- region 7
  refine dw_region (by kernel_rfl) ?_
  refine dl_new (sem_alloc zc28 rfl) rfl ?_
  refine dl_end ?_
  refine dw_seq ?_
  refine dw_seq ?_
  -- region 8
  refine dw_region (by kernel_rfl) ?_
  refine dl_r (sem_load (us := (cR 0 ++ cR 1 ++ cR 2)) ty30 rfl rfl rfl rfl rfl) ?_
  refine dl_r (sem_load (us := cR 1) ty28 rfl rfl rfl rfl rfl) ?_
  refine dl_r (sem_call rfl rfl (rcasti (c := 1) (xCmpRat_ok (rz_l (by decide +kernel)) (rz_l (by decide +kernel)) (rz_l (by decide +kernel)) (rz_l (by decide +kernel)) (rz_l (by decide +kernel)) (by decide +kernel)) (by decide +kernel)) rfl) ?_
  refine dl_r (sem_cmp rfl rfl rfl rfl) ?_
  refine dl_end ?_
  refine dw_false rfl ?_
  refine dw_seq ?_
  -- region 11
  refine dw_region (by kernel_rfl) ?_
  refine dl_r (sem_load (us := (cR 0 ++ cR 1 ++ cR 2)) ty30 rfl rfl rfl rfl rfl) ?_
  refine dl_r (sem_load (us := cR 1) ty28 rfl rfl rfl rfl rfl) ?_
  refine dl_r (sem_call rfl rfl (rcast3 (x' := -1) (y' := 1) (z' := 2) (xLess_ok (rz_l (by decide +kernel)) (rz_l (by decide +kernel))) (by decide +kernel) rfl rfl) rfl) ?_
  refine dl_r (sem_call rfl rfl (rcast3l (x' := 1) (y' := 1) (z' := 2) (rtInv_ok (rz_l (by decide +kernel)) (rz_l (by decide +kernel)) (rz_l (by decide +kernel)) (by decide +kernel) (by decide +kernel)) (by decide +kernel) (by decide +kernel) (by decide +kernel)) rfl) ?_
  refine dl_r (sem_move rfl rfl) ?_
  refine dl_r (sem_extract rfl rfl rfl) ?_
  refine dl_r (sem_extract rfl rfl rfl) ?_
  refine dl_new (sem_alloc zc30 rfl) rfl ?_
  refine dl_st (sem_store_a ty30 rfl rfl rfl rfl rfl rfl) ?_
  refine dl_r (sem_assign rfl rfl) ?_
  refine dl_end ?_
  -- region 12
  refine dw_region (by kernel_rfl) ?_
  refine dl_r (sem_load (us := (cR (1 / 2) ++ cR (1 / 2) ++ cR 3)) ty30 rfl rfl rfl rfl rfl) ?_
  refine dl_r (sem_load (us := (cR 1 ++ cR 1 ++ cR 2)) ty30 rfl rfl rfl rfl rfl) ?_
  refine dl_r (sem_call rfl rfl (cbt1) rfl) ?_
  refine dl_st (sem_store_a ty28 rfl rfl rfl rfl rfl rfl) ?_
  refine dl_end ?_
  refine dw_seq ?_
  -- region 13
  refine dw_region (by kernel_rfl) ?_
  refine dl_r (sem_load (us := cR 1) ty28 rfl rfl rfl rfl rfl) ?_
  refine dl_r (sem_load (us := cR 2) ty28 rfl rfl rfl rfl rfl) ?_
  refine dl_r (sem_call rfl rfl (rcast1l (x' := 1 / 2) (pDiv_ok (rz_l (by decide +kernel)) (rz_l (by decide +kernel)) (by decide +kernel)) (by decide +kernel)) rfl) ?_
  refine dl_r (sem_move rfl rfl) ?_
  refine dl_r (sem_extract rfl rfl rfl) ?_
  refine dl_r (sem_extract rfl rfl rfl) ?_
  refine dl_new (sem_alloc zc28 rfl) rfl ?_
  refine dl_st (sem_store_a ty28 rfl rfl rfl rfl rfl rfl) ?_
  refine dl_r (sem_assign rfl rfl) ?_
  refine dl_end ?_
  refine dw_seq ?_
  -- region 14
  refine dw_region (by kernel_rfl) ?_
  refine dl_r (sem_load (us := cR 1) ty28 rfl rfl rfl rfl rfl) ?_
  refine dl_r (sem_load (us := cR (1 / 2)) ty28 rfl rfl rfl rfl rfl) ?_
  refine dl_r (sem_call rfl rfl (rcast1 (x' := 3 / 2) (pAdd_ok (rz_l (by decide +kernel)) (rz_l (by decide +kernel))) (by decide +kernel)) rfl) ?_
  refine dl_st (sem_store_a ty28 rfl rfl rfl rfl rfl rfl) ?_
  refine dl_end ?_
  refine dw_ret ?_
  -- path 
  exact ⟨.inr rfl, (resL_cell (us := cR (3 / 2)) ty28 rfl rfl rfl rfl resL_nil)⟩
theorem cBt1  : Ok Tryz.prog 10 [.a (cR 0 ++ cR 1 ++ cR 2), .a (cR 0 ++ cR 1 ++ cR 3)] [dR (3 / 2), .c (.i .i64 0)] := by
  refine Ok.of (by kernel_rfl) Tryz.func10 rfl rfl ?_
  rw [show Tryz.f10.ntmps = 39 from rfl, show Tryz.f10.results.toList = [.cell 4 28, .tmp 5] from rfl]
  refine dw_seq ?_
  -- region 0
  refine dw_region (by kernel_rfl) ?_
  refine dl_new (sem_box_a rfl rfl) rfl ?_
  refine dl_new (sem_box_a rfl rfl) rfl ?_
  refine dl_new (sem_alloc zc28 rfl) rfl ?_
  refine dl_r (sem_assign rfl rfl) ?_
  refine dl_end ?_
  refine dw_seq ?_
  refine dw_seq ?_
  -- region 1
  refine dw_region (by kernel_rfl) ?_
  refine dl_r (sem_load (us := (cR 0 ++ cR 1 ++ cR 2)) ty30 rfl rfl rfl rfl rfl) ?_
  refine dl_r (sem_load (us := (cR 0 ++ cR 1 ++ cR 3)) ty30 rfl rfl rfl rfl rfl) ?_
  refine dl_r (sem_call rfl rfl (rcasti (c := -1) (xCmpQ_ok (rz_l (by decide +kernel)) (rz_l (by decide +kernel)) (rz_l (by decide +kernel)) (rz_l (by decide +kernel)) (rz_l (by decide +kernel)) (rz_l (by decide +kernel)) (rz_l (by decide +kernel)) (by decide +kernel) (by decide +kernel)) (by decide +kernel)) rfl) ?_
  refine dl_r (sem_cmp rfl rfl rfl rfl) ?_
  refine dl_end ?_
  refine dw_false rfl ?_
  refine dw_skip ?_
  refine dw_seq ?_
  -- region 3
  refine dw_region (by kernel_rfl) ?_
  refine dl_r (sem_call rfl rfl (rcast1 (x' := 0) (pFrom_ok (by decide) (by decide)) (by decide +kernel)) rfl) ?_
  refine dl_new (sem_alloc zc28 rfl) rfl ?_
  refine dl_st (sem_store_a ty28 rfl rfl rfl rfl rfl rfl) ?_
  refine dl_end ?_
  refine dw_seq ?_
  refine dw_block ?_
  refine dw_seq ?_
  -- region 4
  refine dw_region (by kernel_rfl) ?_
  refine dl_r (sem_load (us := (cR 0 ++ cR 1 ++ cR 2)) ty30 rfl rfl rfl rfl rfl) ?_
  refine dl_r (sem_load (us := cR 0) ty28 rfl rfl rfl rfl rfl) ?_
  refine dl_r (sem_call rfl rfl (rcasti (c := 1) (xCmpRat_ok (rz_l (by decide +kernel)) (rz_l (by decide +kernel)) (rz_l (by decide +kernel)) (rz_l (by decide +kernel)) (rz_l (by decide +kernel)) (by decide +kernel)) (by decide +kernel)) rfl) ?_
  refine dl_r (sem_cmp rfl rfl rfl rfl) ?_
  refine dl_r (sem_move rfl rfl) ?_
  refine dl_skip (sem_skip rfl) ?_
  refine dl_skip (sem_skip rfl) ?_
  refine dl_skip (sem_skip rfl) ?_
  refine dl_skip (sem_skip rfl) ?_
  refine dl_r (sem_pick rfl rfl rfl rfl) ?_
  refine dl_r (sem_assign rfl rfl) ?_
  refine dl_end ?_
  refine dw_false rfl ?_
  refine dw_seq ?_
  -- region 6
  refine dw_region (by kernel_rfl) ?_
  refine dl_r (sem_load (us := (cR 0 ++ cR 1 ++ cR 3)) ty30 rfl rfl rfl rfl rfl) ?_
  refine dl_r (sem_load (us := cR 0) ty28 rfl rfl rfl rfl rfl) ?_
  refine dl_r (sem_call rfl rfl (rcasti (c := 1) (xCmpRat_ok (rz_l (by decide +kernel)) (rz_l (by decide +kernel)) (rz_l (by decide +kernel)) (rz_l (by decide +kernel)) (rz_l (by decide +kernel)) (by decide +kernel)) (by decide +kernel)) rfl) ?_
  refine dl_r (sem_cmp rfl rfl rfl rfl) ?_
  refine dl_r (sem_assign rfl rfl) ?_
  refine dl_end ?_
  refine dw_false rfl ?_
  refine dw_skip ?_
  refine dw_seq ?_
  -- region 8
  refine dw_region (by kernel_rfl) ?_
  refine dl_r (sem_load (us := (cR 0 ++ cR 1 ++ cR 2)) ty30 rfl rfl rfl rfl rfl) ?_
  refine dl_r (sem_load (us := (cR 0 ++ cR 1 ++ cR 3)) ty30 rfl rfl rfl rfl rfl) ?_
  refine dl_r (sem_call rfl rfl (cbt2) rfl) ?_
  refine dl_st (sem_store_a ty28 rfl rfl rfl rfl rfl rfl) ?_
  refine dl_r (sem_assign rfl rfl) ?_
  refine dl_end ?_
  refine dw_ret ?_
  -- path 
  exact ⟨.inr rfl, (resL_cell (us := cR (3 / 2)) ty28 rfl rfl rfl rfl (resL_tmp rfl resL_nil))⟩
theorem cBt2  : Ok Tryz.prog 10 [.a (cR (-5 / 2) ++ cR 0 ++ cR 0), .a (cR 0 ++ cR 1 ++ cR 2)] [dR 0, .c (.i .i64 0)] := by
  refine Ok.of (by kernel_rfl) Tryz.func10 rfl rfl ?_
  rw [show Tryz.f10.ntmps = 39 from rfl, show Tryz.f10.results.toList = [.cell 4 28, .tmp 5] from rfl]
  refine dw_seq ?_
  -- region 0
  refine dw_region (by kernel_rfl) ?_
  refine dl_new (sem_box_a rfl rfl) rfl ?_
  refine dl_new (sem_box_a rfl rfl) rfl ?_
  refine dl_new (sem_alloc zc28 rfl) rfl ?_
  refine dl_r (sem_assign rfl rfl) ?_
  refine dl_end ?_
  refine dw_seq ?_
  refine dw_seq ?_
  -- region 1
  refine dw_region (by kernel_rfl) ?_
  refine dl_r (sem_load (us := (cR (-5 / 2) ++ cR 0 ++ cR 0)) ty30 rfl rfl rfl rfl rfl) ?_
  refine dl_r (sem_load (us := (cR 0 ++ cR 1 ++ cR 2)) ty30 rfl rfl rfl rfl rfl) ?_
  refine dl_r (sem_call rfl rfl (rcasti (c := -1) (xCmpQ_ok (rz_l (by decide +kernel)) (rz_l (by decide +kernel)) (rz_l (by decide +kernel)) (rz_l (by decide +kernel)) (rz_l (by decide +kernel)) (rz_l (by decide +kernel)) (rz_l (by decide +kernel)) (by decide +kernel) (by decide +kernel)) (by decide +kernel)) rfl) ?_
  refine dl_r (sem_cmp rfl rfl rfl rfl) ?_
  refine dl_end ?_
  refine dw_false rfl ?_
  refine dw_skip ?_
  refine dw_seq ?_
  -- region 3
  refine dw_region (by kernel_rfl) ?_
  refine dl_r (sem_call rfl rfl (rcast1 (x' := 0) (pFrom_ok (by decide) (by decide)) (by decide +kernel)) rfl) ?_
  refine dl_new (sem_alloc zc28 rfl) rfl ?_
  refine dl_st (sem_store_a ty28 rfl rfl rfl rfl rfl rfl) ?_
  refine dl_end ?_
  refine dw_seq ?_
  refine dw_block ?_
  refine dw_seq ?_
  -- region 4
  refine dw_region (by kernel_rfl) ?_
  refine dl_r (sem_load (us := (cR (-5 / 2) ++ cR 0 ++ cR 0)) ty30 rfl rfl rfl rfl rfl) ?_
  refine dl_r (sem_load (us := cR 0) ty28 rfl rfl rfl rfl rfl) ?_
  refine dl_r (sem_call rfl rfl (rcasti (c := -1) (xCmpRat_ok (rz_l (by decide +kernel)) (rz_l (by decide +kernel)) (rz_l (by decide +kernel)) (rz_l (by decide +kernel)) (rz_l (by decide +kernel)) (by decide +kernel)) (by decide +kernel)) rfl) ?_
  refine dl_r (sem_cmp rfl rfl rfl rfl) ?_
  refine dl_r (sem_move rfl rfl) ?_
  refine dl_r (sem_load (us := (cR 0 ++ cR 1 ++ cR 2)) ty30 rfl rfl rfl rfl rfl) ?_
  refine dl_r (sem_load (us := cR 0) ty28 rfl rfl rfl rfl rfl) ?_
  refine dl_r (sem_call rfl rfl (rcasti (c := 1) (xCmpRat_ok (rz_l (by decide +kernel)) (rz_l (by decide +kernel)) (rz_l (by decide +kernel)) (rz_l (by decide +kernel)) (rz_l (by decide +kernel)) (by decide +kernel)) (by decide +kernel)) rfl) ?_
  refine dl_r (sem_cmp rfl rfl rfl rfl) ?_
  refine dl_r (sem_pick rfl rfl rfl rfl) ?_
  refine dl_r (sem_assign rfl rfl) ?_
  refine dl_end ?_
  refine dw_true rfl ?_
  refine dw_seq ?_
  -- region 5
  refine dw_region (by kernel_rfl) ?_
  refine dl_r (sem_load (us := cR 0) ty28 rfl rfl rfl rfl rfl) ?_
  refine dl_st (sem_store_a ty28 rfl rfl rfl rfl rfl rfl) ?_
  refine dl_r (sem_assign rfl rfl) ?_
  refine dl_end ?_
  refine dw_ret ?_
  -- path 
  exact ⟨.inr rfl, (resL_cell (us := cR 0) ty28 rfl rfl rfl rfl (resL_tmp rfl resL_nil))⟩
theorem awake5_ok  : Ok Tryz.prog 4 [] [.c (.b true)] := by
  refine Ok.of (by kernel_rfl) Tryz.func4 rfl rfl ?_
  rw [show Tryz.f4.ntmps = 81 from rfl, show Tryz.f4.results.toList = [.tmp 0] from rfl]
  refine dw_seq ?_
  -- region 0
  refine dw_region (by kernel_rfl) ?_
  refine dl_r (sem_assign rfl rfl) ?_
  refine dl_end ?_
  refine dw_seq ?_
  -- region 1
  refine dw_region (by kernel_rfl) ?_
  refine dl_r (sem_call rfl rfl (rcast1 (x' := 25) (lwNum_ok (by decide) (by decide)) (by decide +kernel)) rfl) ?_
  refine dl_r (sem_call rfl rfl (rcast1 (x' := 4) (lwNum_ok (by decide) (by decide)) (by decide +kernel)) rfl) ?_
  refine dl_r (sem_call rfl rfl (rcast1 (x' := 1) (lwNum_ok (by decide) (by decide)) (by decide +kernel)) rfl) ?_
  refine dl_r (sem_call rfl rfl (rcast1 (x' := 2) (lwNum_ok (by decide) (by decide)) (by decide +kernel)) rfl) ?_
  refine dl_r (sem_call rfl rfl (cSum) rfl) ?_
  refine dl_r (sem_move rfl rfl) ?_
  refine dl_r (sem_extract rfl rfl rfl) ?_
  refine dl_r (sem_extract rfl rfl rfl) ?_
  refine dl_r (sem_assign rfl rfl) ?_
  refine dl_r (sem_assign rfl rfl) ?_
  refine dl_end ?_
  refine dw_seq ?_
  -- region 2
  refine dw_region (by kernel_rfl) ?_
  refine dl_r (sem_call rfl rfl (lwRt5_1_2) rfl) ?_
  refine dl_r (sem_call rfl rfl (lwRt5_1_3) rfl) ?_
  refine dl_r (sem_call rfl rfl (cBt1) rfl) ?_
  refine dl_r (sem_move rfl rfl) ?_
  refine dl_r (sem_extract rfl rfl rfl) ?_
  refine dl_r (sem_extract rfl rfl rfl) ?_
  refine dl_new (sem_alloc zc28 rfl) rfl ?_
  refine dl_st (sem_store_a ty28 rfl rfl rfl rfl rfl rfl) ?_
  refine dl_r (sem_assign rfl rfl) ?_
  refine dl_end ?_
  refine dw_seq ?_
  -- region 3
  refine dw_region (by kernel_rfl) ?_
  refine dl_r (sem_call rfl rfl (rcast1 (x' := -5 / 2) (sFrac_ok (by decide) (by decide) (by decide) (by decide) (by decide)) (by decide +kernel)) rfl) ?_
  refine dl_r (sem_call rfl rfl (rcast1 (x' := 0) (lwNum_ok (by decide) (by decide)) (by decide +kernel)) rfl) ?_
  refine dl_r (sem_call rfl rfl (rcast1 (x' := 0) (lwNum_ok (by decide) (by decide)) (by decide +kernel)) rfl) ?_
  refine dl_r (sem_build (us := (cR (-5 / 2) ++ cR 0 ++ cR 0)) fs30 zc30 rfl rfl rfl) ?_
  refine dl_r (sem_call rfl rfl (lwRt5_1_2) rfl) ?_
  refine dl_r (sem_call rfl rfl (cBt2) rfl) ?_
  refine dl_r (sem_move rfl rfl) ?_
  refine dl_r (sem_extract rfl rfl rfl) ?_
  refine dl_r (sem_extract rfl rfl rfl) ?_
  refine dl_new (sem_alloc zc28 rfl) rfl ?_
  refine dl_st (sem_store_a ty28 rfl rfl rfl rfl rfl rfl) ?_
  refine dl_r (sem_assign rfl rfl) ?_
  refine dl_end ?_
  refine dw_seq ?_
  -- region 4
  refine dw_draw 52 [] follows_mixed (by kernel_rfl) rfl rfl ?_
  refine dq_r (sem_call rfl rfl (rcast1 (x' := -3) (lwNum_ok (by decide) (by decide)) (by decide +kernel)) rfl) ?_
  refine dq_r (sem_call rfl rfl (rcast1 (x' := 1) (lwNum_ok (by decide) (by decide)) (by decide +kernel)) rfl) ?_
  refine dq_r (sem_call rfl rfl (rcast1 (x' := 1) (lwNum_ok (by decide) (by decide)) (by decide +kernel)) rfl) ?_
  refine dq_r (sem_call rfl rfl (rcast1 (x' := 0) (lwNum_ok (by decide) (by decide)) (by decide +kernel)) rfl) ?_
  refine dq_r (sem_call rfl rfl (rcast1 (x' := 2) (lwNum_ok (by decide) (by decide)) (by decide +kernel)) rfl) ?_
  refine dq_r (sem_call rfl rfl (rcast1 (x' := 3) (lwNum_ok (by decide) (by decide)) (by decide +kernel)) rfl) ?_
  refine dq_r (sem_build (us := (cR (-3) ++ cR 1 ++ cR 1 ++ cR 0 ++ cR 2 ++ cR 3)) fs45 zc45 rfl rfl rfl) ?_
  refine dq_r (sem_call rfl rfl (rcasti (c := 1) (xSignQ_ok (rz_l (by decide +kernel)) (rz_l (by decide +kernel)) (rz_l (by decide +kernel)) (rz_l (by decide +kernel)) (rz_l (by decide +kernel)) (rz_l (by decide +kernel))) (by decide +kernel)) rfl) ?_
  refine dq_r (sem_cmp rfl rfl rfl rfl) ?_
  refine dq_r (sem_move rfl rfl) ?_
  refine dq_r (sem_call rfl rfl (rcast1 (x' := 5) (lwNum_ok (by decide) (by decide)) (by decide +kernel)) rfl) ?_
  refine dq_r (sem_call rfl rfl (rcast1 (x' := 0) (lwNum_ok (by decide) (by decide)) (by decide +kernel)) rfl) ?_
  refine dq_r (sem_call rfl rfl (rcast1 (x' := 0) (lwNum_ok (by decide) (by decide)) (by decide +kernel)) rfl) ?_
  refine dq_r (sem_call rfl rfl (rcast1 (x' := -2) (lwNum_ok (by decide) (by decide)) (by decide +kernel)) rfl) ?_
  refine dq_r (sem_call rfl rfl (rcast1 (x' := 2) (lwNum_ok (by decide) (by decide)) (by decide +kernel)) rfl) ?_
  refine dq_r (sem_call rfl rfl (rcast1 (x' := 3) (lwNum_ok (by decide) (by decide)) (by decide +kernel)) rfl) ?_
  refine dq_r (sem_build (us := (cR 5 ++ cR 0 ++ cR 0 ++ cR (-2) ++ cR 2 ++ cR 3)) fs45 zc45 rfl rfl rfl) ?_
  refine dq_r (sem_call rfl rfl (rcasti (c := 1) (xSignQ_ok (rz_l (by decide +kernel)) (rz_l (by decide +kernel)) (rz_l (by decide +kernel)) (rz_l (by decide +kernel)) (rz_l (by decide +kernel)) (rz_l (by decide +kernel))) (by decide +kernel)) rfl) ?_
  refine dq_r (sem_cmp rfl rfl rfl rfl) ?_
  refine dq_r (sem_pick rfl rfl rfl rfl) ?_
  refine dq_r (sem_move rfl rfl) ?_
  refine dq_r (sem_call rfl rfl (lwRt5_1_8) rfl) ?_
  refine dq_r (sem_call rfl rfl (lwRt5_2_2) rfl) ?_
  refine dq_r (sem_call rfl rfl (rcastb (c := true) (xEqual_ok (rz_l (by decide +kernel)) (rz_l (by decide +kernel)) (rz_l (by decide +kernel)) (rz_l (by decide +kernel)) (rz_l (by decide +kernel)) (rz_l (by decide +kernel)) (rz_l (by decide +kernel)) (by decide +kernel) (by decide +kernel)) (by decide +kernel)) rfl) ?_
  refine dq_r (sem_pick rfl rfl rfl rfl) ?_
  refine dq_r (sem_move rfl rfl) ?_
  refine dq_r (sem_move rfl rfl) ?_
  refine dq_r (sem_cmp rfl rfl rfl rfl) ?_
  refine dq_r (sem_pick rfl rfl rfl rfl) ?_
  refine dq_r (sem_move rfl rfl) ?_
  refine dq_r (sem_move rfl rfl) ?_
  refine dq_r (sem_cmp rfl rfl rfl rfl) ?_
  refine dq_r (sem_pick rfl rfl rfl rfl) ?_
  refine dq_r (sem_move rfl rfl) ?_
  refine dq_r (sem_load (us := cR (3 / 2)) ty28 rfl rfl rfl rfl rfl) ?_
  refine dq_r (sem_call rfl rfl (rcast1 (x' := 3 / 2) (sFrac_ok (by decide) (by decide) (by decide) (by decide) (by decide)) (by decide +kernel)) rfl) ?_
  refine dq_r (sem_call rfl rfl (rcastb (c := true) (sSame_ok (rz_l (by decide +kernel)) (rz_l (by decide +kernel))) (by decide +kernel)) rfl) ?_
  refine dq_r (sem_pick rfl rfl rfl rfl) ?_
  refine dq_r (sem_move rfl rfl) ?_
  refine dq_r (sem_move rfl rfl) ?_
  refine dq_r (sem_cmp rfl rfl rfl rfl) ?_
  refine dq_r (sem_pick rfl rfl rfl rfl) ?_
  refine dq_r (sem_move rfl rfl) ?_
  refine dq_r (sem_load (us := cR 0) ty28 rfl rfl rfl rfl rfl) ?_
  refine dq_r (sem_call rfl rfl (rcast1 (x' := 0) (lwNum_ok (by decide) (by decide)) (by decide +kernel)) rfl) ?_
  refine dq_r (sem_call rfl rfl (rcastb (c := true) (sSame_ok (rz_l (by decide +kernel)) (rz_l (by decide +kernel))) (by decide +kernel)) rfl) ?_
  refine dq_r (sem_pick rfl rfl rfl rfl) ?_
  refine dq_r (sem_move rfl rfl) ?_
  refine dq_r (sem_move rfl rfl) ?_
  refine dq_r (sem_cmp rfl rfl rfl rfl) ?_
  refine dq_r (sem_pick rfl rfl rfl rfl) ?_
  refine dq_r (sem_assign rfl rfl) ?_
  refine dq_end ?_
  refine dl_start0 ?_
  refine dl_end ?_
  refine dw_ret ?_
  -- path 
  exact ⟨.inr rfl, (resL_tmp rfl resL_nil)⟩
theorem s2_of {r : RN} (w : r.Wf) (h : r.s 2 = true) : ∃ x : Rat, Rz 2 x ∧ cN r = cR x := s_data (k := 2) w h
end Go.Proofs.YtcimbhjmjlfloaaGreat
