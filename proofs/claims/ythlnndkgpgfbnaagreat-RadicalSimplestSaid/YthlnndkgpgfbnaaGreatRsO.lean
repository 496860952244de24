/- The reference: a turn of the search. -/
import Derived.Test.YthlnndkgpgfbnaaGreatRsN
namespace Go.Proofs.YthlnndkgpgfbnaaGreat
open Go Go.RowKit
theorem ybt_pw {A B C D E F : Rat} {n : Int} (L : Lv A B C D E F n) {c0 : Int} (e0 : plainS (A - 0) B C = c0) (g0 : decide (c0 < 0) = false) (g1 : decide (c0 ≥ 0) = true) (oA : Ok Tryz.prog 19 [.a (cR A ++ cR B ++ cR C)] [dR (n : Rat)]) {c : Int} (hc : plainS (D - ((n : Rat) + 1)) E F = c) (hg : decide (c > 0) = true)  : Ok Tryz.prog 12 [.a (cR A ++ cR B ++ cR C), .a (cR D ++ cR E ++ cR F)] [dR ((n : Rat) + 1)] := by
  have o1 : Rz 60000 (1 : Rat) := rz_l (by decide +kernel)
  have s1 : Sz 199800 (1 : Int) := Sz.small (by decide) (by decide) (by decide)
  have kn : Rz 60000 (n : Rat) := L.zn.mono (by decide)
  have sn : Sz 199800 n := L.nz.mono (by decide)
  have kA : Rz 60000 A := L.kA.mono (by decide)
  have kD : Rz 60000 D := L.kD.mono (by decide)
  have z0 : Rz 2 (0 : Rat) := Rz.zero (by decide)
  have h0 : Rz 60000 (0 : Rat) := Rz.zero (by decide)
  refine Ok.of (by kernel_rfl) Tryz.func12 rfl rfl ?_
  rw [show Tryz.f12.ntmps = 81 from rfl, show Tryz.f12.results.toList = [.cell 4 26] from rfl]
  refine dw_seq <| dw_region (by kernel_rfl) <| dl_new (sem_box_a rfl rfl) rfl <| dl_new (sem_box_a rfl rfl) rfl <| dl_new (sem_alloc zc26 rfl) rfl <| dl_end <| dw_seq <| dw_region (by kernel_rfl) ?_
  refine dl_r (sem_call rfl rfl ((show Ok Tryz.prog 42 [.c (.i .i64 1)] [dR 1] from sFrom_ok (by omega) (by omega))) rfl) <| dl_r (sem_call rfl rfl ((show Ok Tryz.prog 42 [.c (.i .i64 0)] [dR 0] from sFrom_ok (by omega) (by omega))) rfl) <| dl_new (sem_alloc zc26 rfl) rfl <| dl_new (sem_alloc zc26 rfl) rfl <| dl_st (sem_store_a ty26 rfl rfl rfl rfl rfl rfl) <| dl_st (sem_store_a ty26 rfl rfl rfl rfl rfl rfl) <| dl_end <| dw_seq ?_
  refine dw_seq <| dw_region (by kernel_rfl) <| dl_r (sem_load (us := (cR A ++ cR B ++ cR C)) ty28 rfl rfl rfl rfl rfl) <| dl_r (sem_load (us := cR 0) ty26 rfl rfl rfl rfl rfl) <| dl_r (sem_call rfl rfl (rcasti (yCmpRat_ok kA h0 ((L.hA.sub z0).mono (by decide)) (L.kB.mono (by decide)) (L.kC.mono (by decide))) e0) rfl) <| dl_r (sem_castb (sem_cmp rfl rfl rfl rfl) g0) <| dl_r (sem_move rfl rfl) <| dl_skip (sem_skip rfl) ?_
  refine dl_skip (sem_skip rfl) <| dl_skip (sem_skip rfl) <| dl_skip (sem_skip rfl) <| dl_r (sem_pick rfl rfl rfl rfl) <| dl_end <| dw_false rfl <| dw_skip <| dw_seq ?_
  refine dw_region (by kernel_rfl) <| dl_r (sem_load (us := (cR A ++ cR B ++ cR C)) ty28 rfl rfl rfl rfl rfl) <| dl_r (sem_call rfl rfl (oA) rfl) <| dl_new (sem_alloc zc26 rfl) rfl <| dl_st (sem_store_a ty26 rfl rfl rfl rfl rfl rfl) <| dl_end <| dw_seq <| dw_region (by kernel_rfl) ?_
  refine dl_r (sem_load (us := cR (n : Rat)) ty26 rfl rfl rfl rfl rfl) <| dl_r (sem_load (us := cR 1) ty26 rfl rfl rfl rfl rfl) <| dl_r (sem_call rfl rfl (sAddL_ok kn o1) rfl) <| dl_new (sem_alloc zc26 rfl) rfl <| dl_st (sem_store_a ty26 rfl rfl rfl rfl rfl rfl) <| dl_end <| dw_seq <| dw_seq ?_
  refine dw_region (by kernel_rfl) <| dl_r (sem_load (us := (cR D ++ cR E ++ cR F)) ty28 rfl rfl rfl rfl rfl) <| dl_r (sem_load (us := cR ((n : Rat) + 1)) ty26 rfl rfl rfl rfl rfl) <| dl_r (sem_call rfl rfl (rcasti (yCmpRat_ok kD (L.zn1.mono (by decide)) (L.dn1.mono (by decide)) (L.kE.mono (by decide)) (L.kF.mono (by decide))) hc) rfl) <| dl_r (sem_castb (sem_cmp rfl rfl rfl rfl) hg) <| dl_end <| dw_true rfl <| dw_seq ?_
  refine dw_seq <| dw_region (by kernel_rfl) <| dl_r (sem_load (us := (cR A ++ cR B ++ cR C)) ty28 rfl rfl rfl rfl rfl) <| dl_r (sem_load (us := cR 0) ty26 rfl rfl rfl rfl rfl) <| dl_r (sem_call rfl rfl (rcasti (yCmpRat_ok kA h0 ((L.hA.sub z0).mono (by decide)) (L.kB.mono (by decide)) (L.kC.mono (by decide))) e0) rfl) <| dl_r (sem_castb (sem_cmp rfl rfl rfl rfl) g1) <| dl_end <| dw_true rfl ?_
  refine dw_seq <| dw_region (by kernel_rfl) <| dl_r (sem_load (us := cR ((n : Rat) + 1)) ty26 rfl rfl rfl rfl rfl) <| dl_st (sem_store_a ty26 rfl rfl rfl rfl rfl rfl) <| dl_end <| dw_ret ?_
  exact ⟨.inr rfl, (resL_cell (us := cR ((n : Rat) + 1)) ty26 rfl rfl rfl rfl resL_nil)⟩
theorem ybt_pl {A B C D E F : Rat} {n : Int} (L : Lv A B C D E F n) {c0 : Int} (e0 : plainS (A - 0) B C = c0) (g0 : decide (c0 < 0) = false) (_g1 : decide (c0 ≥ 0) = true) (oA : Ok Tryz.prog 19 [.a (cR A ++ cR B ++ cR C)] [dR (n : Rat)]) {c : Int} (hc : plainS (D - ((n : Rat) + 1)) E F = c) (hg : decide (c > 0) = false) {d : Int} (hd : plainS (A - (n : Rat) - 0) B C = d) (he : (d == 0) = true) {w2 : Rat} (hw2 : ((D - (n : Rat)) * (D - (n : Rat)) - E * E * F) * w2 = 1) {m : Int} (hz : Sz 119 m) (oT : Ok Tryz.prog 19 [.a (cR ((D - (n : Rat)) * w2) ++ cR (-E * w2) ++ cR F)] [dR (m : Rat)]) (y0 : ((m : Rat) + 1) ≠ 0) : Ok Tryz.prog 12 [.a (cR A ++ cR B ++ cR C), .a (cR D ++ cR E ++ cR F)] [dR ((n : Rat) + 1 / ((m : Rat) + 1))] := by
  have o1 : Rz 60000 (1 : Rat) := rz_l (by decide +kernel)
  have s1 : Sz 199800 (1 : Int) := Sz.small (by decide) (by decide) (by decide)
  have kn : Rz 60000 (n : Rat) := L.zn.mono (by decide)
  have sn : Sz 199800 n := L.nz.mono (by decide)
  have kA : Rz 60000 A := L.kA.mono (by decide)
  have kD : Rz 60000 D := L.kD.mono (by decide)
  have z0 : Rz 2 (0 : Rat) := Rz.zero (by decide)
  have h0 : Rz 60000 (0 : Rat) := Rz.zero (by decide)
  have zm : Rz 119 (m : Rat) := Rz.int hz (by decide)
  have km : Rz 60000 (m : Rat) := zm.mono (by decide)
  have zy : Rz 121 ((m : Rat) + 1) := zm.add (l := 1) (rz_l (by decide +kernel))
  have ky : Rz 60000 ((m : Rat) + 1) := zy.mono (by decide)
  have kp : Rz 60000 (1 / ((m : Rat) + 1)) := (Rz.div (k := 1) (rz_l (by decide +kernel)) zy y0).mono (by decide)
  refine Ok.of (by kernel_rfl) Tryz.func12 rfl rfl ?_
  rw [show Tryz.f12.ntmps = 81 from rfl, show Tryz.f12.results.toList = [.cell 4 26] from rfl]
  refine dw_seq <| dw_region (by kernel_rfl) <| dl_new (sem_box_a rfl rfl) rfl <| dl_new (sem_box_a rfl rfl) rfl <| dl_new (sem_alloc zc26 rfl) rfl <| dl_end <| dw_seq <| dw_region (by kernel_rfl) ?_
  refine dl_r (sem_call rfl rfl ((show Ok Tryz.prog 42 [.c (.i .i64 1)] [dR 1] from sFrom_ok (by omega) (by omega))) rfl) <| dl_r (sem_call rfl rfl ((show Ok Tryz.prog 42 [.c (.i .i64 0)] [dR 0] from sFrom_ok (by omega) (by omega))) rfl) <| dl_new (sem_alloc zc26 rfl) rfl <| dl_new (sem_alloc zc26 rfl) rfl <| dl_st (sem_store_a ty26 rfl rfl rfl rfl rfl rfl) <| dl_st (sem_store_a ty26 rfl rfl rfl rfl rfl rfl) <| dl_end <| dw_seq ?_
  refine dw_seq <| dw_region (by kernel_rfl) <| dl_r (sem_load (us := (cR A ++ cR B ++ cR C)) ty28 rfl rfl rfl rfl rfl) <| dl_r (sem_load (us := cR 0) ty26 rfl rfl rfl rfl rfl) <| dl_r (sem_call rfl rfl (rcasti (yCmpRat_ok kA h0 ((L.hA.sub z0).mono (by decide)) (L.kB.mono (by decide)) (L.kC.mono (by decide))) e0) rfl) <| dl_r (sem_castb (sem_cmp rfl rfl rfl rfl) g0) <| dl_r (sem_move rfl rfl) <| dl_skip (sem_skip rfl) ?_
  refine dl_skip (sem_skip rfl) <| dl_skip (sem_skip rfl) <| dl_skip (sem_skip rfl) <| dl_r (sem_pick rfl rfl rfl rfl) <| dl_end <| dw_false rfl <| dw_skip <| dw_seq ?_
  refine dw_region (by kernel_rfl) <| dl_r (sem_load (us := (cR A ++ cR B ++ cR C)) ty28 rfl rfl rfl rfl rfl) <| dl_r (sem_call rfl rfl (oA) rfl) <| dl_new (sem_alloc zc26 rfl) rfl <| dl_st (sem_store_a ty26 rfl rfl rfl rfl rfl rfl) <| dl_end <| dw_seq <| dw_region (by kernel_rfl) ?_
  refine dl_r (sem_load (us := cR (n : Rat)) ty26 rfl rfl rfl rfl rfl) <| dl_r (sem_load (us := cR 1) ty26 rfl rfl rfl rfl rfl) <| dl_r (sem_call rfl rfl (sAddL_ok kn o1) rfl) <| dl_new (sem_alloc zc26 rfl) rfl <| dl_st (sem_store_a ty26 rfl rfl rfl rfl rfl rfl) <| dl_end <| dw_seq <| dw_seq ?_
  refine dw_region (by kernel_rfl) <| dl_r (sem_load (us := (cR D ++ cR E ++ cR F)) ty28 rfl rfl rfl rfl rfl) <| dl_r (sem_load (us := cR ((n : Rat) + 1)) ty26 rfl rfl rfl rfl rfl) <| dl_r (sem_call rfl rfl (rcasti (yCmpRat_ok kD (L.zn1.mono (by decide)) (L.dn1.mono (by decide)) (L.kE.mono (by decide)) (L.kF.mono (by decide))) hc) rfl) <| dl_r (sem_castb (sem_cmp rfl rfl rfl rfl) hg) <| dl_end <| dw_false rfl <| dw_skip ?_
  refine dw_seq <| dw_draw 8 [] follows_mixed (by kernel_rfl) rfl rfl <| dq_r (sem_load (us := (cR A ++ cR B ++ cR C)) ty28 rfl rfl rfl rfl rfl) <| dq_r (sem_load (us := cR (n : Rat)) ty26 rfl rfl rfl rfl rfl) <| dq_r (sem_call rfl rfl (yMove_ok kA kn) rfl) <| dq_r (sem_load (us := (cR D ++ cR E ++ cR F)) ty28 rfl rfl rfl rfl rfl) <| dq_r (sem_load (us := cR (n : Rat)) ty26 rfl rfl rfl rfl rfl) <| dq_r (sem_call rfl rfl (yMove_ok kD kn) rfl) ?_
  refine dq_new (sem_alloc zc28 rfl) rfl <| dq_new (sem_alloc zc28 rfl) rfl <| dq_end <| dl_start2 <| dl_st (sem_store_a ty28 rfl rfl rfl rfl rfl rfl) <| dl_st (sem_store_a ty28 rfl rfl rfl rfl rfl rfl) <| dl_end <| dw_seq ?_
  refine dw_region (by kernel_rfl) <| dl_new (sem_alloc zc26 rfl) rfl <| dl_end <| dw_seq <| dw_seq <| dw_region (by kernel_rfl) <| dl_r (sem_load (us := (cR (A - (n : Rat)) ++ cR B ++ cR C)) ty28 rfl rfl rfl rfl rfl) <| dl_r (sem_load (us := cR 0) ty26 rfl rfl rfl rfl rfl) ?_
  refine dl_r (sem_call rfl rfl (rcasti (yCmpRat_ok (L.an.mono (by decide)) h0 ((L.an.sub z0).mono (by decide)) (L.kB.mono (by decide)) (L.kC.mono (by decide))) hd) rfl) <| dl_r (sem_castb (sem_cmp rfl rfl rfl rfl) he) <| dl_end <| dw_true rfl <| dw_draw 5 [] follows_mixed (by kernel_rfl) rfl rfl <| dq_r (sem_load (us := (cR (D - (n : Rat)) ++ cR E ++ cR F)) ty28 rfl rfl rfl rfl rfl) <| dq_r (sem_call rfl rfl (yInvert_ok (L.dn.mono (by decide)) (L.kE.mono (by decide)) (L.kF.mono (by decide)) hw2) rfl) <| dq_r (sem_call rfl rfl (oT) rfl) ?_
  refine dq_r (sem_load (us := cR 1) ty26 rfl rfl rfl rfl rfl) <| dq_r (sem_call rfl rfl (sAddL_ok km o1) rfl) <| dq_end <| dl_start0 <| dl_st (sem_store_a ty26 rfl rfl rfl rfl rfl rfl) <| dl_end <| dw_seq <| dw_region (by kernel_rfl) ?_
  refine dl_r (sem_load (us := cR 1) ty26 rfl rfl rfl rfl rfl) <| dl_r (sem_load (us := cR ((m : Rat) + 1)) ty26 rfl rfl rfl rfl rfl) <| dl_r (sem_call rfl rfl (sDivL_ok o1 ky y0) rfl) <| dl_r (sem_move rfl rfl) <| dl_r (sem_extract rfl rfl rfl) <| dl_r (sem_extract rfl rfl rfl) <| dl_new (sem_alloc zc26 rfl) rfl <| dl_st (sem_store_a ty26 rfl rfl rfl rfl rfl rfl) ?_
  refine dl_r (sem_assign rfl rfl) <| dl_end <| dw_seq <| dw_region (by kernel_rfl) <| dl_r (sem_load (us := cR (n : Rat)) ty26 rfl rfl rfl rfl rfl) <| dl_r (sem_load (us := cR (1 / ((m : Rat) + 1))) ty26 rfl rfl rfl rfl rfl) <| dl_r (sem_call rfl rfl (sAddL_ok kn kp) rfl) <| dl_st (sem_store_a ty26 rfl rfl rfl rfl rfl rfl) ?_
  refine dl_end <| dw_ret ?_
  exact ⟨.inr rfl, (resL_cell (us := cR ((n : Rat) + 1 / ((m : Rat) + 1))) ty26 rfl rfl rfl rfl resL_nil)⟩
theorem ybt_ps {A B C D E F : Rat} {n : Int} (L : Lv A B C D E F n) {c0 : Int} (e0 : plainS (A - 0) B C = c0) (g0 : decide (c0 < 0) = false) (_g1 : decide (c0 ≥ 0) = true) (oA : Ok Tryz.prog 19 [.a (cR A ++ cR B ++ cR C)] [dR (n : Rat)]) {c : Int} (hc : plainS (D - ((n : Rat) + 1)) E F = c) (hg : decide (c > 0) = false) {d : Int} (hd : plainS (A - (n : Rat) - 0) B C = d) (he : (d == 0) = false) {w2 : Rat} (hw2 : ((D - (n : Rat)) * (D - (n : Rat)) - E * E * F) * w2 = 1) {w1 : Rat} (hw1 : ((A - (n : Rat)) * (A - (n : Rat)) - B * B * C) * w1 = 1) {P Q : Int} (ih : Ok Tryz.prog 12 [.a (cR ((D - (n : Rat)) * w2) ++ cR (-E * w2) ++ cR F), .a (cR ((A - (n : Rat)) * w1) ++ cR (-B * w1) ++ cR C)] [dR (fr P Q)]) (zy : Rz 237 (fr P Q)) (y0 : fr P Q ≠ 0) : Ok Tryz.prog 12 [.a (cR A ++ cR B ++ cR C), .a (cR D ++ cR E ++ cR F)] [dR ((n : Rat) + 1 / fr P Q)] := by
  have o1 : Rz 60000 (1 : Rat) := rz_l (by decide +kernel)
  have s1 : Sz 199800 (1 : Int) := Sz.small (by decide) (by decide) (by decide)
  have kn : Rz 60000 (n : Rat) := L.zn.mono (by decide)
  have sn : Sz 199800 n := L.nz.mono (by decide)
  have kA : Rz 60000 A := L.kA.mono (by decide)
  have kD : Rz 60000 D := L.kD.mono (by decide)
  have z0 : Rz 2 (0 : Rat) := Rz.zero (by decide)
  have h0 : Rz 60000 (0 : Rat) := Rz.zero (by decide)
  have ky : Rz 60000 (fr P Q) := zy.mono (by decide)
  have kp : Rz 60000 (1 / fr P Q) := (Rz.div (k := 1) (rz_l (by decide +kernel)) zy y0).mono (by decide)
  refine Ok.of (by kernel_rfl) Tryz.func12 rfl rfl ?_
  rw [show Tryz.f12.ntmps = 81 from rfl, show Tryz.f12.results.toList = [.cell 4 26] from rfl]
  refine dw_seq <| dw_region (by kernel_rfl) <| dl_new (sem_box_a rfl rfl) rfl <| dl_new (sem_box_a rfl rfl) rfl <| dl_new (sem_alloc zc26 rfl) rfl <| dl_end <| dw_seq <| dw_region (by kernel_rfl) ?_
  refine dl_r (sem_call rfl rfl ((show Ok Tryz.prog 42 [.c (.i .i64 1)] [dR 1] from sFrom_ok (by omega) (by omega))) rfl) <| dl_r (sem_call rfl rfl ((show Ok Tryz.prog 42 [.c (.i .i64 0)] [dR 0] from sFrom_ok (by omega) (by omega))) rfl) <| dl_new (sem_alloc zc26 rfl) rfl <| dl_new (sem_alloc zc26 rfl) rfl <| dl_st (sem_store_a ty26 rfl rfl rfl rfl rfl rfl) <| dl_st (sem_store_a ty26 rfl rfl rfl rfl rfl rfl) <| dl_end <| dw_seq ?_
  refine dw_seq <| dw_region (by kernel_rfl) <| dl_r (sem_load (us := (cR A ++ cR B ++ cR C)) ty28 rfl rfl rfl rfl rfl) <| dl_r (sem_load (us := cR 0) ty26 rfl rfl rfl rfl rfl) <| dl_r (sem_call rfl rfl (rcasti (yCmpRat_ok kA h0 ((L.hA.sub z0).mono (by decide)) (L.kB.mono (by decide)) (L.kC.mono (by decide))) e0) rfl) <| dl_r (sem_castb (sem_cmp rfl rfl rfl rfl) g0) <| dl_r (sem_move rfl rfl) <| dl_skip (sem_skip rfl) ?_
  refine dl_skip (sem_skip rfl) <| dl_skip (sem_skip rfl) <| dl_skip (sem_skip rfl) <| dl_r (sem_pick rfl rfl rfl rfl) <| dl_end <| dw_false rfl <| dw_skip <| dw_seq ?_
  refine dw_region (by kernel_rfl) <| dl_r (sem_load (us := (cR A ++ cR B ++ cR C)) ty28 rfl rfl rfl rfl rfl) <| dl_r (sem_call rfl rfl (oA) rfl) <| dl_new (sem_alloc zc26 rfl) rfl <| dl_st (sem_store_a ty26 rfl rfl rfl rfl rfl rfl) <| dl_end <| dw_seq <| dw_region (by kernel_rfl) ?_
  refine dl_r (sem_load (us := cR (n : Rat)) ty26 rfl rfl rfl rfl rfl) <| dl_r (sem_load (us := cR 1) ty26 rfl rfl rfl rfl rfl) <| dl_r (sem_call rfl rfl (sAddL_ok kn o1) rfl) <| dl_new (sem_alloc zc26 rfl) rfl <| dl_st (sem_store_a ty26 rfl rfl rfl rfl rfl rfl) <| dl_end <| dw_seq <| dw_seq ?_
  refine dw_region (by kernel_rfl) <| dl_r (sem_load (us := (cR D ++ cR E ++ cR F)) ty28 rfl rfl rfl rfl rfl) <| dl_r (sem_load (us := cR ((n : Rat) + 1)) ty26 rfl rfl rfl rfl rfl) <| dl_r (sem_call rfl rfl (rcasti (yCmpRat_ok kD (L.zn1.mono (by decide)) (L.dn1.mono (by decide)) (L.kE.mono (by decide)) (L.kF.mono (by decide))) hc) rfl) <| dl_r (sem_castb (sem_cmp rfl rfl rfl rfl) hg) <| dl_end <| dw_false rfl <| dw_skip ?_
  refine dw_seq <| dw_draw 8 [] follows_mixed (by kernel_rfl) rfl rfl <| dq_r (sem_load (us := (cR A ++ cR B ++ cR C)) ty28 rfl rfl rfl rfl rfl) <| dq_r (sem_load (us := cR (n : Rat)) ty26 rfl rfl rfl rfl rfl) <| dq_r (sem_call rfl rfl (yMove_ok kA kn) rfl) <| dq_r (sem_load (us := (cR D ++ cR E ++ cR F)) ty28 rfl rfl rfl rfl rfl) <| dq_r (sem_load (us := cR (n : Rat)) ty26 rfl rfl rfl rfl rfl) <| dq_r (sem_call rfl rfl (yMove_ok kD kn) rfl) ?_
  refine dq_new (sem_alloc zc28 rfl) rfl <| dq_new (sem_alloc zc28 rfl) rfl <| dq_end <| dl_start2 <| dl_st (sem_store_a ty28 rfl rfl rfl rfl rfl rfl) <| dl_st (sem_store_a ty28 rfl rfl rfl rfl rfl rfl) <| dl_end <| dw_seq ?_
  refine dw_region (by kernel_rfl) <| dl_new (sem_alloc zc26 rfl) rfl <| dl_end <| dw_seq <| dw_seq <| dw_region (by kernel_rfl) <| dl_r (sem_load (us := (cR (A - (n : Rat)) ++ cR B ++ cR C)) ty28 rfl rfl rfl rfl rfl) <| dl_r (sem_load (us := cR 0) ty26 rfl rfl rfl rfl rfl) ?_
  refine dl_r (sem_call rfl rfl (rcasti (yCmpRat_ok (L.an.mono (by decide)) h0 ((L.an.sub z0).mono (by decide)) (L.kB.mono (by decide)) (L.kC.mono (by decide))) hd) rfl) <| dl_r (sem_castb (sem_cmp rfl rfl rfl rfl) he) <| dl_end <| dw_false rfl <| dw_draw 5 [] follows_mixed (by kernel_rfl) rfl rfl <| dq_r (sem_load (us := (cR (D - (n : Rat)) ++ cR E ++ cR F)) ty28 rfl rfl rfl rfl rfl) <| dq_r (sem_call rfl rfl (yInvert_ok (L.dn.mono (by decide)) (L.kE.mono (by decide)) (L.kF.mono (by decide)) hw2) rfl) <| dq_r (sem_load (us := (cR (A - (n : Rat)) ++ cR B ++ cR C)) ty28 rfl rfl rfl rfl rfl) ?_
  refine dq_r (sem_call rfl rfl (yInvert_ok (L.an.mono (by decide)) (L.kB.mono (by decide)) (L.kC.mono (by decide)) hw1) rfl) <| dq_r (sem_call rfl rfl (ih) rfl) <| dq_end <| dl_start0 <| dl_st (sem_store_a ty26 rfl rfl rfl rfl rfl rfl) <| dl_end <| dw_seq <| dw_region (by kernel_rfl) ?_
  refine dl_r (sem_load (us := cR 1) ty26 rfl rfl rfl rfl rfl) <| dl_r (sem_load (us := cR (fr P Q)) ty26 rfl rfl rfl rfl rfl) <| dl_r (sem_call rfl rfl (sDivL_ok o1 ky y0) rfl) <| dl_r (sem_move rfl rfl) <| dl_r (sem_extract rfl rfl rfl) <| dl_r (sem_extract rfl rfl rfl) <| dl_new (sem_alloc zc26 rfl) rfl <| dl_st (sem_store_a ty26 rfl rfl rfl rfl rfl rfl) ?_
  refine dl_r (sem_assign rfl rfl) <| dl_end <| dw_seq <| dw_region (by kernel_rfl) <| dl_r (sem_load (us := cR (n : Rat)) ty26 rfl rfl rfl rfl rfl) <| dl_r (sem_load (us := cR (1 / (fr P Q))) ty26 rfl rfl rfl rfl rfl) <| dl_r (sem_call rfl rfl (sAddL_ok kn kp) rfl) <| dl_st (sem_store_a ty26 rfl rfl rfl rfl rfl rfl) ?_
  refine dl_end <| dw_ret ?_
  exact ⟨.inr rfl, (resL_cell (us := cR ((n : Rat) + 1 / (fr P Q))) ty26 rfl rfl rfl rfl resL_nil)⟩
theorem ybt_nwe {A B C D E F : Rat} {n : Int} (L : Lv A B C D E F n) {c0 : Int} (e0 : plainS (A - 0) B C = c0) (g0 : decide (c0 < 0) = true) (g1 : decide (c0 ≥ 0) = false) {d0 : Int} (f0 : plainS (D - 0) E F = d0) (k0 : decide (d0 > 0) = false) (oA : Ok Tryz.prog 19 [.a (cR A ++ cR B ++ cR C)] [dR (n : Rat)]) {c : Int} (hc : plainS (D - ((n : Rat) + 1)) E F = c) (hg : decide (c > 0) = true) {m : Int} (hz : Sz 119 m) (oT : Ok Tryz.prog 19 [.a (cR D ++ cR E ++ cR F)] [dR (m : Rat)]) {m2 : Int} (hm2 : plainS (D - (m : Rat)) E F = m2) (he : (m2 == 0) = true) : Ok Tryz.prog 12 [.a (cR A ++ cR B ++ cR C), .a (cR D ++ cR E ++ cR F)] [dR ((m : Rat) - 1)] := by
  have o1 : Rz 60000 (1 : Rat) := rz_l (by decide +kernel)
  have s1 : Sz 199800 (1 : Int) := Sz.small (by decide) (by decide) (by decide)
  have kn : Rz 60000 (n : Rat) := L.zn.mono (by decide)
  have sn : Sz 199800 n := L.nz.mono (by decide)
  have kA : Rz 60000 A := L.kA.mono (by decide)
  have kD : Rz 60000 D := L.kD.mono (by decide)
  have z0 : Rz 2 (0 : Rat) := Rz.zero (by decide)
  have h0 : Rz 60000 (0 : Rat) := Rz.zero (by decide)
  have zm : Rz 119 (m : Rat) := Rz.int hz (by decide)
  have km : Rz 60000 (m : Rat) := zm.mono (by decide)
  refine Ok.of (by kernel_rfl) Tryz.func12 rfl rfl ?_
  rw [show Tryz.f12.ntmps = 81 from rfl, show Tryz.f12.results.toList = [.cell 4 26] from rfl]
  refine dw_seq <| dw_region (by kernel_rfl) <| dl_new (sem_box_a rfl rfl) rfl <| dl_new (sem_box_a rfl rfl) rfl <| dl_new (sem_alloc zc26 rfl) rfl <| dl_end <| dw_seq <| dw_region (by kernel_rfl) ?_
  refine dl_r (sem_call rfl rfl ((show Ok Tryz.prog 42 [.c (.i .i64 1)] [dR 1] from sFrom_ok (by omega) (by omega))) rfl) <| dl_r (sem_call rfl rfl ((show Ok Tryz.prog 42 [.c (.i .i64 0)] [dR 0] from sFrom_ok (by omega) (by omega))) rfl) <| dl_new (sem_alloc zc26 rfl) rfl <| dl_new (sem_alloc zc26 rfl) rfl <| dl_st (sem_store_a ty26 rfl rfl rfl rfl rfl rfl) <| dl_st (sem_store_a ty26 rfl rfl rfl rfl rfl rfl) <| dl_end <| dw_seq ?_
  refine dw_seq <| dw_region (by kernel_rfl) <| dl_r (sem_load (us := (cR A ++ cR B ++ cR C)) ty28 rfl rfl rfl rfl rfl) <| dl_r (sem_load (us := cR 0) ty26 rfl rfl rfl rfl rfl) <| dl_r (sem_call rfl rfl (rcasti (yCmpRat_ok kA h0 ((L.hA.sub z0).mono (by decide)) (L.kB.mono (by decide)) (L.kC.mono (by decide))) e0) rfl) <| dl_r (sem_castb (sem_cmp rfl rfl rfl rfl) g0) <| dl_r (sem_move rfl rfl) <| dl_r (sem_load (us := (cR D ++ cR E ++ cR F)) ty28 rfl rfl rfl rfl rfl) ?_
  refine dl_r (sem_load (us := cR 0) ty26 rfl rfl rfl rfl rfl) <| dl_r (sem_call rfl rfl (rcasti (yCmpRat_ok kD h0 ((L.hD.sub z0).mono (by decide)) (L.kE.mono (by decide)) (L.kF.mono (by decide))) f0) rfl) <| dl_r (sem_castb (sem_cmp rfl rfl rfl rfl) k0) <| dl_r (sem_pick rfl rfl rfl rfl) <| dl_end <| dw_false rfl <| dw_skip <| dw_seq ?_
  refine dw_region (by kernel_rfl) <| dl_r (sem_load (us := (cR A ++ cR B ++ cR C)) ty28 rfl rfl rfl rfl rfl) <| dl_r (sem_call rfl rfl (oA) rfl) <| dl_new (sem_alloc zc26 rfl) rfl <| dl_st (sem_store_a ty26 rfl rfl rfl rfl rfl rfl) <| dl_end <| dw_seq <| dw_region (by kernel_rfl) ?_
  refine dl_r (sem_load (us := cR (n : Rat)) ty26 rfl rfl rfl rfl rfl) <| dl_r (sem_load (us := cR 1) ty26 rfl rfl rfl rfl rfl) <| dl_r (sem_call rfl rfl (sAddL_ok kn o1) rfl) <| dl_new (sem_alloc zc26 rfl) rfl <| dl_st (sem_store_a ty26 rfl rfl rfl rfl rfl rfl) <| dl_end <| dw_seq <| dw_seq ?_
  refine dw_region (by kernel_rfl) <| dl_r (sem_load (us := (cR D ++ cR E ++ cR F)) ty28 rfl rfl rfl rfl rfl) <| dl_r (sem_load (us := cR ((n : Rat) + 1)) ty26 rfl rfl rfl rfl rfl) <| dl_r (sem_call rfl rfl (rcasti (yCmpRat_ok kD (L.zn1.mono (by decide)) (L.dn1.mono (by decide)) (L.kE.mono (by decide)) (L.kF.mono (by decide))) hc) rfl) <| dl_r (sem_castb (sem_cmp rfl rfl rfl rfl) hg) <| dl_end <| dw_true rfl <| dw_seq ?_
  refine dw_seq <| dw_region (by kernel_rfl) <| dl_r (sem_load (us := (cR A ++ cR B ++ cR C)) ty28 rfl rfl rfl rfl rfl) <| dl_r (sem_load (us := cR 0) ty26 rfl rfl rfl rfl rfl) <| dl_r (sem_call rfl rfl (rcasti (yCmpRat_ok kA h0 ((L.hA.sub z0).mono (by decide)) (L.kB.mono (by decide)) (L.kC.mono (by decide))) e0) rfl) <| dl_r (sem_castb (sem_cmp rfl rfl rfl rfl) g1) <| dl_end <| dw_false rfl ?_
  refine dw_skip <| dw_seq <| dw_region (by kernel_rfl) <| dl_r (sem_load (us := (cR D ++ cR E ++ cR F)) ty28 rfl rfl rfl rfl rfl) <| dl_r (sem_call rfl rfl (oT) rfl) <| dl_new (sem_alloc zc26 rfl) rfl <| dl_st (sem_store_a ty26 rfl rfl rfl rfl rfl rfl) <| dl_end ?_
  refine dw_seq <| dw_seq <| dw_region (by kernel_rfl) <| dl_r (sem_load (us := (cR D ++ cR E ++ cR F)) ty28 rfl rfl rfl rfl rfl) <| dl_r (sem_load (us := cR (m : Rat)) ty26 rfl rfl rfl rfl rfl) <| dl_r (sem_call rfl rfl (rcasti (yCmpRat_ok kD km ((L.hD.sub zm).mono (by decide)) (L.kE.mono (by decide)) (L.kF.mono (by decide))) hm2) rfl) <| dl_r (sem_castb (sem_cmp rfl rfl rfl rfl) he) <| dl_end ?_
  refine dw_true rfl <| dw_region (by kernel_rfl) <| dl_r (sem_load (us := cR (m : Rat)) ty26 rfl rfl rfl rfl rfl) <| dl_r (sem_load (us := cR 1) ty26 rfl rfl rfl rfl rfl) <| dl_r (sem_call rfl rfl (sSubL_ok km o1) rfl) <| dl_st (sem_store_a ty26 rfl rfl rfl rfl rfl rfl) <| dl_end <| dw_seq ?_
  refine dw_region (by kernel_rfl) <| dl_r (sem_load (us := cR ((m : Rat) - 1)) ty26 rfl rfl rfl rfl rfl) <| dl_st (sem_store_a ty26 rfl rfl rfl rfl rfl rfl) <| dl_end <| dw_ret ?_
  exact ⟨.inr rfl, (resL_cell (us := cR ((m : Rat) - 1)) ty26 rfl rfl rfl rfl resL_nil)⟩
theorem ybt_nwu {A B C D E F : Rat} {n : Int} (L : Lv A B C D E F n) {c0 : Int} (e0 : plainS (A - 0) B C = c0) (g0 : decide (c0 < 0) = true) (g1 : decide (c0 ≥ 0) = false) {d0 : Int} (f0 : plainS (D - 0) E F = d0) (k0 : decide (d0 > 0) = false) (oA : Ok Tryz.prog 19 [.a (cR A ++ cR B ++ cR C)] [dR (n : Rat)]) {c : Int} (hc : plainS (D - ((n : Rat) + 1)) E F = c) (hg : decide (c > 0) = true) {m : Int} (hz : Sz 119 m) (oT : Ok Tryz.prog 19 [.a (cR D ++ cR E ++ cR F)] [dR (m : Rat)]) {m2 : Int} (hm2 : plainS (D - (m : Rat)) E F = m2) (he : (m2 == 0) = false) : Ok Tryz.prog 12 [.a (cR A ++ cR B ++ cR C), .a (cR D ++ cR E ++ cR F)] [dR (m : Rat)] := by
  have o1 : Rz 60000 (1 : Rat) := rz_l (by decide +kernel)
  have s1 : Sz 199800 (1 : Int) := Sz.small (by decide) (by decide) (by decide)
  have kn : Rz 60000 (n : Rat) := L.zn.mono (by decide)
  have sn : Sz 199800 n := L.nz.mono (by decide)
  have kA : Rz 60000 A := L.kA.mono (by decide)
  have kD : Rz 60000 D := L.kD.mono (by decide)
  have z0 : Rz 2 (0 : Rat) := Rz.zero (by decide)
  have h0 : Rz 60000 (0 : Rat) := Rz.zero (by decide)
  have zm : Rz 119 (m : Rat) := Rz.int hz (by decide)
  have km : Rz 60000 (m : Rat) := zm.mono (by decide)
  refine Ok.of (by kernel_rfl) Tryz.func12 rfl rfl ?_
  rw [show Tryz.f12.ntmps = 81 from rfl, show Tryz.f12.results.toList = [.cell 4 26] from rfl]
  refine dw_seq <| dw_region (by kernel_rfl) <| dl_new (sem_box_a rfl rfl) rfl <| dl_new (sem_box_a rfl rfl) rfl <| dl_new (sem_alloc zc26 rfl) rfl <| dl_end <| dw_seq <| dw_region (by kernel_rfl) ?_
  refine dl_r (sem_call rfl rfl ((show Ok Tryz.prog 42 [.c (.i .i64 1)] [dR 1] from sFrom_ok (by omega) (by omega))) rfl) <| dl_r (sem_call rfl rfl ((show Ok Tryz.prog 42 [.c (.i .i64 0)] [dR 0] from sFrom_ok (by omega) (by omega))) rfl) <| dl_new (sem_alloc zc26 rfl) rfl <| dl_new (sem_alloc zc26 rfl) rfl <| dl_st (sem_store_a ty26 rfl rfl rfl rfl rfl rfl) <| dl_st (sem_store_a ty26 rfl rfl rfl rfl rfl rfl) <| dl_end <| dw_seq ?_
  refine dw_seq <| dw_region (by kernel_rfl) <| dl_r (sem_load (us := (cR A ++ cR B ++ cR C)) ty28 rfl rfl rfl rfl rfl) <| dl_r (sem_load (us := cR 0) ty26 rfl rfl rfl rfl rfl) <| dl_r (sem_call rfl rfl (rcasti (yCmpRat_ok kA h0 ((L.hA.sub z0).mono (by decide)) (L.kB.mono (by decide)) (L.kC.mono (by decide))) e0) rfl) <| dl_r (sem_castb (sem_cmp rfl rfl rfl rfl) g0) <| dl_r (sem_move rfl rfl) <| dl_r (sem_load (us := (cR D ++ cR E ++ cR F)) ty28 rfl rfl rfl rfl rfl) ?_
  refine dl_r (sem_load (us := cR 0) ty26 rfl rfl rfl rfl rfl) <| dl_r (sem_call rfl rfl (rcasti (yCmpRat_ok kD h0 ((L.hD.sub z0).mono (by decide)) (L.kE.mono (by decide)) (L.kF.mono (by decide))) f0) rfl) <| dl_r (sem_castb (sem_cmp rfl rfl rfl rfl) k0) <| dl_r (sem_pick rfl rfl rfl rfl) <| dl_end <| dw_false rfl <| dw_skip <| dw_seq ?_
  refine dw_region (by kernel_rfl) <| dl_r (sem_load (us := (cR A ++ cR B ++ cR C)) ty28 rfl rfl rfl rfl rfl) <| dl_r (sem_call rfl rfl (oA) rfl) <| dl_new (sem_alloc zc26 rfl) rfl <| dl_st (sem_store_a ty26 rfl rfl rfl rfl rfl rfl) <| dl_end <| dw_seq <| dw_region (by kernel_rfl) ?_
  refine dl_r (sem_load (us := cR (n : Rat)) ty26 rfl rfl rfl rfl rfl) <| dl_r (sem_load (us := cR 1) ty26 rfl rfl rfl rfl rfl) <| dl_r (sem_call rfl rfl (sAddL_ok kn o1) rfl) <| dl_new (sem_alloc zc26 rfl) rfl <| dl_st (sem_store_a ty26 rfl rfl rfl rfl rfl rfl) <| dl_end <| dw_seq <| dw_seq ?_
  refine dw_region (by kernel_rfl) <| dl_r (sem_load (us := (cR D ++ cR E ++ cR F)) ty28 rfl rfl rfl rfl rfl) <| dl_r (sem_load (us := cR ((n : Rat) + 1)) ty26 rfl rfl rfl rfl rfl) <| dl_r (sem_call rfl rfl (rcasti (yCmpRat_ok kD (L.zn1.mono (by decide)) (L.dn1.mono (by decide)) (L.kE.mono (by decide)) (L.kF.mono (by decide))) hc) rfl) <| dl_r (sem_castb (sem_cmp rfl rfl rfl rfl) hg) <| dl_end <| dw_true rfl <| dw_seq ?_
  refine dw_seq <| dw_region (by kernel_rfl) <| dl_r (sem_load (us := (cR A ++ cR B ++ cR C)) ty28 rfl rfl rfl rfl rfl) <| dl_r (sem_load (us := cR 0) ty26 rfl rfl rfl rfl rfl) <| dl_r (sem_call rfl rfl (rcasti (yCmpRat_ok kA h0 ((L.hA.sub z0).mono (by decide)) (L.kB.mono (by decide)) (L.kC.mono (by decide))) e0) rfl) <| dl_r (sem_castb (sem_cmp rfl rfl rfl rfl) g1) <| dl_end <| dw_false rfl ?_
  refine dw_skip <| dw_seq <| dw_region (by kernel_rfl) <| dl_r (sem_load (us := (cR D ++ cR E ++ cR F)) ty28 rfl rfl rfl rfl rfl) <| dl_r (sem_call rfl rfl (oT) rfl) <| dl_new (sem_alloc zc26 rfl) rfl <| dl_st (sem_store_a ty26 rfl rfl rfl rfl rfl rfl) <| dl_end ?_
  refine dw_seq <| dw_seq <| dw_region (by kernel_rfl) <| dl_r (sem_load (us := (cR D ++ cR E ++ cR F)) ty28 rfl rfl rfl rfl rfl) <| dl_r (sem_load (us := cR (m : Rat)) ty26 rfl rfl rfl rfl rfl) <| dl_r (sem_call rfl rfl (rcasti (yCmpRat_ok kD km ((L.hD.sub zm).mono (by decide)) (L.kE.mono (by decide)) (L.kF.mono (by decide))) hm2) rfl) <| dl_r (sem_castb (sem_cmp rfl rfl rfl rfl) he) <| dl_end ?_
  refine dw_false rfl <| dw_skip <| dw_seq <| dw_region (by kernel_rfl) <| dl_r (sem_load (us := cR (m : Rat)) ty26 rfl rfl rfl rfl rfl) <| dl_st (sem_store_a ty26 rfl rfl rfl rfl rfl rfl) <| dl_end <| dw_ret ?_
  exact ⟨.inr rfl, (resL_cell (us := cR (m : Rat)) ty26 rfl rfl rfl rfl resL_nil)⟩
theorem ybt_nl {A B C D E F : Rat} {n : Int} (L : Lv A B C D E F n) {c0 : Int} (e0 : plainS (A - 0) B C = c0) (g0 : decide (c0 < 0) = true) (_g1 : decide (c0 ≥ 0) = false) {d0 : Int} (f0 : plainS (D - 0) E F = d0) (k0 : decide (d0 > 0) = false) (oA : Ok Tryz.prog 19 [.a (cR A ++ cR B ++ cR C)] [dR (n : Rat)]) {c : Int} (hc : plainS (D - ((n : Rat) + 1)) E F = c) (hg : decide (c > 0) = false) {d : Int} (hd : plainS (A - (n : Rat) - 0) B C = d) (he : (d == 0) = true) {w2 : Rat} (hw2 : ((D - (n : Rat)) * (D - (n : Rat)) - E * E * F) * w2 = 1) {m : Int} (hz : Sz 119 m) (oT : Ok Tryz.prog 19 [.a (cR ((D - (n : Rat)) * w2) ++ cR (-E * w2) ++ cR F)] [dR (m : Rat)]) (y0 : ((m : Rat) + 1) ≠ 0) : Ok Tryz.prog 12 [.a (cR A ++ cR B ++ cR C), .a (cR D ++ cR E ++ cR F)] [dR ((n : Rat) + 1 / ((m : Rat) + 1))] := by
  have o1 : Rz 60000 (1 : Rat) := rz_l (by decide +kernel)
  have s1 : Sz 199800 (1 : Int) := Sz.small (by decide) (by decide) (by decide)
  have kn : Rz 60000 (n : Rat) := L.zn.mono (by decide)
  have sn : Sz 199800 n := L.nz.mono (by decide)
  have kA : Rz 60000 A := L.kA.mono (by decide)
  have kD : Rz 60000 D := L.kD.mono (by decide)
  have z0 : Rz 2 (0 : Rat) := Rz.zero (by decide)
  have h0 : Rz 60000 (0 : Rat) := Rz.zero (by decide)
  have zm : Rz 119 (m : Rat) := Rz.int hz (by decide)
  have km : Rz 60000 (m : Rat) := zm.mono (by decide)
  have zy : Rz 121 ((m : Rat) + 1) := zm.add (l := 1) (rz_l (by decide +kernel))
  have ky : Rz 60000 ((m : Rat) + 1) := zy.mono (by decide)
  have kp : Rz 60000 (1 / ((m : Rat) + 1)) := (Rz.div (k := 1) (rz_l (by decide +kernel)) zy y0).mono (by decide)
  refine Ok.of (by kernel_rfl) Tryz.func12 rfl rfl ?_
  rw [show Tryz.f12.ntmps = 81 from rfl, show Tryz.f12.results.toList = [.cell 4 26] from rfl]
  refine dw_seq <| dw_region (by kernel_rfl) <| dl_new (sem_box_a rfl rfl) rfl <| dl_new (sem_box_a rfl rfl) rfl <| dl_new (sem_alloc zc26 rfl) rfl <| dl_end <| dw_seq <| dw_region (by kernel_rfl) ?_
  refine dl_r (sem_call rfl rfl ((show Ok Tryz.prog 42 [.c (.i .i64 1)] [dR 1] from sFrom_ok (by omega) (by omega))) rfl) <| dl_r (sem_call rfl rfl ((show Ok Tryz.prog 42 [.c (.i .i64 0)] [dR 0] from sFrom_ok (by omega) (by omega))) rfl) <| dl_new (sem_alloc zc26 rfl) rfl <| dl_new (sem_alloc zc26 rfl) rfl <| dl_st (sem_store_a ty26 rfl rfl rfl rfl rfl rfl) <| dl_st (sem_store_a ty26 rfl rfl rfl rfl rfl rfl) <| dl_end <| dw_seq ?_
  refine dw_seq <| dw_region (by kernel_rfl) <| dl_r (sem_load (us := (cR A ++ cR B ++ cR C)) ty28 rfl rfl rfl rfl rfl) <| dl_r (sem_load (us := cR 0) ty26 rfl rfl rfl rfl rfl) <| dl_r (sem_call rfl rfl (rcasti (yCmpRat_ok kA h0 ((L.hA.sub z0).mono (by decide)) (L.kB.mono (by decide)) (L.kC.mono (by decide))) e0) rfl) <| dl_r (sem_castb (sem_cmp rfl rfl rfl rfl) g0) <| dl_r (sem_move rfl rfl) <| dl_r (sem_load (us := (cR D ++ cR E ++ cR F)) ty28 rfl rfl rfl rfl rfl) ?_
  refine dl_r (sem_load (us := cR 0) ty26 rfl rfl rfl rfl rfl) <| dl_r (sem_call rfl rfl (rcasti (yCmpRat_ok kD h0 ((L.hD.sub z0).mono (by decide)) (L.kE.mono (by decide)) (L.kF.mono (by decide))) f0) rfl) <| dl_r (sem_castb (sem_cmp rfl rfl rfl rfl) k0) <| dl_r (sem_pick rfl rfl rfl rfl) <| dl_end <| dw_false rfl <| dw_skip <| dw_seq ?_
  refine dw_region (by kernel_rfl) <| dl_r (sem_load (us := (cR A ++ cR B ++ cR C)) ty28 rfl rfl rfl rfl rfl) <| dl_r (sem_call rfl rfl (oA) rfl) <| dl_new (sem_alloc zc26 rfl) rfl <| dl_st (sem_store_a ty26 rfl rfl rfl rfl rfl rfl) <| dl_end <| dw_seq <| dw_region (by kernel_rfl) ?_
  refine dl_r (sem_load (us := cR (n : Rat)) ty26 rfl rfl rfl rfl rfl) <| dl_r (sem_load (us := cR 1) ty26 rfl rfl rfl rfl rfl) <| dl_r (sem_call rfl rfl (sAddL_ok kn o1) rfl) <| dl_new (sem_alloc zc26 rfl) rfl <| dl_st (sem_store_a ty26 rfl rfl rfl rfl rfl rfl) <| dl_end <| dw_seq <| dw_seq ?_
  refine dw_region (by kernel_rfl) <| dl_r (sem_load (us := (cR D ++ cR E ++ cR F)) ty28 rfl rfl rfl rfl rfl) <| dl_r (sem_load (us := cR ((n : Rat) + 1)) ty26 rfl rfl rfl rfl rfl) <| dl_r (sem_call rfl rfl (rcasti (yCmpRat_ok kD (L.zn1.mono (by decide)) (L.dn1.mono (by decide)) (L.kE.mono (by decide)) (L.kF.mono (by decide))) hc) rfl) <| dl_r (sem_castb (sem_cmp rfl rfl rfl rfl) hg) <| dl_end <| dw_false rfl <| dw_skip ?_
  refine dw_seq <| dw_draw 8 [] follows_mixed (by kernel_rfl) rfl rfl <| dq_r (sem_load (us := (cR A ++ cR B ++ cR C)) ty28 rfl rfl rfl rfl rfl) <| dq_r (sem_load (us := cR (n : Rat)) ty26 rfl rfl rfl rfl rfl) <| dq_r (sem_call rfl rfl (yMove_ok kA kn) rfl) <| dq_r (sem_load (us := (cR D ++ cR E ++ cR F)) ty28 rfl rfl rfl rfl rfl) <| dq_r (sem_load (us := cR (n : Rat)) ty26 rfl rfl rfl rfl rfl) <| dq_r (sem_call rfl rfl (yMove_ok kD kn) rfl) ?_
  refine dq_new (sem_alloc zc28 rfl) rfl <| dq_new (sem_alloc zc28 rfl) rfl <| dq_end <| dl_start2 <| dl_st (sem_store_a ty28 rfl rfl rfl rfl rfl rfl) <| dl_st (sem_store_a ty28 rfl rfl rfl rfl rfl rfl) <| dl_end <| dw_seq ?_
  refine dw_region (by kernel_rfl) <| dl_new (sem_alloc zc26 rfl) rfl <| dl_end <| dw_seq <| dw_seq <| dw_region (by kernel_rfl) <| dl_r (sem_load (us := (cR (A - (n : Rat)) ++ cR B ++ cR C)) ty28 rfl rfl rfl rfl rfl) <| dl_r (sem_load (us := cR 0) ty26 rfl rfl rfl rfl rfl) ?_
  refine dl_r (sem_call rfl rfl (rcasti (yCmpRat_ok (L.an.mono (by decide)) h0 ((L.an.sub z0).mono (by decide)) (L.kB.mono (by decide)) (L.kC.mono (by decide))) hd) rfl) <| dl_r (sem_castb (sem_cmp rfl rfl rfl rfl) he) <| dl_end <| dw_true rfl <| dw_draw 5 [] follows_mixed (by kernel_rfl) rfl rfl <| dq_r (sem_load (us := (cR (D - (n : Rat)) ++ cR E ++ cR F)) ty28 rfl rfl rfl rfl rfl) <| dq_r (sem_call rfl rfl (yInvert_ok (L.dn.mono (by decide)) (L.kE.mono (by decide)) (L.kF.mono (by decide)) hw2) rfl) <| dq_r (sem_call rfl rfl (oT) rfl) ?_
  refine dq_r (sem_load (us := cR 1) ty26 rfl rfl rfl rfl rfl) <| dq_r (sem_call rfl rfl (sAddL_ok km o1) rfl) <| dq_end <| dl_start0 <| dl_st (sem_store_a ty26 rfl rfl rfl rfl rfl rfl) <| dl_end <| dw_seq <| dw_region (by kernel_rfl) ?_
  refine dl_r (sem_load (us := cR 1) ty26 rfl rfl rfl rfl rfl) <| dl_r (sem_load (us := cR ((m : Rat) + 1)) ty26 rfl rfl rfl rfl rfl) <| dl_r (sem_call rfl rfl (sDivL_ok o1 ky y0) rfl) <| dl_r (sem_move rfl rfl) <| dl_r (sem_extract rfl rfl rfl) <| dl_r (sem_extract rfl rfl rfl) <| dl_new (sem_alloc zc26 rfl) rfl <| dl_st (sem_store_a ty26 rfl rfl rfl rfl rfl rfl) ?_
  refine dl_r (sem_assign rfl rfl) <| dl_end <| dw_seq <| dw_region (by kernel_rfl) <| dl_r (sem_load (us := cR (n : Rat)) ty26 rfl rfl rfl rfl rfl) <| dl_r (sem_load (us := cR (1 / ((m : Rat) + 1))) ty26 rfl rfl rfl rfl rfl) <| dl_r (sem_call rfl rfl (sAddL_ok kn kp) rfl) <| dl_st (sem_store_a ty26 rfl rfl rfl rfl rfl rfl) ?_
  refine dl_end <| dw_ret ?_
  exact ⟨.inr rfl, (resL_cell (us := cR ((n : Rat) + 1 / ((m : Rat) + 1))) ty26 rfl rfl rfl rfl resL_nil)⟩
theorem ybt_ns {A B C D E F : Rat} {n : Int} (L : Lv A B C D E F n) {c0 : Int} (e0 : plainS (A - 0) B C = c0) (g0 : decide (c0 < 0) = true) (_g1 : decide (c0 ≥ 0) = false) {d0 : Int} (f0 : plainS (D - 0) E F = d0) (k0 : decide (d0 > 0) = false) (oA : Ok Tryz.prog 19 [.a (cR A ++ cR B ++ cR C)] [dR (n : Rat)]) {c : Int} (hc : plainS (D - ((n : Rat) + 1)) E F = c) (hg : decide (c > 0) = false) {d : Int} (hd : plainS (A - (n : Rat) - 0) B C = d) (he : (d == 0) = false) {w2 : Rat} (hw2 : ((D - (n : Rat)) * (D - (n : Rat)) - E * E * F) * w2 = 1) {w1 : Rat} (hw1 : ((A - (n : Rat)) * (A - (n : Rat)) - B * B * C) * w1 = 1) {P Q : Int} (ih : Ok Tryz.prog 12 [.a (cR ((D - (n : Rat)) * w2) ++ cR (-E * w2) ++ cR F), .a (cR ((A - (n : Rat)) * w1) ++ cR (-B * w1) ++ cR C)] [dR (fr P Q)]) (zy : Rz 237 (fr P Q)) (y0 : fr P Q ≠ 0) : Ok Tryz.prog 12 [.a (cR A ++ cR B ++ cR C), .a (cR D ++ cR E ++ cR F)] [dR ((n : Rat) + 1 / fr P Q)] := by
  have o1 : Rz 60000 (1 : Rat) := rz_l (by decide +kernel)
  have s1 : Sz 199800 (1 : Int) := Sz.small (by decide) (by decide) (by decide)
  have kn : Rz 60000 (n : Rat) := L.zn.mono (by decide)
  have sn : Sz 199800 n := L.nz.mono (by decide)
  have kA : Rz 60000 A := L.kA.mono (by decide)
  have kD : Rz 60000 D := L.kD.mono (by decide)
  have z0 : Rz 2 (0 : Rat) := Rz.zero (by decide)
  have h0 : Rz 60000 (0 : Rat) := Rz.zero (by decide)
  have ky : Rz 60000 (fr P Q) := zy.mono (by decide)
  have kp : Rz 60000 (1 / fr P Q) := (Rz.div (k := 1) (rz_l (by decide +kernel)) zy y0).mono (by decide)
  refine Ok.of (by kernel_rfl) Tryz.func12 rfl rfl ?_
  rw [show Tryz.f12.ntmps = 81 from rfl, show Tryz.f12.results.toList = [.cell 4 26] from rfl]
  refine dw_seq <| dw_region (by kernel_rfl) <| dl_new (sem_box_a rfl rfl) rfl <| dl_new (sem_box_a rfl rfl) rfl <| dl_new (sem_alloc zc26 rfl) rfl <| dl_end <| dw_seq <| dw_region (by kernel_rfl) ?_
  refine dl_r (sem_call rfl rfl ((show Ok Tryz.prog 42 [.c (.i .i64 1)] [dR 1] from sFrom_ok (by omega) (by omega))) rfl) <| dl_r (sem_call rfl rfl ((show Ok Tryz.prog 42 [.c (.i .i64 0)] [dR 0] from sFrom_ok (by omega) (by omega))) rfl) <| dl_new (sem_alloc zc26 rfl) rfl <| dl_new (sem_alloc zc26 rfl) rfl <| dl_st (sem_store_a ty26 rfl rfl rfl rfl rfl rfl) <| dl_st (sem_store_a ty26 rfl rfl rfl rfl rfl rfl) <| dl_end <| dw_seq ?_
  refine dw_seq <| dw_region (by kernel_rfl) <| dl_r (sem_load (us := (cR A ++ cR B ++ cR C)) ty28 rfl rfl rfl rfl rfl) <| dl_r (sem_load (us := cR 0) ty26 rfl rfl rfl rfl rfl) <| dl_r (sem_call rfl rfl (rcasti (yCmpRat_ok kA h0 ((L.hA.sub z0).mono (by decide)) (L.kB.mono (by decide)) (L.kC.mono (by decide))) e0) rfl) <| dl_r (sem_castb (sem_cmp rfl rfl rfl rfl) g0) <| dl_r (sem_move rfl rfl) <| dl_r (sem_load (us := (cR D ++ cR E ++ cR F)) ty28 rfl rfl rfl rfl rfl) ?_
  refine dl_r (sem_load (us := cR 0) ty26 rfl rfl rfl rfl rfl) <| dl_r (sem_call rfl rfl (rcasti (yCmpRat_ok kD h0 ((L.hD.sub z0).mono (by decide)) (L.kE.mono (by decide)) (L.kF.mono (by decide))) f0) rfl) <| dl_r (sem_castb (sem_cmp rfl rfl rfl rfl) k0) <| dl_r (sem_pick rfl rfl rfl rfl) <| dl_end <| dw_false rfl <| dw_skip <| dw_seq ?_
  refine dw_region (by kernel_rfl) <| dl_r (sem_load (us := (cR A ++ cR B ++ cR C)) ty28 rfl rfl rfl rfl rfl) <| dl_r (sem_call rfl rfl (oA) rfl) <| dl_new (sem_alloc zc26 rfl) rfl <| dl_st (sem_store_a ty26 rfl rfl rfl rfl rfl rfl) <| dl_end <| dw_seq <| dw_region (by kernel_rfl) ?_
  refine dl_r (sem_load (us := cR (n : Rat)) ty26 rfl rfl rfl rfl rfl) <| dl_r (sem_load (us := cR 1) ty26 rfl rfl rfl rfl rfl) <| dl_r (sem_call rfl rfl (sAddL_ok kn o1) rfl) <| dl_new (sem_alloc zc26 rfl) rfl <| dl_st (sem_store_a ty26 rfl rfl rfl rfl rfl rfl) <| dl_end <| dw_seq <| dw_seq ?_
  refine dw_region (by kernel_rfl) <| dl_r (sem_load (us := (cR D ++ cR E ++ cR F)) ty28 rfl rfl rfl rfl rfl) <| dl_r (sem_load (us := cR ((n : Rat) + 1)) ty26 rfl rfl rfl rfl rfl) <| dl_r (sem_call rfl rfl (rcasti (yCmpRat_ok kD (L.zn1.mono (by decide)) (L.dn1.mono (by decide)) (L.kE.mono (by decide)) (L.kF.mono (by decide))) hc) rfl) <| dl_r (sem_castb (sem_cmp rfl rfl rfl rfl) hg) <| dl_end <| dw_false rfl <| dw_skip ?_
  refine dw_seq <| dw_draw 8 [] follows_mixed (by kernel_rfl) rfl rfl <| dq_r (sem_load (us := (cR A ++ cR B ++ cR C)) ty28 rfl rfl rfl rfl rfl) <| dq_r (sem_load (us := cR (n : Rat)) ty26 rfl rfl rfl rfl rfl) <| dq_r (sem_call rfl rfl (yMove_ok kA kn) rfl) <| dq_r (sem_load (us := (cR D ++ cR E ++ cR F)) ty28 rfl rfl rfl rfl rfl) <| dq_r (sem_load (us := cR (n : Rat)) ty26 rfl rfl rfl rfl rfl) <| dq_r (sem_call rfl rfl (yMove_ok kD kn) rfl) ?_
  refine dq_new (sem_alloc zc28 rfl) rfl <| dq_new (sem_alloc zc28 rfl) rfl <| dq_end <| dl_start2 <| dl_st (sem_store_a ty28 rfl rfl rfl rfl rfl rfl) <| dl_st (sem_store_a ty28 rfl rfl rfl rfl rfl rfl) <| dl_end <| dw_seq ?_
  refine dw_region (by kernel_rfl) <| dl_new (sem_alloc zc26 rfl) rfl <| dl_end <| dw_seq <| dw_seq <| dw_region (by kernel_rfl) <| dl_r (sem_load (us := (cR (A - (n : Rat)) ++ cR B ++ cR C)) ty28 rfl rfl rfl rfl rfl) <| dl_r (sem_load (us := cR 0) ty26 rfl rfl rfl rfl rfl) ?_
  refine dl_r (sem_call rfl rfl (rcasti (yCmpRat_ok (L.an.mono (by decide)) h0 ((L.an.sub z0).mono (by decide)) (L.kB.mono (by decide)) (L.kC.mono (by decide))) hd) rfl) <| dl_r (sem_castb (sem_cmp rfl rfl rfl rfl) he) <| dl_end <| dw_false rfl <| dw_draw 5 [] follows_mixed (by kernel_rfl) rfl rfl <| dq_r (sem_load (us := (cR (D - (n : Rat)) ++ cR E ++ cR F)) ty28 rfl rfl rfl rfl rfl) <| dq_r (sem_call rfl rfl (yInvert_ok (L.dn.mono (by decide)) (L.kE.mono (by decide)) (L.kF.mono (by decide)) hw2) rfl) <| dq_r (sem_load (us := (cR (A - (n : Rat)) ++ cR B ++ cR C)) ty28 rfl rfl rfl rfl rfl) ?_
  refine dq_r (sem_call rfl rfl (yInvert_ok (L.an.mono (by decide)) (L.kB.mono (by decide)) (L.kC.mono (by decide)) hw1) rfl) <| dq_r (sem_call rfl rfl (ih) rfl) <| dq_end <| dl_start0 <| dl_st (sem_store_a ty26 rfl rfl rfl rfl rfl rfl) <| dl_end <| dw_seq <| dw_region (by kernel_rfl) ?_
  refine dl_r (sem_load (us := cR 1) ty26 rfl rfl rfl rfl rfl) <| dl_r (sem_load (us := cR (fr P Q)) ty26 rfl rfl rfl rfl rfl) <| dl_r (sem_call rfl rfl (sDivL_ok o1 ky y0) rfl) <| dl_r (sem_move rfl rfl) <| dl_r (sem_extract rfl rfl rfl) <| dl_r (sem_extract rfl rfl rfl) <| dl_new (sem_alloc zc26 rfl) rfl <| dl_st (sem_store_a ty26 rfl rfl rfl rfl rfl rfl) ?_
  refine dl_r (sem_assign rfl rfl) <| dl_end <| dw_seq <| dw_region (by kernel_rfl) <| dl_r (sem_load (us := cR (n : Rat)) ty26 rfl rfl rfl rfl rfl) <| dl_r (sem_load (us := cR (1 / (fr P Q))) ty26 rfl rfl rfl rfl rfl) <| dl_r (sem_call rfl rfl (sAddL_ok kn kp) rfl) <| dl_st (sem_store_a ty26 rfl rfl rfl rfl rfl rfl) ?_
  refine dl_end <| dw_ret ?_
  exact ⟨.inr rfl, (resL_cell (us := cR ((n : Rat) + 1 / (fr P Q))) ty26 rfl rfl rfl rfl resL_nil)⟩
theorem xbt_w {A B C D E F : Rat} {n : Int} (L : Lv A B C D E F n) {c : Int} (hc : signQ (D - ((n : Rat) + 1)) E (-0) 0 F 0 = c) (hg : decide (c > 0) = true) : Ok Tryz.prog 32 [.a (cR A ++ cR B ++ cR C), .a (cR D ++ cR E ++ cR F)] [dR ((n : Rat) + 1)] := by
  have o1 : Rz 60000 (1 : Rat) := rz_l (by decide +kernel)
  have s1 : Sz 199800 (1 : Int) := Sz.small (by decide) (by decide) (by decide)
  have kn : Rz 60000 (n : Rat) := L.zn.mono (by decide)
  have sn : Sz 199800 n := L.nz.mono (by decide)
  have kA : Rz 60000 A := L.kA.mono (by decide)
  have kD : Rz 60000 D := L.kD.mono (by decide)
  refine Ok.of (by kernel_rfl) Tryz.func32 rfl rfl ?_
  rw [show Tryz.f32.ntmps = 74 from rfl, show Tryz.f32.results.toList = [.cell 4 26] from rfl]
  refine dw_seq <| dw_region (by kernel_rfl) <| dl_new (sem_box_a rfl rfl) rfl <| dl_new (sem_box_a rfl rfl) rfl <| dl_new (sem_alloc zc26 rfl) rfl <| dl_end <| dw_seq <| dw_region (by kernel_rfl) ?_
  refine dl_r (sem_call rfl rfl ((show Ok Tryz.prog 29 [.c (.i .i64 1)] [dR 1] from pFrom_ok (by omega) (by omega))) rfl) <| dl_new (sem_alloc zc26 rfl) rfl <| dl_st (sem_store_a ty26 rfl rfl rfl rfl rfl rfl) <| dl_end <| dw_seq <| dw_region (by kernel_rfl) <| dl_r (sem_load (us := (cR A ++ cR B ++ cR C)) ty28 rfl rfl rfl rfl rfl) <| dl_r (sem_call rfl rfl (icast1 (rtFloorL_ok (L.hA.mono (by decide)) (L.hB.mono (by decide)) (L.hC.mono (by decide))) L.nf.symm) rfl) ?_
  refine dl_r (sem_call rfl rfl ((show Ok Tryz.prog 69 [.c (.i .i64 1)] [dI 1] from iFrom_ok (by decide) (by decide))) rfl) <| dl_r (sem_call rfl rfl (rcast1l (pMakeL_ok sn s1 (by decide)) (dv1 _)) rfl) <| dl_r (sem_move rfl rfl) <| dl_r (sem_extract rfl rfl rfl) <| dl_r (sem_extract rfl rfl rfl) <| dl_new (sem_alloc zc26 rfl) rfl <| dl_st (sem_store_a ty26 rfl rfl rfl rfl rfl rfl) <| dl_r (sem_assign rfl rfl) ?_
  refine dl_end <| dw_seq <| dw_region (by kernel_rfl) <| dl_r (sem_load (us := cR (n : Rat)) ty26 rfl rfl rfl rfl rfl) <| dl_r (sem_load (us := cR 1) ty26 rfl rfl rfl rfl rfl) <| dl_r (sem_call rfl rfl (pAddL_ok kn o1) rfl) <| dl_new (sem_alloc zc26 rfl) rfl <| dl_st (sem_store_a ty26 rfl rfl rfl rfl rfl rfl) ?_
  refine dl_end <| dw_seq <| dw_seq <| dw_region (by kernel_rfl) <| dl_r (sem_load (us := (cR D ++ cR E ++ cR F)) ty28 rfl rfl rfl rfl rfl) <| dl_r (sem_load (us := cR ((n : Rat) + 1)) ty26 rfl rfl rfl rfl rfl) <| dl_r (sem_call rfl rfl (rcasti (xCmpRatL_ok (L.kD.mono (by decide)) L.kE L.kF (L.zn1.mono (by decide)) L.dn1 L.v2.c0) hc) rfl) <| dl_r (sem_castb (sem_cmp rfl rfl rfl rfl) hg) ?_
  refine dl_end <| dw_true rfl <| dw_seq <| dw_region (by kernel_rfl) <| dl_r (sem_load (us := cR ((n : Rat) + 1)) ty26 rfl rfl rfl rfl rfl) <| dl_st (sem_store_a ty26 rfl rfl rfl rfl rfl rfl) <| dl_end <| dw_ret ?_
  exact ⟨.inr rfl, (resL_cell (us := cR ((n : Rat) + 1)) ty26 rfl rfl rfl rfl resL_nil)⟩
theorem xbt_l {A B C D E F : Rat} {n : Int} (L : Lv A B C D E F n) {c : Int} (hc : signQ (D - ((n : Rat) + 1)) E (-0) 0 F 0 = c) (hg : decide (c > 0) = false) {d : Int} (hd : signQ (A - (n : Rat)) B (-0) 0 C 0 = d) (he : (d == 0) = true) {w2 : Rat} (i1 : rtSg (D - (n : Rat)) E F ≠ 0 ∧ (D - (n : Rat)) * (D - (n : Rat)) - E * E * F ≠ 0 ∧ invN (D - (n : Rat)) E F = w2 ∧ zc (-E * w2) F = F) (tA : Rz 900 ((D - (n : Rat)) * w2)) (tB : Rz 900 (-E * w2)) {m : Int} (hm : m = flR ((D - (n : Rat)) * w2) (-E * w2) F) (hz : Sz 119 m) (y0 : ((m : Rat) + 1) ≠ 0) : Ok Tryz.prog 32 [.a (cR A ++ cR B ++ cR C), .a (cR D ++ cR E ++ cR F)] [dR ((n : Rat) + 1 / ((m : Rat) + 1))] := by
  have o1 : Rz 60000 (1 : Rat) := rz_l (by decide +kernel)
  have s1 : Sz 199800 (1 : Int) := Sz.small (by decide) (by decide) (by decide)
  have kn : Rz 60000 (n : Rat) := L.zn.mono (by decide)
  have sn : Sz 199800 n := L.nz.mono (by decide)
  have kA : Rz 60000 A := L.kA.mono (by decide)
  have kD : Rz 60000 D := L.kD.mono (by decide)
  have sm : Sz 199800 m := hz.mono (by decide)
  have zm : Rz 119 (m : Rat) := Rz.int hz (by decide)
  have km : Rz 60000 (m : Rat) := zm.mono (by decide)
  have zy : Rz 121 ((m : Rat) + 1) := zm.add (l := 1) (rz_l (by decide +kernel))
  have ky : Rz 60000 ((m : Rat) + 1) := zy.mono (by decide)
  have kp : Rz 60000 (1 / ((m : Rat) + 1)) := (Rz.div (k := 1) (rz_l (by decide +kernel)) zy y0).mono (by decide)
  refine Ok.of (by kernel_rfl) Tryz.func32 rfl rfl ?_
  rw [show Tryz.f32.ntmps = 74 from rfl, show Tryz.f32.results.toList = [.cell 4 26] from rfl]
  refine dw_seq <| dw_region (by kernel_rfl) <| dl_new (sem_box_a rfl rfl) rfl <| dl_new (sem_box_a rfl rfl) rfl <| dl_new (sem_alloc zc26 rfl) rfl <| dl_end <| dw_seq <| dw_region (by kernel_rfl) ?_
  refine dl_r (sem_call rfl rfl ((show Ok Tryz.prog 29 [.c (.i .i64 1)] [dR 1] from pFrom_ok (by omega) (by omega))) rfl) <| dl_new (sem_alloc zc26 rfl) rfl <| dl_st (sem_store_a ty26 rfl rfl rfl rfl rfl rfl) <| dl_end <| dw_seq <| dw_region (by kernel_rfl) <| dl_r (sem_load (us := (cR A ++ cR B ++ cR C)) ty28 rfl rfl rfl rfl rfl) <| dl_r (sem_call rfl rfl (icast1 (rtFloorL_ok (L.hA.mono (by decide)) (L.hB.mono (by decide)) (L.hC.mono (by decide))) L.nf.symm) rfl) ?_
  refine dl_r (sem_call rfl rfl ((show Ok Tryz.prog 69 [.c (.i .i64 1)] [dI 1] from iFrom_ok (by decide) (by decide))) rfl) <| dl_r (sem_call rfl rfl (rcast1l (pMakeL_ok sn s1 (by decide)) (dv1 _)) rfl) <| dl_r (sem_move rfl rfl) <| dl_r (sem_extract rfl rfl rfl) <| dl_r (sem_extract rfl rfl rfl) <| dl_new (sem_alloc zc26 rfl) rfl <| dl_st (sem_store_a ty26 rfl rfl rfl rfl rfl rfl) <| dl_r (sem_assign rfl rfl) ?_
  refine dl_end <| dw_seq <| dw_region (by kernel_rfl) <| dl_r (sem_load (us := cR (n : Rat)) ty26 rfl rfl rfl rfl rfl) <| dl_r (sem_load (us := cR 1) ty26 rfl rfl rfl rfl rfl) <| dl_r (sem_call rfl rfl (pAddL_ok kn o1) rfl) <| dl_new (sem_alloc zc26 rfl) rfl <| dl_st (sem_store_a ty26 rfl rfl rfl rfl rfl rfl) ?_
  refine dl_end <| dw_seq <| dw_seq <| dw_region (by kernel_rfl) <| dl_r (sem_load (us := (cR D ++ cR E ++ cR F)) ty28 rfl rfl rfl rfl rfl) <| dl_r (sem_load (us := cR ((n : Rat) + 1)) ty26 rfl rfl rfl rfl rfl) <| dl_r (sem_call rfl rfl (rcasti (xCmpRatL_ok (L.kD.mono (by decide)) L.kE L.kF (L.zn1.mono (by decide)) L.dn1 L.v2.c0) hc) rfl) <| dl_r (sem_castb (sem_cmp rfl rfl rfl rfl) hg) ?_
  refine dl_end <| dw_false rfl <| dw_skip <| dw_seq <| dw_region (by kernel_rfl) <| dl_r (sem_load (us := (cR D ++ cR E ++ cR F)) ty28 rfl rfl rfl rfl rfl) <| dl_r (sem_load (us := cR (n : Rat)) ty26 rfl rfl rfl rfl rfl) <| dl_r (sem_call rfl rfl (xLessL_ok kD kn) rfl) ?_
  refine dl_r (sem_call rfl rfl (rcast3l (rtInvL_ok (L.dn.mono (by decide)) (L.kE.mono (by decide)) (L.kF.mono (by decide)) i1.1 i1.2.1) (congrArg _ i1.2.2.1) (congrArg _ i1.2.2.1) ((congrArg (fun w => zc (-E * w) F) i1.2.2.1).trans i1.2.2.2)) rfl) <| dl_r (sem_move rfl rfl) <| dl_r (sem_extract rfl rfl rfl) <| dl_r (sem_extract rfl rfl rfl) <| dl_new (sem_alloc zc28 rfl) rfl <| dl_st (sem_store_a ty28 rfl rfl rfl rfl rfl rfl) <| dl_r (sem_assign rfl rfl) <| dl_end ?_
  refine dw_seq <| dw_region (by kernel_rfl) <| dl_new (sem_alloc zc26 rfl) rfl <| dl_end <| dw_seq <| dw_seq <| dw_region (by kernel_rfl) <| dl_r (sem_load (us := (cR A ++ cR B ++ cR C)) ty28 rfl rfl rfl rfl rfl) ?_
  refine dl_r (sem_load (us := cR (n : Rat)) ty26 rfl rfl rfl rfl rfl) <| dl_r (sem_call rfl rfl (rcasti (xCmpRatL_ok (L.kA.mono (by decide)) L.kB L.kC (L.zn.mono (by decide)) L.an L.v1.c0) hd) rfl) <| dl_r (sem_castb (sem_cmp rfl rfl rfl rfl) he) <| dl_end <| dw_true rfl <| dw_seq <| dw_region (by kernel_rfl) <| dl_r (sem_load (us := (cR ((D - (n : Rat)) * w2) ++ cR (-E * w2) ++ cR F)) ty28 rfl rfl rfl rfl rfl) ?_
  refine dl_r (sem_call rfl rfl (icast1 (rtFloorL_ok (tA.mono (by decide)) (tB.mono (by decide)) (L.hF.mono (by decide))) hm.symm) rfl) <| dl_r (sem_call rfl rfl ((show Ok Tryz.prog 69 [.c (.i .i64 1)] [dI 1] from iFrom_ok (by decide) (by decide))) rfl) <| dl_r (sem_call rfl rfl (rcast1l (pMakeL_ok sm s1 (by decide)) (dv1 _)) rfl) <| dl_r (sem_move rfl rfl) <| dl_r (sem_extract rfl rfl rfl) <| dl_r (sem_extract rfl rfl rfl) <| dl_new (sem_alloc zc26 rfl) rfl <| dl_st (sem_store_a ty26 rfl rfl rfl rfl rfl rfl) ?_
  refine dl_r (sem_assign rfl rfl) <| dl_end <| dw_region (by kernel_rfl) <| dl_r (sem_load (us := cR (m : Rat)) ty26 rfl rfl rfl rfl rfl) <| dl_r (sem_load (us := cR 1) ty26 rfl rfl rfl rfl rfl) <| dl_r (sem_call rfl rfl (pAddL_ok km o1) rfl) <| dl_st (sem_store_a ty26 rfl rfl rfl rfl rfl rfl) <| dl_end ?_
  refine dw_seq <| dw_region (by kernel_rfl) <| dl_r (sem_load (us := cR 1) ty26 rfl rfl rfl rfl rfl) <| dl_r (sem_load (us := cR ((m : Rat) + 1)) ty26 rfl rfl rfl rfl rfl) <| dl_r (sem_call rfl rfl (pDivL_ok o1 ky y0) rfl) <| dl_r (sem_move rfl rfl) <| dl_r (sem_extract rfl rfl rfl) <| dl_r (sem_extract rfl rfl rfl) ?_
  refine dl_new (sem_alloc zc26 rfl) rfl <| dl_st (sem_store_a ty26 rfl rfl rfl rfl rfl rfl) <| dl_r (sem_assign rfl rfl) <| dl_end <| dw_seq <| dw_region (by kernel_rfl) <| dl_r (sem_load (us := cR (n : Rat)) ty26 rfl rfl rfl rfl rfl) <| dl_r (sem_load (us := cR (1 / ((m : Rat) + 1))) ty26 rfl rfl rfl rfl rfl) ?_
  refine dl_r (sem_call rfl rfl (pAddL_ok kn kp) rfl) <| dl_st (sem_store_a ty26 rfl rfl rfl rfl rfl rfl) <| dl_end <| dw_ret ?_
  exact ⟨.inr rfl, (resL_cell (us := cR ((n : Rat) + 1 / ((m : Rat) + 1))) ty26 rfl rfl rfl rfl resL_nil)⟩
theorem xbt_s {A B C D E F : Rat} {n : Int} (L : Lv A B C D E F n) {c : Int} (hc : signQ (D - ((n : Rat) + 1)) E (-0) 0 F 0 = c) (hg : decide (c > 0) = false) {d : Int} (hd : signQ (A - (n : Rat)) B (-0) 0 C 0 = d) (he : (d == 0) = false) {w2 : Rat} (i1 : rtSg (D - (n : Rat)) E F ≠ 0 ∧ (D - (n : Rat)) * (D - (n : Rat)) - E * E * F ≠ 0 ∧ invN (D - (n : Rat)) E F = w2 ∧ zc (-E * w2) F = F) {w1 : Rat} (i2 : rtSg (A - (n : Rat)) B C ≠ 0 ∧ (A - (n : Rat)) * (A - (n : Rat)) - B * B * C ≠ 0 ∧ invN (A - (n : Rat)) B C = w1 ∧ zc (-B * w1) C = C) {P Q : Int} (ih : Ok Tryz.prog 32 [.a (cR ((D - (n : Rat)) * w2) ++ cR (-E * w2) ++ cR F), .a (cR ((A - (n : Rat)) * w1) ++ cR (-B * w1) ++ cR C)] [dR (fr P Q)]) (zy : Rz 237 (fr P Q)) (y0 : fr P Q ≠ 0) : Ok Tryz.prog 32 [.a (cR A ++ cR B ++ cR C), .a (cR D ++ cR E ++ cR F)] [dR ((n : Rat) + 1 / fr P Q)] := by
  have o1 : Rz 60000 (1 : Rat) := rz_l (by decide +kernel)
  have s1 : Sz 199800 (1 : Int) := Sz.small (by decide) (by decide) (by decide)
  have kn : Rz 60000 (n : Rat) := L.zn.mono (by decide)
  have sn : Sz 199800 n := L.nz.mono (by decide)
  have kA : Rz 60000 A := L.kA.mono (by decide)
  have kD : Rz 60000 D := L.kD.mono (by decide)
  have ky : Rz 60000 (fr P Q) := zy.mono (by decide)
  have kp : Rz 60000 (1 / fr P Q) := (Rz.div (k := 1) (rz_l (by decide +kernel)) zy y0).mono (by decide)
  refine Ok.of (by kernel_rfl) Tryz.func32 rfl rfl ?_
  rw [show Tryz.f32.ntmps = 74 from rfl, show Tryz.f32.results.toList = [.cell 4 26] from rfl]
  refine dw_seq <| dw_region (by kernel_rfl) <| dl_new (sem_box_a rfl rfl) rfl <| dl_new (sem_box_a rfl rfl) rfl <| dl_new (sem_alloc zc26 rfl) rfl <| dl_end <| dw_seq <| dw_region (by kernel_rfl) ?_
  refine dl_r (sem_call rfl rfl ((show Ok Tryz.prog 29 [.c (.i .i64 1)] [dR 1] from pFrom_ok (by omega) (by omega))) rfl) <| dl_new (sem_alloc zc26 rfl) rfl <| dl_st (sem_store_a ty26 rfl rfl rfl rfl rfl rfl) <| dl_end <| dw_seq <| dw_region (by kernel_rfl) <| dl_r (sem_load (us := (cR A ++ cR B ++ cR C)) ty28 rfl rfl rfl rfl rfl) <| dl_r (sem_call rfl rfl (icast1 (rtFloorL_ok (L.hA.mono (by decide)) (L.hB.mono (by decide)) (L.hC.mono (by decide))) L.nf.symm) rfl) ?_
  refine dl_r (sem_call rfl rfl ((show Ok Tryz.prog 69 [.c (.i .i64 1)] [dI 1] from iFrom_ok (by decide) (by decide))) rfl) <| dl_r (sem_call rfl rfl (rcast1l (pMakeL_ok sn s1 (by decide)) (dv1 _)) rfl) <| dl_r (sem_move rfl rfl) <| dl_r (sem_extract rfl rfl rfl) <| dl_r (sem_extract rfl rfl rfl) <| dl_new (sem_alloc zc26 rfl) rfl <| dl_st (sem_store_a ty26 rfl rfl rfl rfl rfl rfl) <| dl_r (sem_assign rfl rfl) ?_
  refine dl_end <| dw_seq <| dw_region (by kernel_rfl) <| dl_r (sem_load (us := cR (n : Rat)) ty26 rfl rfl rfl rfl rfl) <| dl_r (sem_load (us := cR 1) ty26 rfl rfl rfl rfl rfl) <| dl_r (sem_call rfl rfl (pAddL_ok kn o1) rfl) <| dl_new (sem_alloc zc26 rfl) rfl <| dl_st (sem_store_a ty26 rfl rfl rfl rfl rfl rfl) ?_
  refine dl_end <| dw_seq <| dw_seq <| dw_region (by kernel_rfl) <| dl_r (sem_load (us := (cR D ++ cR E ++ cR F)) ty28 rfl rfl rfl rfl rfl) <| dl_r (sem_load (us := cR ((n : Rat) + 1)) ty26 rfl rfl rfl rfl rfl) <| dl_r (sem_call rfl rfl (rcasti (xCmpRatL_ok (L.kD.mono (by decide)) L.kE L.kF (L.zn1.mono (by decide)) L.dn1 L.v2.c0) hc) rfl) <| dl_r (sem_castb (sem_cmp rfl rfl rfl rfl) hg) ?_
  refine dl_end <| dw_false rfl <| dw_skip <| dw_seq <| dw_region (by kernel_rfl) <| dl_r (sem_load (us := (cR D ++ cR E ++ cR F)) ty28 rfl rfl rfl rfl rfl) <| dl_r (sem_load (us := cR (n : Rat)) ty26 rfl rfl rfl rfl rfl) <| dl_r (sem_call rfl rfl (xLessL_ok kD kn) rfl) ?_
  refine dl_r (sem_call rfl rfl (rcast3l (rtInvL_ok (L.dn.mono (by decide)) (L.kE.mono (by decide)) (L.kF.mono (by decide)) i1.1 i1.2.1) (congrArg _ i1.2.2.1) (congrArg _ i1.2.2.1) ((congrArg (fun w => zc (-E * w) F) i1.2.2.1).trans i1.2.2.2)) rfl) <| dl_r (sem_move rfl rfl) <| dl_r (sem_extract rfl rfl rfl) <| dl_r (sem_extract rfl rfl rfl) <| dl_new (sem_alloc zc28 rfl) rfl <| dl_st (sem_store_a ty28 rfl rfl rfl rfl rfl rfl) <| dl_r (sem_assign rfl rfl) <| dl_end ?_
  refine dw_seq <| dw_region (by kernel_rfl) <| dl_new (sem_alloc zc26 rfl) rfl <| dl_end <| dw_seq <| dw_seq <| dw_region (by kernel_rfl) <| dl_r (sem_load (us := (cR A ++ cR B ++ cR C)) ty28 rfl rfl rfl rfl rfl) ?_
  refine dl_r (sem_load (us := cR (n : Rat)) ty26 rfl rfl rfl rfl rfl) <| dl_r (sem_call rfl rfl (rcasti (xCmpRatL_ok (L.kA.mono (by decide)) L.kB L.kC (L.zn.mono (by decide)) L.an L.v1.c0) hd) rfl) <| dl_r (sem_castb (sem_cmp rfl rfl rfl rfl) he) <| dl_end <| dw_false rfl <| dw_seq <| dw_region (by kernel_rfl) <| dl_r (sem_load (us := (cR A ++ cR B ++ cR C)) ty28 rfl rfl rfl rfl rfl) ?_
  refine dl_r (sem_load (us := cR (n : Rat)) ty26 rfl rfl rfl rfl rfl) <| dl_r (sem_call rfl rfl (xLessL_ok kA kn) rfl) <| dl_r (sem_call rfl rfl (rcast3l (rtInvL_ok (L.an.mono (by decide)) (L.kB.mono (by decide)) (L.kC.mono (by decide)) i2.1 i2.2.1) (congrArg _ i2.2.2.1) (congrArg _ i2.2.2.1) ((congrArg (fun w => zc (-B * w) C) i2.2.2.1).trans i2.2.2.2)) rfl) <| dl_r (sem_move rfl rfl) <| dl_r (sem_extract rfl rfl rfl) <| dl_r (sem_extract rfl rfl rfl) <| dl_new (sem_alloc zc28 rfl) rfl <| dl_st (sem_store_a ty28 rfl rfl rfl rfl rfl rfl) ?_
  refine dl_r (sem_assign rfl rfl) <| dl_end <| dw_region (by kernel_rfl) <| dl_r (sem_load (us := (cR ((D - (n : Rat)) * w2) ++ cR (-E * w2) ++ cR F)) ty28 rfl rfl rfl rfl rfl) <| dl_r (sem_load (us := (cR ((A - (n : Rat)) * w1) ++ cR (-B * w1) ++ cR C)) ty28 rfl rfl rfl rfl rfl) <| dl_r (sem_call rfl rfl (ih) rfl) <| dl_st (sem_store_a ty26 rfl rfl rfl rfl rfl rfl) <| dl_end ?_
  refine dw_seq <| dw_region (by kernel_rfl) <| dl_r (sem_load (us := cR 1) ty26 rfl rfl rfl rfl rfl) <| dl_r (sem_load (us := cR (fr P Q)) ty26 rfl rfl rfl rfl rfl) <| dl_r (sem_call rfl rfl (pDivL_ok o1 ky y0) rfl) <| dl_r (sem_move rfl rfl) <| dl_r (sem_extract rfl rfl rfl) <| dl_r (sem_extract rfl rfl rfl) ?_
  refine dl_new (sem_alloc zc26 rfl) rfl <| dl_st (sem_store_a ty26 rfl rfl rfl rfl rfl rfl) <| dl_r (sem_assign rfl rfl) <| dl_end <| dw_seq <| dw_region (by kernel_rfl) <| dl_r (sem_load (us := cR (n : Rat)) ty26 rfl rfl rfl rfl rfl) <| dl_r (sem_load (us := cR (1 / (fr P Q))) ty26 rfl rfl rfl rfl rfl) ?_
  refine dl_r (sem_call rfl rfl (pAddL_ok kn kp) rfl) <| dl_st (sem_store_a ty26 rfl rfl rfl rfl rfl rfl) <| dl_end <| dw_ret ?_
  exact ⟨.inr rfl, (resL_cell (us := cR ((n : Rat) + 1 / (fr P Q))) ty26 rfl rfl rfl rfl resL_nil)⟩
theorem fdiv_rat (x : Rat) : ((x.num.fdiv (x.den : Int) : Int) : Rat) ≤ x ∧ x < ((x.num.fdiv (x.den : Int) + 1 : Int) : Rat) := by
  have dn := den_pos x
  obtain ⟨h1, h2⟩ := fd_le (Z := x.num) dn
  have hn := r_num x
  have hp : (0 : Rat) < ((x.den : Int) : Rat) := Rat.intCast_pos.2 dn
  refine ⟨q_cancel hp ?_, ?_⟩
  · rw [hn, ← Rat.intCast_mul]; exact Rat.intCast_le_intCast.2 h1
  · apply Classical.byContradiction
    intro hc
    have h3 := Rat.mul_le_mul_of_nonneg_right (show ((x.num.fdiv (x.den : Int) + 1 : Int) : Rat) ≤ x by grind) (show (0 : Rat) ≤ ((x.den : Int) : Rat) by grind)
    rw [hn, ← Rat.intCast_mul] at h3
    have h4 := Rat.intCast_le_intCast.1 h3
    omega
section
variable {a b c : Rat}
theorem rt_fl (hc : 0 ≤ c) : leR (Re.of ((isqI ((b * b * c).num.fdiv ((b * b * c).den : Int)) : Int) : Rat)) (Re.of (if b < 0 then -b else b) * Re.rt c) ∧
    leR (Re.of (if b < 0 then -b else b) * Re.rt c) (Re.of ((isqI ((b * b * c).num.fdiv ((b * b * c).den : Int)) + 1 : Int) : Rat)) := by
  have hbc : 0 ≤ b * b * c := by
    have : 0 ≤ b * b := by
      by_cases h : 0 ≤ b
      · exact Rat.mul_nonneg h h
      · have := Rat.mul_nonneg (show 0 ≤ -b by grind) (show 0 ≤ -b by grind); grind
    exact Rat.mul_nonneg this hc
  obtain ⟨q1, q2⟩ := fdiv_rat (b * b * c)
  have hw : 0 ≤ (b * b * c).num.fdiv ((b * b * c).den : Int) := by
    have h1 : ((0 : Int) : Rat) < (((b * b * c).num.fdiv ((b * b * c).den : Int) + 1 : Int) : Rat) := by have := hbc; have := q2; grind
    have := Rat.intCast_lt_intCast.1 h1
    omega
  have t1 := isqI_le hw
  have t2 := isqI_lt hw
  have t0 := isqI_nonneg ((b * b * c).num.fdiv ((b * b * c).den : Int))
  generalize (b * b * c).num.fdiv ((b * b * c).den : Int) = w at *
  generalize isqI w = t at *
  generalize hb' : (if b < 0 then -b else b) = b'
  have hb2 : b' * b' = b * b ∧ 0 ≤ b' := by subst hb'; split <;> (constructor <;> grind)
  have nnR : 0 ≤ sgR (Re.of b' * Re.rt c) := by
    have p2 : 0 ≤ sgR (Re.of b') := by rw [sgR_of]; exact cmpR_geI hb2.2
    have p3 := rt_nn c
    rw [sgR_mul]
    exact Int.mul_nonneg p2 p3
  have eS : ∀ q : Rat, sgR (Re.of b' * Re.rt c * (Re.of b' * Re.rt c) - Re.of q) = cmpR (b * b * c) q := by
    intro q
    rw [← cmpR_sub, ← sgR_of]
    refine sgR_same ?_
    rw [show Re.of b' * Re.rt c * (Re.of b' * Re.rt c) - Re.of q - Re.of (b * b * c - q) = Re.of (b' * b') * (Re.rt c * Re.rt c - Re.of c) from Re.ext fun k => by
      rw [← hb2.1]
      simp only [re_sub, re_mul, re_of]; grind, sgR_mul, rt_sq hc, Int.mul_zero]
  refine ⟨?_, ?_⟩
  · refine sq_le_re (nn_cast t0) nnR ?_
    rw [of_mul, eS, ← Rat.intCast_mul]
    exact cmpR_geI (Rat.le_trans (Rat.intCast_le_intCast.2 t1) q1)
  · refine sq_le_re nnR (nn_cast (by omega)) ?_
    have h3 : 0 ≤ -sgR (Re.of b' * Re.rt c * (Re.of b' * Re.rt c) - Re.of (((t + 1 : Int) : Rat) * ((t + 1 : Int) : Rat))) := by
      rw [eS, ← Rat.intCast_mul]
      have h4 : b * b * c ≤ (((t + 1) * (t + 1) : Int) : Rat) := Rat.le_trans (Rat.le_of_lt q2) (Rat.intCast_le_intCast.2 (by omega))
      have := cmpR_leI (x := b * b * c) (y := (((t + 1) * (t + 1) : Int) : Rat)) h4
      omega
    rw [← sgR_neg] at h3
    refine nn_of (fun k => ?_) h3
    simp only [re_neg, re_sub, re_mul, re_of]; grind
theorem ic_add (m n : Int) : ((m : Int) : Rat) + ((n : Int) : Rat) = ((m + n : Int) : Rat) := (Rat.intCast_add m n).symm
theorem fl_near (hv : Vl b c) : (¬ b < 0 → flR a b c = a.num.fdiv (a.den : Int) + isqI ((b * b * c).num.fdiv ((b * b * c).den : Int)) ∨ flR a b c = a.num.fdiv (a.den : Int) + isqI ((b * b * c).num.fdiv ((b * b * c).den : Int)) + 1) ∧
    (b < 0 → flR a b c = a.num.fdiv (a.den : Int) - isqI ((b * b * c).num.fdiv ((b * b * c).den : Int)) ∨ flR a b c = a.num.fdiv (a.den : Int) - isqI ((b * b * c).num.fdiv ((b * b * c).den : Int)) - 1) := by
  have f1 : leR (Re.of ((flR a b c : Int) : Rat)) (val3 a b c) := (flR_in hv.c0).1
  have f2 := flR_lt (x := a) (y := b) hv.c0 hv.v
  obtain ⟨r1, r2⟩ := rt_fl (b := b) hv.c0
  obtain ⟨u1, u2⟩ := fdiv_rat a
  generalize flR a b c = n at *
  generalize a.num.fdiv (a.den : Int) = u at *
  generalize isqI ((b * b * c).num.fdiv ((b * b * c).den : Int)) = t at *
  have key : ∀ Y : Re, ∀ l h : Int, val3 a b c = Re.of a + Y → leR (Re.of (l : Rat)) Y → leR Y (Re.of (h : Rat)) → u + l < n + 1 ∧ n < u + 1 + h := by
    intro Y l h e g1 g2
    have k1 := sgR_add_le (of_le u1) g1
    rw [← e, show Re.of (u : Rat) + Re.of (l : Rat) = Re.of (((u + l : Int)) : Rat) from Re.ext fun k => by simp only [re_add, re_of, Rat.intCast_add]] at k1
    have k2 := sgR_add_le (leR_refl (Re.of a)) g2
    rw [← e, show Re.of a + Re.of (h : Rat) = Re.of (a + (h : Rat)) from Re.ext fun k => by simp only [re_add, re_of]] at k2
    have k3 := gt_of k1 f2
    have k4 := of_le_iff (le_tr f1 k2)
    have k5 : (n : Rat) < ((u + 1 + h : Int) : Rat) := by
      rw [Rat.intCast_add]; grind
    exact ⟨Rat.intCast_lt_intCast.1 k3, Rat.intCast_lt_intCast.1 k5⟩
  refine ⟨fun hb => ?_, fun hb => ?_⟩
  · rw [if_neg hb] at r1 r2
    have := key (Re.of b * Re.rt c) t (t + 1) rfl r1 r2
    omega
  · rw [if_pos hb] at r1 r2
    have := key (Re.of b * Re.rt c) (-(t + 1)) (-t) rfl (by
      refine nn_of (fun k => ?_) r2
      simp only [re_sub, re_mul, re_of, Rat.intCast_neg]; grind) (by
      refine nn_of (fun k => ?_) r1
      simp only [re_sub, re_mul, re_of, Rat.intCast_neg]; grind)
    omega
theorem fl_sg (hv : Vl b c) (m : Int) : (m ≤ flR a b c → ¬ plainS (a - (m : Rat)) b c < 0) ∧ (flR a b c < m → plainS (a - (m : Rat)) b c < 0) := by
  have f1 : leR (Re.of ((flR a b c : Int) : Rat)) (val3 a b c) := (flR_in hv.c0).1
  have f2 := flR_lt (x := a) (y := b) hv.c0 hv.v
  rw [val3_p hv.c0]
  refine ⟨fun h => ?_, fun h => ?_⟩
  · have h1 : 0 ≤ sgR (val3 a b c - Re.of (m : Rat)) := le_tr (leR_cast h) f1
    omega
  · have h1 : sgR (Re.of (m : Rat) - val3 a b c) = 1 := by
      rw [show Re.of (m : Rat) - val3 a b c = (Re.of (m : Rat) - Re.of ((flR a b c + 1 : Int) : Rat)) + (Re.of ((flR a b c + 1 : Int) : Rat) - val3 a b c) from Re.ext fun k => by simp only [re_sub, re_add]; grind]
      exact add_pos (leR_cast (show flR a b c + 1 ≤ m by omega)) f2
    rw [flip_sg]; omega
theorem yFloor_ok (ha : Rz 1600 a) (hb : Rz 1600 b) (hc : Rz 1600 c) (hv : Vl b c) : Ok Tryz.prog 19 [.a (cR a ++ cR b ++ cR c)] [dR ((flR a b c : Int) : Rat)] := by
  obtain ⟨n1, n2⟩ := fl_near (a := a) hv
  have sg := fl_sg (a := a) hv
  have su : Sz 1600 (a.num.fdiv (a.den : Int)) := ha.n.fdiv
  have st : Sz 4800 (isqI ((b * b * c).num.fdiv ((b * b * c).den : Int))) := ((((hb.mul hb).mul hc).n).fdiv.isq).mono (by decide)
  have sp : Sz 5000 (a.num.fdiv (a.den : Int) + isqI ((b * b * c).num.fdiv ((b * b * c).den : Int))) := (su.addm st).mono (by decide)
  have sm : Sz 5000 (a.num.fdiv (a.den : Int) + -isqI ((b * b * c).num.fdiv ((b * b * c).den : Int))) := (su.addm st.neg).mono (by decide)
  by_cases hb0 : b < 0
  · have hg : decide (cmpR b 0 < 0) = true := decide_eq_true (by unfold cmpR; rw [if_pos hb0]; decide)
    have en := ic_add (a.num.fdiv (a.den : Int)) (-isqI ((b * b * c).num.fdiv ((b * b * c).den : Int)))
    rcases n2 hb0 with e | e
    · have e' : flR a b c = a.num.fdiv (a.den : Int) + -isqI ((b * b * c).num.fdiv ((b * b * c).den : Int)) := by omega
      rw [e']
      rw [e'] at sg
      exact yfl_n0 ha hb hc rfl hg sm en rfl (decide_eq_false ((sg _).1 (Int.le_refl _))) rfl (decide_eq_false (by have := (sg (a.num.fdiv (a.den : Int) + -isqI ((b * b * c).num.fdiv ((b * b * c).den : Int)) + 1)).2 (by omega); omega))
    · have e' : flR a b c = a.num.fdiv (a.den : Int) + -isqI ((b * b * c).num.fdiv ((b * b * c).den : Int)) - 1 := by omega
      rw [e']
      rw [e'] at sg
      exact yfl_nd ha hb hc rfl hg sm en rfl (decide_eq_true ((sg _).2 (by omega))) rfl (decide_eq_false ((sg _).1 (Int.le_refl _))) (decide_eq_false (by have := (sg (a.num.fdiv (a.den : Int) + -isqI ((b * b * c).num.fdiv ((b * b * c).den : Int)))).2 (by omega); omega))
  · have hg : decide (cmpR b 0 < 0) = false := decide_eq_false (by unfold cmpR; rw [if_neg hb0]; split <;> decide)
    have en := ic_add (a.num.fdiv (a.den : Int)) (isqI ((b * b * c).num.fdiv ((b * b * c).den : Int)))
    rcases n1 hb0 with e | e
    · rw [e]
      rw [e] at sg
      exact yfl_p0 ha hb hc rfl hg sp en rfl (decide_eq_false ((sg _).1 (Int.le_refl _))) rfl (decide_eq_false (by have := (sg (a.num.fdiv (a.den : Int) + isqI ((b * b * c).num.fdiv ((b * b * c).den : Int)) + 1)).2 (by omega); omega))
    · rw [e]
      rw [e] at sg
      exact yfl_pu ha hb hc rfl hg sp en rfl (decide_eq_false ((sg _).1 (by omega))) rfl (decide_eq_true (by have := (sg (a.num.fdiv (a.den : Int) + isqI ((b * b * c).num.fdiv ((b * b * c).den : Int)) + 1)).1 (by omega); omega)) rfl (decide_eq_false (by have := (sg (a.num.fdiv (a.den : Int) + isqI ((b * b * c).num.fdiv ((b * b * c).den : Int)) + 1 + 1)).2 (by omega); omega))
end
section
variable {A B C D E F : Rat} {P Q : Int}
theorem fr_one (n : Int) : fr (n + 1) 1 = (n : Rat) + 1 := fr_eq (by decide) (by rw [cv1, Rat.intCast_add]; have := cv1; grind)
theorem m1_ne {m : Int} (h : 0 ≤ m) : (m : Rat) + 1 ≠ 0 := by have := ic_nn h; grind
theorem fr_ne {P Q : Int} (hP : 0 < P) (hQ : 0 < Q) : fr P Q ≠ 0 := by
  intro e
  have h := fr_mul (p := P) hQ
  rw [e] at h
  have := ic_pos hP
  grind
theorem fr_last (n : Int) {m : Int} (h : 0 ≤ m) : fr (n * (m + 1) + 1) (m + 1) = (n : Rat) + 1 / ((m : Rat) + 1) := by
  rw [fr_shift (show 0 < m + 1 by omega) (by decide), fr_one]
theorem xbt_of (R : Res A B C D E F P Q) : Ok Tryz.prog 32 [.a (cR A ++ cR B ++ cR C), .a (cR D ++ cR E ++ cR F)] [dR (fr P Q)] := by
  induction R with
  | whole L a0 h =>
    rw [fr_one]
    exact xbt_w L rfl (decide_eq_true (by rw [val3_r L.v2.c0, ← of_n1, h]; decide))
  | @last A B C D E F w n m L a0 h hb hz hw hm tA tB m0 mz =>
    rw [fr_last n m0]
    exact xbt_l L rfl (decide_eq_false (by rw [val3_r L.v2.c0, ← of_n1]; omega)) ((val3_r L.v1.c0).trans hz) rfl (inv_of L.v2 hb hw) tA tB hm mz (m1_ne m0)
  | @step A B C D E F w1 w2 n P Q L a0 h hb hz hw1 hw2 R p0 q0 z ih =>
    rw [fr_shift p0 q0]
    exact xbt_s L rfl (decide_eq_false (by rw [val3_r L.v2.c0, ← of_n1]; omega)) ((val3_r L.v1.c0).trans hz) rfl (inv_of L.v2 hb hw2) (inv_of L.v1 hz hw1) ih z (fr_ne p0 q0)
theorem of0 (X : Re) : X - Re.of 0 = X := Re.ext fun k => by simp only [re_sub, re_of]; grind
theorem val3_0 {x y z : Rat} (hz : 0 ≤ z) : plainS (x - 0) y z = sgR (val3 x y z) := by rw [val3_p hz, of0]
theorem Lv.flA {n : Int} (L : Lv A B C D E F n) : Ok Tryz.prog 19 [.a (cR A ++ cR B ++ cR C)] [dR (n : Rat)] := by
  rw [L.nf]; exact yFloor_ok L.kA L.kB L.kC L.v1
theorem Lv.sh {n : Int} (L : Lv A B C D E F n) : plainS (A - (n : Rat) - 0) B C = sgR (val3 A B C - Re.of (n : Rat)) := by rw [val3_0 L.v1.c0, val3_sub]
theorem ybt_of (R : Res A B C D E F P Q) : Ok Tryz.prog 12 [.a (cR A ++ cR B ++ cR C), .a (cR D ++ cR E ++ cR F)] [dR (fr P Q)] := by
  induction R with
  | whole L a0 h =>
    rw [fr_one]
    exact ybt_pw L (val3_0 L.v1.c0) (decide_eq_false (by omega)) (decide_eq_true (by omega)) L.flA rfl (decide_eq_true (by rw [val3_p L.v2.c0, ← of_n1, h]; decide))
  | @last A B C D E F w n m L a0 h hb hz hw hm tA tB m0 mz =>
    rw [fr_last n m0]
    have oT := yFloor_ok (tA.mono (by decide)) (tB.mono (by decide)) L.kF ((inv_vl L.v2 hw))
    rw [← hm] at oT
    exact ybt_pl L (val3_0 L.v1.c0) (decide_eq_false (by omega)) (decide_eq_true (by omega)) L.flA rfl (decide_eq_false (by rw [val3_p L.v2.c0, ← of_n1]; omega)) (L.sh.trans hz) rfl hw mz oT (m1_ne m0)
  | @step A B C D E F w1 w2 n P Q L a0 h hb hz hw1 hw2 R p0 q0 z ih =>
    rw [fr_shift p0 q0]
    exact ybt_ps L (val3_0 L.v1.c0) (decide_eq_false (by omega)) (decide_eq_true (by omega)) L.flA rfl (decide_eq_false (by rw [val3_p L.v2.c0, ← of_n1]; omega)) (L.sh.trans hz) rfl hw2 hw1 ih z (fr_ne p0 q0)
end
theorem xBB_z {A B C D E F : Rat} (hA : Rz 12 A) (hB : Rz 12 B) (hC : Rz 12 C) (hD : Rz 12 D) (hE : Rz 12 E) (hF : Rz 12 F) (cC : 0 ≤ C) (cF : 0 ≤ F) {n1 : Int} (e1 : signQ (A - D) B (-E) 0 C F = n1) (g1 : decide (n1 ≥ 0) = false) {na : Int} (ea : signQ (A - 0) B (-0) 0 C 0 = na) (g2 : decide (na < 0) = true) {nb : Int} (eb : signQ (D - 0) E (-0) 0 F 0 = nb) (g3 : decide (nb > 0) = true) : Ok Tryz.prog 7 [.a (cR A ++ cR B ++ cR C), .a (cR D ++ cR E ++ cR F)] [dR 0, .c (.i .i64 0)] := by
  have z0 : Rz 2 (0 : Rat) := Rz.zero (by decide)
  refine Ok.of (by kernel_rfl) Tryz.func7 rfl rfl ?_
  rw [show Tryz.f7.ntmps = 39 from rfl, show Tryz.f7.results.toList = [.cell 4 26, .tmp 5] from rfl]
  refine dw_seq <| dw_region (by kernel_rfl) <| dl_new (sem_box_a rfl rfl) rfl <| dl_new (sem_box_a rfl rfl) rfl <| dl_new (sem_alloc zc26 rfl) rfl <| dl_r (sem_assign rfl rfl) <| dl_end <| dw_seq ?_
  refine dw_seq <| dw_region (by kernel_rfl) <| dl_r (sem_load (us := (cR A ++ cR B ++ cR C)) ty28 rfl rfl rfl rfl rfl) <| dl_r (sem_load (us := (cR D ++ cR E ++ cR F)) ty28 rfl rfl rfl rfl rfl) <| dl_r (sem_call rfl rfl (rcasti (xCmpQL_ok (hA.mono (by decide)) (hB.mono (by decide)) (hC.mono (by decide)) (hD.mono (by decide)) (hE.mono (by decide)) (hF.mono (by decide)) ((hA.sub hD).mono (by decide)) cC cF) e1) rfl) <| dl_r (sem_castb (sem_cmp rfl rfl rfl rfl) g1) <| dl_end <| dw_false rfl ?_
  refine dw_skip <| dw_seq <| dw_region (by kernel_rfl) <| dl_r (sem_call rfl rfl ((show Ok Tryz.prog 29 [.c (.i .i64 0)] [dR 0] from pFrom_ok (by omega) (by omega))) rfl) <| dl_new (sem_alloc zc26 rfl) rfl <| dl_st (sem_store_a ty26 rfl rfl rfl rfl rfl rfl) <| dl_end <| dw_seq ?_
  refine dw_block <| dw_seq <| dw_region (by kernel_rfl) <| dl_r (sem_load (us := (cR A ++ cR B ++ cR C)) ty28 rfl rfl rfl rfl rfl) <| dl_r (sem_load (us := cR 0) ty26 rfl rfl rfl rfl rfl) <| dl_r (sem_call rfl rfl (rcasti (xCmpRatL_ok (hA.mono (by decide)) (hB.mono (by decide)) (hC.mono (by decide)) (z0.mono (by decide)) ((hA.sub z0).mono (by decide)) cC) ea) rfl) <| dl_r (sem_castb (sem_cmp rfl rfl rfl rfl) g2) <| dl_r (sem_move rfl rfl) ?_
  refine dl_r (sem_load (us := (cR D ++ cR E ++ cR F)) ty28 rfl rfl rfl rfl rfl) <| dl_r (sem_load (us := cR 0) ty26 rfl rfl rfl rfl rfl) <| dl_r (sem_call rfl rfl (rcasti (xCmpRatL_ok (hD.mono (by decide)) (hE.mono (by decide)) (hF.mono (by decide)) (z0.mono (by decide)) ((hD.sub z0).mono (by decide)) cF) eb) rfl) <| dl_r (sem_castb (sem_cmp rfl rfl rfl rfl) g3) <| dl_r (sem_pick rfl rfl rfl rfl) <| dl_r (sem_assign rfl rfl) <| dl_end <| dw_true rfl ?_
  refine dw_seq <| dw_region (by kernel_rfl) <| dl_r (sem_load (us := cR 0) ty26 rfl rfl rfl rfl rfl) <| dl_st (sem_store_a ty26 rfl rfl rfl rfl rfl rfl) <| dl_r (sem_assign rfl rfl) <| dl_end <| dw_ret ?_
  exact ⟨.inr rfl, (resL_cell (us := cR 0) ty26 rfl rfl rfl rfl (resL_tmp rfl resL_nil))⟩
theorem xBB_p {A B C D E F : Rat} (hA : Rz 12 A) (hB : Rz 12 B) (hC : Rz 12 C) (hD : Rz 12 D) (hE : Rz 12 E) (hF : Rz 12 F) (cC : 0 ≤ C) (cF : 0 ≤ F) {n1 : Int} (e1 : signQ (A - D) B (-E) 0 C F = n1) (g1 : decide (n1 ≥ 0) = false) {na : Int} (ea : signQ (A - 0) B (-0) 0 C 0 = na) (g2 : decide (na < 0) = false) {nb : Int} (eb : signQ (D - 0) E (-0) 0 F 0 = nb) (g4 : decide (nb ≤ 0) = false) {z : Rat} (ob : Ok Tryz.prog 32 [.a (cR A ++ cR B ++ cR C), .a (cR D ++ cR E ++ cR F)] [dR z]) : Ok Tryz.prog 7 [.a (cR A ++ cR B ++ cR C), .a (cR D ++ cR E ++ cR F)] [dR z, .c (.i .i64 0)] := by
  have z0 : Rz 2 (0 : Rat) := Rz.zero (by decide)
  refine Ok.of (by kernel_rfl) Tryz.func7 rfl rfl ?_
  rw [show Tryz.f7.ntmps = 39 from rfl, show Tryz.f7.results.toList = [.cell 4 26, .tmp 5] from rfl]
  refine dw_seq <| dw_region (by kernel_rfl) <| dl_new (sem_box_a rfl rfl) rfl <| dl_new (sem_box_a rfl rfl) rfl <| dl_new (sem_alloc zc26 rfl) rfl <| dl_r (sem_assign rfl rfl) <| dl_end <| dw_seq ?_
  refine dw_seq <| dw_region (by kernel_rfl) <| dl_r (sem_load (us := (cR A ++ cR B ++ cR C)) ty28 rfl rfl rfl rfl rfl) <| dl_r (sem_load (us := (cR D ++ cR E ++ cR F)) ty28 rfl rfl rfl rfl rfl) <| dl_r (sem_call rfl rfl (rcasti (xCmpQL_ok (hA.mono (by decide)) (hB.mono (by decide)) (hC.mono (by decide)) (hD.mono (by decide)) (hE.mono (by decide)) (hF.mono (by decide)) ((hA.sub hD).mono (by decide)) cC cF) e1) rfl) <| dl_r (sem_castb (sem_cmp rfl rfl rfl rfl) g1) <| dl_end <| dw_false rfl ?_
  refine dw_skip <| dw_seq <| dw_region (by kernel_rfl) <| dl_r (sem_call rfl rfl ((show Ok Tryz.prog 29 [.c (.i .i64 0)] [dR 0] from pFrom_ok (by omega) (by omega))) rfl) <| dl_new (sem_alloc zc26 rfl) rfl <| dl_st (sem_store_a ty26 rfl rfl rfl rfl rfl rfl) <| dl_end <| dw_seq ?_
  refine dw_block <| dw_seq <| dw_region (by kernel_rfl) <| dl_r (sem_load (us := (cR A ++ cR B ++ cR C)) ty28 rfl rfl rfl rfl rfl) <| dl_r (sem_load (us := cR 0) ty26 rfl rfl rfl rfl rfl) <| dl_r (sem_call rfl rfl (rcasti (xCmpRatL_ok (hA.mono (by decide)) (hB.mono (by decide)) (hC.mono (by decide)) (z0.mono (by decide)) ((hA.sub z0).mono (by decide)) cC) ea) rfl) <| dl_r (sem_castb (sem_cmp rfl rfl rfl rfl) g2) <| dl_r (sem_move rfl rfl) ?_
  refine dl_skip (sem_skip rfl) <| dl_skip (sem_skip rfl) <| dl_skip (sem_skip rfl) <| dl_skip (sem_skip rfl) <| dl_r (sem_pick rfl rfl rfl rfl) <| dl_r (sem_assign rfl rfl) <| dl_end <| dw_false rfl ?_
  refine dw_seq <| dw_region (by kernel_rfl) <| dl_r (sem_load (us := (cR D ++ cR E ++ cR F)) ty28 rfl rfl rfl rfl rfl) <| dl_r (sem_load (us := cR 0) ty26 rfl rfl rfl rfl rfl) <| dl_r (sem_call rfl rfl (rcasti (xCmpRatL_ok (hD.mono (by decide)) (hE.mono (by decide)) (hF.mono (by decide)) (z0.mono (by decide)) ((hD.sub z0).mono (by decide)) cF) eb) rfl) <| dl_r (sem_castb (sem_cmp rfl rfl rfl rfl) g4) <| dl_r (sem_assign rfl rfl) <| dl_end ?_
  refine dw_false rfl <| dw_skip <| dw_seq <| dw_region (by kernel_rfl) <| dl_r (sem_load (us := (cR A ++ cR B ++ cR C)) ty28 rfl rfl rfl rfl rfl) <| dl_r (sem_load (us := (cR D ++ cR E ++ cR F)) ty28 rfl rfl rfl rfl rfl) <| dl_r (sem_call rfl rfl (ob) rfl) <| dl_st (sem_store_a ty26 rfl rfl rfl rfl rfl rfl) ?_
  refine dl_r (sem_assign rfl rfl) <| dl_end <| dw_ret ?_
  exact ⟨.inr rfl, (resL_cell (us := cR z) ty26 rfl rfl rfl rfl (resL_tmp rfl resL_nil))⟩
theorem xBB_n {A B C D E F : Rat} (hA : Rz 12 A) (hB : Rz 12 B) (hC : Rz 12 C) (hD : Rz 12 D) (hE : Rz 12 E) (hF : Rz 12 F) (cC : 0 ≤ C) (cF : 0 ≤ F) {n1 : Int} (e1 : signQ (A - D) B (-E) 0 C F = n1) (g1 : decide (n1 ≥ 0) = false) {na : Int} (ea : signQ (A - 0) B (-0) 0 C 0 = na) (g2 : decide (na < 0) = true) {nb : Int} (eb : signQ (D - 0) E (-0) 0 F 0 = nb) (g3 : decide (nb > 0) = false) (g4 : decide (nb ≤ 0) = true) {z : Rat} (hz : Rz 60000 z) (ob : Ok Tryz.prog 32 [.a (cR (-D) ++ cR (-E) ++ cR F), .a (cR (-A) ++ cR (-B) ++ cR C)] [dR z]) : Ok Tryz.prog 7 [.a (cR A ++ cR B ++ cR C), .a (cR D ++ cR E ++ cR F)] [dR (-z), .c (.i .i64 0)] := by
  have z0 : Rz 2 (0 : Rat) := Rz.zero (by decide)
  refine Ok.of (by kernel_rfl) Tryz.func7 rfl rfl ?_
  rw [show Tryz.f7.ntmps = 39 from rfl, show Tryz.f7.results.toList = [.cell 4 26, .tmp 5] from rfl]
  refine dw_seq <| dw_region (by kernel_rfl) <| dl_new (sem_box_a rfl rfl) rfl <| dl_new (sem_box_a rfl rfl) rfl <| dl_new (sem_alloc zc26 rfl) rfl <| dl_r (sem_assign rfl rfl) <| dl_end <| dw_seq ?_
  refine dw_seq <| dw_region (by kernel_rfl) <| dl_r (sem_load (us := (cR A ++ cR B ++ cR C)) ty28 rfl rfl rfl rfl rfl) <| dl_r (sem_load (us := (cR D ++ cR E ++ cR F)) ty28 rfl rfl rfl rfl rfl) <| dl_r (sem_call rfl rfl (rcasti (xCmpQL_ok (hA.mono (by decide)) (hB.mono (by decide)) (hC.mono (by decide)) (hD.mono (by decide)) (hE.mono (by decide)) (hF.mono (by decide)) ((hA.sub hD).mono (by decide)) cC cF) e1) rfl) <| dl_r (sem_castb (sem_cmp rfl rfl rfl rfl) g1) <| dl_end <| dw_false rfl ?_
  refine dw_skip <| dw_seq <| dw_region (by kernel_rfl) <| dl_r (sem_call rfl rfl ((show Ok Tryz.prog 29 [.c (.i .i64 0)] [dR 0] from pFrom_ok (by omega) (by omega))) rfl) <| dl_new (sem_alloc zc26 rfl) rfl <| dl_st (sem_store_a ty26 rfl rfl rfl rfl rfl rfl) <| dl_end <| dw_seq ?_
  refine dw_block <| dw_seq <| dw_region (by kernel_rfl) <| dl_r (sem_load (us := (cR A ++ cR B ++ cR C)) ty28 rfl rfl rfl rfl rfl) <| dl_r (sem_load (us := cR 0) ty26 rfl rfl rfl rfl rfl) <| dl_r (sem_call rfl rfl (rcasti (xCmpRatL_ok (hA.mono (by decide)) (hB.mono (by decide)) (hC.mono (by decide)) (z0.mono (by decide)) ((hA.sub z0).mono (by decide)) cC) ea) rfl) <| dl_r (sem_castb (sem_cmp rfl rfl rfl rfl) g2) <| dl_r (sem_move rfl rfl) ?_
  refine dl_r (sem_load (us := (cR D ++ cR E ++ cR F)) ty28 rfl rfl rfl rfl rfl) <| dl_r (sem_load (us := cR 0) ty26 rfl rfl rfl rfl rfl) <| dl_r (sem_call rfl rfl (rcasti (xCmpRatL_ok (hD.mono (by decide)) (hE.mono (by decide)) (hF.mono (by decide)) (z0.mono (by decide)) ((hD.sub z0).mono (by decide)) cF) eb) rfl) <| dl_r (sem_castb (sem_cmp rfl rfl rfl rfl) g3) <| dl_r (sem_pick rfl rfl rfl rfl) <| dl_r (sem_assign rfl rfl) <| dl_end <| dw_false rfl ?_
  refine dw_seq <| dw_region (by kernel_rfl) <| dl_r (sem_load (us := (cR D ++ cR E ++ cR F)) ty28 rfl rfl rfl rfl rfl) <| dl_r (sem_load (us := cR 0) ty26 rfl rfl rfl rfl rfl) <| dl_r (sem_call rfl rfl (rcasti (xCmpRatL_ok (hD.mono (by decide)) (hE.mono (by decide)) (hF.mono (by decide)) (z0.mono (by decide)) ((hD.sub z0).mono (by decide)) cF) eb) rfl) <| dl_r (sem_castb (sem_cmp rfl rfl rfl rfl) g4) <| dl_r (sem_assign rfl rfl) <| dl_end ?_
  refine dw_true rfl <| dw_seq <| dw_draw 6 [] follows_mixed (by kernel_rfl) rfl rfl <| dq_r (sem_load (us := (cR D ++ cR E ++ cR F)) ty28 rfl rfl rfl rfl rfl) <| dq_r (sem_call rfl rfl (rtNegL_ok (hD.mono (by decide)) (hE.mono (by decide))) rfl) <| dq_r (sem_load (us := (cR A ++ cR B ++ cR C)) ty28 rfl rfl rfl rfl rfl) <| dq_r (sem_call rfl rfl (rtNegL_ok (hA.mono (by decide)) (hB.mono (by decide))) rfl) <| dq_r (sem_call rfl rfl (ob) rfl) ?_
  refine dq_r (sem_call rfl rfl (pNegL_ok hz) rfl) <| dq_end <| dl_start0 <| dl_st (sem_store_a ty26 rfl rfl rfl rfl rfl rfl) <| dl_r (sem_assign rfl rfl) <| dl_end <| dw_ret ?_
  exact ⟨.inr rfl, (resL_cell (us := cR (-z)) ty26 rfl rfl rfl rfl (resL_tmp rfl resL_nil))⟩
theorem ybt_z {A B C D E F : Rat} (hA : Rz 12 A) (hB : Rz 12 B) (hC : Rz 12 C) (hD : Rz 12 D) (hE : Rz 12 E) (hF : Rz 12 F) (_cC : 0 ≤ C) (_cF : 0 ≤ F) {c0 : Int} (e0 : plainS (A - 0) B C = c0) (g0 : decide (c0 < 0) = true) {d0 : Int} (f0 : plainS (D - 0) E F = d0) (k0 : decide (d0 > 0) = true) : Ok Tryz.prog 12 [.a (cR A ++ cR B ++ cR C), .a (cR D ++ cR E ++ cR F)] [dR 0] := by
  have z0 : Rz 2 (0 : Rat) := Rz.zero (by decide)
  have h0 : Rz 60000 (0 : Rat) := Rz.zero (by decide)
  refine Ok.of (by kernel_rfl) Tryz.func12 rfl rfl ?_
  rw [show Tryz.f12.ntmps = 81 from rfl, show Tryz.f12.results.toList = [.cell 4 26] from rfl]
  refine dw_seq <| dw_region (by kernel_rfl) <| dl_new (sem_box_a rfl rfl) rfl <| dl_new (sem_box_a rfl rfl) rfl <| dl_new (sem_alloc zc26 rfl) rfl <| dl_end <| dw_seq <| dw_region (by kernel_rfl) ?_
  refine dl_r (sem_call rfl rfl ((show Ok Tryz.prog 42 [.c (.i .i64 1)] [dR 1] from sFrom_ok (by omega) (by omega))) rfl) <| dl_r (sem_call rfl rfl ((show Ok Tryz.prog 42 [.c (.i .i64 0)] [dR 0] from sFrom_ok (by omega) (by omega))) rfl) <| dl_new (sem_alloc zc26 rfl) rfl <| dl_new (sem_alloc zc26 rfl) rfl <| dl_st (sem_store_a ty26 rfl rfl rfl rfl rfl rfl) <| dl_st (sem_store_a ty26 rfl rfl rfl rfl rfl rfl) <| dl_end <| dw_seq ?_
  refine dw_seq <| dw_region (by kernel_rfl) <| dl_r (sem_load (us := (cR A ++ cR B ++ cR C)) ty28 rfl rfl rfl rfl rfl) <| dl_r (sem_load (us := cR 0) ty26 rfl rfl rfl rfl rfl) <| dl_r (sem_call rfl rfl (rcasti (yCmpRat_ok (hA.mono (by decide)) h0 ((hA.sub z0).mono (by decide)) (hB.mono (by decide)) (hC.mono (by decide))) e0) rfl) <| dl_r (sem_castb (sem_cmp rfl rfl rfl rfl) g0) <| dl_r (sem_move rfl rfl) <| dl_r (sem_load (us := (cR D ++ cR E ++ cR F)) ty28 rfl rfl rfl rfl rfl) ?_
  refine dl_r (sem_load (us := cR 0) ty26 rfl rfl rfl rfl rfl) <| dl_r (sem_call rfl rfl (rcasti (yCmpRat_ok (hD.mono (by decide)) h0 ((hD.sub z0).mono (by decide)) (hE.mono (by decide)) (hF.mono (by decide))) f0) rfl) <| dl_r (sem_castb (sem_cmp rfl rfl rfl rfl) k0) <| dl_r (sem_pick rfl rfl rfl rfl) <| dl_end <| dw_true rfl <| dw_seq <| dw_region (by kernel_rfl) ?_
  refine dl_r (sem_load (us := cR 0) ty26 rfl rfl rfl rfl rfl) <| dl_st (sem_store_a ty26 rfl rfl rfl rfl rfl rfl) <| dl_end <| dw_ret ?_
  exact ⟨.inr rfl, (resL_cell (us := cR 0) ty26 rfl rfl rfl rfl resL_nil)⟩
end Go.Proofs.YthlnndkgpgfbnaaGreat
