/- RadicalSimplest: the law at all readings. -/
import Derived.Test.YthlnndkgpgfbnaaGreatRsP
import Derived.Test.YthlnndkgpgfbnaaGreatRows
import Derived.Deep.Slices
import Derived.ProofKit
import Derived.OpenShut
import Derived.Carry
namespace Go.Proofs.YthlnndkgpgfbnaaGreat
open Go Go.RowKit
theorem lwSi_0 {x1 x2 x3 y1 y2 y3 : RN} (oS1 : Ok Tryz.prog 6 [.a (cN x1 ++ cN x2 ++ cN x3)] [.c (.b false)]) : Ok Tryz.prog 4 [.a (cN x1 ++ cN x2 ++ cN x3), .a (cN y1 ++ cN y2 ++ cN y3)] [.c (.b true)] := by
  refine Ok.of (by kernel_rfl) Tryz.func4 rfl rfl ?_
  rw [show Tryz.f4.ntmps = 119 from rfl, show Tryz.f4.results.toList = [.tmp 4] from rfl]
  refine dw_seq <| dw_region (by kernel_rfl) <| dl_new (sem_box_a rfl rfl) rfl <| dl_new (sem_box_a rfl rfl) rfl <| dl_r (sem_assign rfl rfl) <| dl_end <| dw_seq <| dw_seq ?_
  refine dw_region (by kernel_rfl) <| dl_r (sem_call rfl rfl (awake5_ok) rfl) <| dl_r (sem_not rfl rfl) <| dl_r (sem_move rfl rfl) <| dl_r (sem_load (us := (cN x1 ++ cN x2 ++ cN x3)) ty28 rfl rfl rfl rfl rfl) <| dl_r (sem_call rfl rfl (oS1) rfl) <| dl_r (sem_not rfl rfl) <| dl_r (sem_pick rfl rfl rfl rfl) ?_
  refine dl_r (sem_move rfl rfl) <| dl_skip (sem_skip rfl) <| dl_skip (sem_skip rfl) <| dl_skip (sem_skip rfl) <| dl_r (sem_pick rfl rfl rfl rfl) <| dl_r (sem_move rfl rfl) <| dl_skip (sem_skip rfl) <| dl_skip (sem_skip rfl) ?_
  refine dl_skip (sem_skip rfl) <| dl_skip (sem_skip rfl) <| dl_r (sem_pick rfl rfl rfl rfl) <| dl_end <| dw_true rfl <| dw_seq <| dw_region (by kernel_rfl) <| dl_r (sem_call rfl rfl (awake5_ok) rfl) ?_
  refine dl_r (sem_assign rfl rfl) <| dl_end <| dw_ret ?_
  exact ⟨.inr rfl, (resL_tmp rfl resL_nil)⟩
theorem lwSi_1 {x1 x2 x3 y1 y2 y3 : RN} (oS1 : Ok Tryz.prog 6 [.a (cN x1 ++ cN x2 ++ cN x3)] [.c (.b true)]) (oS2 : Ok Tryz.prog 6 [.a (cN y1 ++ cN y2 ++ cN y3)] [.c (.b false)]) : Ok Tryz.prog 4 [.a (cN x1 ++ cN x2 ++ cN x3), .a (cN y1 ++ cN y2 ++ cN y3)] [.c (.b true)] := by
  refine Ok.of (by kernel_rfl) Tryz.func4 rfl rfl ?_
  rw [show Tryz.f4.ntmps = 119 from rfl, show Tryz.f4.results.toList = [.tmp 4] from rfl]
  refine dw_seq <| dw_region (by kernel_rfl) <| dl_new (sem_box_a rfl rfl) rfl <| dl_new (sem_box_a rfl rfl) rfl <| dl_r (sem_assign rfl rfl) <| dl_end <| dw_seq <| dw_seq ?_
  refine dw_region (by kernel_rfl) <| dl_r (sem_call rfl rfl (awake5_ok) rfl) <| dl_r (sem_not rfl rfl) <| dl_r (sem_move rfl rfl) <| dl_r (sem_load (us := (cN x1 ++ cN x2 ++ cN x3)) ty28 rfl rfl rfl rfl rfl) <| dl_r (sem_call rfl rfl (oS1) rfl) <| dl_r (sem_not rfl rfl) <| dl_r (sem_pick rfl rfl rfl rfl) ?_
  refine dl_r (sem_move rfl rfl) <| dl_r (sem_load (us := (cN y1 ++ cN y2 ++ cN y3)) ty28 rfl rfl rfl rfl rfl) <| dl_r (sem_call rfl rfl (oS2) rfl) <| dl_r (sem_not rfl rfl) <| dl_r (sem_pick rfl rfl rfl rfl) <| dl_r (sem_move rfl rfl) <| dl_skip (sem_skip rfl) <| dl_skip (sem_skip rfl) ?_
  refine dl_skip (sem_skip rfl) <| dl_skip (sem_skip rfl) <| dl_r (sem_pick rfl rfl rfl rfl) <| dl_end <| dw_true rfl <| dw_seq <| dw_region (by kernel_rfl) <| dl_r (sem_call rfl rfl (awake5_ok) rfl) ?_
  refine dl_r (sem_assign rfl rfl) <| dl_end <| dw_ret ?_
  exact ⟨.inr rfl, (resL_tmp rfl resL_nil)⟩
theorem lwSi_ge {A B C D E F : Rat} (hA : Rz 2 A) (hB : Rz 2 B) (hC : Rz 2 C) (hD : Rz 2 D) (hE : Rz 2 E) (hF : Rz 2 F) (_cC : 0 ≤ C) (_cF : 0 ≤ F) (oS1 : Ok Tryz.prog 6 [.a (cR A ++ cR B ++ cR C)] [.c (.b true)]) (oS2 : Ok Tryz.prog 6 [.a (cR D ++ cR E ++ cR F)] [.c (.b true)]) {n1 : Int} (e1 : signQ (A - D) B (-E) 0 C F = n1) (g1 : decide (n1 ≥ 0) = true)  : Ok Tryz.prog 4 [.a (cR A ++ cR B ++ cR C), .a (cR D ++ cR E ++ cR F)] [.c (.b true)] := by
  refine Ok.of (by kernel_rfl) Tryz.func4 rfl rfl ?_
  rw [show Tryz.f4.ntmps = 119 from rfl, show Tryz.f4.results.toList = [.tmp 4] from rfl]
  refine dw_seq <| dw_region (by kernel_rfl) <| dl_new (sem_box_a rfl rfl) rfl <| dl_new (sem_box_a rfl rfl) rfl <| dl_r (sem_assign rfl rfl) <| dl_end <| dw_seq <| dw_seq ?_
  refine dw_region (by kernel_rfl) <| dl_r (sem_call rfl rfl (awake5_ok) rfl) <| dl_r (sem_not rfl rfl) <| dl_r (sem_move rfl rfl) <| dl_r (sem_load (us := (cR A ++ cR B ++ cR C)) ty28 rfl rfl rfl rfl rfl) <| dl_r (sem_call rfl rfl (oS1) rfl) <| dl_r (sem_not rfl rfl) <| dl_r (sem_pick rfl rfl rfl rfl) ?_
  refine dl_r (sem_move rfl rfl) <| dl_r (sem_load (us := (cR D ++ cR E ++ cR F)) ty28 rfl rfl rfl rfl rfl) <| dl_r (sem_call rfl rfl (oS2) rfl) <| dl_r (sem_not rfl rfl) <| dl_r (sem_pick rfl rfl rfl rfl) <| dl_r (sem_move rfl rfl) <| dl_r (sem_load (us := (cR A ++ cR B ++ cR C)) ty28 rfl rfl rfl rfl rfl) <| dl_r (sem_load (us := (cR D ++ cR E ++ cR F)) ty28 rfl rfl rfl rfl rfl) ?_
  refine dl_r (sem_call rfl rfl (rcasti (yCmp_ok (hA.mono (by decide)) (hB.mono (by decide)) (hC.mono (by decide)) (hD.mono (by decide)) (hE.mono (by decide)) (hF.mono (by decide))) e1) rfl) <| dl_r (sem_castb (sem_cmp rfl rfl rfl rfl) g1) <| dl_r (sem_pick rfl rfl rfl rfl) <| dl_end <| dw_true rfl <| dw_seq <| dw_region (by kernel_rfl) <| dl_r (sem_call rfl rfl (awake5_ok) rfl) ?_
  refine dl_r (sem_assign rfl rfl) <| dl_end <| dw_ret ?_
  exact ⟨.inr rfl, (resL_tmp rfl resL_nil)⟩
theorem lwSi_i0 {A B C D E F : Rat} (hA : Rz 2 A) (hB : Rz 2 B) (hC : Rz 2 C) (hD : Rz 2 D) (hE : Rz 2 E) (hF : Rz 2 F) (_cC : 0 ≤ C) (_cF : 0 ≤ F) (oS1 : Ok Tryz.prog 6 [.a (cR A ++ cR B ++ cR C)] [.c (.b true)]) (oS2 : Ok Tryz.prog 6 [.a (cR D ++ cR E ++ cR F)] [.c (.b true)]) {n1 : Int} (e1 : signQ (A - D) B (-E) 0 C F = n1) (g1 : decide (n1 ≥ 0) = false) {z : Rat} (kz : Rz 237 z) (oP : Ok Tryz.prog 7 [.a (cR A ++ cR B ++ cR C), .a (cR D ++ cR E ++ cR F)] [dR z, .c (.i .i64 0)]) (oI : Ok Tryz.prog 13 [dI (z.den : Int)] [.c (.i .i64 1), .c (.b true)]) (hz : (cmpR z 0 == 0) = true) : Ok Tryz.prog 4 [.a (cR A ++ cR B ++ cR C), .a (cR D ++ cR E ++ cR F)] [.c (.b true)] := by
  have ks : Rz 3 ((cmpR z 0 : Int) : Rat) := Rz.num (by have := cmpR_bd z 0; omega) (by have := cmpR_bd z 0; omega)
  have kt : Rz 241 (z - ((cmpR z 0 : Int) : Rat)) := kz.sub ks
  refine Ok.of (by kernel_rfl) Tryz.func4 rfl rfl ?_
  rw [show Tryz.f4.ntmps = 119 from rfl, show Tryz.f4.results.toList = [.tmp 4] from rfl]
  refine dw_seq <| dw_region (by kernel_rfl) <| dl_new (sem_box_a rfl rfl) rfl <| dl_new (sem_box_a rfl rfl) rfl <| dl_r (sem_assign rfl rfl) <| dl_end <| dw_seq <| dw_seq ?_
  refine dw_region (by kernel_rfl) <| dl_r (sem_call rfl rfl (awake5_ok) rfl) <| dl_r (sem_not rfl rfl) <| dl_r (sem_move rfl rfl) <| dl_r (sem_load (us := (cR A ++ cR B ++ cR C)) ty28 rfl rfl rfl rfl rfl) <| dl_r (sem_call rfl rfl (oS1) rfl) <| dl_r (sem_not rfl rfl) <| dl_r (sem_pick rfl rfl rfl rfl) ?_
  refine dl_r (sem_move rfl rfl) <| dl_r (sem_load (us := (cR D ++ cR E ++ cR F)) ty28 rfl rfl rfl rfl rfl) <| dl_r (sem_call rfl rfl (oS2) rfl) <| dl_r (sem_not rfl rfl) <| dl_r (sem_pick rfl rfl rfl rfl) <| dl_r (sem_move rfl rfl) <| dl_r (sem_load (us := (cR A ++ cR B ++ cR C)) ty28 rfl rfl rfl rfl rfl) <| dl_r (sem_load (us := (cR D ++ cR E ++ cR F)) ty28 rfl rfl rfl rfl rfl) ?_
  refine dl_r (sem_call rfl rfl (rcasti (yCmp_ok (hA.mono (by decide)) (hB.mono (by decide)) (hC.mono (by decide)) (hD.mono (by decide)) (hE.mono (by decide)) (hF.mono (by decide))) e1) rfl) <| dl_r (sem_castb (sem_cmp rfl rfl rfl rfl) g1) <| dl_r (sem_pick rfl rfl rfl rfl) <| dl_end <| dw_false rfl <| dw_skip <| dw_seq <| dw_region (by kernel_rfl) ?_
  refine dl_r (sem_load (us := (cR A ++ cR B ++ cR C)) ty28 rfl rfl rfl rfl rfl) <| dl_r (sem_load (us := (cR D ++ cR E ++ cR F)) ty28 rfl rfl rfl rfl rfl) <| dl_r (sem_call rfl rfl (oP) rfl) <| dl_r (sem_move rfl rfl) <| dl_r (sem_extract rfl rfl rfl) <| dl_r (sem_extract rfl rfl rfl) <| dl_new (sem_alloc zc26 rfl) rfl <| dl_st (sem_store_a ty26 rfl rfl rfl rfl rfl rfl) ?_
  refine dl_r (sem_assign rfl rfl) <| dl_end <| dw_seq <| dw_seq <| dw_region (by kernel_rfl) <| dl_r (sem_move rfl rfl) <| dl_r (sem_cmp rfl rfl rfl rfl) <| dl_r (sem_move rfl rfl) ?_
  refine dl_r (sem_load (us := cR z) ty26 rfl rfl rfl rfl rfl) <| dl_r (sem_call rfl rfl (sValid_R (kz.mono (by decide))) rfl) <| dl_r (sem_not rfl rfl) <| dl_r (sem_pick rfl rfl rfl rfl) <| dl_end <| dw_false rfl <| dw_skip <| dw_seq ?_
  refine dw_region (by kernel_rfl) <| dl_r (sem_field fd26_1 rfl rfl) <| dl_r (sem_load (us := cI (z.den : Int)) ty24 rfl rfl rfl rfl rfl) <| dl_r (sem_call rfl rfl (oI) rfl) <| dl_r (sem_move rfl rfl) <| dl_r (sem_extract rfl rfl rfl) <| dl_r (sem_extract rfl rfl rfl) <| dl_r (sem_assign rfl rfl) ?_
  refine dl_r (sem_assign rfl rfl) <| dl_end <| dw_seq <| dw_seq <| dw_region (by kernel_rfl) <| dl_r (sem_move rfl rfl) <| dl_r (sem_move rfl rfl) <| dl_r (sem_move rfl rfl) ?_
  refine dl_r (sem_cmp rfl rfl rfl rfl) <| dl_r (sem_pick rfl rfl rfl rfl) <| dl_end <| dw_true rfl <| dw_seq <| dw_draw 6 [] follows_mixed (by kernel_rfl) rfl rfl <| dq_r (sem_load (us := cR z) ty26 rfl rfl rfl rfl rfl) <| dq_r (sem_load (us := cR z) ty26 rfl rfl rfl rfl rfl) ?_
  refine dq_r (sem_call rfl rfl (sSign_ok) rfl) <| dq_r (sem_call rfl rfl (lwNum_ok (by have := cmpR_bd z 0; omega) (by have := cmpR_bd z 0; omega)) rfl) <| dq_r (sem_call rfl rfl (sSubL_ok (kz.mono (by decide)) (ks.mono (by decide))) rfl) <| dq_new (sem_alloc zc26 rfl) rfl <| dq_end <| dl_start1 <| dl_st (sem_store_a ty26 rfl rfl rfl rfl rfl rfl) <| dl_end ?_
  refine dw_seq <| dw_region (by kernel_rfl) <| dl_r (sem_load (us := cR z) ty26 rfl rfl rfl rfl rfl) <| dl_r (sem_call rfl rfl (sSign_ok) rfl) <| dl_r (sem_castb (sem_cmp rfl rfl rfl rfl) hz) <| dl_r (sem_move rfl rfl) <| dl_skip (sem_skip rfl) <| dl_skip (sem_skip rfl) ?_
  refine dl_skip (sem_skip rfl) <| dl_skip (sem_skip rfl) <| dl_r (sem_pick rfl rfl rfl rfl) <| dl_r (sem_move rfl rfl) <| dl_skip (sem_skip rfl) <| dl_skip (sem_skip rfl) <| dl_skip (sem_skip rfl) <| dl_skip (sem_skip rfl) ?_
  refine dl_r (sem_pick rfl rfl rfl rfl) <| dl_r (sem_assign rfl rfl) <| dl_end <| dw_ret ?_
  exact ⟨.inr rfl, (resL_tmp rfl resL_nil)⟩
theorem lwSi_i1 {A B C D E F : Rat} (hA : Rz 2 A) (hB : Rz 2 B) (hC : Rz 2 C) (hD : Rz 2 D) (hE : Rz 2 E) (hF : Rz 2 F) (_cC : 0 ≤ C) (_cF : 0 ≤ F) (oS1 : Ok Tryz.prog 6 [.a (cR A ++ cR B ++ cR C)] [.c (.b true)]) (oS2 : Ok Tryz.prog 6 [.a (cR D ++ cR E ++ cR F)] [.c (.b true)]) {n1 : Int} (e1 : signQ (A - D) B (-E) 0 C F = n1) (g1 : decide (n1 ≥ 0) = false) {z : Rat} (kz : Rz 237 z) (oP : Ok Tryz.prog 7 [.a (cR A ++ cR B ++ cR C), .a (cR D ++ cR E ++ cR F)] [dR z, .c (.i .i64 0)]) (oI : Ok Tryz.prog 13 [dI (z.den : Int)] [.c (.i .i64 1), .c (.b true)]) (hz : (cmpR z 0 == 0) = false) {na : Int} (ea : plainS (A - (z - ((cmpR z 0 : Int) : Rat))) B C = na) (ga : decide (na ≥ 0) = true)  : Ok Tryz.prog 4 [.a (cR A ++ cR B ++ cR C), .a (cR D ++ cR E ++ cR F)] [.c (.b true)] := by
  have ks : Rz 3 ((cmpR z 0 : Int) : Rat) := Rz.num (by have := cmpR_bd z 0; omega) (by have := cmpR_bd z 0; omega)
  have kt : Rz 241 (z - ((cmpR z 0 : Int) : Rat)) := kz.sub ks
  refine Ok.of (by kernel_rfl) Tryz.func4 rfl rfl ?_
  rw [show Tryz.f4.ntmps = 119 from rfl, show Tryz.f4.results.toList = [.tmp 4] from rfl]
  refine dw_seq <| dw_region (by kernel_rfl) <| dl_new (sem_box_a rfl rfl) rfl <| dl_new (sem_box_a rfl rfl) rfl <| dl_r (sem_assign rfl rfl) <| dl_end <| dw_seq <| dw_seq ?_
  refine dw_region (by kernel_rfl) <| dl_r (sem_call rfl rfl (awake5_ok) rfl) <| dl_r (sem_not rfl rfl) <| dl_r (sem_move rfl rfl) <| dl_r (sem_load (us := (cR A ++ cR B ++ cR C)) ty28 rfl rfl rfl rfl rfl) <| dl_r (sem_call rfl rfl (oS1) rfl) <| dl_r (sem_not rfl rfl) <| dl_r (sem_pick rfl rfl rfl rfl) ?_
  refine dl_r (sem_move rfl rfl) <| dl_r (sem_load (us := (cR D ++ cR E ++ cR F)) ty28 rfl rfl rfl rfl rfl) <| dl_r (sem_call rfl rfl (oS2) rfl) <| dl_r (sem_not rfl rfl) <| dl_r (sem_pick rfl rfl rfl rfl) <| dl_r (sem_move rfl rfl) <| dl_r (sem_load (us := (cR A ++ cR B ++ cR C)) ty28 rfl rfl rfl rfl rfl) <| dl_r (sem_load (us := (cR D ++ cR E ++ cR F)) ty28 rfl rfl rfl rfl rfl) ?_
  refine dl_r (sem_call rfl rfl (rcasti (yCmp_ok (hA.mono (by decide)) (hB.mono (by decide)) (hC.mono (by decide)) (hD.mono (by decide)) (hE.mono (by decide)) (hF.mono (by decide))) e1) rfl) <| dl_r (sem_castb (sem_cmp rfl rfl rfl rfl) g1) <| dl_r (sem_pick rfl rfl rfl rfl) <| dl_end <| dw_false rfl <| dw_skip <| dw_seq <| dw_region (by kernel_rfl) ?_
  refine dl_r (sem_load (us := (cR A ++ cR B ++ cR C)) ty28 rfl rfl rfl rfl rfl) <| dl_r (sem_load (us := (cR D ++ cR E ++ cR F)) ty28 rfl rfl rfl rfl rfl) <| dl_r (sem_call rfl rfl (oP) rfl) <| dl_r (sem_move rfl rfl) <| dl_r (sem_extract rfl rfl rfl) <| dl_r (sem_extract rfl rfl rfl) <| dl_new (sem_alloc zc26 rfl) rfl <| dl_st (sem_store_a ty26 rfl rfl rfl rfl rfl rfl) ?_
  refine dl_r (sem_assign rfl rfl) <| dl_end <| dw_seq <| dw_seq <| dw_region (by kernel_rfl) <| dl_r (sem_move rfl rfl) <| dl_r (sem_cmp rfl rfl rfl rfl) <| dl_r (sem_move rfl rfl) ?_
  refine dl_r (sem_load (us := cR z) ty26 rfl rfl rfl rfl rfl) <| dl_r (sem_call rfl rfl (sValid_R (kz.mono (by decide))) rfl) <| dl_r (sem_not rfl rfl) <| dl_r (sem_pick rfl rfl rfl rfl) <| dl_end <| dw_false rfl <| dw_skip <| dw_seq ?_
  refine dw_region (by kernel_rfl) <| dl_r (sem_field fd26_1 rfl rfl) <| dl_r (sem_load (us := cI (z.den : Int)) ty24 rfl rfl rfl rfl rfl) <| dl_r (sem_call rfl rfl (oI) rfl) <| dl_r (sem_move rfl rfl) <| dl_r (sem_extract rfl rfl rfl) <| dl_r (sem_extract rfl rfl rfl) <| dl_r (sem_assign rfl rfl) ?_
  refine dl_r (sem_assign rfl rfl) <| dl_end <| dw_seq <| dw_seq <| dw_region (by kernel_rfl) <| dl_r (sem_move rfl rfl) <| dl_r (sem_move rfl rfl) <| dl_r (sem_move rfl rfl) ?_
  refine dl_r (sem_cmp rfl rfl rfl rfl) <| dl_r (sem_pick rfl rfl rfl rfl) <| dl_end <| dw_true rfl <| dw_seq <| dw_draw 6 [] follows_mixed (by kernel_rfl) rfl rfl <| dq_r (sem_load (us := cR z) ty26 rfl rfl rfl rfl rfl) <| dq_r (sem_load (us := cR z) ty26 rfl rfl rfl rfl rfl) ?_
  refine dq_r (sem_call rfl rfl (sSign_ok) rfl) <| dq_r (sem_call rfl rfl (lwNum_ok (by have := cmpR_bd z 0; omega) (by have := cmpR_bd z 0; omega)) rfl) <| dq_r (sem_call rfl rfl (sSubL_ok (kz.mono (by decide)) (ks.mono (by decide))) rfl) <| dq_new (sem_alloc zc26 rfl) rfl <| dq_end <| dl_start1 <| dl_st (sem_store_a ty26 rfl rfl rfl rfl rfl rfl) <| dl_end ?_
  refine dw_seq <| dw_region (by kernel_rfl) <| dl_r (sem_load (us := cR z) ty26 rfl rfl rfl rfl rfl) <| dl_r (sem_call rfl rfl (sSign_ok) rfl) <| dl_r (sem_castb (sem_cmp rfl rfl rfl rfl) hz) <| dl_r (sem_move rfl rfl) <| dl_r (sem_load (us := (cR A ++ cR B ++ cR C)) ty28 rfl rfl rfl rfl rfl) <| dl_r (sem_load (us := cR (z - ((cmpR z 0 : Int) : Rat))) ty26 rfl rfl rfl rfl rfl) ?_
  refine dl_r (sem_call rfl rfl (rcasti (yCmpRat_ok (hA.mono (by decide)) (kt.mono (by decide)) ((hA.sub kt).mono (by decide)) (hB.mono (by decide)) (hC.mono (by decide))) ea) rfl) <| dl_r (sem_castb (sem_cmp rfl rfl rfl rfl) ga) <| dl_r (sem_pick rfl rfl rfl rfl) <| dl_r (sem_move rfl rfl) <| dl_skip (sem_skip rfl) <| dl_skip (sem_skip rfl) <| dl_skip (sem_skip rfl) <| dl_skip (sem_skip rfl) ?_
  refine dl_r (sem_pick rfl rfl rfl rfl) <| dl_r (sem_assign rfl rfl) <| dl_end <| dw_ret ?_
  exact ⟨.inr rfl, (resL_tmp rfl resL_nil)⟩
theorem lwSi_i2 {A B C D E F : Rat} (hA : Rz 2 A) (hB : Rz 2 B) (hC : Rz 2 C) (hD : Rz 2 D) (hE : Rz 2 E) (hF : Rz 2 F) (_cC : 0 ≤ C) (_cF : 0 ≤ F) (oS1 : Ok Tryz.prog 6 [.a (cR A ++ cR B ++ cR C)] [.c (.b true)]) (oS2 : Ok Tryz.prog 6 [.a (cR D ++ cR E ++ cR F)] [.c (.b true)]) {n1 : Int} (e1 : signQ (A - D) B (-E) 0 C F = n1) (g1 : decide (n1 ≥ 0) = false) {z : Rat} (kz : Rz 237 z) (oP : Ok Tryz.prog 7 [.a (cR A ++ cR B ++ cR C), .a (cR D ++ cR E ++ cR F)] [dR z, .c (.i .i64 0)]) (oI : Ok Tryz.prog 13 [dI (z.den : Int)] [.c (.i .i64 1), .c (.b true)]) (hz : (cmpR z 0 == 0) = false) {na : Int} (ea : plainS (A - (z - ((cmpR z 0 : Int) : Rat))) B C = na) (ga : decide (na ≥ 0) = false) {nb : Int} (eb : plainS (D - (z - ((cmpR z 0 : Int) : Rat))) E F = nb) (gb : decide (nb ≤ 0) = true)  : Ok Tryz.prog 4 [.a (cR A ++ cR B ++ cR C), .a (cR D ++ cR E ++ cR F)] [.c (.b true)] := by
  have ks : Rz 3 ((cmpR z 0 : Int) : Rat) := Rz.num (by have := cmpR_bd z 0; omega) (by have := cmpR_bd z 0; omega)
  have kt : Rz 241 (z - ((cmpR z 0 : Int) : Rat)) := kz.sub ks
  refine Ok.of (by kernel_rfl) Tryz.func4 rfl rfl ?_
  rw [show Tryz.f4.ntmps = 119 from rfl, show Tryz.f4.results.toList = [.tmp 4] from rfl]
  refine dw_seq <| dw_region (by kernel_rfl) <| dl_new (sem_box_a rfl rfl) rfl <| dl_new (sem_box_a rfl rfl) rfl <| dl_r (sem_assign rfl rfl) <| dl_end <| dw_seq <| dw_seq ?_
  refine dw_region (by kernel_rfl) <| dl_r (sem_call rfl rfl (awake5_ok) rfl) <| dl_r (sem_not rfl rfl) <| dl_r (sem_move rfl rfl) <| dl_r (sem_load (us := (cR A ++ cR B ++ cR C)) ty28 rfl rfl rfl rfl rfl) <| dl_r (sem_call rfl rfl (oS1) rfl) <| dl_r (sem_not rfl rfl) <| dl_r (sem_pick rfl rfl rfl rfl) ?_
  refine dl_r (sem_move rfl rfl) <| dl_r (sem_load (us := (cR D ++ cR E ++ cR F)) ty28 rfl rfl rfl rfl rfl) <| dl_r (sem_call rfl rfl (oS2) rfl) <| dl_r (sem_not rfl rfl) <| dl_r (sem_pick rfl rfl rfl rfl) <| dl_r (sem_move rfl rfl) <| dl_r (sem_load (us := (cR A ++ cR B ++ cR C)) ty28 rfl rfl rfl rfl rfl) <| dl_r (sem_load (us := (cR D ++ cR E ++ cR F)) ty28 rfl rfl rfl rfl rfl) ?_
  refine dl_r (sem_call rfl rfl (rcasti (yCmp_ok (hA.mono (by decide)) (hB.mono (by decide)) (hC.mono (by decide)) (hD.mono (by decide)) (hE.mono (by decide)) (hF.mono (by decide))) e1) rfl) <| dl_r (sem_castb (sem_cmp rfl rfl rfl rfl) g1) <| dl_r (sem_pick rfl rfl rfl rfl) <| dl_end <| dw_false rfl <| dw_skip <| dw_seq <| dw_region (by kernel_rfl) ?_
  refine dl_r (sem_load (us := (cR A ++ cR B ++ cR C)) ty28 rfl rfl rfl rfl rfl) <| dl_r (sem_load (us := (cR D ++ cR E ++ cR F)) ty28 rfl rfl rfl rfl rfl) <| dl_r (sem_call rfl rfl (oP) rfl) <| dl_r (sem_move rfl rfl) <| dl_r (sem_extract rfl rfl rfl) <| dl_r (sem_extract rfl rfl rfl) <| dl_new (sem_alloc zc26 rfl) rfl <| dl_st (sem_store_a ty26 rfl rfl rfl rfl rfl rfl) ?_
  refine dl_r (sem_assign rfl rfl) <| dl_end <| dw_seq <| dw_seq <| dw_region (by kernel_rfl) <| dl_r (sem_move rfl rfl) <| dl_r (sem_cmp rfl rfl rfl rfl) <| dl_r (sem_move rfl rfl) ?_
  refine dl_r (sem_load (us := cR z) ty26 rfl rfl rfl rfl rfl) <| dl_r (sem_call rfl rfl (sValid_R (kz.mono (by decide))) rfl) <| dl_r (sem_not rfl rfl) <| dl_r (sem_pick rfl rfl rfl rfl) <| dl_end <| dw_false rfl <| dw_skip <| dw_seq ?_
  refine dw_region (by kernel_rfl) <| dl_r (sem_field fd26_1 rfl rfl) <| dl_r (sem_load (us := cI (z.den : Int)) ty24 rfl rfl rfl rfl rfl) <| dl_r (sem_call rfl rfl (oI) rfl) <| dl_r (sem_move rfl rfl) <| dl_r (sem_extract rfl rfl rfl) <| dl_r (sem_extract rfl rfl rfl) <| dl_r (sem_assign rfl rfl) ?_
  refine dl_r (sem_assign rfl rfl) <| dl_end <| dw_seq <| dw_seq <| dw_region (by kernel_rfl) <| dl_r (sem_move rfl rfl) <| dl_r (sem_move rfl rfl) <| dl_r (sem_move rfl rfl) ?_
  refine dl_r (sem_cmp rfl rfl rfl rfl) <| dl_r (sem_pick rfl rfl rfl rfl) <| dl_end <| dw_true rfl <| dw_seq <| dw_draw 6 [] follows_mixed (by kernel_rfl) rfl rfl <| dq_r (sem_load (us := cR z) ty26 rfl rfl rfl rfl rfl) <| dq_r (sem_load (us := cR z) ty26 rfl rfl rfl rfl rfl) ?_
  refine dq_r (sem_call rfl rfl (sSign_ok) rfl) <| dq_r (sem_call rfl rfl (lwNum_ok (by have := cmpR_bd z 0; omega) (by have := cmpR_bd z 0; omega)) rfl) <| dq_r (sem_call rfl rfl (sSubL_ok (kz.mono (by decide)) (ks.mono (by decide))) rfl) <| dq_new (sem_alloc zc26 rfl) rfl <| dq_end <| dl_start1 <| dl_st (sem_store_a ty26 rfl rfl rfl rfl rfl rfl) <| dl_end ?_
  refine dw_seq <| dw_region (by kernel_rfl) <| dl_r (sem_load (us := cR z) ty26 rfl rfl rfl rfl rfl) <| dl_r (sem_call rfl rfl (sSign_ok) rfl) <| dl_r (sem_castb (sem_cmp rfl rfl rfl rfl) hz) <| dl_r (sem_move rfl rfl) <| dl_r (sem_load (us := (cR A ++ cR B ++ cR C)) ty28 rfl rfl rfl rfl rfl) <| dl_r (sem_load (us := cR (z - ((cmpR z 0 : Int) : Rat))) ty26 rfl rfl rfl rfl rfl) ?_
  refine dl_r (sem_call rfl rfl (rcasti (yCmpRat_ok (hA.mono (by decide)) (kt.mono (by decide)) ((hA.sub kt).mono (by decide)) (hB.mono (by decide)) (hC.mono (by decide))) ea) rfl) <| dl_r (sem_castb (sem_cmp rfl rfl rfl rfl) ga) <| dl_r (sem_pick rfl rfl rfl rfl) <| dl_r (sem_move rfl rfl) <| dl_r (sem_load (us := (cR D ++ cR E ++ cR F)) ty28 rfl rfl rfl rfl rfl) <| dl_r (sem_load (us := cR (z - ((cmpR z 0 : Int) : Rat))) ty26 rfl rfl rfl rfl rfl) <| dl_r (sem_call rfl rfl (rcasti (yCmpRat_ok (hD.mono (by decide)) (kt.mono (by decide)) ((hD.sub kt).mono (by decide)) (hE.mono (by decide)) (hF.mono (by decide))) eb) rfl) <| dl_r (sem_castb (sem_cmp rfl rfl rfl rfl) gb) ?_
  refine dl_r (sem_pick rfl rfl rfl rfl) <| dl_r (sem_assign rfl rfl) <| dl_end <| dw_ret ?_
  exact ⟨.inr rfl, (resL_tmp rfl resL_nil)⟩
theorem lwSi_t {A B C D E F : Rat} (hA : Rz 2 A) (hB : Rz 2 B) (hC : Rz 2 C) (hD : Rz 2 D) (hE : Rz 2 E) (hF2 : Rz 2 F) (_cC : 0 ≤ C) (_cF : 0 ≤ F) (oS1 : Ok Tryz.prog 6 [.a (cR A ++ cR B ++ cR C)] [.c (.b true)]) (oS2 : Ok Tryz.prog 6 [.a (cR D ++ cR E ++ cR F)] [.c (.b true)]) {n1 : Int} (e1 : signQ (A - D) B (-E) 0 C F = n1) (g1 : decide (n1 ≥ 0) = false) {z : Rat} (kz : Rz 237 z) (oP : Ok Tryz.prog 7 [.a (cR A ++ cR B ++ cR C), .a (cR D ++ cR E ++ cR F)] [dR z, .c (.i .i64 0)]) {d : Int} (oI : Ok Tryz.prog 13 [dI (z.den : Int)] [.c (.i .i64 d), .c (.b true)]) (hd : (d == 1) = false) {φ ψ : Int → Int} (hF : ∀ k : Int, 1 ≤ k → k ≤ 60 → k < d → Ok Tryz.prog 19 [.a (cR (A * ((k : Int) : Rat)) ++ cR (B * ((k : Int) : Rat)) ++ cR C)] [dR (((φ k : Int) : Rat))]) (hS : ∀ k : Int, 1 ≤ k → k ≤ 60 → k < d → plainS (D - (((φ k : Int) : Rat) + 1) / ((k : Int) : Rat)) E F = ψ k ∧ decide (ψ k > 0) = false) (hZ : ∀ k : Int, 1 ≤ k → k ≤ 60 → k < d → Sz 200 (φ k)) : Ok Tryz.prog 4 [.a (cR A ++ cR B ++ cR C), .a (cR D ++ cR E ++ cR F)] [.c (.b true)] := by
  have o1 : Rz 60000 (1 : Rat) := rz_l (by decide +kernel)
  refine Ok.of (by kernel_rfl) Tryz.func4 rfl rfl ?_
  rw [show Tryz.f4.ntmps = 119 from rfl, show Tryz.f4.results.toList = [.tmp 4] from rfl]
  refine dw_seq <| dw_region (by kernel_rfl) <| dl_new (sem_box_a rfl rfl) rfl <| dl_new (sem_box_a rfl rfl) rfl <| dl_r (sem_assign rfl rfl) <| dl_end <| dw_seq <| dw_seq ?_
  refine dw_region (by kernel_rfl) <| dl_r (sem_call rfl rfl (awake5_ok) rfl) <| dl_r (sem_not rfl rfl) <| dl_r (sem_move rfl rfl) <| dl_r (sem_load (us := (cR A ++ cR B ++ cR C)) ty28 rfl rfl rfl rfl rfl) <| dl_r (sem_call rfl rfl (oS1) rfl) <| dl_r (sem_not rfl rfl) <| dl_r (sem_pick rfl rfl rfl rfl) ?_
  refine dl_r (sem_move rfl rfl) <| dl_r (sem_load (us := (cR D ++ cR E ++ cR F)) ty28 rfl rfl rfl rfl rfl) <| dl_r (sem_call rfl rfl (oS2) rfl) <| dl_r (sem_not rfl rfl) <| dl_r (sem_pick rfl rfl rfl rfl) <| dl_r (sem_move rfl rfl) <| dl_r (sem_load (us := (cR A ++ cR B ++ cR C)) ty28 rfl rfl rfl rfl rfl) <| dl_r (sem_load (us := (cR D ++ cR E ++ cR F)) ty28 rfl rfl rfl rfl rfl) ?_
  refine dl_r (sem_call rfl rfl (rcasti (yCmp_ok (hA.mono (by decide)) (hB.mono (by decide)) (hC.mono (by decide)) (hD.mono (by decide)) (hE.mono (by decide)) (hF2.mono (by decide))) e1) rfl) <| dl_r (sem_castb (sem_cmp rfl rfl rfl rfl) g1) <| dl_r (sem_pick rfl rfl rfl rfl) <| dl_end <| dw_false rfl <| dw_skip <| dw_seq <| dw_region (by kernel_rfl) ?_
  refine dl_r (sem_load (us := (cR A ++ cR B ++ cR C)) ty28 rfl rfl rfl rfl rfl) <| dl_r (sem_load (us := (cR D ++ cR E ++ cR F)) ty28 rfl rfl rfl rfl rfl) <| dl_r (sem_call rfl rfl (oP) rfl) <| dl_r (sem_move rfl rfl) <| dl_r (sem_extract rfl rfl rfl) <| dl_r (sem_extract rfl rfl rfl) <| dl_new (sem_alloc zc26 rfl) rfl <| dl_st (sem_store_a ty26 rfl rfl rfl rfl rfl rfl) ?_
  refine dl_r (sem_assign rfl rfl) <| dl_end <| dw_seq <| dw_seq <| dw_region (by kernel_rfl) <| dl_r (sem_move rfl rfl) <| dl_r (sem_cmp rfl rfl rfl rfl) <| dl_r (sem_move rfl rfl) ?_
  refine dl_r (sem_load (us := cR z) ty26 rfl rfl rfl rfl rfl) <| dl_r (sem_call rfl rfl (sValid_R (kz.mono (by decide))) rfl) <| dl_r (sem_not rfl rfl) <| dl_r (sem_pick rfl rfl rfl rfl) <| dl_end <| dw_false rfl <| dw_skip <| dw_seq ?_
  refine dw_region (by kernel_rfl) <| dl_r (sem_field fd26_1 rfl rfl) <| dl_r (sem_load (us := cI (z.den : Int)) ty24 rfl rfl rfl rfl rfl) <| dl_r (sem_call rfl rfl (oI) rfl) <| dl_r (sem_move rfl rfl) <| dl_r (sem_extract rfl rfl rfl) <| dl_r (sem_extract rfl rfl rfl) <| dl_r (sem_assign rfl rfl) ?_
  refine dl_r (sem_assign rfl rfl) <| dl_end <| dw_seq <| dw_seq <| dw_region (by kernel_rfl) <| dl_r (sem_move rfl rfl) <| dl_r (sem_move rfl rfl) <| dl_r (sem_move rfl rfl) ?_
  refine dl_r (sem_castb (sem_cmp rfl rfl rfl rfl) hd) <| dl_r (sem_pick rfl rfl rfl rfl) <| dl_end <| dw_false rfl <| dw_skip <| dw_seq <| dw_seq <| dw_region (by kernel_rfl) ?_
  refine dl_r (sem_assign rfl rfl) <| dl_end <| dw_block <| dw_loop (ι := {k : Int // 1 ≤ k ∧ k ≤ 61}) (fun i => ⟨119, [(2, .p 2 0), (3, .p 3 0), (7, .v (.c (.i .i64 d))), (8, .v (.c (.b true))), (10, .v (.c (.i .i64 i.1)))], [(2, 28, (cR A ++ cR B ++ cR C)), (3, 28, (cR D ++ cR E ++ cR F))]⟩) (fun i => (61 - i.1).toNat) ⟨1, by decide, by decide⟩ (sub_of ⟨rfl, rfl, rfl, rfl, rfl, trivial⟩ ⟨rfl, rfl, trivial⟩ rfl) ?_
  rintro ⟨k, g3, g4⟩
  show Dw _ _ ⟨119, [(2, .p 2 0), (3, .p 3 0), (7, .v (.c (.i .i64 d))), (8, .v (.c (.b true))), (10, .v (.c (.i .i64 k)))], [(2, 28, (cR A ++ cR B ++ cR C)), (3, 28, (cR D ++ cR E ++ cR F))]⟩ _
  refine dw_seq <| dw_seq <| dw_region (by kernel_rfl) <| dl_r (sem_move rfl rfl) <| dl_r (sem_cmp rfl rfl rfl rfl) ?_
  refine dl_rb (sem_move rfl rfl) (fun c1 hb1 => ?_)
  cases c1
  · refine dl_skip (sem_skip rfl) <| dl_skip (sem_skip rfl) <| dl_skip (sem_skip rfl) <| dl_skip (sem_skip rfl) <| dl_skip (sem_skip rfl) <| dl_skip (sem_skip rfl) <| dl_skip (sem_skip rfl) <| dl_r (sem_pick rfl rfl rfl rfl) ?_
    refine dl_end <| dw_false rfl <| dw_exit <| dw_seq <| dw_region (by kernel_rfl) <| dl_r (sem_assign rfl rfl) <| dl_end <| dw_ret ?_
    exact ⟨.inr rfl, (resL_tmp rfl resL_nil)⟩
  · refine dl_r (sem_move rfl rfl) <| dl_r (sem_not rfl rfl) <| dl_r (sem_move rfl rfl) <| dl_r (sem_move rfl rfl) <| dl_r (sem_move rfl rfl) <| dl_r (sem_cmp rfl rfl rfl rfl) <| dl_r (sem_pick rfl rfl rfl rfl) <| dl_r (sem_pick rfl rfl rfl rfl) ?_
    refine dl_end ?_
    refine dw_cond rfl (fun hc2 => ?_) (fun hc2 => ?_)
    · have g5 := of_decide_eq_true hb1
      have g6 := of_decide_eq_true hc2
      have kk : Rz 3 ((k : Int) : Rat) := Rz.num (by omega) (by omega)
      have k0 : ((k : Int) : Rat) ≠ 0 := ic_ne (by omega)
      have kf : Rz 200 ((φ k : Int) : Rat) := Rz.int (hZ k g3 g5 g6) (by decide)
      have kf1 : Rz 202 (((φ k : Int) : Rat) + 1) := kf.add (l := 1) (rz_l (by decide +kernel))
      have kx : Rz 205 ((((φ k : Int) : Rat) + 1) / ((k : Int) : Rat)) := kf1.div kk k0
      refine dw_skip <| dw_seq <| dw_block <| dw_seq <| dw_draw 14 [] follows_mixed (by kernel_rfl) rfl rfl <| dq_r (sem_field fd28_0 rfl rfl) <| dq_r (sem_load (us := cR A) ty26 rfl rfl rfl rfl rfl) <| dq_r (sem_move rfl rfl) ?_
      refine dq_r (sem_call rfl rfl (lwNum_ok (by omega) (by omega)) rfl) <| dq_r (sem_call rfl rfl (sMulL_ok (hA.mono (by decide)) (kk.mono (by decide))) rfl) <| dq_r (sem_field fd28_1 rfl rfl) <| dq_r (sem_load (us := cR B) ty26 rfl rfl rfl rfl rfl) <| dq_r (sem_move rfl rfl) <| dq_r (sem_call rfl rfl (lwNum_ok (by omega) (by omega)) rfl) <| dq_r (sem_call rfl rfl (sMulL_ok (hB.mono (by decide)) (kk.mono (by decide))) rfl) <| dq_r (sem_field fd28_2 rfl rfl) ?_
      refine dq_r (sem_load (us := cR C) ty26 rfl rfl rfl rfl rfl) <| dq_r (sem_build (us := (cR (A * ((k : Int) : Rat)) ++ cR (B * ((k : Int) : Rat)) ++ cR C)) fs28 zc28 rfl rfl rfl) <| dq_new (sem_alloc zc28 rfl) rfl <| dq_end <| dl_start1 <| dl_st (sem_store_a ty28 rfl rfl rfl rfl rfl rfl) <| dl_end <| dw_seq ?_
      refine dw_region (by kernel_rfl) <| dl_r (sem_load (us := (cR (A * ((k : Int) : Rat)) ++ cR (B * ((k : Int) : Rat)) ++ cR C)) ty28 rfl rfl rfl rfl rfl) <| dl_r (sem_call rfl rfl (hF k g3 g5 g6) rfl) <| dl_r (sem_call rfl rfl ((show Ok Tryz.prog 15 [.c (.i .i64 1)] [dR 1] from lwNum_ok (by decide) (by decide))) rfl) <| dl_r (sem_call rfl rfl (sAddL_ok (kf.mono (by decide)) o1) rfl) <| dl_new (sem_alloc zc26 rfl) rfl <| dl_st (sem_store_a ty26 rfl rfl rfl rfl rfl rfl) <| dl_end ?_
      refine dw_seq <| dw_draw 10 [13] follows_mixed (by kernel_rfl) rfl rfl <| dq_r (sem_load (us := cR (((φ k : Int) : Rat) + 1)) ty26 rfl rfl rfl rfl rfl) <| dq_r (sem_move rfl rfl) <| dq_r (sem_call rfl rfl (lwNum_ok (by omega) (by omega)) rfl) <| dq_r (sem_call rfl rfl (sDivL_ok (kf1.mono (by decide)) (kk.mono (by decide)) k0) rfl) <| dq_r (sem_move rfl rfl) <| dq_r (sem_extract rfl rfl rfl) ?_
      refine dq_r (sem_extract rfl rfl rfl) <| dq_new (sem_alloc zc26 rfl) rfl <| dq_sn (sem_store_a ty26 rfl rfl rfl rfl rfl rfl) rfl rfl rfl rfl <| dq_r (sem_assign rfl rfl) <| dq_end <| dl_start2 <| dl_end <| dw_seq ?_
      refine dw_region (by kernel_rfl) <| dl_r (sem_load (us := (cR D ++ cR E ++ cR F)) ty28 rfl rfl rfl rfl rfl) <| dl_r (sem_load (us := cR ((((φ k : Int) : Rat) + 1) / ((k : Int) : Rat))) ty26 rfl rfl rfl rfl rfl) <| dl_r (sem_call rfl rfl (rcasti (yCmpRat_ok (hD.mono (by decide)) (kx.mono (by decide)) ((hD.sub kx).mono (by decide)) (hE.mono (by decide)) (hF2.mono (by decide))) (hS k g3 g5 g6).1) rfl) <| dl_r (sem_castb (sem_cmp rfl rfl rfl rfl) (hS k g3 g5 g6).2) <| dl_end <| dw_false rfl <| dw_skip ?_
      refine dw_region (by kernel_rfl) <| dl_r (sem_move rfl rfl) <| dl_r (sem_ari (r := k + 1) rfl rfl (congrArg some (nw64 (by omega) (by omega))) rfl) <| dl_r (sem_assign rfl rfl) <| dl_end ?_
      exact ⟨⟨k + 1, by omega, by omega⟩, sub_of ⟨rfl, rfl, rfl, rfl, rfl, trivial⟩ ⟨rfl, rfl, trivial⟩ rfl, by show (61 - (k + 1)).toNat < (61 - k).toNat; omega⟩
    · refine dw_exit <| dw_seq <| dw_region (by kernel_rfl) <| dl_r (sem_assign rfl rfl) <| dl_end <| dw_ret ?_
      exact ⟨.inr rfl, (resL_tmp rfl resL_nil)⟩
theorem lwSi_f {A B C D E F : Rat} (hA : Rz 2 A) (hB : Rz 2 B) (hC : Rz 2 C) (hD : Rz 2 D) (hE : Rz 2 E) (hF2 : Rz 2 F) (_cC : 0 ≤ C) (_cF : 0 ≤ F) (oS1 : Ok Tryz.prog 6 [.a (cR A ++ cR B ++ cR C)] [.c (.b true)]) (oS2 : Ok Tryz.prog 6 [.a (cR D ++ cR E ++ cR F)] [.c (.b true)]) {n1 : Int} (e1 : signQ (A - D) B (-E) 0 C F = n1) (g1 : decide (n1 ≥ 0) = false) {z : Rat} (kz : Rz 237 z) (oP : Ok Tryz.prog 7 [.a (cR A ++ cR B ++ cR C), .a (cR D ++ cR E ++ cR F)] [dR z, .c (.i .i64 0)]) (oI : Ok Tryz.prog 13 [dI (z.den : Int)] [.c (.i .i64 0), .c (.b false)]) {φ ψ : Int → Int} (hF : ∀ k : Int, 1 ≤ k → k ≤ 60 → Ok Tryz.prog 19 [.a (cR (A * ((k : Int) : Rat)) ++ cR (B * ((k : Int) : Rat)) ++ cR C)] [dR (((φ k : Int) : Rat))]) (hS : ∀ k : Int, 1 ≤ k → k ≤ 60 → plainS (D - (((φ k : Int) : Rat) + 1) / ((k : Int) : Rat)) E F = ψ k ∧ decide (ψ k > 0) = false) (hZ : ∀ k : Int, 1 ≤ k → k ≤ 60 → Sz 200 (φ k)) : Ok Tryz.prog 4 [.a (cR A ++ cR B ++ cR C), .a (cR D ++ cR E ++ cR F)] [.c (.b true)] := by
  have o1 : Rz 60000 (1 : Rat) := rz_l (by decide +kernel)
  refine Ok.of (by kernel_rfl) Tryz.func4 rfl rfl ?_
  rw [show Tryz.f4.ntmps = 119 from rfl, show Tryz.f4.results.toList = [.tmp 4] from rfl]
  refine dw_seq <| dw_region (by kernel_rfl) <| dl_new (sem_box_a rfl rfl) rfl <| dl_new (sem_box_a rfl rfl) rfl <| dl_r (sem_assign rfl rfl) <| dl_end <| dw_seq <| dw_seq ?_
  refine dw_region (by kernel_rfl) <| dl_r (sem_call rfl rfl (awake5_ok) rfl) <| dl_r (sem_not rfl rfl) <| dl_r (sem_move rfl rfl) <| dl_r (sem_load (us := (cR A ++ cR B ++ cR C)) ty28 rfl rfl rfl rfl rfl) <| dl_r (sem_call rfl rfl (oS1) rfl) <| dl_r (sem_not rfl rfl) <| dl_r (sem_pick rfl rfl rfl rfl) ?_
  refine dl_r (sem_move rfl rfl) <| dl_r (sem_load (us := (cR D ++ cR E ++ cR F)) ty28 rfl rfl rfl rfl rfl) <| dl_r (sem_call rfl rfl (oS2) rfl) <| dl_r (sem_not rfl rfl) <| dl_r (sem_pick rfl rfl rfl rfl) <| dl_r (sem_move rfl rfl) <| dl_r (sem_load (us := (cR A ++ cR B ++ cR C)) ty28 rfl rfl rfl rfl rfl) <| dl_r (sem_load (us := (cR D ++ cR E ++ cR F)) ty28 rfl rfl rfl rfl rfl) ?_
  refine dl_r (sem_call rfl rfl (rcasti (yCmp_ok (hA.mono (by decide)) (hB.mono (by decide)) (hC.mono (by decide)) (hD.mono (by decide)) (hE.mono (by decide)) (hF2.mono (by decide))) e1) rfl) <| dl_r (sem_castb (sem_cmp rfl rfl rfl rfl) g1) <| dl_r (sem_pick rfl rfl rfl rfl) <| dl_end <| dw_false rfl <| dw_skip <| dw_seq <| dw_region (by kernel_rfl) ?_
  refine dl_r (sem_load (us := (cR A ++ cR B ++ cR C)) ty28 rfl rfl rfl rfl rfl) <| dl_r (sem_load (us := (cR D ++ cR E ++ cR F)) ty28 rfl rfl rfl rfl rfl) <| dl_r (sem_call rfl rfl (oP) rfl) <| dl_r (sem_move rfl rfl) <| dl_r (sem_extract rfl rfl rfl) <| dl_r (sem_extract rfl rfl rfl) <| dl_new (sem_alloc zc26 rfl) rfl <| dl_st (sem_store_a ty26 rfl rfl rfl rfl rfl rfl) ?_
  refine dl_r (sem_assign rfl rfl) <| dl_end <| dw_seq <| dw_seq <| dw_region (by kernel_rfl) <| dl_r (sem_move rfl rfl) <| dl_r (sem_cmp rfl rfl rfl rfl) <| dl_r (sem_move rfl rfl) ?_
  refine dl_r (sem_load (us := cR z) ty26 rfl rfl rfl rfl rfl) <| dl_r (sem_call rfl rfl (sValid_R (kz.mono (by decide))) rfl) <| dl_r (sem_not rfl rfl) <| dl_r (sem_pick rfl rfl rfl rfl) <| dl_end <| dw_false rfl <| dw_skip <| dw_seq ?_
  refine dw_region (by kernel_rfl) <| dl_r (sem_field fd26_1 rfl rfl) <| dl_r (sem_load (us := cI (z.den : Int)) ty24 rfl rfl rfl rfl rfl) <| dl_r (sem_call rfl rfl (oI) rfl) <| dl_r (sem_move rfl rfl) <| dl_r (sem_extract rfl rfl rfl) <| dl_r (sem_extract rfl rfl rfl) <| dl_r (sem_assign rfl rfl) ?_
  refine dl_r (sem_assign rfl rfl) <| dl_end <| dw_seq <| dw_seq <| dw_region (by kernel_rfl) <| dl_r (sem_move rfl rfl) <| dl_r (sem_move rfl rfl) <| dl_skip (sem_skip rfl) ?_
  refine dl_skip (sem_skip rfl) <| dl_r (sem_pick rfl rfl rfl rfl) <| dl_end <| dw_false rfl <| dw_skip <| dw_seq <| dw_seq <| dw_region (by kernel_rfl) ?_
  refine dl_r (sem_assign rfl rfl) <| dl_end <| dw_block <| dw_loop (ι := {k : Int // 1 ≤ k ∧ k ≤ 61}) (fun i => ⟨119, [(2, .p 2 0), (3, .p 3 0), (7, .v (.c (.i .i64 0))), (8, .v (.c (.b false))), (10, .v (.c (.i .i64 i.1)))], [(2, 28, (cR A ++ cR B ++ cR C)), (3, 28, (cR D ++ cR E ++ cR F))]⟩) (fun i => (61 - i.1).toNat) ⟨1, by decide, by decide⟩ (sub_of ⟨rfl, rfl, rfl, rfl, rfl, trivial⟩ ⟨rfl, rfl, trivial⟩ rfl) ?_
  rintro ⟨k, g3, g4⟩
  show Dw _ _ ⟨119, [(2, .p 2 0), (3, .p 3 0), (7, .v (.c (.i .i64 0))), (8, .v (.c (.b false))), (10, .v (.c (.i .i64 k)))], [(2, 28, (cR A ++ cR B ++ cR C)), (3, 28, (cR D ++ cR E ++ cR F))]⟩ _
  refine dw_seq <| dw_seq <| dw_region (by kernel_rfl) <| dl_r (sem_move rfl rfl) <| dl_r (sem_cmp rfl rfl rfl rfl) ?_
  refine dl_rb (sem_move rfl rfl) (fun c1 hb1 => ?_)
  cases c1
  · refine dl_skip (sem_skip rfl) <| dl_skip (sem_skip rfl) <| dl_skip (sem_skip rfl) <| dl_skip (sem_skip rfl) <| dl_skip (sem_skip rfl) <| dl_skip (sem_skip rfl) <| dl_skip (sem_skip rfl) <| dl_r (sem_pick rfl rfl rfl rfl) ?_
    refine dl_end <| dw_false rfl <| dw_exit <| dw_seq <| dw_region (by kernel_rfl) <| dl_r (sem_assign rfl rfl) <| dl_end <| dw_ret ?_
    exact ⟨.inr rfl, (resL_tmp rfl resL_nil)⟩
  · have g5 := of_decide_eq_true hb1
    have kk : Rz 3 ((k : Int) : Rat) := Rz.num (by omega) (by omega)
    have k0 : ((k : Int) : Rat) ≠ 0 := ic_ne (by omega)
    have kf : Rz 200 ((φ k : Int) : Rat) := Rz.int (hZ k g3 g5) (by decide)
    have kf1 : Rz 202 (((φ k : Int) : Rat) + 1) := kf.add (l := 1) (rz_l (by decide +kernel))
    have kx : Rz 205 ((((φ k : Int) : Rat) + 1) / ((k : Int) : Rat)) := kf1.div kk k0
    refine dl_r (sem_move rfl rfl) <| dl_r (sem_not rfl rfl) <| dl_r (sem_move rfl rfl) <| dl_skip (sem_skip rfl) <| dl_skip (sem_skip rfl) <| dl_skip (sem_skip rfl) <| dl_r (sem_pick rfl rfl rfl rfl) <| dl_r (sem_pick rfl rfl rfl rfl) ?_
    refine dl_end <| dw_true rfl <| dw_skip <| dw_seq <| dw_block <| dw_seq <| dw_draw 14 [] follows_mixed (by kernel_rfl) rfl rfl <| dq_r (sem_field fd28_0 rfl rfl) ?_
    refine dq_r (sem_load (us := cR A) ty26 rfl rfl rfl rfl rfl) <| dq_r (sem_move rfl rfl) <| dq_r (sem_call rfl rfl (lwNum_ok (by omega) (by omega)) rfl) <| dq_r (sem_call rfl rfl (sMulL_ok (hA.mono (by decide)) (kk.mono (by decide))) rfl) <| dq_r (sem_field fd28_1 rfl rfl) <| dq_r (sem_load (us := cR B) ty26 rfl rfl rfl rfl rfl) <| dq_r (sem_move rfl rfl) <| dq_r (sem_call rfl rfl (lwNum_ok (by omega) (by omega)) rfl) ?_
    refine dq_r (sem_call rfl rfl (sMulL_ok (hB.mono (by decide)) (kk.mono (by decide))) rfl) <| dq_r (sem_field fd28_2 rfl rfl) <| dq_r (sem_load (us := cR C) ty26 rfl rfl rfl rfl rfl) <| dq_r (sem_build (us := (cR (A * ((k : Int) : Rat)) ++ cR (B * ((k : Int) : Rat)) ++ cR C)) fs28 zc28 rfl rfl rfl) <| dq_new (sem_alloc zc28 rfl) rfl <| dq_end <| dl_start1 <| dl_st (sem_store_a ty28 rfl rfl rfl rfl rfl rfl) ?_
    refine dl_end <| dw_seq <| dw_region (by kernel_rfl) <| dl_r (sem_load (us := (cR (A * ((k : Int) : Rat)) ++ cR (B * ((k : Int) : Rat)) ++ cR C)) ty28 rfl rfl rfl rfl rfl) <| dl_r (sem_call rfl rfl (hF k g3 g5) rfl) <| dl_r (sem_call rfl rfl ((show Ok Tryz.prog 15 [.c (.i .i64 1)] [dR 1] from lwNum_ok (by decide) (by decide))) rfl) <| dl_r (sem_call rfl rfl (sAddL_ok (kf.mono (by decide)) o1) rfl) <| dl_new (sem_alloc zc26 rfl) rfl ?_
    refine dl_st (sem_store_a ty26 rfl rfl rfl rfl rfl rfl) <| dl_end <| dw_seq <| dw_draw 10 [13] follows_mixed (by kernel_rfl) rfl rfl <| dq_r (sem_load (us := cR (((φ k : Int) : Rat) + 1)) ty26 rfl rfl rfl rfl rfl) <| dq_r (sem_move rfl rfl) <| dq_r (sem_call rfl rfl (lwNum_ok (by omega) (by omega)) rfl) <| dq_r (sem_call rfl rfl (sDivL_ok (kf1.mono (by decide)) (kk.mono (by decide)) k0) rfl) ?_
    refine dq_r (sem_move rfl rfl) <| dq_r (sem_extract rfl rfl rfl) <| dq_r (sem_extract rfl rfl rfl) <| dq_new (sem_alloc zc26 rfl) rfl <| dq_sn (sem_store_a ty26 rfl rfl rfl rfl rfl rfl) rfl rfl rfl rfl <| dq_r (sem_assign rfl rfl) <| dq_end <| dl_start2 ?_
    refine dl_end <| dw_seq <| dw_region (by kernel_rfl) <| dl_r (sem_load (us := (cR D ++ cR E ++ cR F)) ty28 rfl rfl rfl rfl rfl) <| dl_r (sem_load (us := cR ((((φ k : Int) : Rat) + 1) / ((k : Int) : Rat))) ty26 rfl rfl rfl rfl rfl) <| dl_r (sem_call rfl rfl (rcasti (yCmpRat_ok (hD.mono (by decide)) (kx.mono (by decide)) ((hD.sub kx).mono (by decide)) (hE.mono (by decide)) (hF2.mono (by decide))) (hS k g3 g5).1) rfl) <| dl_r (sem_castb (sem_cmp rfl rfl rfl rfl) (hS k g3 g5).2) <| dl_end ?_
    refine dw_false rfl <| dw_skip <| dw_region (by kernel_rfl) <| dl_r (sem_move rfl rfl) <| dl_r (sem_ari (r := k + 1) rfl rfl (congrArg some (nw64 (by omega) (by omega))) rfl) <| dl_r (sem_assign rfl rfl) <| dl_end ?_
    exact ⟨⟨k + 1, by omega, by omega⟩, sub_of ⟨rfl, rfl, rfl, rfl, rfl, trivial⟩ ⟨rfl, rfl, trivial⟩ rfl, by show (61 - (k + 1)).toNat < (61 - k).toNat; omega⟩
end Go.Proofs.YthlnndkgpgfbnaaGreat
namespace Go.Proofs.YthlnndkgpgfbnaaGreat
open Go.ChangeShapes Go.WideShapes Go.ChangeAt Go.RowKit Go.Deep
theorem own : ownKnob Tryz.prog.godebug = none := by kernel_rfl
theorem laidOut : laidOutB Tryz.prog = true := by kernel_rfl
def NoB : Nat → Prop := fun _ => False
section
variable {H : Type} {enc : TypeId × Value → H} {w : World} {base : Nat} {spare : Nat → Bool} {held : Bool}
theorem olist_of {α : Type} {p : Nat → α → Prop} : ∀ (n : Nat), (∀ i, i < n → ∃ a, p i a) → ∃ l : List α, l.length = n ∧ ∀ i a, l[i]? = some a → p i a
  | 0, _ => ⟨[], rfl, fun i a h => by simp at h⟩
  | n + 1, h => by
    obtain ⟨l, hl, hp⟩ := olist_of n (fun i hi => h i (by omega))
    obtain ⟨a, ha⟩ := h n (by omega)
    refine ⟨l ++ [a], by simp [hl], fun i b hb => ?_⟩
    rcases Nat.lt_or_ge i n with h1 | h1
    · rw [List.getElem?_append_left (by omega)] at hb; exact hp i b hb
    · rw [List.getElem?_append_right (by omega)] at hb
      have : i = n := by
        rcases Nat.lt_or_ge (i - l.length) 1 with h2 | h2
        · omega
        · rw [List.getElem?_eq_none (by simpa using h2)] at hb; cases hb
      subst this
      rw [hl] at hb; simp at hb; subst hb; exact ha
theorem oadd_at (a : Addr) (k : Nat) (v : Value) (h : w.cell? (a.add k) = some v) : w.cell? ⟨a.block, a.off + k, none⟩ = some v := by
  obtain ⟨b, off, spot⟩ := a
  by_cases hk : k = 0
  · subst hk
    have hs : spot = none := by simpa [Addr.add] using World.cell?_spot h
    subst hs
    simpa [Addr.add] using h
  · simpa [Addr.add, hk] using h
theorem ospot_of (a : Addr) (v : Value) (h : w.cell? (a.add 0) = some v) : a = ⟨a.block, a.off, none⟩ := by
  obtain ⟨b, off, spot⟩ := a
  have hs : spot = none := by simpa [Addr.add] using World.cell?_spot h
  subst hs; rfl
theorem olt_of (b off : Nat) (v : Value) (h : w.cell? ⟨b, off, none⟩ = some v) : b < w.heap.size := World.block_lt_of_cell? w _ h
theorem limbs_of {fuel : Nat} {v : Value} {x : DataW H × List MemPlace} (h : DataW.trod enc Tryz.prog w base spare held fuel 22 [v] = some x) : ∃ xs, U32s xs ∧ RdC NoB w v (cM xs) := by
  rcases open_slice1 (P := Tryz.prog) Tryz.underlying22 (by kernel_rfl) h with ⟨hcs, _⟩ | ⟨a, len, cap, m, n, V, D, Pl, hcs, _, hl, hm, hmm, _, hi⟩
  · simp at hcs; subst hcs
    exact ⟨[], fun x hx => (by cases hx), .s0 none 0 (by omega)⟩
  · simp at hcs; subst hcs
    unfold maxLen at hm
    have key : ∀ i, i < len → ∃ z : Int, w.cell? (a.add i) = some (.int .u32 z) ∧ 0 ≤ z ∧ z < 4294967296 := by
      intro i hil
      obtain ⟨hc, ht⟩ := hi i (by rw [hmm]; split <;> omega)
      obtain ⟨z, e, _, hw⟩ := DataW.trod_int (P := Tryz.prog) Tryz.underlying89 ht
      simp at e
      simp [Lit.wf, IntKind.min, IntKind.max, IntKind.signed, IntKind.bits] at hw
      exact ⟨z, by rw [hc, e], by omega, by omega⟩
    obtain ⟨xs, hxl, hxs⟩ := olist_of len key
    refine ⟨xs, fun z hz => ?_, ?_⟩
    · obtain ⟨i, hi', rfl⟩ := List.mem_iff_getElem.1 hz
      have := hxs i _ (List.getElem?_eq_getElem hi')
      omega
    · unfold cM
      rw [hxl]
      refine rdc_of_rdi (xs := xs) ⟨by simp [hxl], fun h0 => ?_⟩ hl (by omega) (fun _ _ _ h => h)
      have h00 := (hxs 0 _ (List.getElem?_eq_getElem (by omega))).1
      have ea := ospot_of a _ h00
      refine ⟨a.block, a.off, by rw [← ea], olt_of _ _ _ (oadd_at a 0 _ h00), fun j u hu => ?_⟩
      rw [List.getElem?_map] at hu
      cases hj : xs[j]? with
      | none => rw [hj] at hu; cases hu
      | some z =>
        rw [hj] at hu
        simp at hu
        subst hu
        exact oadd_at a j _ (hxs j z hj).1
set_option maxRecDepth 100000 in
theorem int_of {fuel : Nat} {cs : List Value} {x : DataW H × List MemPlace} (h : DataW.trod enc Tryz.prog w base spare held fuel 24 cs = some x) : ∃ neg xs, U32s xs ∧ RdCs NoB w cs ([.b neg] ++ [cM xs]) := by
  obtain ⟨xs, n, _, _, hcl, hxl, hf⟩ := DataW.trod_struct (P := Tryz.prog) Tryz.underlying24 h
  have hcl : cs.length = 2 := hcl.trans (by kernel_rfl)
  have hxl : xs.length = 2 := hxl.trans (by kernel_rfl)
  match cs, hcl with
  | [c0, c1], _ =>
    have h0 : DataW.trod enc Tryz.prog w base spare held n 4 [c0] = xs[0]? := hf 0 _ rfl
    have h1 : DataW.trod enc Tryz.prog w base spare held n 22 [c1] = xs[1]? := hf 1 _ rfl
    rw [List.getElem?_eq_getElem (by omega)] at h0 h1
    obtain ⟨b, e, _⟩ := DataW.trod_bool (P := Tryz.prog) Tryz.underlying4 h0
    obtain ⟨zs, hz, hr⟩ := limbs_of h1
    simp at e
    subst e
    exact ⟨b, zs, hz, RdCs.cons (.b b) (RdCs.cons hr RdCs.nil)⟩
set_option maxRecDepth 100000 in
theorem rat_of {fuel : Nat} {cs : List Value} {x : DataW H × List MemPlace} (h : DataW.trod enc Tryz.prog w base spare held fuel 26 cs = some x) : ∃ r : RN, r.Wf ∧ RdCs NoB w cs (cN r) := by
  obtain ⟨xs, n, _, _, hcl, hxl, hf⟩ := DataW.trod_struct (P := Tryz.prog) Tryz.underlying26 h
  have hcl : cs.length = 4 := hcl.trans (by kernel_rfl)
  have hxl : xs.length = 2 := hxl.trans (by kernel_rfl)
  match cs, hcl with
  | [c0, c1, c2, c3], _ =>
    have h0 : DataW.trod enc Tryz.prog w base spare held n 24 [c0, c1] = xs[0]? := hf 0 _ rfl
    have h1 : DataW.trod enc Tryz.prog w base spare held n 24 [c2, c3] = xs[1]? := hf 1 _ rfl
    rw [List.getElem?_eq_getElem (by omega)] at h0 h1
    obtain ⟨b, zs, hz, hr⟩ := int_of h0
    obtain ⟨b', zs', hz', hr'⟩ := int_of h1
    exact ⟨⟨b, zs, b', zs'⟩, ⟨hz, hz'⟩, RdCs.append hr hr'⟩
set_option maxRecDepth 100000 in
theorem root_of {fuel : Nat} {cs : List Value} {x : DataW H × List MemPlace} (h : DataW.trod enc Tryz.prog w base spare held fuel 28 cs = some x) : ∃ r s t : RN, r.Wf ∧ s.Wf ∧ t.Wf ∧ RdCs NoB w cs (cN r ++ cN s ++ cN t) := by
  obtain ⟨xs, n, _, _, hcl, hxl, hf⟩ := DataW.trod_struct (P := Tryz.prog) Tryz.underlying28 h
  have hcl : cs.length = 12 := hcl.trans (by kernel_rfl)
  have hxl : xs.length = 3 := hxl.trans (by kernel_rfl)
  match cs, hcl with
  | [c0, c1, c2, c3, c4, c5, c6, c7, c8, c9, c10, c11], _ =>
    have h0 : DataW.trod enc Tryz.prog w base spare held n 26 [c0, c1, c2, c3] = xs[0]? := hf 0 _ rfl
    have h1 : DataW.trod enc Tryz.prog w base spare held n 26 [c4, c5, c6, c7] = xs[1]? := hf 1 _ rfl
    have h2 : DataW.trod enc Tryz.prog w base spare held n 26 [c8, c9, c10, c11] = xs[2]? := hf 2 _ rfl
    rw [List.getElem?_eq_getElem (by omega)] at h0 h1 h2
    obtain ⟨r, hz, hr⟩ := rat_of h0
    obtain ⟨s, hz', hr'⟩ := rat_of h1
    obtain ⟨t, hz2, hr2⟩ := rat_of h2
    exact ⟨r, s, t, hz, hz', hz2, RdCs.append (RdCs.append hr hr') hr2⟩
theorem law_of {f : FuncId} {ds : List D0} {vs : Array Value} {W : World} (h : Ok Tryz.prog f ds [.c (.b true)]) (hr : RdL NoB W vs.toList ds) : Calls Tryz.prog f vs W fun e W' => e = .returned (.bool true) ∧ Below W.heap.size W W' :=
  (h.run NoB vs W (fun _ h => h.elim) hr).mono fun e w' ⟨v, e1, h1, h2⟩ => by
    have := RdC.bool_eq h1
    subst this
    exact ⟨e1, h2⟩
end
end Go.Proofs.YthlnndkgpgfbnaaGreat
namespace Go.Proofs.YthlnndkgpgfbnaaGreat
open Go Go.RowKit
end Go.Proofs.YthlnndkgpgfbnaaGreat
namespace Go.Proofs.YthlnndkgpgfbnaaGreat
open Go.ChangeShapes Go.WideShapes Go.ChangeAt Go.RowKit Go.Deep
section
variable {H : Type} {enc : TypeId × Value → H} {w : World} {base : Nat} {spare : Nat → Bool} {held : Bool}
end
end Go.Proofs.YthlnndkgpgfbnaaGreat
namespace Go.Proofs.YthlnndkgpgfbnaaGreat
open Go.ChangeShapes Go.WideShapes Go.ChangeAt Go.RowKit
theorem vl5_of {b c : Rat} (h : vRoot b c = true) : Vl b c := by
  unfold vRoot at h
  split at h
  · rw [decide_eq_true_eq] at h
    exact ⟨by rw [h.2]; exact Rat.le_refl, fun e => absurd h.1 e, fun _ => h.2⟩
  · rename_i hn
    rw [Bool.and_eq_true, decide_eq_true_eq, Bool.not_eq_true'] at h
    exact ⟨Rat.le_of_lt h.1, fun _ => h, fun e => absurd (.inl e) hn⟩
theorem vl_scale {y z k : Rat} (h : Vl y z) (hk : k ≠ 0) : Vl (y * k) z := by
  refine ⟨h.c0, fun e => h.v fun e2 => e (by rw [e2, Rat.zero_mul]), fun e => h.z ?_⟩
  rcases Rat.mul_eq_zero.1 e with g | g
  · exact g
  · exact absurd g hk
theorem above {x y z : Rat} {k : Int} (hv : Vl y z) (hk : 1 ≤ k) : sgR (Re.of ((((flR (x * (k : Rat)) (y * (k : Rat)) z : Int) : Rat) + 1) / (k : Rat)) - val3 x y z) = 1 := by
  have hkr := ic_pos (show 0 < k by omega)
  have hv2 := vl_scale hv (ic_ne (show k ≠ 0 by omega))
  have f2 := flR_lt (x := x * (k : Rat)) (y := y * (k : Rat)) hv2.c0 hv2.v
  rw [show val3 (x * (k : Rat)) (y * (k : Rat)) z = Re.of (k : Rat) * val3 x y z from Re.ext fun i => by simp only [val3, re_add, re_mul, re_of]; grind] at f2
  generalize flR (x * (k : Rat)) (y * (k : Rat)) z = n at *
  have e : ((n : Rat) + 1) / (k : Rat) * (k : Rat) = (n : Rat) + 1 := Rat.div_mul_cancel (ic_ne (by omega))
  rw [show Re.of ((n + 1 : Int) : Rat) - Re.of (k : Rat) * val3 x y z = Re.of (k : Rat) * (Re.of (((n : Rat) + 1) / (k : Rat)) - val3 x y z) from Re.ext fun i => by
    simp only [re_sub, re_mul, re_of]
    rw [Rat.intCast_add, cv1, ← e]
    generalize ((n : Rat) + 1) / (k : Rat) = w
    grind, sgR_mul, sg_pos hkr, Int.one_mul] at f2
  exact f2
theorem law_simplest5 {x1 x2 x3 y1 y2 y3 : RN} (w1 : x1.Wf) (w2 : x2.Wf) (w3 : x3.Wf) (w4 : y1.Wf) (w5 : y2.Wf) (w6 : y3.Wf) :
    Ok Tryz.prog 4 [.a (cN x1 ++ cN x2 ++ cN x3), .a (cN y1 ++ cN y2 ++ cN y3)] [.c (.b true)] := by
  rcases small5_ex w1 w2 w3 with h | ⟨h1, a, b, c, ha, hb, hc, v1, q1⟩
  · exact lwSi_0 h
  rcases small5_ex w4 w5 w6 with h | ⟨h2, d, e, f, hd, he, hf, v2, q2⟩
  · exact lwSi_1 h1 h
  rw [q1] at h1 ⊢
  rw [q2] at h2 ⊢
  have u1 := vl5_of v1
  have u2 := vl5_of v2
  have e1 : signQ (a - d) b (-e) 0 c f = sgR (val3 a b c - val3 d e f) := signQ_val u1.c0 u2.c0
  by_cases hg : sgR (val3 a b c - val3 d e f) ≥ 0
  · exact lwSi_ge ha hb hc hd he hf u1.c0 u2.c0 h1 h2 e1 (decide_eq_true hg)
  have ab : sgR (val3 d e f - val3 a b c) = 1 := by
    rw [flip_sg]; have := sgR_cases (val3 a b c - val3 d e f); omega
  obtain ⟨z, kz, oP, _, S⟩ := btw_main ha hb hc hd he hf u1 u2 ab
  have gf := decide_eq_false hg
  have d1 : 1 ≤ (z.den : Int) := by have := z.den_pos; omega
  have zd : Sz 1000 (z.den : Int) := kz.d.mono (by decide)
  by_cases hden : z.den = 1
  · have oI := nI64_p zd d1 (by rw [hden]; decide)
    rw [show (((z.den : Int).natAbs : Nat) : Int) = 1 from by rw [hden]; rfl] at oI
    by_cases hz : z = 0
    · exact lwSi_i0 ha hb hc hd he hf u1.c0 u2.c0 h1 h2 e1 gf kz oP oI (by rw [hz]; decide)
    · have hz' : (cmpR z 0 == 0) = false := by
        rw [r_eqb]; exact decide_eq_false hz
      have hn := S.near hden hz
      by_cases hna : plainS (a - (z - ((cmpR z 0 : Int) : Rat))) b c ≥ 0
      · exact lwSi_i1 ha hb hc hd he hf u1.c0 u2.c0 h1 h2 e1 gf kz oP oI hz' rfl (decide_eq_true hna)
      · refine lwSi_i2 ha hb hc hd he hf u1.c0 u2.c0 h1 h2 e1 gf kz oP oI hz' rfl (decide_eq_false hna) rfl (decide_eq_true ?_)
        rw [val3_p u1.c0] at hna
        rw [val3_p u2.c0]
        apply Classical.byContradiction
        intro hnb
        refine hn ⟨?_, ?_⟩
        · rw [flip_sg]; have := sgR_cases (val3 a b c - Re.of (z - ((cmpR z 0 : Int) : Rat))); omega
        · have := sgR_cases (val3 d e f - Re.of (z - ((cmpR z 0 : Int) : Rat))); omega
  · have kk : ∀ k : Int, 1 ≤ k → k ≤ 60 → Rz 3 ((k : Int) : Rat) := fun k g1 g2 => Rz.num (by omega) (by omega)
    have hF : ∀ k : Int, 1 ≤ k → k ≤ 60 → Ok Tryz.prog 19 [.a (cR (a * ((k : Int) : Rat)) ++ cR (b * ((k : Int) : Rat)) ++ cR c)] [dR ((flR (a * (k : Rat)) (b * (k : Rat)) c : Int) : Rat)] := fun k g1 g2 =>
      yFloor_ok ((ha.mul (kk k g1 g2)).mono (by decide)) ((hb.mul (kk k g1 g2)).mono (by decide)) (hc.mono (by decide)) (vl_scale u1 (ic_ne (by omega)))
    have hZ : ∀ k : Int, 1 ≤ k → k ≤ 60 → Sz 200 (flR (a * (k : Rat)) (b * (k : Rat)) c) := fun k g1 g2 => (flR_sz (ha.mul (kk k g1 g2)) (hb.mul (kk k g1 g2)) hc).mono (by decide)
    have hS : ∀ k : Int, 1 ≤ k → k < (z.den : Int) → decide (plainS (d - (((flR (a * (k : Rat)) (b * (k : Rat)) c : Int) : Rat) + 1) / ((k : Int) : Rat)) e f > 0) = false := by
      intro k g1 g2
      refine decide_eq_false fun hp => ?_
      rw [val3_p u2.c0] at hp
      have i1 := above (x := a) u1 g1
      have i2 : fr (flR (a * (k : Rat)) (b * (k : Rat)) c + 1) k = (((flR (a * (k : Rat)) (b * (k : Rat)) c : Int) : Rat) + 1) / ((k : Int) : Rat) := by
        unfold fr; rw [Rat.intCast_add, cv1]
      have i3 := S.den (flR (a * (k : Rat)) (b * (k : Rat)) c + 1) k (by omega) (by
        rw [i2]
        exact ⟨i1, by have := sgR_cases (val3 d e f - Re.of ((((flR (a * (k : Rat)) (b * (k : Rat)) c : Int) : Rat) + 1) / ((k : Int) : Rat))); omega⟩)
      omega
    by_cases hbig : 9223372036854775807 < (z.den : Int)
    · exact lwSi_f ha hb hc hd he hf u1.c0 u2.c0 h1 h2 e1 gf kz oP (nI64_b zd d1 hbig) (φ := fun k => flR (a * (k : Rat)) (b * (k : Rat)) c) (ψ := fun k => plainS (d - (((flR (a * (k : Rat)) (b * (k : Rat)) c : Int) : Rat) + 1) / ((k : Int) : Rat)) e f)
        hF (fun k g1 g2 => ⟨rfl, hS k g1 (by omega)⟩) hZ
    · have oI := nI64_p zd d1 (by omega)
      exact lwSi_t ha hb hc hd he hf u1.c0 u2.c0 h1 h2 e1 gf kz oP oI (by rw [beq_eq_false_iff_ne]; omega) (φ := fun k => flR (a * (k : Rat)) (b * (k : Rat)) c) (ψ := fun k => plainS (d - (((flR (a * (k : Rat)) (b * (k : Rat)) c : Int) : Rat) + 1) / ((k : Int) : Rat)) e f)
        (fun k g1 g2 _ => hF k g1 g2) (fun k g1 g2 g3 => ⟨rfl, hS k g1 (by omega)⟩) (fun k g1 g2 _ => hZ k g1 g2)
set_option maxRecDepth 100000 in
theorem simplest5_lifted (os : Os) (started : os.Started) (H : Type) (enc : TypeId × Value → H) :
    ReturnsInHanded {} Tryz.checked os 4 .any (Rows.radicalSimplestSpec.pre6 enc Tryz.prog Tryz.f4 Rows.radicalSimplestRow.domain false) (Rows.radicalSimplestSpec.post enc Tryz.prog Tryz.f4 false true false false) := by
  refine returnsInHanded_of_change (C := Tryz.checked) own started (by kernel_rfl) Tryz.func4
    (ChangeSpec.witness6 (enc := enc) (C := Tryz.checked) false ⟨#[], #[.agg (Array.replicate 6 #[Value.bool false, .slice none 0 0]).flatten, .agg (Array.replicate 6 #[Value.bool false, .slice none 0 0]).flatten], []⟩ 8 (by kernel_rfl) (by kernel_rfl) (by kernel_rfl) (by kernel_rfl)) ?_
  intro W base args ds gs before hval0 hW hcnd _
  have hval : ∀ (j : Nat) t v, Tryz.f4.params[j]? = some t → args[j]? = some v → Value.okWide Tryz.prog W .any base t v := hval0
  have hW' := hW
  obtain ⟨p, q, hA0, hV, rfl, hfz, hnd⟩ := hW
  have hA : DataW.TrodAll enc Tryz.prog W 0 (fun _ => true) true Tryz.f4.params.toList args.toList ds p := hA0
  rw [Tryz.params4] at hA hval
  obtain ⟨v0, vs0, d0, ds0, p0, q0, hargs, rfl, rfl, h0, r0⟩ := trodAll_cons hA
  obtain ⟨v1, vs1, d1, ds1, p1, q1, rfl, rfl, rfl, h1, r1⟩ := trodAll_cons r0
  obtain ⟨rfl, rfl, rfl⟩ := trodAll_nil r1
  obtain rfl : args = #[v0, v1] := by cases args; simp_all
  obtain ⟨rfl, rfl⟩ := trodVars_none hV
  obtain ⟨a0, rfl, _⟩ := okWide_struct Tryz.underlying28 (hval 0 28 v0 rfl rfl)
  have k0 := h0
  have lt0 : ∀ x ∈ p0, x.block < W.heap.size := by obtain ⟨m, hm⟩ := k0; exact DataW.trod_lt m _ _ _ hm
  obtain ⟨a1, rfl, _⟩ := okWide_struct Tryz.underlying28 (hval 1 28 v1 rfl rfl)
  have k1 := h1
  have lt1 : ∀ x ∈ p1, x.block < W.heap.size := by obtain ⟨m, hm⟩ := k1; exact DataW.trod_lt m _ _ _ hm
  obtain ⟨e00, e01, e02, w00, w01, w02, hr0⟩ := root_of (show DataW.trod enc Tryz.prog W 0 _ _ h0.choose 28 a0.toList = some _ from h0.choose_spec)
  obtain ⟨e10, e11, e12, w10, w11, w12, hr1⟩ := root_of (show DataW.trod enc Tryz.prog W 0 _ _ h1.choose 28 a1.toList = some _ from h1.choose_spec)
  clear hA0 hval0
  refine (law_of (law_simplest5 w00 w01 w02 w10 w11 w12) (RdL.cons ⟨a0, rfl, hr0⟩ (RdL.cons ⟨a1, rfl, hr1⟩ RdL.nil))).mono fun e W' ⟨he, bel⟩ => ?_
  subst he
  exact ⟨_, rfl, _, _, _, [], _, [], hW', trodAll_mk1 (shut_bool Tryz.underlying4 _), (trodAll_cons_mk (Below.trod laidOut (by kernel_rfl) (of_decide_eq_true (by kernel_rfl)) k0 bel lt0) (trodAll_cons_mk (Below.trod laidOut (by kernel_rfl) (of_decide_eq_true (by kernel_rfl)) k1 bel lt1) trodAll_mk0)), rfl, bel.frame _, fun h => by cases h⟩
theorem simplest5_proved : Rows.RadicalSimplestSaid :=
  OpenClaim.holds_of_wide 4 Tryz.f4 rfl rfl rfl rfl rfl rfl rfl ⟨rfl, rfl, rfl, rfl, rfl⟩ rfl rfl rfl rfl rfl (by kernel_rfl) Tryz.func4 (by kernel_rfl)
    (of_decide_eq_true (by kernel_rfl)) (by unfold Func.isWrapper; first | (rw [if_pos (by decide +kernel)]; kernel_rfl) | (rw [if_neg (by decide +kernel)]; exact ⟨rfl, rfl⟩))
    (fun os started H enc _ => simplest5_lifted os started H enc)
end Go.Proofs.YthlnndkgpgfbnaaGreat
