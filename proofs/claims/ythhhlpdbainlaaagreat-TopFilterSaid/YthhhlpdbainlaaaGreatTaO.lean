/- TopFilter: the law at all readings. -/
import Derived.Test.YthhhlpdbainlaaaGreatTaN
namespace Go.Proofs.YthhhlpdbainlaaaGreat
open Go Go.RowKit
def zIv : List CellD := [.b false, .s 0 [], .b false, .s 0 [], .b false, .s 0 [], .b false, .s 0 []]
theorem rtEnc_ok {x y z : Rat} {n : Nat} (hx : Rz 4 x) (hy : Rz 2 y) (hz : Rz 2 z) (hn : n ≤ 60) : Ok Tryz.prog 11 [.a (cR x ++ cR y ++ cR z), .c (.i .i64 (n : Int))] [.a (cR (Rat.divInt (enF x y z n) (p2 n)) ++ cR (Rat.divInt (enF x y z n + 1) (p2 n))), .c (.i .i64 0)] := by
  have hU := p2_sz hn
  have hU1 := p2_pos n
  have hUQ : Rz 3 ((p2 n : Int) : Rat) := Rz.int hU (by decide)
  have g1 := (hx.mul hUQ)
  have g2 := (hy.mul hUQ)
  have g3 : Rz 2 (zc (y * ((p2 n : Int) : Rat)) z) := Rz.zc hz (by decide)
  have kx : Rz 300 x := hx.mono (by decide)
  have ky : Rz 300 y := hy.mono (by decide)
  have kU : Rz 300 ((p2 n : Int) : Rat) := hUQ.mono (by decide)
  have f1 : Rz 20 (x * ((p2 n : Int) : Rat)) := g1.mono (by decide)
  have f2 : Rz 20 (y * ((p2 n : Int) : Rat)) := g2.mono (by decide)
  have f3 : Rz 20 (zc (y * ((p2 n : Int) : Rat)) z) := g3.mono (by decide)
  have hE : Sz 60 (enF x y z n) := (flR_sz g1 g2 g3).mono (by decide)
  have s1 : Sz 999 (1 : Int) := Sz.small (by decide) (by decide) (by decide)
  have hEz : Sz 999 (enF x y z n) := hE.mono (by decide)
  have hE1 : Sz 999 (enF x y z n + 1) := (hE.addm (Sz.small (k := 3) (by decide) (by decide) (by decide))).mono (by decide)
  have hU9 : Sz 999 (p2 n) := hU.mono (by decide)
  have hU0 : p2 n ≠ 0 := by omega
  refine Ok.of (by kernel_rfl) Tryz.func11 rfl rfl ?_
  rw [show Tryz.f11.ntmps = 56 from rfl, show Tryz.f11.results.toList = [.cell 4 45, .tmp 5] from rfl]
  refine dw_seq <| dw_region (by kernel_rfl) <| dl_new (sem_box_a rfl rfl) rfl <| dl_new (sem_alloc zc45 rfl) rfl <| dl_r (sem_assign rfl rfl) <| dl_end <| dw_seq <| dw_seq ?_
  refine dw_region (by kernel_rfl) <| dl_r (sem_move rfl rfl) <| dl_r (sem_castb (c := false) (sem_cmp rfl rfl rfl rfl) (decide_eq_false (by omega))) <| dl_r (sem_move rfl rfl) <| dl_r (sem_move rfl rfl) <| dl_r (sem_castb (c := false) (sem_cmp rfl rfl rfl rfl) (decide_eq_false (by omega))) <| dl_r (sem_pick rfl rfl rfl rfl) <| dl_end ?_
  refine dw_false rfl <| dw_skip <| dw_seq <| dw_region (by kernel_rfl) <| dl_r (sem_call rfl rfl (iFrom_ok (by omega) (by omega)) rfl) <| dl_new (sem_alloc zc29 rfl) rfl <| dl_st (sem_store_a ty29 rfl rfl rfl rfl rfl rfl) <| dl_end ?_
  refine dw_seq <| dw_seq <| dw_region (by kernel_rfl) <| dl_r (sem_move rfl rfl) <| dl_r (sem_move rfl rfl) <| dl_end <| dw_block <| dw_loop (ι := {k : Nat // k ≤ n}) (fun i => ⟨56, [(2, .p 2 0), (4, .p 4 0), (6, .p 6 0), (22, .v (.c (.i .i64 (n : Int)))), (23, .v (.c (.i .i64 (i.1 : Int))))], [(2, 33, (cR x ++ cR y ++ cR z)), (4, 45, zIv), (6, 29, cI (p2 i.1))]⟩) (fun i => n - i.1) ⟨0, Nat.zero_le _⟩ (sub_of ⟨rfl, rfl, rfl, rfl, rfl, trivial⟩ ⟨rfl, rfl, rfl, trivial⟩ rfl) ?_
  rintro ⟨k, h2⟩
  replace h2 : k ≤ n := h2
  have hk9 : Sz 1000000 (p2 k) := (p2_sz (by omega)).mono (by decide)
  show Dw _ _ ⟨56, [(2, .p 2 0), (4, .p 4 0), (6, .p 6 0), (22, .v (.c (.i .i64 (n : Int)))), (23, .v (.c (.i .i64 (k : Int))))], [(2, 33, (cR x ++ cR y ++ cR z)), (4, 45, zIv), (6, 29, cI (p2 k))]⟩ _
  refine dw_seq <| dw_region (by kernel_rfl) <| dl_r (sem_cmp rfl rfl rfl rfl) <| dl_end <| dw_seq ?_
  refine dw_cond rfl (fun hc1 => ?_) (fun hc1 => ?_)
  · have g1 : k < n := by have := of_decide_eq_true hc1; omega
    have g2 : k + 1 ≤ n := g1
    refine dw_skip <| dw_seq <| dw_block <| dw_region (by kernel_rfl) <| dl_r (sem_load (us := cI (p2 k)) ty29 rfl rfl rfl rfl rfl) <| dl_r (sem_load (us := cI (p2 k)) ty29 rfl rfl rfl rfl rfl) ?_
    refine dl_r (sem_call rfl rfl (iAdd_ok (by first | assumption | exact Sz.mono (by assumption) (by decide)) (by first | assumption | exact Sz.mono (by assumption) (by decide))) rfl) ?_
    refine dl_st (sem_store_a ty29 rfl rfl rfl rfl rfl rfl) <| dl_end <| dw_region (by kernel_rfl) <| dl_r (sem_ari (r := (k : Int) + 1) rfl rfl (ari_i64_add (by omega) (by omega)) rfl) <| dl_r (sem_move rfl rfl) <| dl_end ?_
    exact ⟨⟨k + 1, g2⟩, sub_of ⟨rfl, rfl, rfl, rfl, by rw [show ((k + 1 : Nat) : Int) = (k : Int) + 1 from by omega]; rfl, trivial⟩ ⟨rfl, rfl, by rw [p2_succ]; rfl, trivial⟩ rfl, by show n - (k + 1) < n - k; omega⟩
  · have hkn : k = n := by have := of_decide_eq_false hc1; omega
    refine Dw.weak (σ' := ⟨56, [(2, .p 2 0), (4, .p 4 0), (6, .p 6 0)], [(2, 33, (cR x ++ cR y ++ cR z)), (4, 45, zIv), (6, 29, cI (p2 n))]⟩) (sub_of ⟨rfl, rfl, rfl, trivial⟩ ⟨rfl, rfl, by rw [hkn]; rfl, trivial⟩ rfl) <| dw_exit <| dw_seq <| dw_draw 9 [7] follows_mixed (by kernel_rfl) rfl rfl <| dq_r (sem_load (us := cI (p2 n)) ty29 rfl rfl rfl rfl rfl) <| dq_r (sem_call rfl rfl (iFrom_ok (by omega) (by omega)) rfl) <| dq_r (sem_call rfl rfl (rcast1l (pMake_ok hU9 s1 (by decide)) (dv1 _)) rfl) <| dq_r (sem_move rfl rfl) ?_
    refine dq_r (sem_extract rfl rfl rfl) <| dq_r (sem_extract rfl rfl rfl) <| dq_new (sem_alloc zc31 rfl) rfl <| dq_sn (sem_store_a ty31 rfl rfl rfl rfl rfl rfl) rfl rfl rfl rfl <| dq_r (sem_assign rfl rfl) <| dq_end <| dl_start2 <| dl_end ?_
    refine dw_seq <| dw_region (by kernel_rfl) <| dl_r (sem_load (us := (cR x ++ cR y ++ cR z)) ty33 rfl rfl rfl rfl rfl) <| dl_r (sem_load (us := cR (((p2 n : Int) : Rat))) ty31 rfl rfl rfl rfl rfl) <| dl_r (sem_call rfl rfl (rtScale_ok kx ky kU) rfl) <| dl_r (sem_call rfl rfl (icast1 (x' := enF x y z n) (rtFloor_ok f1 f2 f3) rfl) rfl) <| dl_new (sem_alloc zc29 rfl) rfl <| dl_st (sem_store_a ty29 rfl rfl rfl rfl rfl rfl) ?_
    refine dl_end <| dw_seq <| dw_region (by kernel_rfl) <| dl_r (sem_load (us := cI (enF x y z n)) ty29 rfl rfl rfl rfl rfl) <| dl_r (sem_load (us := cI (p2 n)) ty29 rfl rfl rfl rfl rfl) <| dl_r (sem_call rfl rfl (pMake_ok hEz hU9 hU0) rfl) <| dl_r (sem_move rfl rfl) <| dl_r (sem_extract rfl rfl rfl) ?_
    refine dl_r (sem_extract rfl rfl rfl) <| dl_new (sem_alloc zc31 rfl) rfl <| dl_st (sem_store_a ty31 rfl rfl rfl rfl rfl rfl) <| dl_r (sem_assign rfl rfl) <| dl_end <| dw_seq <| dw_draw 11 [12] follows_mixed (by kernel_rfl) rfl rfl <| dq_r (sem_load (us := cI (enF x y z n)) ty29 rfl rfl rfl rfl rfl) ?_
    refine dq_r (sem_call rfl rfl (iFrom_ok (by omega) (by omega)) rfl) ?_
    refine dq_r (sem_call rfl rfl (iAdd_ok (by first | assumption | exact Sz.mono (by assumption) (by decide)) (by first | assumption | exact Sz.mono (Sz.small (k := 3) (by decide) (by decide) (by decide)) (by decide))) rfl) ?_
    refine dq_r (sem_load (us := cI (p2 n)) ty29 rfl rfl rfl rfl rfl) <| dq_r (sem_call rfl rfl (pMake_ok hE1 hU9 hU0) rfl) <| dq_r (sem_move rfl rfl) <| dq_r (sem_extract rfl rfl rfl) <| dq_r (sem_extract rfl rfl rfl) <| dq_new (sem_alloc zc31 rfl) rfl <| dq_sn (sem_store_a ty31 rfl rfl rfl rfl rfl rfl) rfl rfl rfl rfl <| dq_r (sem_assign rfl rfl) ?_
    refine dq_end <| dl_start2 <| dl_end <| dw_seq <| dw_region (by kernel_rfl) <| dl_r (sem_load (us := cR (Rat.divInt (enF x y z n) (p2 n))) ty31 rfl rfl rfl rfl rfl) <| dl_r (sem_load (us := cR (Rat.divInt (enF x y z n + 1) (p2 n))) ty31 rfl rfl rfl rfl rfl) <| dl_r (sem_build (us := (cR (Rat.divInt (enF x y z n) (p2 n)) ++ cR (Rat.divInt (enF x y z n + 1) (p2 n)))) fs45 zc45 rfl rfl rfl) ?_
    refine dl_st (sem_store_a ty45 rfl rfl rfl rfl rfl rfl) <| dl_r (sem_assign rfl rfl) <| dl_end <| dw_ret ?_
    exact ⟨.inr rfl, (resL_cell (us := (cR (Rat.divInt (enF x y z n) (p2 n)) ++ cR (Rat.divInt (enF x y z n + 1) (p2 n)))) ty45 rfl rfl rfl rfl (resL_tmp rfl resL_nil))⟩
theorem dDown_ok {x y z : Rat} (hx : Rz 20 x) (hy : Rz 20 y) (hz : Rz 20 z) : Ok Tryz.prog 12 [.a (cR x ++ cR y ++ cR z)] [dI (flR x y z)] := by
  refine Ok.of (by kernel_rfl) Tryz.func12 rfl rfl ?_
  rw [show Tryz.f12.ntmps = 5 from rfl, show Tryz.f12.results.toList = [.cell 2 29] from rfl]
  refine dw_seq <| dw_region (by kernel_rfl) <| dl_new (sem_box_a rfl rfl) rfl <| dl_new (sem_alloc zc29 rfl) rfl <| dl_end <| dw_seq <| dw_region (by kernel_rfl) <| dl_r (sem_load (us := (cR x ++ cR y ++ cR z)) ty33 rfl rfl rfl rfl rfl) ?_
  refine dl_r (sem_call rfl rfl (rtFloor_ok hx hy hz) rfl) <| dl_st (sem_store_a ty29 rfl rfl rfl rfl rfl rfl) <| dl_end <| dw_ret ?_
  exact ⟨.inr rfl, (resL_cell (us := cI (flR x y z)) ty29 rfl rfl rfl rfl resL_nil)⟩
theorem dUp_ok {x y z : Rat} (hx : Rz 20 x) (hy : Rz 20 y) (hz : Rz 20 z) (hs : Sz 1000000 (flR (-x) (-y) z)) : Ok Tryz.prog 13 [.a (cR x ++ cR y ++ cR z)] [dI (-(flR (-x) (-y) z))] := by
  have kx : Rz 300 x := hx.mono (by decide)
  have ky : Rz 300 y := hy.mono (by decide)
  refine Ok.of (by kernel_rfl) Tryz.func13 rfl rfl ?_
  rw [show Tryz.f13.ntmps = 7 from rfl, show Tryz.f13.results.toList = [.cell 2 29] from rfl]
  refine dw_seq <| dw_region (by kernel_rfl) <| dl_new (sem_box_a rfl rfl) rfl <| dl_new (sem_alloc zc29 rfl) rfl <| dl_end <| dw_seq <| dw_region (by kernel_rfl) <| dl_r (sem_load (us := (cR x ++ cR y ++ cR z)) ty33 rfl rfl rfl rfl rfl) ?_
  refine dl_r (sem_call rfl rfl (rtNeg_ok kx ky) rfl) <| dl_r (sem_call rfl rfl (rtFloor_ok hx.neg hy.neg hz) rfl) <| dl_r (sem_call rfl rfl (iNeg_ok hs) rfl) <| dl_st (sem_store_a ty29 rfl rfl rfl rfl rfl rfl) <| dl_end <| dw_ret ?_
  exact ⟨.inr rfl, (resL_cell (us := cI (-(flR (-x) (-y) z))) ty29 rfl rfl rfl rfl resL_nil)⟩
theorem fRoot_t {a b c : Rat} (ha : Rz 200 a) (hb : Rz 200 b) (hc : Rz 200 c) (h : rtOk a b c = true) : Ok Tryz.prog 6 [.a (cR a ++ cR b ++ cR c)] [.a ([.i .i64 (rtLo a b c)] ++ [.i .i64 (rtHi a b c)]), .c (.b true)] := by
  have h1 := fRoot2_ok ha hb hc
  rw [h] at h1
  exact h1
theorem lTF_k {x y z : Rat} {A B C D E F : Int} {n : Nat} (hA : Ok Tryz.prog 4 [] [.c (.b true)]) (hOf : Ok Tryz.prog 5 [.a ([.i .i16 A] ++ [.i .i16 B] ++ [.i .u16 C] ++ [.i .u8 D] ++ [.i .u8 E] ++ [.i .u8 F])] [.a (cR x ++ cR y ++ cR z)]) (hx : Rz 4 x) (hy : Rz 2 y) (hz : Rz 2 z) (hz0 : 0 ≤ z) (hv : y ≠ 0 → 0 < z ∧ sqR z = false) (hok : rtOk x y z = true) (hn : n ≤ 60) (hk : skI (rtLo x y z) (rtHi x y z) = true) : Ok Tryz.prog 3 [.a ([.i .i16 A] ++ [.i .i16 B] ++ [.i .u16 C] ++ [.i .u8 D] ++ [.i .u8 E] ++ [.i .u8 F]), .c (.i .u8 (n : Int))] [.c (.b true)] := by
  obtain ⟨t1, t2, t3, t4, t5, t6, t7⟩ := topF_pack (n := n) hz0 hv hok
  obtain ⟨⟨q1, q2⟩, ⟨q3, q4⟩⟩ := rt_bd hok
  obtain ⟨r1, r2, r3, r4⟩ := fl_bd (x := x) (y := y) hz0 hok
  have kx : Rz 200 x := hx.mono (by decide)
  have ky : Rz 200 y := hy.mono (by decide)
  have kz : Rz 200 z := hz.mono (by decide)
  have lQ : Rz 3 (Rat.divInt (rtLo x y z) 65536) := Rz.of (Sz.small (by decide) (by omega) (by omega)) (Sz.small (by decide) (by omega) (by omega)) (by omega)
  have hQ : Rz 3 (Rat.divInt (rtHi x y z) 65536) := Rz.of (Sz.small (by decide) (by omega) (by omega)) (Sz.small (by decide) (by omega) (by omega)) (by omega)
  have dQ_ : Rz 3 (((flR x y z : Int) : Rat)) := Rz.num (by omega) (by omega)
  have uQ : Rz 3 (((-(flR (-x) (-y) z) : Int) : Rat)) := Rz.num (by omega) (by omega)
  have hU := p2_sz hn
  have hU1 := p2_pos n
  have hUQ : Rz 3 ((p2 n : Int) : Rat) := Rz.int hU (by decide)
  have g3 : Rz 2 (zc (y * ((p2 n : Int) : Rat)) z) := Rz.zc hz (by decide)
  have hE : Sz 60 (enF x y z n) := (flR_sz (hx.mul hUQ) (hy.mul hUQ) g3).mono (by decide)
  have hE1 : Sz 70 (enF x y z n + 1) := (hE.addm (Sz.small (k := 3) (by decide) (by decide) (by decide))).mono (by decide)
  have xL : Rz 300 (Rat.divInt (enF x y z n) (p2 n)) := (Rz.of hE (hU.mono (by decide)) (by omega)).mono (by decide)
  have xH : Rz 300 (Rat.divInt (enF x y z n + 1) (p2 n)) := (Rz.of hE1 (hU.mono (by decide)) (by omega)).mono (by decide)
  have lQ3 : Rz 300 (Rat.divInt (rtLo x y z) 65536) := lQ.mono (by decide)
  have hQ3 : Rz 300 (Rat.divInt (rtHi x y z) 65536) := hQ.mono (by decide)
  have s1 : Sz 999 (1 : Int) := Sz.small (by decide) (by decide) (by decide)
  have sD : Sz 999 (flR x y z) := Sz.small (by decide) (by omega) (by omega)
  have sU : Sz 999 (-(flR (-x) (-y) z)) := Sz.small (by decide) (by omega) (by omega)
  have sV : Sz 1000000 (flR (-x) (-y) z) := Sz.small (by decide) (by omega) (by omega)
  have o1 : Rz 300 ((1 : Int) : Rat) := (Rz.num (by decide) (by decide)).mono (by decide)
  have uD : Rz 300 (((-(flR (-x) (-y) z) : Int) : Rat) - ((flR x y z : Int) : Rat)) := (uQ.sub dQ_).mono (by decide)
  refine Ok.of (by kernel_rfl) Tryz.func3 rfl rfl ?_
  rw [show Tryz.f3.ntmps = 131 from rfl, show Tryz.f3.results.toList = [.tmp 4] from rfl]
  refine dw_seq <| dw_region (by kernel_rfl) <| dl_new (sem_box_a rfl rfl) rfl <| dl_r (sem_assign rfl rfl) <| dl_end <| dw_seq <| dw_seq <| dw_region (by kernel_rfl) ?_
  refine dl_r (sem_call rfl rfl (hA) rfl) <| dl_r (sem_not rfl rfl) <| dl_r (sem_move rfl rfl) <| dl_r (sem_move rfl rfl) <| dl_r (sem_castb (c := false) (sem_cmp rfl rfl rfl rfl) (decide_eq_false (by omega))) <| dl_r (sem_pick rfl rfl rfl rfl) <| dl_end <| dw_false rfl ?_
  refine dw_skip <| dw_seq <| dw_region (by kernel_rfl) <| dl_r (sem_load (us := ([.i .i16 A] ++ [.i .i16 B] ++ [.i .u16 C] ++ [.i .u8 D] ++ [.i .u8 E] ++ [.i .u8 F])) ty25 rfl rfl rfl rfl rfl) <| dl_r (sem_call rfl rfl (hOf) rfl) <| dl_new (sem_alloc zc33 rfl) rfl <| dl_st (sem_store_a ty33 rfl rfl rfl rfl rfl rfl) <| dl_end ?_
  refine dw_seq <| dw_region (by kernel_rfl) <| dl_r (sem_load (us := (cR x ++ cR y ++ cR z)) ty33 rfl rfl rfl rfl rfl) <| dl_r (sem_call rfl rfl (fRoot_t kx ky kz hok) rfl) <| dl_r (sem_move rfl rfl) <| dl_r (sem_extract rfl rfl rfl) <| dl_r (sem_extract rfl rfl rfl) <| dl_new (sem_alloc zc36 rfl) rfl ?_
  refine dl_st (sem_store_a ty36 rfl rfl rfl rfl rfl rfl) <| dl_r (sem_assign rfl rfl) <| dl_end <| dw_seq <| dw_seq <| dw_region (by kernel_rfl) <| dl_r (sem_move rfl rfl) <| dl_r (sem_not rfl rfl) ?_
  refine dl_end <| dw_false rfl <| dw_skip <| dw_seq <| dw_draw 8 [] follows_mixed (by kernel_rfl) rfl rfl <| dq_r (sem_field fd36_0 rfl rfl) <| dq_r (sem_load1 ty2 rfl rfl rfl rfl) <| dq_r (sem_call rfl rfl (sFrac_ok (by omega) (by omega) (by omega) (by omega) (by omega)) rfl) ?_
  refine dq_r (sem_field fd36_1 rfl rfl) <| dq_r (sem_load1 ty2 rfl rfl rfl rfl) <| dq_r (sem_call rfl rfl (sFrac_ok (by omega) (by omega) (by omega) (by omega) (by omega)) rfl) <| dq_new (sem_alloc zc31 rfl) rfl <| dq_new (sem_alloc zc31 rfl) rfl <| dq_end <| dl_start2 <| dl_st (sem_store_a ty31 rfl rfl rfl rfl rfl rfl) ?_
  refine dl_st (sem_store_a ty31 rfl rfl rfl rfl rfl rfl) <| dl_end <| dw_seq <| dw_seq <| dw_region (by kernel_rfl) <| dl_r (sem_load (us := (cR x ++ cR y ++ cR z)) ty33 rfl rfl rfl rfl rfl) <| dl_r (sem_load (us := cR (Rat.divInt (rtLo x y z) 65536)) ty31 rfl rfl rfl rfl rfl) <| dl_r (sem_call rfl rfl (xCmpRat_ok (hx.mono (by decide)) (hy.mono (by decide)) (hz.mono (by decide)) (lQ.mono (by decide)) ((hx.sub lQ).mono (by decide)) hz0) rfl) ?_
  refine dl_r (sem_castb (c := false) (sem_cmp rfl rfl rfl rfl) (decide_eq_false (by omega))) <| dl_r (sem_move rfl rfl) <| dl_r (sem_load (us := (cR x ++ cR y ++ cR z)) ty33 rfl rfl rfl rfl rfl) <| dl_r (sem_load (us := cR (Rat.divInt (rtHi x y z) 65536)) ty31 rfl rfl rfl rfl rfl) <| dl_r (sem_call rfl rfl (xCmpRat_ok (hx.mono (by decide)) (hy.mono (by decide)) (hz.mono (by decide)) (hQ.mono (by decide)) ((hx.sub hQ).mono (by decide)) hz0) rfl) <| dl_r (sem_castb (c := false) (sem_cmp rfl rfl rfl rfl) (decide_eq_false (by omega))) <| dl_r (sem_pick rfl rfl rfl rfl) <| dl_end ?_
  refine dw_false rfl <| dw_skip <| dw_seq <| dw_seq <| dw_region (by kernel_rfl) <| dl_r (sem_load (us := ([.i .i64 (rtLo x y z)] ++ [.i .i64 (rtHi x y z)])) ty36 rfl rfl rfl rfl rfl) <| dl_r (sem_call rfl rfl ((show Ok Tryz.prog 9 [.a ([.i .i64 (rtLo x y z)] ++ [.i .i64 (rtHi x y z)])] [.c (.i .i64 (sgI (rtLo x y z) (rtHi x y z))), .c (.b true)] from by have h9 := fSign_ok (x := rtLo x y z) (y := rtHi x y z); rw [hk] at h9; exact h9)) rfl) <| dl_r (sem_move rfl rfl) ?_
  refine dl_r (sem_extract rfl rfl rfl) <| dl_r (sem_extract rfl rfl rfl) <| dl_r (sem_assign rfl rfl) <| dl_r (sem_assign rfl rfl) <| dl_end <| dw_seq <| dw_region (by kernel_rfl) <| dl_r (sem_move rfl rfl) ?_
  refine dl_r (sem_move rfl rfl) <| dl_r (sem_move rfl rfl) <| dl_r (sem_load (us := (cR x ++ cR y ++ cR z)) ty33 rfl rfl rfl rfl rfl) <| dl_r (sem_call rfl rfl (rcasti (rtSign_ok (hx.mono (by decide)) (hy.mono (by decide)) (hz.mono (by decide))) (flt_sg hok hz0 (fun h => (hv h).1) hk).symm) rfl) <| dl_r (sem_castb (c := false) (sem_cmp rfl rfl rfl rfl) (bne_self_eq_false _)) <| dl_r (sem_pick rfl rfl rfl rfl) <| dl_end <| dw_false rfl ?_
  refine dw_skip <| dw_seq <| dw_region (by kernel_rfl) <| dl_r (sem_load (us := (cR x ++ cR y ++ cR z)) ty33 rfl rfl rfl rfl rfl) <| dl_r (sem_move rfl rfl) <| dl_r (sem_conv' (r := (n : Int)) und5 und3 rfl (nw64 (by omega) (by omega)) rfl) <| dl_r (sem_call rfl rfl (rtEnc_ok hx hy hz hn) rfl) <| dl_r (sem_move rfl rfl) ?_
  refine dl_r (sem_extract rfl rfl rfl) <| dl_r (sem_extract rfl rfl rfl) <| dl_new (sem_alloc zc45 rfl) rfl <| dl_st (sem_store_a ty45 rfl rfl rfl rfl rfl rfl) <| dl_r (sem_assign rfl rfl) <| dl_end <| dw_seq <| dw_draw 6 [] follows_mixed (by kernel_rfl) rfl rfl ?_
  refine dq_r (sem_load (us := (cR x ++ cR y ++ cR z)) ty33 rfl rfl rfl rfl rfl) <| dq_r (sem_call rfl rfl (dDown_ok (hx.mono (by decide)) (hy.mono (by decide)) (hz.mono (by decide))) rfl) <| dq_r (sem_load (us := (cR x ++ cR y ++ cR z)) ty33 rfl rfl rfl rfl rfl) <| dq_r (sem_call rfl rfl (dUp_ok (hx.mono (by decide)) (hy.mono (by decide)) (hz.mono (by decide)) sV) rfl) <| dq_new (sem_alloc zc29 rfl) rfl <| dq_new (sem_alloc zc29 rfl) rfl <| dq_end <| dl_start2 ?_
  refine dl_st (sem_store_a ty29 rfl rfl rfl rfl rfl rfl) <| dl_st (sem_store_a ty29 rfl rfl rfl rfl rfl rfl) <| dl_end <| dw_seq <| dw_draw 9 [16] follows_mixed (by kernel_rfl) rfl rfl <| dq_r (sem_load (us := cI (flR x y z)) ty29 rfl rfl rfl rfl rfl) <| dq_r (sem_call rfl rfl ((show Ok Tryz.prog 15 [.c (.i .i64 1)] [dI 1] from iFrom_ok (by decide) (by decide))) rfl) <| dq_r (sem_call rfl rfl (rcast1l (pMake_ok sD s1 (by decide)) (dv1 _)) rfl) ?_
  refine dq_r (sem_move rfl rfl) <| dq_r (sem_extract rfl rfl rfl) <| dq_r (sem_extract rfl rfl rfl) <| dq_new (sem_alloc zc31 rfl) rfl <| dq_sn (sem_store_a ty31 rfl rfl rfl rfl rfl rfl) rfl rfl rfl rfl <| dq_r (sem_assign rfl rfl) <| dq_end <| dl_start2 ?_
  refine dl_end <| dw_seq <| dw_draw 9 [18] follows_mixed (by kernel_rfl) rfl rfl <| dq_r (sem_load (us := cI (-(flR (-x) (-y) z))) ty29 rfl rfl rfl rfl rfl) <| dq_r (sem_call rfl rfl ((show Ok Tryz.prog 15 [.c (.i .i64 1)] [dI 1] from iFrom_ok (by decide) (by decide))) rfl) <| dq_r (sem_call rfl rfl (rcast1l (pMake_ok sU s1 (by decide)) (dv1 _)) rfl) <| dq_r (sem_move rfl rfl) <| dq_r (sem_extract rfl rfl rfl) ?_
  refine dq_r (sem_extract rfl rfl rfl) <| dq_new (sem_alloc zc31 rfl) rfl <| dq_sn (sem_store_a ty31 rfl rfl rfl rfl rfl rfl) rfl rfl rfl rfl <| dq_r (sem_assign rfl rfl) <| dq_end <| dl_start2 <| dl_end <| dw_seq ?_
  refine dw_seq <| dw_region (by kernel_rfl) <| dl_r (sem_move rfl rfl) <| dl_r (sem_cmp rfl rfl rfl rfl) <| dl_r (sem_move rfl rfl) <| dl_r (sem_move rfl rfl) <| dl_r (sem_cmp rfl rfl rfl rfl) <| dl_r (sem_pick rfl rfl rfl rfl) ?_
  refine dl_r (sem_move rfl rfl) <| dl_r (sem_move rfl rfl) <| dl_r (sem_cmp rfl rfl rfl rfl) <| dl_r (sem_pick rfl rfl rfl rfl) <| dl_end <| dw_false rfl <| dw_skip <| dw_seq ?_
  refine dw_region (by kernel_rfl) <| dl_r (sem_field fd45_0 rfl rfl) <| dl_r (sem_load (us := cR (Rat.divInt (enF x y z n) (p2 n))) ty31 rfl rfl rfl rfl rfl) <| dl_r (sem_load (us := cR (Rat.divInt (rtHi x y z) 65536)) ty31 rfl rfl rfl rfl rfl) <| dl_r (sem_call rfl rfl (pCmp_ok xL hQ3) rfl) <| dl_r (sem_castb (c := true) (sem_cmp rfl rfl rfl rfl) (decide_eq_true (by omega))) <| dl_r (sem_move rfl rfl) <| dl_r (sem_load (us := cR (Rat.divInt (rtLo x y z) 65536)) ty31 rfl rfl rfl rfl rfl) ?_
  refine dl_r (sem_field fd45_1 rfl rfl) <| dl_r (sem_load (us := cR (Rat.divInt (enF x y z n + 1) (p2 n))) ty31 rfl rfl rfl rfl rfl) <| dl_r (sem_call rfl rfl (pCmp_ok lQ3 xH) rfl) <| dl_r (sem_castb (c := true) (sem_cmp rfl rfl rfl rfl) (decide_eq_true (by omega))) <| dl_r (sem_pick rfl rfl rfl rfl) <| dl_r (sem_assign rfl rfl) <| dl_end <| dw_seq ?_
  refine dw_region (by kernel_rfl) <| dl_r (sem_move rfl rfl) <| dl_r (sem_move rfl rfl) <| dl_r (sem_load (us := (cR x ++ cR y ++ cR z)) ty33 rfl rfl rfl rfl rfl) <| dl_r (sem_load (us := cR (((flR x y z : Int) : Rat))) ty31 rfl rfl rfl rfl rfl) <| dl_r (sem_call rfl rfl (xCmpRat_ok (hx.mono (by decide)) (hy.mono (by decide)) (hz.mono (by decide)) (dQ_.mono (by decide)) ((hx.sub dQ_).mono (by decide)) hz0) rfl) <| dl_r (sem_castb (c := true) (sem_cmp rfl rfl rfl rfl) (decide_eq_true (by omega))) <| dl_r (sem_pick rfl rfl rfl rfl) ?_
  refine dl_r (sem_move rfl rfl) <| dl_r (sem_load (us := (cR x ++ cR y ++ cR z)) ty33 rfl rfl rfl rfl rfl) <| dl_r (sem_load (us := cR (((-(flR (-x) (-y) z) : Int) : Rat))) ty31 rfl rfl rfl rfl rfl) <| dl_r (sem_call rfl rfl (xCmpRat_ok (hx.mono (by decide)) (hy.mono (by decide)) (hz.mono (by decide)) (uQ.mono (by decide)) ((hx.sub uQ).mono (by decide)) hz0) rfl) <| dl_r (sem_castb (c := true) (sem_cmp rfl rfl rfl rfl) (decide_eq_true (by omega))) <| dl_r (sem_pick rfl rfl rfl rfl) <| dl_r (sem_move rfl rfl) <| dl_r (sem_load (us := cR (((-(flR (-x) (-y) z) : Int) : Rat))) ty31 rfl rfl rfl rfl rfl) ?_
  refine dl_r (sem_load (us := cR (((flR x y z : Int) : Rat))) ty31 rfl rfl rfl rfl rfl) <| dl_r (sem_call rfl rfl (sSub_ok (uQ.mono (by decide)) (dQ_.mono (by decide))) rfl) <| dl_r (sem_call rfl rfl (pFrom_ok (by omega) (by omega)) rfl) <| dl_r (sem_call rfl rfl (pCmp_ok uD o1) rfl) <| dl_r (sem_castb (c := true) (sem_cmp rfl rfl rfl rfl) (decide_eq_true (by omega))) <| dl_r (sem_pick rfl rfl rfl rfl) <| dl_r (sem_assign rfl rfl) <| dl_end ?_
  refine dw_ret ?_
  exact ⟨.inr rfl, (resL_tmp rfl resL_nil)⟩
theorem lTF_u {x y z : Rat} {A B C D E F : Int} {n : Nat} (hA : Ok Tryz.prog 4 [] [.c (.b true)]) (hOf : Ok Tryz.prog 5 [.a ([.i .i16 A] ++ [.i .i16 B] ++ [.i .u16 C] ++ [.i .u8 D] ++ [.i .u8 E] ++ [.i .u8 F])] [.a (cR x ++ cR y ++ cR z)]) (hx : Rz 4 x) (hy : Rz 2 y) (hz : Rz 2 z) (hz0 : 0 ≤ z) (hv : y ≠ 0 → 0 < z ∧ sqR z = false) (hok : rtOk x y z = true) (hn : n ≤ 60) (hk : skI (rtLo x y z) (rtHi x y z) = false) : Ok Tryz.prog 3 [.a ([.i .i16 A] ++ [.i .i16 B] ++ [.i .u16 C] ++ [.i .u8 D] ++ [.i .u8 E] ++ [.i .u8 F]), .c (.i .u8 (n : Int))] [.c (.b true)] := by
  obtain ⟨t1, t2, t3, t4, t5, t6, t7⟩ := topF_pack (n := n) hz0 hv hok
  obtain ⟨⟨q1, q2⟩, ⟨q3, q4⟩⟩ := rt_bd hok
  obtain ⟨r1, r2, r3, r4⟩ := fl_bd (x := x) (y := y) hz0 hok
  have kx : Rz 200 x := hx.mono (by decide)
  have ky : Rz 200 y := hy.mono (by decide)
  have kz : Rz 200 z := hz.mono (by decide)
  have lQ : Rz 3 (Rat.divInt (rtLo x y z) 65536) := Rz.of (Sz.small (by decide) (by omega) (by omega)) (Sz.small (by decide) (by omega) (by omega)) (by omega)
  have hQ : Rz 3 (Rat.divInt (rtHi x y z) 65536) := Rz.of (Sz.small (by decide) (by omega) (by omega)) (Sz.small (by decide) (by omega) (by omega)) (by omega)
  have dQ_ : Rz 3 (((flR x y z : Int) : Rat)) := Rz.num (by omega) (by omega)
  have uQ : Rz 3 (((-(flR (-x) (-y) z) : Int) : Rat)) := Rz.num (by omega) (by omega)
  have hU := p2_sz hn
  have hU1 := p2_pos n
  have hUQ : Rz 3 ((p2 n : Int) : Rat) := Rz.int hU (by decide)
  have g3 : Rz 2 (zc (y * ((p2 n : Int) : Rat)) z) := Rz.zc hz (by decide)
  have hE : Sz 60 (enF x y z n) := (flR_sz (hx.mul hUQ) (hy.mul hUQ) g3).mono (by decide)
  have hE1 : Sz 70 (enF x y z n + 1) := (hE.addm (Sz.small (k := 3) (by decide) (by decide) (by decide))).mono (by decide)
  have xL : Rz 300 (Rat.divInt (enF x y z n) (p2 n)) := (Rz.of hE (hU.mono (by decide)) (by omega)).mono (by decide)
  have xH : Rz 300 (Rat.divInt (enF x y z n + 1) (p2 n)) := (Rz.of hE1 (hU.mono (by decide)) (by omega)).mono (by decide)
  have lQ3 : Rz 300 (Rat.divInt (rtLo x y z) 65536) := lQ.mono (by decide)
  have hQ3 : Rz 300 (Rat.divInt (rtHi x y z) 65536) := hQ.mono (by decide)
  have s1 : Sz 999 (1 : Int) := Sz.small (by decide) (by decide) (by decide)
  have sD : Sz 999 (flR x y z) := Sz.small (by decide) (by omega) (by omega)
  have sU : Sz 999 (-(flR (-x) (-y) z)) := Sz.small (by decide) (by omega) (by omega)
  have sV : Sz 1000000 (flR (-x) (-y) z) := Sz.small (by decide) (by omega) (by omega)
  have o1 : Rz 300 ((1 : Int) : Rat) := (Rz.num (by decide) (by decide)).mono (by decide)
  have uD : Rz 300 (((-(flR (-x) (-y) z) : Int) : Rat) - ((flR x y z : Int) : Rat)) := (uQ.sub dQ_).mono (by decide)
  refine Ok.of (by kernel_rfl) Tryz.func3 rfl rfl ?_
  rw [show Tryz.f3.ntmps = 131 from rfl, show Tryz.f3.results.toList = [.tmp 4] from rfl]
  refine dw_seq <| dw_region (by kernel_rfl) <| dl_new (sem_box_a rfl rfl) rfl <| dl_r (sem_assign rfl rfl) <| dl_end <| dw_seq <| dw_seq <| dw_region (by kernel_rfl) ?_
  refine dl_r (sem_call rfl rfl (hA) rfl) <| dl_r (sem_not rfl rfl) <| dl_r (sem_move rfl rfl) <| dl_r (sem_move rfl rfl) <| dl_r (sem_castb (c := false) (sem_cmp rfl rfl rfl rfl) (decide_eq_false (by omega))) <| dl_r (sem_pick rfl rfl rfl rfl) <| dl_end <| dw_false rfl ?_
  refine dw_skip <| dw_seq <| dw_region (by kernel_rfl) <| dl_r (sem_load (us := ([.i .i16 A] ++ [.i .i16 B] ++ [.i .u16 C] ++ [.i .u8 D] ++ [.i .u8 E] ++ [.i .u8 F])) ty25 rfl rfl rfl rfl rfl) <| dl_r (sem_call rfl rfl (hOf) rfl) <| dl_new (sem_alloc zc33 rfl) rfl <| dl_st (sem_store_a ty33 rfl rfl rfl rfl rfl rfl) <| dl_end ?_
  refine dw_seq <| dw_region (by kernel_rfl) <| dl_r (sem_load (us := (cR x ++ cR y ++ cR z)) ty33 rfl rfl rfl rfl rfl) <| dl_r (sem_call rfl rfl (fRoot_t kx ky kz hok) rfl) <| dl_r (sem_move rfl rfl) <| dl_r (sem_extract rfl rfl rfl) <| dl_r (sem_extract rfl rfl rfl) <| dl_new (sem_alloc zc36 rfl) rfl ?_
  refine dl_st (sem_store_a ty36 rfl rfl rfl rfl rfl rfl) <| dl_r (sem_assign rfl rfl) <| dl_end <| dw_seq <| dw_seq <| dw_region (by kernel_rfl) <| dl_r (sem_move rfl rfl) <| dl_r (sem_not rfl rfl) ?_
  refine dl_end <| dw_false rfl <| dw_skip <| dw_seq <| dw_draw 8 [] follows_mixed (by kernel_rfl) rfl rfl <| dq_r (sem_field fd36_0 rfl rfl) <| dq_r (sem_load1 ty2 rfl rfl rfl rfl) <| dq_r (sem_call rfl rfl (sFrac_ok (by omega) (by omega) (by omega) (by omega) (by omega)) rfl) ?_
  refine dq_r (sem_field fd36_1 rfl rfl) <| dq_r (sem_load1 ty2 rfl rfl rfl rfl) <| dq_r (sem_call rfl rfl (sFrac_ok (by omega) (by omega) (by omega) (by omega) (by omega)) rfl) <| dq_new (sem_alloc zc31 rfl) rfl <| dq_new (sem_alloc zc31 rfl) rfl <| dq_end <| dl_start2 <| dl_st (sem_store_a ty31 rfl rfl rfl rfl rfl rfl) ?_
  refine dl_st (sem_store_a ty31 rfl rfl rfl rfl rfl rfl) <| dl_end <| dw_seq <| dw_seq <| dw_region (by kernel_rfl) <| dl_r (sem_load (us := (cR x ++ cR y ++ cR z)) ty33 rfl rfl rfl rfl rfl) <| dl_r (sem_load (us := cR (Rat.divInt (rtLo x y z) 65536)) ty31 rfl rfl rfl rfl rfl) <| dl_r (sem_call rfl rfl (xCmpRat_ok (hx.mono (by decide)) (hy.mono (by decide)) (hz.mono (by decide)) (lQ.mono (by decide)) ((hx.sub lQ).mono (by decide)) hz0) rfl) ?_
  refine dl_r (sem_castb (c := false) (sem_cmp rfl rfl rfl rfl) (decide_eq_false (by omega))) <| dl_r (sem_move rfl rfl) <| dl_r (sem_load (us := (cR x ++ cR y ++ cR z)) ty33 rfl rfl rfl rfl rfl) <| dl_r (sem_load (us := cR (Rat.divInt (rtHi x y z) 65536)) ty31 rfl rfl rfl rfl rfl) <| dl_r (sem_call rfl rfl (xCmpRat_ok (hx.mono (by decide)) (hy.mono (by decide)) (hz.mono (by decide)) (hQ.mono (by decide)) ((hx.sub hQ).mono (by decide)) hz0) rfl) <| dl_r (sem_castb (c := false) (sem_cmp rfl rfl rfl rfl) (decide_eq_false (by omega))) <| dl_r (sem_pick rfl rfl rfl rfl) <| dl_end ?_
  refine dw_false rfl <| dw_skip <| dw_seq <| dw_seq <| dw_region (by kernel_rfl) <| dl_r (sem_load (us := ([.i .i64 (rtLo x y z)] ++ [.i .i64 (rtHi x y z)])) ty36 rfl rfl rfl rfl rfl) <| dl_r (sem_call rfl rfl ((show Ok Tryz.prog 9 [.a ([.i .i64 (rtLo x y z)] ++ [.i .i64 (rtHi x y z)])] [.c (.i .i64 (sgI (rtLo x y z) (rtHi x y z))), .c (.b false)] from by have h9 := fSign_ok (x := rtLo x y z) (y := rtHi x y z); rw [hk] at h9; exact h9)) rfl) <| dl_r (sem_move rfl rfl) ?_
  refine dl_r (sem_extract rfl rfl rfl) <| dl_r (sem_extract rfl rfl rfl) <| dl_r (sem_assign rfl rfl) <| dl_r (sem_assign rfl rfl) <| dl_end <| dw_seq <| dw_region (by kernel_rfl) <| dl_r (sem_move rfl rfl) ?_
  refine dl_r (sem_move rfl rfl) <| dl_skip (sem_skip rfl) <| dl_skip (sem_skip rfl) <| dl_skip (sem_skip rfl) <| dl_skip (sem_skip rfl) <| dl_r (sem_pick rfl rfl rfl rfl) <| dl_end <| dw_false rfl ?_
  refine dw_skip <| dw_seq <| dw_region (by kernel_rfl) <| dl_r (sem_load (us := (cR x ++ cR y ++ cR z)) ty33 rfl rfl rfl rfl rfl) <| dl_r (sem_move rfl rfl) <| dl_r (sem_conv' (r := (n : Int)) und5 und3 rfl (nw64 (by omega) (by omega)) rfl) <| dl_r (sem_call rfl rfl (rtEnc_ok hx hy hz hn) rfl) <| dl_r (sem_move rfl rfl) ?_
  refine dl_r (sem_extract rfl rfl rfl) <| dl_r (sem_extract rfl rfl rfl) <| dl_new (sem_alloc zc45 rfl) rfl <| dl_st (sem_store_a ty45 rfl rfl rfl rfl rfl rfl) <| dl_r (sem_assign rfl rfl) <| dl_end <| dw_seq <| dw_draw 6 [] follows_mixed (by kernel_rfl) rfl rfl ?_
  refine dq_r (sem_load (us := (cR x ++ cR y ++ cR z)) ty33 rfl rfl rfl rfl rfl) <| dq_r (sem_call rfl rfl (dDown_ok (hx.mono (by decide)) (hy.mono (by decide)) (hz.mono (by decide))) rfl) <| dq_r (sem_load (us := (cR x ++ cR y ++ cR z)) ty33 rfl rfl rfl rfl rfl) <| dq_r (sem_call rfl rfl (dUp_ok (hx.mono (by decide)) (hy.mono (by decide)) (hz.mono (by decide)) sV) rfl) <| dq_new (sem_alloc zc29 rfl) rfl <| dq_new (sem_alloc zc29 rfl) rfl <| dq_end <| dl_start2 ?_
  refine dl_st (sem_store_a ty29 rfl rfl rfl rfl rfl rfl) <| dl_st (sem_store_a ty29 rfl rfl rfl rfl rfl rfl) <| dl_end <| dw_seq <| dw_draw 9 [16] follows_mixed (by kernel_rfl) rfl rfl <| dq_r (sem_load (us := cI (flR x y z)) ty29 rfl rfl rfl rfl rfl) <| dq_r (sem_call rfl rfl ((show Ok Tryz.prog 15 [.c (.i .i64 1)] [dI 1] from iFrom_ok (by decide) (by decide))) rfl) <| dq_r (sem_call rfl rfl (rcast1l (pMake_ok sD s1 (by decide)) (dv1 _)) rfl) ?_
  refine dq_r (sem_move rfl rfl) <| dq_r (sem_extract rfl rfl rfl) <| dq_r (sem_extract rfl rfl rfl) <| dq_new (sem_alloc zc31 rfl) rfl <| dq_sn (sem_store_a ty31 rfl rfl rfl rfl rfl rfl) rfl rfl rfl rfl <| dq_r (sem_assign rfl rfl) <| dq_end <| dl_start2 ?_
  refine dl_end <| dw_seq <| dw_draw 9 [18] follows_mixed (by kernel_rfl) rfl rfl <| dq_r (sem_load (us := cI (-(flR (-x) (-y) z))) ty29 rfl rfl rfl rfl rfl) <| dq_r (sem_call rfl rfl ((show Ok Tryz.prog 15 [.c (.i .i64 1)] [dI 1] from iFrom_ok (by decide) (by decide))) rfl) <| dq_r (sem_call rfl rfl (rcast1l (pMake_ok sU s1 (by decide)) (dv1 _)) rfl) <| dq_r (sem_move rfl rfl) <| dq_r (sem_extract rfl rfl rfl) ?_
  refine dq_r (sem_extract rfl rfl rfl) <| dq_new (sem_alloc zc31 rfl) rfl <| dq_sn (sem_store_a ty31 rfl rfl rfl rfl rfl rfl) rfl rfl rfl rfl <| dq_r (sem_assign rfl rfl) <| dq_end <| dl_start2 <| dl_end <| dw_seq ?_
  refine dw_seq <| dw_region (by kernel_rfl) <| dl_r (sem_move rfl rfl) <| dl_r (sem_cmp rfl rfl rfl rfl) <| dl_r (sem_move rfl rfl) <| dl_r (sem_move rfl rfl) <| dl_r (sem_cmp rfl rfl rfl rfl) <| dl_r (sem_pick rfl rfl rfl rfl) ?_
  refine dl_r (sem_move rfl rfl) <| dl_r (sem_move rfl rfl) <| dl_r (sem_cmp rfl rfl rfl rfl) <| dl_r (sem_pick rfl rfl rfl rfl) <| dl_end <| dw_false rfl <| dw_skip <| dw_seq ?_
  refine dw_region (by kernel_rfl) <| dl_r (sem_field fd45_0 rfl rfl) <| dl_r (sem_load (us := cR (Rat.divInt (enF x y z n) (p2 n))) ty31 rfl rfl rfl rfl rfl) <| dl_r (sem_load (us := cR (Rat.divInt (rtHi x y z) 65536)) ty31 rfl rfl rfl rfl rfl) <| dl_r (sem_call rfl rfl (pCmp_ok xL hQ3) rfl) <| dl_r (sem_castb (c := true) (sem_cmp rfl rfl rfl rfl) (decide_eq_true (by omega))) <| dl_r (sem_move rfl rfl) <| dl_r (sem_load (us := cR (Rat.divInt (rtLo x y z) 65536)) ty31 rfl rfl rfl rfl rfl) ?_
  refine dl_r (sem_field fd45_1 rfl rfl) <| dl_r (sem_load (us := cR (Rat.divInt (enF x y z n + 1) (p2 n))) ty31 rfl rfl rfl rfl rfl) <| dl_r (sem_call rfl rfl (pCmp_ok lQ3 xH) rfl) <| dl_r (sem_castb (c := true) (sem_cmp rfl rfl rfl rfl) (decide_eq_true (by omega))) <| dl_r (sem_pick rfl rfl rfl rfl) <| dl_r (sem_assign rfl rfl) <| dl_end <| dw_seq ?_
  refine dw_region (by kernel_rfl) <| dl_r (sem_move rfl rfl) <| dl_r (sem_move rfl rfl) <| dl_r (sem_load (us := (cR x ++ cR y ++ cR z)) ty33 rfl rfl rfl rfl rfl) <| dl_r (sem_load (us := cR (((flR x y z : Int) : Rat))) ty31 rfl rfl rfl rfl rfl) <| dl_r (sem_call rfl rfl (xCmpRat_ok (hx.mono (by decide)) (hy.mono (by decide)) (hz.mono (by decide)) (dQ_.mono (by decide)) ((hx.sub dQ_).mono (by decide)) hz0) rfl) <| dl_r (sem_castb (c := true) (sem_cmp rfl rfl rfl rfl) (decide_eq_true (by omega))) <| dl_r (sem_pick rfl rfl rfl rfl) ?_
  refine dl_r (sem_move rfl rfl) <| dl_r (sem_load (us := (cR x ++ cR y ++ cR z)) ty33 rfl rfl rfl rfl rfl) <| dl_r (sem_load (us := cR (((-(flR (-x) (-y) z) : Int) : Rat))) ty31 rfl rfl rfl rfl rfl) <| dl_r (sem_call rfl rfl (xCmpRat_ok (hx.mono (by decide)) (hy.mono (by decide)) (hz.mono (by decide)) (uQ.mono (by decide)) ((hx.sub uQ).mono (by decide)) hz0) rfl) <| dl_r (sem_castb (c := true) (sem_cmp rfl rfl rfl rfl) (decide_eq_true (by omega))) <| dl_r (sem_pick rfl rfl rfl rfl) <| dl_r (sem_move rfl rfl) <| dl_r (sem_load (us := cR (((-(flR (-x) (-y) z) : Int) : Rat))) ty31 rfl rfl rfl rfl rfl) ?_
  refine dl_r (sem_load (us := cR (((flR x y z : Int) : Rat))) ty31 rfl rfl rfl rfl rfl) <| dl_r (sem_call rfl rfl (sSub_ok (uQ.mono (by decide)) (dQ_.mono (by decide))) rfl) <| dl_r (sem_call rfl rfl (pFrom_ok (by omega) (by omega)) rfl) <| dl_r (sem_call rfl rfl (pCmp_ok uD o1) rfl) <| dl_r (sem_castb (c := true) (sem_cmp rfl rfl rfl rfl) (decide_eq_true (by omega))) <| dl_r (sem_pick rfl rfl rfl rfl) <| dl_r (sem_assign rfl rfl) <| dl_end ?_
  refine dw_ret ?_
  exact ⟨.inr rfl, (resL_tmp rfl resL_nil)⟩
theorem lTF_big {A B C D E F n : Int} (hA : Ok Tryz.prog 4 [] [.c (.b true)]) (hn : 60 < n) : Ok Tryz.prog 3 [.a ([.i .i16 A] ++ [.i .i16 B] ++ [.i .u16 C] ++ [.i .u8 D] ++ [.i .u8 E] ++ [.i .u8 F]), .c (.i .u8 n)] [.c (.b true)] := by
  refine Ok.of (by kernel_rfl) Tryz.func3 rfl rfl ?_
  rw [show Tryz.f3.ntmps = 131 from rfl, show Tryz.f3.results.toList = [.tmp 4] from rfl]
  refine dw_seq <| dw_region (by kernel_rfl) <| dl_new (sem_box_a rfl rfl) rfl <| dl_r (sem_assign rfl rfl) <| dl_end <| dw_seq <| dw_seq <| dw_region (by kernel_rfl) ?_
  refine dl_r (sem_call rfl rfl (hA) rfl) <| dl_r (sem_not rfl rfl) <| dl_r (sem_move rfl rfl) <| dl_r (sem_move rfl rfl) <| dl_r (sem_castb (c := true) (sem_cmp rfl rfl rfl rfl) (decide_eq_true (by omega))) <| dl_r (sem_pick rfl rfl rfl rfl) <| dl_end <| dw_true rfl ?_
  refine dw_seq <| dw_region (by kernel_rfl) <| dl_r (sem_call rfl rfl (hA) rfl) <| dl_r (sem_assign rfl rfl) <| dl_end <| dw_ret ?_
  exact ⟨.inr rfl, (resL_tmp rfl resL_nil)⟩
structure Pl where
  b : Nat
  z : Nat
inductive AV where
  | b (v : Bool)
  | i (k : IntKind) (n : Int)
  | l (x : Nat)
  | p (k off : Nat)
  | s (k off n lo : Nat) (ex : Bool) (m : Nat)
  | z
  | ev
  | np
  | f0 (g : FuncId)
  | fc (x y : AV)
def AV.fn : AV → Option (FuncId × List AV)
  | .f0 g => some (g, [])
  | .fc x y => match y.fn with
    | some (g, xs) => some (g, x :: xs)
    | none => none
  | _ => none
inductive RdA (A Z : Nat → Prop) (w : World) (β : Nat → Pl) : Value → AV → Prop
  | b (v : Bool) : RdA A Z w β (.bool v) (.b v)
  | i (k : IntKind) (n : Int) : RdA A Z w β (.int k n) (.i k n)
  | l (v : Value) (x : Nat) : RdC Z w v (cL x) → RdA A Z w β v (.l x)
  | p (k off : Nat) : A k → RdA A Z w β (.pointer (some ⟨(β k).b, off, none⟩)) (.p k off)
  | s (k off n lo : Nat) (ex : Bool) (m c : Nat) : A k → n ≤ lo → lo ≤ c → c ≤ maxLen → (ex = true → c = lo) → off + c * m ≤ (β k).z → RdA A Z w β (.slice (some ⟨(β k).b, off, none⟩) n c) (.s k off n lo ex m)
  | z : RdA A Z w β (.slice none 0 0) .z
  | ev (a : Option Addr) (c : Nat) : c ≤ maxLen → (∀ ad, a = some ad → ad.spot = none) → RdA A Z w β (.slice a 0 c) .ev
  | np : RdA A Z w β (.pointer none) .np
  | f (g : FuncId) (cs : Array Value) (xs : List AV) (y : AV) : y.fn = some (g, xs) → cs.size = xs.length → (∀ (j : Nat) (v : Value) (x : AV), cs[j]? = some v → xs[j]? = some x → RdA A Z w β v x) → RdA A Z w β (.func (.func g) #[] cs) y
section
variable {A A' Z Z' : Nat → Prop} {w w' : World} {β β' : Nat → Pl}
theorem RdA.mono (hk : Keep Z Z' w w') (hA : ∀ k, A k → A' k) (hβ : ∀ k, A k → β' k = β k) {v : Value} {x : AV} (h : RdA A Z w β v x) : RdA A' Z' w' β' v x := by
  induction h with
  | b v => exact .b v
  | i k n => exact .i k n
  | l v x h => exact .l v x (h.keep hk)
  | p k off h => rw [← hβ k h]; exact .p k off (hA k h)
  | s k off n lo ex m c h h1 h2 h3 h4 h5 =>
    rw [← hβ k h] at h5 ⊢
    exact .s k off n lo ex m c (hA k h) h1 h2 h3 h4 h5
  | z => exact .z
  | ev a c h h2 => exact .ev a c h h2
  | np => exact .np
  | f g cs xs y h0 h _ ih => exact .f g cs xs y h0 h ih
def RdAs (A Z : Nat → Prop) (w : World) (β : Nat → Pl) (vs : List Value) (xs : List AV) : Prop := vs.length = xs.length ∧ ∀ (j : Nat) (v : Value) (x : AV), vs[j]? = some v → xs[j]? = some x → RdA A Z w β v x
theorem RdAs.mono (hk : Keep Z Z' w w') (hA : ∀ k, A k → A' k) (hβ : ∀ k, A k → β' k = β k) {vs : List Value} {xs : List AV} (h : RdAs A Z w β vs xs) : RdAs A' Z' w' β' vs xs := ⟨h.1, fun j v x hv hx => (h.2 j v x hv hx).mono hk hA hβ⟩
theorem RdAs.nil : RdAs A Z w β [] [] := ⟨rfl, fun j v x hv => by simp at hv⟩
theorem RdAs.cons {v : Value} {x : AV} {vs : List Value} {xs : List AV} (h : RdA A Z w β v x) (hs : RdAs A Z w β vs xs) : RdAs A Z w β (v :: vs) (x :: xs) := by
  refine ⟨by simp [hs.1], fun j u y hu hy => ?_⟩
  cases j with
  | zero => simp at hu hy; subst hu hy; exact h
  | succ j => simp at hu hy; exact hs.2 j u y hu hy
theorem RdAs.uncons {v : Value} {x : AV} {vs : List Value} {xs : List AV} (h : RdAs A Z w β (v :: vs) (x :: xs)) : RdA A Z w β v x ∧ RdAs A Z w β vs xs :=
  ⟨h.2 0 v x rfl rfl, by have := h.1; simpa using this, fun j u y hu hy => h.2 (j + 1) u y (by simpa using hu) (by simpa using hy)⟩
theorem RdAs.append {vs vs' : List Value} {us us' : List AV} (h : RdAs A Z w β vs us) (h' : RdAs A Z w β vs' us') : RdAs A Z w β (vs ++ vs') (us ++ us') := by
  refine ⟨by simp [h.1, h'.1], fun j v u hv hu => ?_⟩
  by_cases hj : j < vs.length
  · rw [List.getElem?_append_left hj] at hv
    rw [List.getElem?_append_left (by rw [← h.1]; exact hj)] at hu
    exact h.2 j v u hv hu
  · rw [List.getElem?_append_right (by omega)] at hv
    rw [List.getElem?_append_right (by rw [← h.1]; omega)] at hu
    rw [← h.1] at hu
    exact h'.2 _ v u hv hu
theorem RdAs.drop {vs : List Value} {us : List AV} (h : RdAs A Z w β vs us) (k : Nat) : RdAs A Z w β (vs.drop k) (us.drop k) :=
  ⟨by simp [h.1], fun j v u hv hu => h.2 (k + j) v u (by simpa using hv) (by simpa using hu)⟩
theorem RdAs.take {vs : List Value} {us : List AV} (h : RdAs A Z w β vs us) (k : Nat) : RdAs A Z w β (vs.take k) (us.take k) := by
  refine ⟨by simp [h.1], fun j v u hv hu => ?_⟩
  rw [List.getElem?_take] at hv hu
  split at hv
  · rename_i hj; rw [if_pos hj] at hu; exact h.2 j v u hv hu
  · cases hv
theorem RdC.two {v : Value} {u : CellD} (h : RdC Z w v u) : v.cells = #[v] ∧ v.oneCell' = true := by cases h <;> exact ⟨rfl, rfl⟩
theorem RdA.one {v : Value} {x : AV} (h : RdA A Z w β v x) : v.cells = #[v] ∧ v.oneCell' = true := by
  cases h with
  | l v x h => exact h.two
  | _ => exact ⟨rfl, rfl⟩
inductive Rp where
  | e
  | c (x : AV)
  | n (ls : Nat) (pu : Bool) (l r : Rp)
def Rp.flat : Rp → List AV
  | .e => []
  | .c x => [x]
  | .n _ _ l r => l.flat ++ r.flat
inductive XD where
  | c (x : AV)
  | a (n : Nat) (r : Rp)
def XD.cells : XD → List AV
  | .c x => [x]
  | .a _ r => r.flat
inductive XV where
  | c (x : AV)
  | a (n : Nat) (r : Rp)
  | t (ds : List XD)
  | u
def RdD (A Z : Nat → Prop) (w : World) (β : Nat → Pl) (v : Value) : XD → Prop
  | .c x => RdA A Z w β v x
  | .a _ r => ∃ cs : Array Value, v = .agg cs ∧ RdAs A Z w β cs.toList r.flat
def RdDs (A Z : Nat → Prop) (w : World) (β : Nat → Pl) (vs : List Value) (ds : List XD) : Prop := vs.length = ds.length ∧ ∀ (j : Nat) (v : Value) (d : XD), vs[j]? = some v → ds[j]? = some d → RdD A Z w β v d
def RdX2 (A Z : Nat → Prop) (w : World) (β : Nat → Pl) (v : Value) : XV → Prop
  | .c x => RdD A Z w β v (.c x)
  | .a n r => RdD A Z w β v (.a n r)
  | .t ds => ∃ vs : Array Value, v = .tuple vs ∧ RdDs A Z w β vs.toList ds
  | .u => v = undef
theorem RdD.mono (hk : Keep Z Z' w w') (hA : ∀ k, A k → A' k) (hβ : ∀ k, A k → β' k = β k) {v : Value} {d : XD} (h : RdD A Z w β v d) : RdD A' Z' w' β' v d := by
  cases d with
  | c x => exact RdA.mono hk hA hβ h
  | a n r => obtain ⟨cs, e, h⟩ := h; exact ⟨cs, e, h.mono hk hA hβ⟩
theorem RdDs.mono (hk : Keep Z Z' w w') (hA : ∀ k, A k → A' k) (hβ : ∀ k, A k → β' k = β k) {vs : List Value} {ds : List XD} (h : RdDs A Z w β vs ds) : RdDs A' Z' w' β' vs ds := ⟨h.1, fun j v d hv hd => (h.2 j v d hv hd).mono hk hA hβ⟩
theorem RdX2.mono (hk : Keep Z Z' w w') (hA : ∀ k, A k → A' k) (hβ : ∀ k, A k → β' k = β k) {v : Value} {x : XV} (h : RdX2 A Z w β v x) : RdX2 A' Z' w' β' v x := by
  cases x with
  | c x => exact RdD.mono hk hA hβ (d := .c x) h
  | a n r => exact RdD.mono hk hA hβ (d := .a n r) h
  | t ds => obtain ⟨vs, e, h⟩ := h; exact ⟨vs, e, h.mono hk hA hβ⟩
  | u => exact h
theorem RdDs.nil : RdDs A Z w β [] [] := ⟨rfl, fun j v x hv => by simp at hv⟩
theorem RdD.cells {v : Value} {d : XD} (h : RdD A Z w β v d) : RdAs A Z w β v.cells.toList d.cells := by
  cases d with
  | c x =>
    have h : RdA A Z w β v x := h
    rw [h.one.1]; exact RdAs.cons h RdAs.nil
  | a n r => obtain ⟨cs, rfl, h⟩ := h; exact h
theorem RdAs.one {vs : List Value} {xs : List AV} (h : RdAs A Z w β vs xs) : ∀ v ∈ vs, v.oneCell' = true := by
  intro v hv
  obtain ⟨j, hj⟩ := List.getElem?_of_mem hv
  have hlt : j < xs.length := by rw [← h.1]; exact (List.getElem?_eq_some_iff.1 hj).1
  exact (h.2 j v _ hj (List.getElem?_eq_getElem hlt)).one.2
end
abbrev HF := Nat → Option (TypeId × List AV)
abbrev TX := Nat → Option XV
def Zs (V : Nat → Prop) (H : HF) (β : Nat → Pl) : Nat → Prop := fun b => V b ∨ ∃ k, H k ≠ none ∧ (β k).b = b
structure Mem (V A : Nat → Prop) (H : HF) (β : Nat → Pl) (w : World) : Prop where
  vlt : ∀ b, V b → b < w.heap.size
  dom : ∀ k, H k ≠ none → A k
  lt : ∀ k, A k → (β k).b < w.heap.size
  inj : ∀ k l, H k ≠ none → H l ≠ none → (β k).b = (β l).b → k = l
  clr : ∀ k, H k ≠ none → ¬ V (β k).b
  box : ∀ k U cs, H k = some (U, cs) → ∃ vs : Array Value, w.heap[(β k).b]? = some (.cells vs U (0, 0)) ∧ vs.size = (β k).z ∧ cs.length ≤ vs.size ∧ RdAs A (Zs V H β) w β (vs.toList.take cs.length) cs
def Ad (A : Nat → Prop) (N N' : Nat) : Nat → Prop := fun k => A k ∨ (N ≤ k ∧ k < N')
structure Hst (N N' : Nat) (A : Nat → Prop) (H : HF) (β : Nat → Pl) (w : World) (H' : HF) (β' : Nat → Pl) (w' : World) : Prop where
  os : w'.os = w.os
  tape : w'.tape = w.tape
  output : w'.output = w.output
  size : w.heap.size ≤ w'.heap.size
  blk : ∀ b, b < w.heap.size → (∀ k, H k ≠ none → (β k).b ≠ b) → w'.heap[b]? = w.heap[b]?
  same : ∀ k, A k → β' k = β k
  own : ∀ k, H' k ≠ none → w.heap.size ≤ (β' k).b ∨ ∃ l, H l ≠ none ∧ (β l).b = (β' k).b
  nam : ∀ k, H' k ≠ none → H k ≠ none ∨ (N ≤ k ∧ k < N')
section
variable {V A A' : Nat → Prop} {H H' H2 : HF} {β β' β2 : Nat → Pl} {w w' w2 : World} {N N' N2 : Nat}
theorem Hst.refl : Hst N N' A H β w H β w :=
  ⟨rfl, rfl, rfl, Nat.le_refl _, fun _ _ _ => rfl, fun _ _ => rfl, fun k hk => .inr ⟨k, hk, rfl⟩, fun _ h => .inl h⟩
theorem Hst.wide {M M' : Nat} (h : Hst N N' A H β w H' β' w') (h1 : M ≤ N) (h2 : N' ≤ M') : Hst M M' A H β w H' β' w' :=
  ⟨h.os, h.tape, h.output, h.size, h.blk, h.same, h.own, fun k hk => (h.nam k hk).imp id fun g => ⟨Nat.le_trans h1 g.1, Nat.lt_of_lt_of_le g.2 h2⟩⟩
theorem Hst.keep (_hm : Mem V A H β w) (h : Hst N N' A H β w H' β' w') : Keep (Zs V H β) (Zs V H' β') w w' := by
  refine ⟨h.size, fun b hb hz => h.blk b hb (fun k hk e => hz (.inr ⟨k, hk, e⟩)), fun b hb hz => ?_⟩
  rcases hz with hz | ⟨k, hk, e⟩
  · exact .inl hz
  · rcases h.own k hk with g | ⟨l, hl, g⟩
    · omega
    · exact .inr ⟨l, hl, g.trans e⟩
theorem Hst.trans {M M' : Nat} (h : Hst M M' A H β w H' β' w') (hA : ∀ k, A k → A' k) (h2 : Hst M M' A' H' β' w' H2 β2 w2) : Hst M M' A H β w H2 β2 w2 := by
  refine ⟨h2.os.trans h.os, h2.tape.trans h.tape, h2.output.trans h.output, Nat.le_trans h.size h2.size, fun b hb hz => ?_, fun k hk => (h2.same k (hA k hk)).trans (h.same k hk), fun k hk => ?_, fun k hk => ?_⟩
  · rw [h2.blk b (Nat.lt_of_lt_of_le hb h.size) (fun k hk e => ?_), h.blk b hb hz]
    rcases h.own k hk with g | ⟨l, hl, g⟩
    · omega
    · exact hz l hl (g.trans e)
  · rcases h2.own k hk with g | ⟨l, hl, g⟩
    · exact .inl (Nat.le_trans h.size g)
    · rcases h.own l hl with q | ⟨m, hm, q⟩
      · exact .inl (by rw [← g]; exact q)
      · exact .inr ⟨m, hm, q.trans g⟩
  · rcases h2.nam k hk with g | g
    · exact h.nam k g
    · exact .inr g
theorem Mem.sub (hm : Mem V A H β w) (hs : ∀ k c, H2 k = some c → H k = some c) : Mem V A H2 β w := by
  have hn : ∀ k, H2 k ≠ none → H k ≠ none := fun k hk => by
    cases e : H2 k with
    | none => exact absurd e hk
    | some c => rw [hs k c e]; simp
  refine ⟨hm.vlt, fun k hk => hm.dom k (hn k hk), hm.lt, fun k l hk hl => hm.inj k l (hn k hk) (hn l hl), fun k hk => hm.clr k (hn k hk), fun k U cs hk => ?_⟩
  obtain ⟨vs, h1, h2, h3, h4⟩ := hm.box k U cs (hs k _ hk)
  exact ⟨vs, h1, h2, h3, h4.mono ⟨Nat.le_refl _, fun _ _ _ => rfl, fun b _ hz => hz.imp id fun ⟨l, hl, e⟩ => ⟨l, hn l hl, e⟩⟩ (fun _ h => h) (fun _ _ => rfl)⟩
def Vx (V : Nat → Prop) (H Hv : HF) (β : Nat → Pl) : Nat → Prop := fun b => V b ∨ ∃ k, H k ≠ none ∧ Hv k = none ∧ (β k).b = b
theorem Zs_vx {Hv : HF} (hs : ∀ k c, Hv k = some c → H k = some c) : Zs (Vx V H Hv β) Hv β = Zs V H β := by
  funext b
  refine propext ⟨?_, ?_⟩
  · rintro ((h | ⟨k, h1, _, h3⟩) | ⟨k, hk, e⟩)
    · exact .inl h
    · exact .inr ⟨k, h1, h3⟩
    · refine .inr ⟨k, ?_, e⟩
      cases q : Hv k with
      | none => exact absurd q hk
      | some c => rw [hs k c q]; simp
  · rintro (h | ⟨k, hk, e⟩)
    · exact .inl (.inl h)
    · by_cases q : Hv k = none
      · exact .inl (.inr ⟨k, hk, q, e⟩)
      · exact .inr ⟨k, q, e⟩
theorem Mem.see {Hv : HF} (hm : Mem V A H β w) (hs : ∀ k c, Hv k = some c → H k = some c) : Mem (Vx V H Hv β) A Hv β w := by
  have hn : ∀ k, Hv k ≠ none → H k ≠ none := fun k hk => by
    cases e : Hv k with
    | none => exact absurd e hk
    | some c => rw [hs k c e]; simp
  refine ⟨fun b hb => ?_, fun k hk => hm.dom k (hn k hk), hm.lt, fun k l hk hl => hm.inj k l (hn k hk) (hn l hl), fun k hk hv => ?_, fun k U cs hk => ?_⟩
  · rcases hb with hb | ⟨k, hk, _, e⟩
    · exact hm.vlt b hb
    · rw [← e]; exact hm.lt k (hm.dom k hk)
  · rcases hv with hv | ⟨l, h1, h2, h3⟩
    · exact hm.clr k (hn k hk) hv
    · have := hm.inj l k h1 (hn k hk) h3
      subst this
      exact hk h2
  · rw [Zs_vx hs]
    exact hm.box k U cs (hs k _ hk)
def put2 (H Hv Hv' : HF) : HF := fun k => match Hv' k, Hv k with
  | some c, _ => some c
  | none, some _ => none
  | none, none => H k
theorem put2_some {Hv Hv' : HF} {k : Nat} {c} (h : put2 H Hv Hv' k = some c) : Hv' k = some c ∨ (Hv' k = none ∧ Hv k = none ∧ H k = some c) := by
  unfold put2 at h
  cases h1 : Hv' k with
  | some d => rw [h1] at h; exact .inl h
  | none =>
    cases h2 : Hv k with
    | some d => rw [h1, h2] at h; cases h
    | none => rw [h1, h2] at h; exact .inr ⟨rfl, rfl, h⟩
theorem put2_ne {Hv Hv' : HF} {k : Nat} : put2 H Hv Hv' k ≠ none ↔ (Hv' k ≠ none ∨ (Hv k = none ∧ H k ≠ none)) := by
  unfold put2
  cases Hv' k <;> cases Hv k <;> simp
theorem frame {Hv Hv' : HF} (hm : Mem V A H β w) (hs : ∀ k c, Hv k = some c → H k = some c) (hf : ∀ k, A k → ¬ (N ≤ k ∧ k < N'))
    (h1 : ∀ k, A k → A' k) (hm' : Mem (Vx V H Hv β) A' Hv' β' w') (ht : Hst N N' A Hv β w Hv' β' w') : Mem V A' (put2 H Hv Hv') β' w' ∧ Hst N N' A H β w (put2 H Hv Hv') β' w' ∧ Zs V (put2 H Hv Hv') β' = Zs (Vx V H Hv β) Hv' β' := by
  have hn : ∀ k, Hv k ≠ none → H k ≠ none := fun k hk => by
    cases e : Hv k with
    | none => exact absurd e hk
    | some c => rw [hs k c e]; simp
  have hold : ∀ k, Hv k = none → H k ≠ none → Hv' k = none := by
    intro k h1 h2
    apply Classical.byContradiction
    intro h3
    rcases ht.nam k h3 with g | g
    · exact g h1
    · exact hf k (hm.dom k h2) g
  have hZ : Zs V (put2 H Hv Hv') β' = Zs (Vx V H Hv β) Hv' β' := by
    funext b
    refine propext ⟨?_, ?_⟩
    · rintro (h | ⟨k, hk, e⟩)
      · exact .inl (.inl h)
      · rcases put2_ne.1 hk with g | ⟨g1, g2⟩
        · exact .inr ⟨k, g, e⟩
        · exact .inl (.inr ⟨k, g2, g1, by rw [← ht.same k (hm.dom k g2)]; exact e⟩)
    · rintro ((h | ⟨k, h1, h2, h3⟩) | ⟨k, hk, e⟩)
      · exact .inl h
      · exact .inr ⟨k, put2_ne.2 (.inr ⟨h2, h1⟩), by rw [ht.same k (hm.dom k h1)]; exact h3⟩
      · exact .inr ⟨k, put2_ne.2 (.inl hk), e⟩
  have hH : Hst N N' A H β w (put2 H Hv Hv') β' w' := by
    refine ⟨ht.os, ht.tape, ht.output, ht.size, fun b hb hz => ht.blk b hb (fun k hk => hz k (hn k hk)), ht.same, fun k hk => ?_, fun k hk => ?_⟩
    · rcases put2_ne.1 hk with g | ⟨g1, g2⟩
      · rcases ht.own k g with q | ⟨l, hl, q⟩
        · exact .inl q
        · exact .inr ⟨l, hn l hl, q⟩
      · exact .inr ⟨k, g2, by rw [ht.same k (hm.dom k g2)]⟩
    · rcases put2_ne.1 hk with g | ⟨_, g2⟩
      · exact (ht.nam k g).imp (hn k) id
      · exact .inl g2
  refine ⟨⟨fun b hb => Nat.lt_of_lt_of_le (hm.vlt b hb) ht.size, fun k hk => ?_, hm'.lt, fun k l hk hl e => ?_, fun k hk hv => ?_, fun k U cs hk => ?_⟩, hH, hZ⟩
  · rcases put2_ne.1 hk with g | ⟨_, g2⟩
    · exact hm'.dom k g
    · exact h1 _ (hm.dom k g2)
  · rcases put2_ne.1 hk with g | ⟨g1, g2⟩ <;> rcases put2_ne.1 hl with q | ⟨q1, q2⟩
    · exact hm'.inj k l g q e
    · exact absurd (.inr ⟨l, q2, q1, by rw [← ht.same l (hm.dom l q2)]; exact e.symm⟩) (hm'.clr k g)
    · exact absurd (.inr ⟨k, g2, g1, by rw [← ht.same k (hm.dom k g2)]; exact e⟩) (hm'.clr l q)
    · rw [ht.same k (hm.dom k g2), ht.same l (hm.dom l q2)] at e
      exact hm.inj k l g2 q2 e
  · rcases put2_ne.1 hk with g | ⟨_, g2⟩
    · exact hm'.clr k g (.inl hv)
    · rw [ht.same k (hm.dom k g2)] at hv
      exact hm.clr k g2 hv
  · rw [hZ]
    rcases put2_some hk with g | ⟨_, g2, g3⟩
    · exact hm'.box k U cs g
    · obtain ⟨vs, e1, h2, h3, h4⟩ := hm.box k U cs g3
      have hA : A k := hm.dom k (by rw [g3]; simp)
      have hsame := ht.same k hA
      refine ⟨vs, ?_, by rw [hsame]; exact h2, h3, ?_⟩
      · rw [hsame, ht.blk _ (hm.lt k hA) (fun l hl e => ?_)]
        · exact e1
        · have := hm.inj l k (hn l hl) (by rw [g3]; simp) e
          subst this
          exact hl g2
      · have hk2 := hH.keep hm
        rw [hZ] at hk2
        exact h4.mono hk2 h1 ht.same
end
structure StX (V A : Nat → Prop) (n : Nat) (T : TX) (H : HF) (β : Nat → Pl) (a : Act) (w : World) : Prop where
  mem : Mem V A H β w
  dfr : a.defers = []
  siz : a.tmps.size = n
  tmp : ∀ t x, T t = some x → ∃ v, a.tmps[t]? = some v ∧ RdX2 A (Zs V H β) w β v x
def TmpX (A Z : Nat → Prop) (w : World) (β : Nat → Pl) (L : Nat → Prop) (T : TX) (a : Act) : Prop := ∀ t x, L t → T t = some x → ∃ v, a.tmps[t]? = some v ∧ RdX2 A Z w β v x
structure Evt where
  x : XV
  Hv : HF
  Hv' : HF
  N : Nat
  N' : Nat
def upT (d : Option Nat) (x : XV) (T : TX) : TX := fun t => if d = some t then some x else T t
section
variable {P : Program} {ops : Array Oper} {o : Oper} {T Tl : TX} {e : Evt} {V A : Nat → Prop} {n : Nat} {H : HF} {β : Nat → Pl} {a : Act} {w : World}
def Runs (P : Program) (ops : Array Oper) (o : Oper) (T : TX) (e : Evt) : Prop := ∀ V A β a w, (∀ k, A k → ¬ (e.N ≤ k ∧ k < e.N')) → Mem V A e.Hv β w → TmpX A (Zs V e.Hv β) w β (Looks ops o) T a →
  want o ops a = true ∧ Gives P o a w fun v w' => ∃ A' β', (∀ k, A k → A' k) ∧ (∀ k, A' k → Ad A e.N e.N' k) ∧ Mem V A' e.Hv' β' w' ∧ Hst e.N e.N' A e.Hv β w e.Hv' β' w' ∧ RdX2 A' (Zs V e.Hv' β') w' β' v e.x
def Skips (ops : Array Oper) (o : Oper) (T : TX) (e : Evt) : Prop := e.x = .u ∧ e.Hv' = e.Hv ∧ ∀ V A β a w, TmpX A (Zs V e.Hv β) w β (Looks ops o) T a → want o ops a = false
theorem StX.step (hst : StX V A n T H β a w) (hop : Runs P ops o Tl e ∨ Skips ops o Tl e) (hT : ∀ t x, Looks ops o t → Tl t = some x → T t = some x) (hv : ∀ k c, e.Hv k = some c → H k = some c)
    (hf : ∀ k, A k → ¬ (e.N ≤ k ∧ k < e.N')) (hd : ∀ t, o.dst = some t → t < n) {Q : Exit → Act → World → Prop} {K : Act → World → Prop}
    (hK : ∀ A' β' a' w', (∀ k, A k → A' k) → (∀ k, A' k → Ad A e.N e.N' k) → Hst e.N e.N' A H β w (put2 H e.Hv e.Hv') β' w' → StX V A' n (upT o.dst e.x T) (put2 H e.Hv e.Hv') β' a' w' → K a' w') :
    if Region.wanted o (yielded ops a.tmps) then o.wp P a w K Q ∨ (o.asks P a w ∧ LetsOut Q) else K (a.put o.dst undef) w := by
  have htm : TmpX A (Zs (Vx V H e.Hv β) e.Hv β) w β (Looks ops o) Tl a := by
    rw [Zs_vx hv]
    exact fun t x hl hx => hst.tmp t x (hT t x hl hx)
  rcases hop with hop | ⟨hx, hH, hop⟩
  · obtain ⟨hw, hg⟩ := hop (Vx V H e.Hv β) A β a w hf (hst.mem.see hv) htm
    rw [if_pos hw]
    refine .inl (hg.wp fun v w' ⟨A', β', hA1, hA2, hm, hh, hx⟩ => ?_)
    obtain ⟨hm2, hh2, hZ⟩ := frame hst.mem hv hf hA1 hm hh
    refine hK A' β' _ _ hA1 hA2 hh2 ⟨hm2, by rw [put_defers]; exact hst.dfr, by rw [put_size]; exact hst.siz, fun t x ht => ?_⟩
    unfold upT at ht
    split at ht
    · rename_i hdt
      injection ht with ht
      subst ht
      rw [hdt]
      exact ⟨v, put_self (by rw [hst.siz]; exact hd t hdt), by rw [hZ]; exact hx⟩
    · rename_i hdt
      obtain ⟨u, e1, hr⟩ := hst.tmp t x ht
      exact ⟨u, (put_other hdt).trans e1, hr.mono (hh2.keep hst.mem) hA1 hh2.same⟩
  · have hw := hop _ A β a w htm
    unfold want at hw
    rw [if_neg (by rw [hw]; simp)]
    have hp : put2 H e.Hv e.Hv' = H := by
      rw [hH]
      funext k
      unfold put2
      cases h : e.Hv k with
      | none => rfl
      | some c => exact (hv k c h).symm
    refine hK A β _ _ (fun _ h => h) (fun _ h => .inl h) (by rw [hp]; exact Hst.refl) ?_
    rw [hp]
    refine ⟨hst.mem, by rw [put_defers]; exact hst.dfr, by rw [put_size]; exact hst.siz, fun t x ht => ?_⟩
    unfold upT at ht
    split at ht
    · rename_i hdt
      injection ht with ht
      subst ht
      rw [hdt, hx]
      exact ⟨undef, put_self (by rw [hst.siz]; exact hd t hdt), rfl⟩
    · rename_i hdt
      obtain ⟨u, e1, hr⟩ := hst.tmp t x ht
      exact ⟨u, (put_other hdt).trans e1, hr⟩
inductive Prec (ops : Array Oper) : Nat → Nat → Prop
  | one {i j : Nat} {o : Oper} : ops[i]? = some o → j ∈ binding o → Prec ops j i
  | tr {i j k : Nat} : Prec ops j k → Prec ops k i → Prec ops j i
theorem Prec.down {listed : Array Bool} (hcl : ∀ i o j, listed.getD i false = true → ops[i]? = some o → j ∈ binding o → listed.getD j false = true) {j i : Nat} (h : Prec ops j i) : listed.getD i false = true → listed.getD j false = true := by
  induction h with
  | one ho hj => exact fun hi => hcl _ _ _ hi ho hj
  | tr _ _ ih1 ih2 => exact fun hi => ih1 (ih2 hi)
theorem Prec.last {j i : Nat} (h : Prec ops j i) : ∃ k o, ops[i]? = some o ∧ k ∈ binding o ∧ (j = k ∨ Prec ops j k) := by
  induction h with
  | one ho hj => exact ⟨_, _, ho, hj, .inl rfl⟩
  | tr h1 _ _ ih2 =>
    obtain ⟨k, o, ho, hk, h⟩ := ih2
    rcases h with rfl | h
    · exact ⟨_, o, ho, hk, .inr h1⟩
    · exact ⟨k, o, ho, hk, .inr (h1.tr h)⟩
def uT2 (d : Option Nat) (e : Evt) : Nat → Option (Option XV) := fun t => if d = some t then some (some e.x) else none
open Classical in
noncomputable def uH (e : Evt) : Nat → Option (Option (TypeId × List AV)) := fun k => if e.Hv' k = e.Hv k then none else some (e.Hv' k)
def uT2s (l : List Oper) (es : List Evt) := List.zipWith (fun (o : Oper) e => uT2 o.dst e) l es
noncomputable def uHs (es : List Evt) := es.map uH
theorem uH_ne {k : Nat} (h : uH e k ≠ none) : e.Hv' k ≠ e.Hv k := by
  intro q
  apply h
  unfold uH
  rw [if_pos q]
theorem uH_eq {k : Nat} (h : e.Hv' k ≠ e.Hv k) : uH e k = some (e.Hv' k) := by
  unfold uH
  rw [if_neg h]
theorem zip_get2 {γ : Type} (f : Oper → Evt → γ) {l : List Oper} {es : List Evt} {j : Nat} {u : γ} (h : (List.zipWith f l es)[j]? = some u) : ∃ o e, l[j]? = some o ∧ es[j]? = some e ∧ u = f o e := by
  rw [List.getElem?_zipWith] at h
  cases h1 : l[j]? with
  | none => rw [h1] at h; cases h
  | some o =>
    cases h2 : es[j]? with
    | none => rw [h1, h2] at h; cases h
    | some e => rw [h1, h2] at h; simp at h; exact ⟨o, e, rfl, rfl, h.symm⟩
theorem any_order {Q : Exit → Act → World → Prop} (hlow : ∀ (i : Nat) (o : Oper) (j : Nat), ops[i]? = some o → j ∈ binding o → j < i) (hdn : ∀ (i : Nat) (o : Oper) (t : Nat), ops[i]? = some o → o.dst = some t → t < n)
    (pre : Nat → Nat → Prop) (hpre : ∀ j i, pre j i → Prec ops j i)
    (hind : ∀ (j i : Nat) (oj oi : Oper), j < i → ¬ pre j i → ops[j]? = some oj → ops[i]? = some oi → (∀ d, oj.dst = some d → d ∉ oi.looksAt ops ∧ oi.dst ≠ some d) ∧ ∀ d, oi.dst = some d → d ∉ oj.looksAt ops)
    {es : List Evt} (hes : es.length = ops.size) {T0 : TX} {H0 : HF} {N0 Nn : Nat} {A0 : Nat → Prop} {β0 : Nat → Pl} {w0 : World}
    (hall : ∀ (i : Nat) (o : Oper) (e : Evt), ops[i]? = some o → es[i]? = some e → ∃ Tl, (Runs P ops o Tl e ∨ Skips ops o Tl e) ∧ (∀ t x, Looks ops o t → Tl t = some x → upf (fun j => decide (j < i)) 0 (uT2s ops.toList es) T0 t = some x) ∧
      ∀ k c, e.Hv k = some c → upf (fun j => decide (j < i)) 0 (uHs es) H0 k = some c)
    (hN : ∀ (i : Nat) (e : Evt), es[i]? = some e → N0 ≤ e.N ∧ e.N' ≤ Nn) (hNN : ∀ (j i : Nat) (ej ei : Evt), j < i → es[j]? = some ej → es[i]? = some ei → ej.N' ≤ ei.N)
    (hcon : ∀ (j i : Nat) (ej ei : Evt), j < i → ¬ pre j i → es[j]? = some ej → es[i]? = some ei → ∀ k, (ej.Hv' k ≠ ej.Hv k → ei.Hv k = none ∧ ei.Hv' k = none) ∧ (ei.Hv' k ≠ ei.Hv k → ej.Hv k = none ∧ ej.Hv' k = none))
    (_hN0 : N0 ≤ Nn) (hA0 : ∀ k, A0 k → ¬ (N0 ≤ k ∧ k < Nn))
    (hQ : ∀ A β a w, (∀ k, A0 k → A k) → (∀ k, A k → Ad A0 N0 Nn k) → Hst N0 Nn A0 H0 β0 w0 (upf (fun _ => true) 0 (uHs es) H0) β w → StX V A n (upf (fun _ => true) 0 (uT2s ops.toList es) T0) (upf (fun _ => true) 0 (uHs es) H0) β a w → Q .normal a w) :
    ∀ (fuel : Nat) (listed : Array Bool) (A : Nat → Prop) (β : Nat → Pl) (a : Act) (w : World), listed.size = ops.size → unl listed ≤ fuel →
      (∀ i o j, listed.getD i false = true → ops[i]? = some o → j ∈ binding o → listed.getD j false = true) →
      (∀ k, A0 k → A k) → (∀ k, A k → A0 k ∨ ∃ (j : Nat) (e : Evt), listed.getD j false = true ∧ es[j]? = some e ∧ e.N ≤ k ∧ k < e.N') →
      Hst N0 Nn A0 H0 β0 w0 (upf (fun j => listed.getD j false) 0 (uHs es) H0) β w →
      StX V A n (upf (fun j => listed.getD j false) 0 (uT2s ops.toList es) T0) (upf (fun j => listed.getD j false) 0 (uHs es) H0) β a w → wpAny P .any ops Q fuel listed a w := by
  have hwr : ∀ {t j : Nat} {u}, (uT2s ops.toList es)[j]? = some u → u t ≠ none → ∃ oj ej, ops[j]? = some oj ∧ es[j]? = some ej ∧ oj.dst = some t ∧ u = uT2 oj.dst ej := by
    intro t j u hj hu
    obtain ⟨oj, ej, h1, h2, rfl⟩ := zip_get2 _ hj
    refine ⟨oj, ej, by rw [Array.getElem?_toList] at h1; exact h1, h2, ?_, rfl⟩
    unfold uT2 at hu
    split at hu
    · assumption
    · exact absurd rfl hu
  have hwh : ∀ {k j : Nat} {u}, (uHs es)[j]? = some u → u k ≠ none → ∃ ej, es[j]? = some ej ∧ ej.Hv' k ≠ ej.Hv k ∧ u = uH ej := by
    intro k j u hj hu
    unfold uHs at hj
    rw [List.getElem?_map] at hj
    cases h : es[j]? with
    | none => rw [h] at hj; cases hj
    | some ej => rw [h] at hj; injection hj with hj; subst hj; exact ⟨ej, rfl, uH_ne hu, rfl⟩
  have hopj : ∀ {j : Nat} {e : Evt}, es[j]? = some e → ∃ o, ops[j]? = some o := by
    intro j e h
    have : j < ops.size := by rw [← hes]; exact (List.getElem?_eq_some_iff.1 h).1
    exact ⟨ops[j], Array.getElem?_eq_getElem this⟩
  have hend : ∀ (listed : Array Bool) (A : Nat → Prop) (β : Nat → Pl) (a : Act) (w : World), (∀ i, i < ops.size → listed.getD i false = true) → (∀ k, A0 k → A k) →
      (∀ k, A k → A0 k ∨ ∃ (j : Nat) (e : Evt), listed.getD j false = true ∧ es[j]? = some e ∧ e.N ≤ k ∧ k < e.N') →
      Hst N0 Nn A0 H0 β0 w0 (upf (fun j => listed.getD j false) 0 (uHs es) H0) β w →
      StX V A n (upf (fun j => listed.getD j false) 0 (uT2s ops.toList es) T0) (upf (fun j => listed.getD j false) 0 (uHs es) H0) β a w → Q .normal a w := by
    intro listed A β a w hl hA1 hA2 hh hst
    have e1 : upf (fun j => listed.getD j false) 0 (uT2s ops.toList es) T0 = upf (fun _ => true) 0 (uT2s ops.toList es) T0 := by
      funext t
      refine upf_same _ _ _ _ rfl fun j u hj hu => ?_
      obtain ⟨oj, ej, h1, _⟩ := hwr hj hu
      rw [Nat.zero_add]; exact hl j (Array.getElem?_eq_some_iff.1 h1).1
    have e2 : upf (fun j => listed.getD j false) 0 (uHs es) H0 = upf (fun _ => true) 0 (uHs es) H0 := by
      funext t
      refine upf_same _ _ _ _ rfl fun j u hj hu => ?_
      obtain ⟨ej, h1, _⟩ := hwh hj hu
      rw [Nat.zero_add]; exact hl j (by rw [← hes]; exact (List.getElem?_eq_some_iff.1 h1).1)
    rw [e2] at hh
    rw [e1, e2] at hst
    refine hQ A β a w hA1 (fun k hk => ?_) hh hst
    rcases hA2 k hk with h | ⟨j, e, _, h2, _, h4⟩
    · exact .inl h
    · have := hN j e h2; exact .inr ⟨by omega, by omega⟩
  intro fuel
  induction fuel with
  | zero =>
    intro listed A β a w hsz hu hcl hA1 hA2 hh hst
    have hl : ∀ i, i < ops.size → listed.getD i false = true := fun i hi => by
      cases h : listed.getD i false with
      | true => rfl
      | false => have := unl_pos (listed := listed) (i := i) (by omega) (by rw [getD_or (by omega) true false]; exact h); omega
    refine wpAny_done ?_ (hend listed A β a w hl hA1 hA2 hh hst) 0
    refine List.eq_nil_iff_forall_not_mem.2 fun j hj => ?_
    obtain ⟨h0, o, ho, _⟩ := mem_ready.1 hj
    have hjs := (Array.getElem?_eq_some_iff.1 ho).1
    rw [getD_or (by omega) true false, hl j hjs] at h0
    cases h0
  | succ fuel ih =>
    intro listed A β a w hsz hu hcl hA1 hA2 hh hst
    refine ⟨fun hr => ?_, fun i hi => ?_⟩
    · refine hend listed A β a w ?_ hA1 hA2 hh hst
      intro i
      induction i using Nat.strongRecOn with
      | _ i ih2 =>
        intro hi
        cases h : listed.getD i false with
        | true => rfl
        | false =>
          exfalso
          have : i ∈ Region.ready .any ops listed := by
            refine mem_ready.2 ⟨by rw [getD_or (by omega) true false]; exact h, ops[i], Array.getElem?_eq_getElem hi, fun e he hb => ?_⟩
            have hlt := hlow i ops[i] e.on (Array.getElem?_eq_getElem hi) (mem_binding he hb)
            exact ih2 e.on hlt (by omega)
          rw [hr] at this; cases this
    · obtain ⟨hif, o, ho, hae⟩ := mem_ready.1 hi
      have his : i < ops.size := (Array.getElem?_eq_some_iff.1 ho).1
      have hif' : listed.getD i false = false := by rw [getD_or (by omega) false true]; exact hif
      obtain ⟨e, he⟩ : ∃ e, es[i]? = some e := ⟨es[i]'(by omega), List.getElem?_eq_getElem (by omega)⟩
      have hbel : ∀ j, Prec ops j i → listed.getD j false = true := by
        intro j hj
        obtain ⟨k, o', ho', hk, h⟩ := hj.last
        rw [ho] at ho'
        injection ho' with ho'
        subst ho'
        obtain ⟨ed, hed, hb, rfl⟩ := of_binding hk
        have h1 := hae ed hed hb
        rcases h with rfl | h
        · exact h1
        · exact h.down hcl h1
      have habv : ∀ j, Prec ops i j → listed.getD j false = false := by
        intro j hj
        cases h : listed.getD j false with
        | false => rfl
        | true => have := hj.down hcl h; rw [hif'] at this; cases this
      obtain ⟨Tl, hop, hTl, hHl⟩ := hall i o e ho he
      have hmask : ∀ (j : Nat), (j < i → pre j i) → (i < j → pre i j) → listed.getD j false = decide (j < i) := by
        intro j h1 h2
        rcases Nat.lt_trichotomy j i with h | h | h
        · rw [hbel j (hpre j i (h1 h))]; simp [h]
        · subst h; rw [hif']; simp
        · rw [habv j (hpre i j (h2 h))]; simp; omega
      have hfresh : ∀ k, A k → ¬ (e.N ≤ k ∧ k < e.N') := by
        intro k hk ⟨g1, g2⟩
        rcases hA2 k hk with h | ⟨j, ej, h1, h2, h3, h4⟩
        · have := hA0 k h; have := hN i e he; omega
        · rcases Nat.lt_trichotomy j i with h | h | h
          · have := hNN j i ej e h h2 he; omega
          · subst h; rw [hif'] at h1; cases h1
          · have := hNN i j e ej h he h2; omega
      have hmi : ∀ j, (listed.setIfInBounds i true).getD j false = if j = i then true else listed.getD j false := by
        intro j
        by_cases hji : j = i
        · subst hji; simp [Array.getD, hsz, his]
        · rw [if_neg hji, getD_set_ne false (fun e => hji e.symm)]
      have hui : (uHs es)[i]? = some (uH e) := by unfold uHs; rw [List.getElem?_map, he]; rfl
      have huti : (uT2s ops.toList es)[i]? = some (uT2 o.dst e) := by
        unfold uT2s
        rw [List.getElem?_zipWith, Array.getElem?_toList, ho, he]
      unfold wpOp
      rw [ho]
      refine hst.step hop ?_ ?_ hfresh (fun t ht => hdn i o t ho ht) ?_
      · intro t x hlk hx
        rw [← hTl t x hlk hx]
        refine upf_same _ _ _ _ rfl fun j u hj hu => ?_
        obtain ⟨oj, ej, hoj, _, hdj, _⟩ := hwr hj hu
        rw [Nat.zero_add]
        refine hmask j (fun h => ?_) (fun h => ?_)
        · apply Classical.byContradiction
          intro hp
          exact ((hind j i oj o h hp hoj ho).1 t hdj).1 hlk
        · apply Classical.byContradiction
          intro hp
          exact (hind i j o oj h hp ho hoj).2 t hdj hlk
      · intro k c hk
        rw [← hHl k c hk]
        refine upf_same _ _ _ _ rfl fun j u hj hu => ?_
        obtain ⟨ej, hej, hch, _⟩ := hwh hj hu
        rw [Nat.zero_add]
        refine hmask j (fun h => ?_) (fun h => ?_)
        · apply Classical.byContradiction
          intro hp
          rw [((hcon j i ej e h hp hej he k).1 hch).1] at hk; cases hk
        · apply Classical.byContradiction
          intro hp
          rw [((hcon i j e ej h hp he hej k).2 hch).1] at hk; cases hk
      · intro A' β' a' w' hA1' hA2' hh' hst'
        have eT : upT o.dst e.x (upf (fun j => listed.getD j false) 0 (uT2s ops.toList es) T0) = upf (fun j => (listed.setIfInBounds i true).getD j false) 0 (uT2s ops.toList es) T0 := by
          funext t
          unfold upT
          split
          · rename_i hdt
            symm
            refine upf_last (u := uT2 o.dst e) _ _ _ i huti (by unfold uT2; rw [if_pos hdt]) (by rw [Nat.zero_add, hmi, if_pos rfl]) ?_
            intro j' u' hj' hlt hmj
            apply Classical.byContradiction
            intro hu'
            obtain ⟨oj, ej, hoj, _, hdj, _⟩ := hwr hj' hu'
            rw [Nat.zero_add, hmi, if_neg (by omega)] at hmj
            by_cases hp : pre i j'
            · rw [habv j' (hpre i j' hp)] at hmj; cases hmj
            · exact ((hind i j' o oj hlt hp ho hoj).1 t hdt).2 hdj
          · rename_i hdt
            symm
            refine upf_same _ _ _ _ rfl fun j u hj hu => ?_
            obtain ⟨oj, ej, hoj, _, hdj, _⟩ := hwr hj hu
            rw [Nat.zero_add, hmi, if_neg]
            intro q; subst q
            rw [ho] at hoj; injection hoj with hoj; subst hoj
            exact hdt hdj
        have hsub : ∀ k c, e.Hv k = some c → upf (fun j => listed.getD j false) 0 (uHs es) H0 k = some c := by
          intro k c hk
          rw [← hHl k c hk]
          refine upf_same _ _ _ _ rfl fun j u hj hu => ?_
          obtain ⟨ej, hej, hch, _⟩ := hwh hj hu
          rw [Nat.zero_add]
          refine hmask j (fun h => ?_) (fun h => ?_)
          · apply Classical.byContradiction
            intro hp
            rw [((hcon j i ej e h hp hej he k).1 hch).1] at hk; cases hk
          · apply Classical.byContradiction
            intro hp
            rw [((hcon i j e ej h hp he hej k).2 hch).1] at hk; cases hk
        have eH : put2 (upf (fun j => listed.getD j false) 0 (uHs es) H0) e.Hv e.Hv' = upf (fun j => (listed.setIfInBounds i true).getD j false) 0 (uHs es) H0 := by
          funext k
          by_cases hch : e.Hv' k = e.Hv k
          · have hno : uH e k = none := by unfold uH; rw [if_pos hch]
            have h1 : upf (fun j => (listed.setIfInBounds i true).getD j false) 0 (uHs es) H0 k = upf (fun j => listed.getD j false) 0 (uHs es) H0 k := by
              refine upf_same _ _ _ _ rfl fun j u hj hu => ?_
              rw [Nat.zero_add, hmi, if_neg]
              intro q; subst q
              rw [hui] at hj; injection hj with hj; subst hj
              exact hu hno
            rw [h1]
            unfold put2
            rw [hch]
            cases h2 : e.Hv k with
            | none => rfl
            | some c => exact (hsub k c h2).symm
          · have h1 : upf (fun j => (listed.setIfInBounds i true).getD j false) 0 (uHs es) H0 k = e.Hv' k := by
              refine upf_last (u := uH e) _ _ _ i hui (uH_eq hch) (by rw [Nat.zero_add, hmi, if_pos rfl]) ?_
              intro j' u' hj' hlt hmj
              apply Classical.byContradiction
              intro hu'
              obtain ⟨ej, hej, hcj, _⟩ := hwh hj' hu'
              rw [Nat.zero_add, hmi, if_neg (by omega)] at hmj
              by_cases hp : pre i j'
              · rw [habv j' (hpre i j' hp)] at hmj; cases hmj
              · obtain ⟨q1, q2⟩ := (hcon i j' e ej hlt hp he hej k).1 hch
                exact hcj (by rw [q1, q2])
            rw [h1]
            unfold put2
            cases h2 : e.Hv' k with
            | some c => rfl
            | none =>
              cases h3 : e.Hv k with
              | some c => rfl
              | none => exact absurd (h2.trans h3.symm) hch
        rw [eT, eH] at hst'
        rw [eH] at hh'
        refine ih (listed.setIfInBounds i true) A' β' a' w' (by simpa using hsz) (by have := unl_set (listed := listed) (i := i) (by omega) hif; omega) ?_ (fun k hk => hA1' k (hA1 k hk)) ?_ (hh.trans hA1 (hh'.wide (hN i e he).1 (hN i e he).2)) hst'
        · intro i' o' j' h1 h2 h3
          rw [hmi] at h1 ⊢
          by_cases hji : j' = i
          · rw [if_pos hji]
          · rw [if_neg hji]
            by_cases hii : i' = i
            · subst hii
              rw [ho] at h2
              injection h2 with h2
              subst h2
              obtain ⟨e', he', hb', rfl⟩ := of_binding h3
              exact hae e' he' hb'
            · rw [if_neg hii] at h1
              exact hcl i' o' j' h1 h2 h3
        · intro k hk
          rcases hA2' k hk with h | h
          · rcases hA2 k h with q | ⟨j, ej, q1, q2, q3⟩
            · exact .inl q
            · refine .inr ⟨j, ej, ?_, q2, q3⟩
              rw [hmi]; split
              · rfl
              · exact q1
          · exact .inr ⟨i, e, by rw [hmi, if_pos rfl], he, h⟩
end
end Go.Proofs.YthhhlpdbainlaaaGreat
