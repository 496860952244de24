/- Package swarfref01: times, by, compare, short, signed. -/
import Derived.Test.YthlnndkgpgfbnaaGreatRsF
namespace Go.Proofs.YthlnndkgpgfbnaaGreat
open Go Go.RowKit
theorem rTimes_ok {xs ys : List Int} (hLxs : Lim xs) (hLys : Lim ys) (hn : xs.length ≤ 1000000) (hm : ys.length ≤ 1000000) : Ok Tryz.prog 84 [.c (cM xs), .c (cM ys)] [.c (cL (val xs * val ys))] := by
  refine Ok.of (by kernel_rfl) Tryz.func84 rfl rfl ?_
  rw [show Tryz.f84.ntmps = 68 from rfl, show Tryz.f84.results.toList = [.tmp 4] from rfl]
  refine dw_seq <| dw_region (by kernel_rfl) <| dl_r (sem_assign rfl rfl) <| dl_end <| dw_seq <| dw_region (by kernel_rfl) <| dl_r (sem_move rfl rfl) <| dl_r (sem_len sl22 rfl rfl) ?_
  refine dl_r (sem_move rfl rfl) <| dl_r (sem_len sl22 rfl rfl) ?_
  refine dl_r (sem_ari (r := (xs.length : Int) + (ys.length : Int)) rfl rfl (ari_i64_add (by (first | omega | (simp; omega))) (by (first | omega | (simp; omega)))) rfl) ?_
  refine dl_mk (sem_make (n := xs.length + ys.length) el22 rfl rfl (by (first | omega | (simp; omega))) (by (first | omega | (simp; omega))) rfl) rfl ?_
  refine dl_r (sem_assign rfl rfl) <| dl_end <| dw_seq <| dw_seq <| dw_region (by kernel_rfl) <| dl_r (sem_assign rfl rfl) <| dl_end <| dw_block ?_
  refine dw_loop (ι := {t : Nat × List Int // TInv xs ys t.1 0 0 t.2}) (fun i => ⟨68, [(0, .v (.c (cM xs))), (1, .v (.c (cM ys))), (5, .o 14 (xs.length + ys.length) (xs.length + ys.length)), (6, .v (.c (.i .i64 (i.1.1 : Int))))], [(14, 89, i.1.2.map (CellD.i .u32))]⟩) (fun i => xs.length - i.1.1) ⟨(0, List.replicate (xs.length + ys.length) 0), TInv.start⟩ (sub_of ⟨rfl, rfl, rfl, rfl, trivial⟩ ⟨by rw [show (List.replicate (xs.length + ys.length) (CellD.i .u32 0)) = (List.replicate (xs.length + ys.length) 0).map (CellD.i .u32) from by simp]; rfl, trivial⟩ rfl) ?_
  rintro ⟨⟨j, zs⟩, hI⟩
  replace hI : TInv xs ys j 0 0 zs := hI
  have g5 := hI.ik
  have g6 := hI.len
  show Dw _ _ ⟨68, [(0, .v (.c (cM xs))), (1, .v (.c (cM ys))), (5, .o 14 (xs.length + ys.length) (xs.length + ys.length)), (6, .v (.c (.i .i64 (j : Int))))], [(14, 89, zs.map (CellD.i .u32))]⟩ _
  refine dw_seq <| dw_seq <| dw_region (by kernel_rfl) <| dl_r (sem_move rfl rfl) <| dl_r (sem_move rfl rfl) <| dl_r (sem_len sl22 rfl rfl) <| dl_r (sem_cmp rfl rfl rfl rfl) <| dl_end ?_
  refine dw_cond rfl (fun hc1 => ?_) (fun hc1 => ?_)
  · have hj : j < xs.length := by simp only [decide_eq_true_eq] at hc1; omega
    refine dw_skip <| dw_seq <| dw_block <| dw_seq <| dw_region (by kernel_rfl) <| dl_r (sem_assign rfl rfl) <| dl_end <| dw_seq ?_
    refine dw_seq <| dw_region (by kernel_rfl) <| dl_r (sem_assign rfl rfl) <| dl_end <| dw_block <| dw_loop (ι := {t : Nat × Int × List Int // TInv xs ys j t.1 t.2.1 t.2.2}) (fun i => ⟨68, [(0, .v (.c (cM xs))), (1, .v (.c (cM ys))), (5, .o 14 (xs.length + ys.length) (xs.length + ys.length)), (6, .v (.c (.i .i64 (j : Int)))), (7, .v (.c (.i .u64 i.1.2.1))), (8, .v (.c (.i .i64 (i.1.1 : Int))))], [(14, 89, i.1.2.2.map (CellD.i .u32))]⟩) (fun i => ys.length - i.1.1) ⟨(0, 0, zs), hI⟩ (sub_of ⟨rfl, rfl, rfl, rfl, rfl, rfl, trivial⟩ ⟨rfl, trivial⟩ rfl) ?_
    clear hI g6
    rintro ⟨⟨k, c, zs⟩, hI⟩
    replace hI : TInv xs ys j k c zs := hI
    have g1 := lim_getD hLxs j
    have g2 := lim_getD hLys k
    have g8 := lim_getD hI.L (j + k)
    have g3 := hI.c0
    have g4 := hI.c1
    have g5 := hI.ik
    have g7 := hI.kk
    have g6 := hI.len
    show Dw _ _ ⟨68, [(0, .v (.c (cM xs))), (1, .v (.c (cM ys))), (5, .o 14 (xs.length + ys.length) (xs.length + ys.length)), (6, .v (.c (.i .i64 (j : Int)))), (7, .v (.c (.i .u64 c))), (8, .v (.c (.i .i64 (k : Int))))], [(14, 89, zs.map (CellD.i .u32))]⟩ _
    refine dw_seq <| dw_seq <| dw_region (by kernel_rfl) <| dl_r (sem_move rfl rfl) <| dl_r (sem_move rfl rfl) <| dl_r (sem_len sl22 rfl rfl) <| dl_r (sem_cmp rfl rfl rfl rfl) <| dl_end ?_
    refine dw_cond rfl (fun hc2 => ?_) (fun hc2 => ?_)
    · have hk : k < ys.length := by simp only [decide_eq_true_eq] at hc2; omega
      have hm0 : 0 ≤ xs.getD j 0 * ys.getD k 0 := Int.mul_nonneg g1.1 g2.1
      have hm1 : xs.getD j 0 * ys.getD k 0 ≤ 999999999 * 999999999 := Int.mul_le_mul (by omega) (by omega) g2.1 (by omega)
      refine dw_skip <| dw_seq <| dw_block <| dw_seq <| dw_draw 22 [] follows_mixed (by kernel_rfl) rfl rfl <| dq_r (sem_move rfl rfl) <| dq_r (sem_move rfl rfl) <| dq_r (sem_move rfl rfl) ?_
      refine dq_r (sem_move rfl rfl) <| dq_r (sem_ari (r := (j : Int) + (k : Int)) rfl rfl (ari_i64_add (by omega) (by omega)) rfl) ?_
      refine dq_r (sem_index_o sl22 rfl rfl (by (first | omega | (simp; omega))) rfl) ?_
      refine dq_r (sem_load1 ty89 rfl rfl (O_get (i := j + k) (by (first | omega | (simp; omega)))) rfl) ?_
      refine dq_r (sem_conv' (r := zs.getD (j + k) 0) und89 und69 rfl (nwu64 (by (first | omega | (simp; omega))) (by (first | omega | (simp; omega)))) rfl) ?_
      refine dq_r (sem_ari (r := c + (zs.getD (j + k) 0)) rfl rfl (ari_u64_add (by (first | omega | (simp; omega))) (by (first | omega | (simp; omega)))) rfl) ?_
      refine dq_r (sem_move rfl rfl) <| dq_r (sem_move rfl rfl) ?_
      refine dq_r (sem_index sl22 rfl rfl (by (first | omega | (simp; omega))) (M_len _) rfl rfl) ?_
      refine dq_r (sem_loadq1 ty89 rfl (M_get (i := j) (by (first | omega | (simp; omega)))) rfl) ?_
      refine dq_r (sem_conv' (r := xs.getD j 0) und89 und69 rfl (nwu64 (by (first | omega | (simp; omega))) (by (first | omega | (simp; omega)))) rfl) ?_
      refine dq_r (sem_move rfl rfl) <| dq_r (sem_move rfl rfl) ?_
      refine dq_r (sem_index sl22 rfl rfl (by (first | omega | (simp; omega))) (M_len _) rfl rfl) ?_
      refine dq_r (sem_loadq1 ty89 rfl (M_get (i := k) (by (first | omega | (simp; omega)))) rfl) ?_
      refine dq_r (sem_conv' (r := ys.getD k 0) und89 und69 rfl (nwu64 (by (first | omega | (simp; omega))) (by (first | omega | (simp; omega)))) rfl) ?_
      refine dq_r (sem_ari (r := (xs.getD j 0) * (ys.getD k 0)) rfl rfl (ari_u64_mul (by (first | omega | (simp; omega))) (by (first | omega | (simp; omega)))) rfl) ?_
      refine dq_r (sem_ari (r := (c + (zs.getD (j + k) 0)) + ((xs.getD j 0) * (ys.getD k 0))) rfl rfl (ari_u64_add (by (first | omega | (simp; omega))) (by (first | omega | (simp; omega)))) rfl) ?_
      refine dq_r (sem_assign rfl rfl) <| dq_end <| dl_start0 <| dl_end <| dw_seq <| dw_region (by kernel_rfl) <| dl_r (sem_move rfl rfl) <| dl_r (sem_move rfl rfl) ?_
      refine dl_r (sem_move rfl rfl) <| dl_r (sem_ari (r := (j : Int) + (k : Int)) rfl rfl (ari_i64_add (by omega) (by omega)) rfl) <| dl_r (sem_move rfl rfl) <| dl_r (sem_rem' (r := (c + zs.getD (j + k) 0 + xs.getD j 0 * ys.getD k 0) % 1000000000) rfl rfl (by omega) (Int.tmod_eq_emod_of_nonneg (by omega)) rfl) <| dl_r (sem_conv' (r := (c + zs.getD (j + k) 0 + xs.getD j 0 * ys.getD k 0) % 1000000000) und69 und89 rfl (nwu32 (by omega) (by omega)) rfl) ?_
      refine dl_r (sem_index_o sl22 rfl rfl (by (first | omega | (simp; omega))) rfl) ?_
      refine dl_st (sem_store (us := (zs.set (j + k) ((c + zs.getD (j + k) 0 + xs.getD j 0 * ys.getD k 0) % 1000000000)).map (CellD.i .u32)) ty89 rfl rfl rfl rfl (by simp; omega) (O_set (by (first | omega | (simp; omega)))) rfl) ?_
      refine dl_end <| dw_region (by kernel_rfl) <| dl_r (sem_move rfl rfl) <| dl_r (sem_quo' (r := (c + zs.getD (j + k) 0 + xs.getD j 0 * ys.getD k 0) / 1000000000) rfl rfl (by omega) (by rw [Int.tdiv_eq_ediv_of_nonneg (by omega)]; exact nwu64 (by omega) (by omega)) rfl) <| dl_r (sem_assign rfl rfl) <| dl_end <| dw_region (by kernel_rfl) <| dl_r (sem_move rfl rfl) ?_
      refine dl_r (sem_ari (r := (k : Int) + 1) rfl rfl (ari_i64_add (by (first | omega | (simp; omega))) (by (first | omega | (simp; omega)))) rfl) ?_
      refine dl_r (sem_assign rfl rfl) <| dl_end ?_
      exact ⟨⟨(k + 1, (c + zs.getD (j + k) 0 + xs.getD j 0 * ys.getD k 0) / 1000000000, zs.set (j + k) ((c + zs.getD (j + k) 0 + xs.getD j 0 * ys.getD k 0) % 1000000000)), hI.step hLxs hLys hj hk rfl⟩, sub_of ⟨rfl, rfl, rfl, rfl, rfl, by rw [show ((k + 1 : Nat) : Int) = (k : Int) + 1 from by omega]; rfl, trivial⟩ ⟨rfl, trivial⟩ rfl, by show ys.length - (k + 1) < ys.length - k; omega⟩
    · have hk : k = ys.length := by simp only [decide_eq_false_iff_not] at hc2; omega
      refine dw_exit <| dw_region (by kernel_rfl) <| dl_r (sem_move rfl rfl) <| dl_r (sem_move rfl rfl) <| dl_r (sem_move rfl rfl) <| dl_r (sem_len sl22 rfl rfl) ?_
      refine dl_r (sem_ari (r := (j : Int) + (ys.length : Int)) rfl rfl (ari_i64_add (by (first | omega | (simp; omega))) (by (first | omega | (simp; omega)))) rfl) ?_
      refine dl_r (sem_move rfl rfl) <| dl_r (sem_conv' (r := c) und69 und89 rfl (nwu32 (by omega) (by omega)) rfl) ?_
      refine dl_r (sem_index_o sl22 rfl rfl (by (first | omega | (simp; omega))) rfl) ?_
      refine dl_st (sem_store (us := (zs.set (j + ys.length) c).map (CellD.i .u32)) ty89 rfl rfl rfl rfl (by simp; omega) (O_set (by (first | omega | (simp; omega)))) rfl) ?_
      refine dl_end <| dw_region (by kernel_rfl) <| dl_r (sem_move rfl rfl) ?_
      refine dl_r (sem_ari (r := (j : Int) + 1) rfl rfl (ari_i64_add (by (first | omega | (simp; omega))) (by (first | omega | (simp; omega)))) rfl) ?_
      refine dl_r (sem_assign rfl rfl) <| dl_end ?_
      exact ⟨⟨(j + 1, zs.set (j + ys.length) c), hI.row hj hk⟩, sub_of ⟨rfl, rfl, rfl, by rw [show ((j + 1 : Nat) : Int) = (j : Int) + 1 from by omega]; rfl, trivial⟩ ⟨rfl, trivial⟩ rfl, by show xs.length - (j + 1) < xs.length - j; omega⟩
  · have hj : j = xs.length := by simp only [decide_eq_false_iff_not] at hc1; omega
    have hfin : val xs * val ys = val zs := (hI.done hj).symm
    have hLf : Lim zs := hI.L
    refine dw_exit <| dw_seq ?_
    refine dw_relM (t := 5) (zs := zs) (ys := zs) rfl rfl (by first | omega | (simp; omega) | simp) (by omega) (by omega) (List.take_of_length_le (by first | omega | (simp; omega) | simp)) ?_
    refine dw_region (by kernel_rfl) <| dl_r (sem_move rfl rfl) <| dl_r (sem_call rfl rfl (rTrim_ok hLf (by omega)) rfl) <| dl_r (sem_assign rfl rfl) <| dl_end <| dw_ret ?_
    rw [hfin]
    exact ⟨.inr rfl, (resL_tmp rfl resL_nil)⟩
theorem rBy_ok {xs : List Int} {m : Int} (hLxs : Lim xs) (hn : xs.length ≤ 1000000) (h0 : 0 ≤ m) (h1 : m < 1000000000) : Ok Tryz.prog 111 [.c (cM xs), .c (.i .u32 m)] [.c (cL (val xs * m))] := by
  have hv1 : val [m] = m := by simp [val]
  refine Ok.of (by kernel_rfl) Tryz.func111 rfl rfl ?_
  rw [show Tryz.f111.ntmps = 10 from rfl, show Tryz.f111.results.toList = [.tmp 4] from rfl]
  refine dw_seq <| dw_region (by kernel_rfl) <| dl_r (sem_assign rfl rfl) <| dl_end <| dw_seq <| dw_region (by kernel_rfl) <| dl_r (sem_move rfl rfl) <| dl_r (sem_move rfl rfl) ?_
  refine dl_r (sem_slit_M el22 rfl rfl) <| dl_r (sem_call rfl rfl (rTrim_ok (Lim.nil.cons h0 h1) (Nat.le_of_ble_eq_true rfl)) rfl) <| dl_r (sem_call rfl rfl (rTimes_ok hLxs (lim_lim _) hn (lim_len (x := val [m]) (k := 1000000) (by rw [hv1]; exact Sz.small (by omega) (by omega) (by omega)))) rfl) <| dl_r (sem_assign rfl rfl) <| dl_end <| dw_ret ?_
  rw [show val xs * m = val xs * val (lim (val [m]).natAbs) from by rw [val_lim, show (((val [m]).natAbs : Nat) : Int) = m from by simp [val]; omega]]
  exact ⟨.inr rfl, (resL_tmp rfl resL_nil)⟩
theorem rCompare_ok {xs ys : List Int} (hLxs : Lim xs) (hLys : Lim ys) (nX : Nrm xs) (nY : Nrm ys) (hn : xs.length ≤ 1000000) (_hm : ys.length ≤ 1000000) : Ok Tryz.prog 78 [.c (cM xs), .c (cM ys)] [.c (.i .i64 (cmpI (val xs) (val ys)))] := by
  refine Ok.of (by kernel_rfl) Tryz.func78 rfl rfl ?_
  rw [show Tryz.f78.ntmps = 41 from rfl, show Tryz.f78.results.toList = [.tmp 4] from rfl]
  refine dw_seq <| dw_region (by kernel_rfl) <| dl_r (sem_assign rfl rfl) <| dl_end <| dw_seq <| dw_seq <| dw_region (by kernel_rfl) <| dl_r (sem_move rfl rfl) ?_
  refine dl_r (sem_len sl22 rfl rfl) <| dl_r (sem_move rfl rfl) <| dl_r (sem_len sl22 rfl rfl) <| dl_r (sem_cmp rfl rfl rfl rfl) <| dl_end ?_
  refine dw_cond rfl (fun hc1 => ?_) (fun hc1 => ?_)
  · have hne : xs.length ≠ ys.length := by simp only [bne_iff_ne, ne_eq] at hc1; omega
    refine dw_seq <| dw_seq <| dw_region (by kernel_rfl) <| dl_r (sem_move rfl rfl) <| dl_r (sem_len sl22 rfl rfl) <| dl_r (sem_move rfl rfl) <| dl_r (sem_len sl22 rfl rfl) <| dl_r (sem_cmp rfl rfl rfl rfl) ?_
    refine dl_end ?_
    refine dw_cond rfl (fun hc2 => ?_) (fun hc2 => ?_)
    · have hfin : cmpI (val xs) (val ys) = -1 := cmp_lt (cmp_len nY hLxs hLys (by simp only [decide_eq_true_eq] at hc2; omega))
      refine dw_seq <| dw_region (by kernel_rfl) <| dl_r (sem_assign rfl rfl) <| dl_end <| dw_ret ?_
      rw [hfin]
      exact ⟨.inr rfl, (resL_tmp rfl resL_nil)⟩
    · have hfin : cmpI (val xs) (val ys) = 1 := cmp_gt (cmp_len nX hLys hLxs (by simp only [decide_eq_false_iff_not] at hc2; omega))
      refine dw_skip <| dw_seq <| dw_region (by kernel_rfl) <| dl_r (sem_assign rfl rfl) <| dl_end <| dw_ret ?_
      rw [hfin]
      exact ⟨.inr rfl, (resL_tmp rfl resL_nil)⟩
  · have heq : xs.length = ys.length := by simp only [bne_eq_false_iff_eq] at hc1; omega
    refine dw_skip <| dw_seq <| dw_seq <| dw_region (by kernel_rfl) <| dl_r (sem_move rfl rfl) <| dl_r (sem_len sl22 rfl rfl) ?_
    refine dl_r (sem_ari (r := (xs.length : Int) - 1) rfl rfl (ari_i64_sub (by (first | omega | (simp; omega))) (by (first | omega | (simp; omega)))) rfl) ?_
    refine dl_r (sem_assign rfl rfl) <| dl_end <| dw_block <| dw_loop (ι := {j : Nat // j ≤ xs.length ∧ xs.drop j = ys.drop j}) (fun i => ⟨41, [(0, .v (.c (cM xs))), (1, .v (.c (cM ys))), (5, .v (.c (.i .i64 ((i.1 : Int) - 1))))], []⟩) (fun i => i.1) ⟨xs.length, Nat.le_refl _, by rw [List.drop_eq_nil_of_le (Nat.le_refl _), List.drop_eq_nil_of_le (by omega)]⟩ (sub_of ⟨rfl, rfl, rfl, trivial⟩ trivial rfl) ?_
    rintro ⟨j, hj, hD⟩
    show Dw _ _ ⟨41, [(0, .v (.c (cM xs))), (1, .v (.c (cM ys))), (5, .v (.c (.i .i64 ((j : Int) - 1))))], []⟩ _
    refine dw_seq <| dw_seq <| dw_region (by kernel_rfl) <| dl_r (sem_move rfl rfl) <| dl_r (sem_cmp rfl rfl rfl rfl) <| dl_end ?_
    refine dw_cond rfl (fun hc3 => ?_) (fun hc3 => ?_)
    · obtain ⟨q, rfl⟩ : ∃ q, j = q + 1 := ⟨j - 1, by simp only [decide_eq_true_eq] at hc3; omega⟩
      have e1 := getD_some (xs := xs) (i := q) (by omega)
      have e2 := getD_some (xs := ys) (i := q) (by omega)
      refine Dw.weak (σ' := ⟨41, [(0, .v (.c (cM xs))), (1, .v (.c (cM ys))), (5, .v (.c (.i .i64 (q : Int))))], []⟩) (sub_of ⟨rfl, rfl, by rw [show (q : Int) = ((q + 1 : Nat) : Int) - 1 from by omega]; rfl, trivial⟩ trivial rfl) <| dw_skip <| dw_seq <| dw_block <| dw_seq <| dw_seq <| dw_draw 9 [] follows_mixed (by kernel_rfl) rfl rfl <| dq_r (sem_move rfl rfl) ?_
      refine dq_r (sem_move rfl rfl) ?_
      refine dq_r (sem_index sl22 rfl rfl (by (first | omega | (simp; omega))) (M_len _) rfl rfl) ?_
      refine dq_r (sem_loadq1 ty89 rfl (M_get (i := q) (by (first | omega | (simp; omega)))) rfl) ?_
      refine dq_r (sem_move rfl rfl) <| dq_r (sem_move rfl rfl) ?_
      refine dq_r (sem_index sl22 rfl rfl (by (first | omega | (simp; omega))) (M_len _) rfl rfl) ?_
      refine dq_r (sem_loadq1 ty89 rfl (M_get (i := q) (by (first | omega | (simp; omega)))) rfl) ?_
      refine dq_r (sem_cmp rfl rfl rfl rfl) <| dq_end <| dl_start0 <| dl_end ?_
      refine dw_cond rfl (fun hc4 => ?_) (fun hc4 => ?_)
      · have hfin : cmpI (val xs) (val ys) = -1 := cmp_lt (cmp_at hLxs hLys e1 e2 hD (by simpa using hc4))
        refine dw_seq <| dw_region (by kernel_rfl) <| dl_r (sem_assign rfl rfl) <| dl_end <| dw_ret ?_
        rw [hfin]
        exact ⟨.inr rfl, (resL_tmp rfl resL_nil)⟩
      · have hlt : ¬ xs.getD q 0 < ys.getD q 0 := by simpa using hc4
        refine dw_skip <| dw_seq <| dw_draw 9 [] follows_mixed (by kernel_rfl) rfl rfl <| dq_r (sem_move rfl rfl) <| dq_r (sem_move rfl rfl) ?_
        refine dq_r (sem_index sl22 rfl rfl (by (first | omega | (simp; omega))) (M_len _) rfl rfl) ?_
        refine dq_r (sem_loadq1 ty89 rfl (M_get (i := q) (by (first | omega | (simp; omega)))) rfl) ?_
        refine dq_r (sem_move rfl rfl) <| dq_r (sem_move rfl rfl) ?_
        refine dq_r (sem_index sl22 rfl rfl (by (first | omega | (simp; omega))) (M_len _) rfl rfl) ?_
        refine dq_r (sem_loadq1 ty89 rfl (M_get (i := q) (by (first | omega | (simp; omega)))) rfl) ?_
        refine dq_r (sem_cmp rfl rfl rfl rfl) <| dq_end <| dl_start0 <| dl_end ?_
        refine dw_cond rfl (fun hc5 => ?_) (fun hc5 => ?_)
        · have hfin : cmpI (val xs) (val ys) = 1 := cmp_gt (cmp_at hLys hLxs e2 e1 hD.symm (by simpa using hc5))
          refine dw_seq <| dw_region (by kernel_rfl) <| dl_r (sem_assign rfl rfl) <| dl_end <| dw_ret ?_
          rw [hfin]
          exact ⟨.inr rfl, (resL_tmp rfl resL_nil)⟩
        · have hgt : ¬ xs.getD q 0 > ys.getD q 0 := by simpa using hc5
          refine dw_skip <| dw_region (by kernel_rfl) <| dl_r (sem_move rfl rfl) ?_
          refine dl_r (sem_ari (r := (q : Int) - 1) rfl rfl (ari_i64_sub (by (first | omega | (simp; omega))) (by (first | omega | (simp; omega)))) rfl) ?_
          refine dl_r (sem_assign rfl rfl) <| dl_end ?_
          exact ⟨⟨q, by omega, drop_step (by omega) (by omega) hD (by omega)⟩, sub_of ⟨rfl, rfl, rfl, trivial⟩ trivial rfl, by show q < q + 1; omega⟩
    · have hz : j = 0 := by simp only [decide_eq_false_iff_not] at hc3; omega
      have hfin : cmpI (val xs) (val ys) = 0 := by subst hz; simp only [List.drop_zero] at hD; rw [hD]; exact cmp_eq rfl
      refine dw_exit <| dw_seq <| dw_region (by kernel_rfl) <| dl_r (sem_assign rfl rfl) <| dl_end <| dw_ret ?_
      rw [hfin]
      exact ⟨.inr rfl, (resL_tmp rfl resL_nil)⟩
theorem rShort_ok {xs : List Int} (hLxs : Lim xs) (hn : xs.length ≤ 1000000) (hb : val xs ≤ 18446744073709551615) : Ok Tryz.prog 47 [.c (cM xs)] [.c (.i .u64 (val xs))] := by
  refine Ok.of (by kernel_rfl) Tryz.func47 rfl rfl ?_
  rw [show Tryz.f47.ntmps = 21 from rfl, show Tryz.f47.results.toList = [.tmp 2] from rfl]
  refine dw_seq <| dw_region (by kernel_rfl) <| dl_r (sem_assign rfl rfl) <| dl_end <| dw_seq <| dw_region (by kernel_rfl) <| dl_r (sem_assign rfl rfl) <| dl_end ?_
  refine dw_seq <| dw_seq <| dw_region (by kernel_rfl) <| dl_r (sem_move rfl rfl) <| dl_r (sem_len sl22 rfl rfl) ?_
  refine dl_r (sem_ari (r := (xs.length : Int) - 1) rfl rfl (ari_i64_sub (by (first | omega | (simp; omega))) (by (first | omega | (simp; omega)))) rfl) ?_
  refine dl_r (sem_assign rfl rfl) <| dl_end <| dw_block <| dw_loop (ι := {t : Nat × Int // ShInv xs t.1 t.2}) (fun i => ⟨21, [(0, .v (.c (cM xs))), (3, .v (.c (.i .u64 i.1.2))), (4, .v (.c (.i .i64 ((i.1.1 : Int) - 1))))], []⟩) (fun i => i.1.1) ⟨(xs.length, 0), ⟨Nat.le_refl _, Int.le_refl 0, by rw [List.take_length]; simp⟩⟩ (sub_of ⟨rfl, rfl, rfl, trivial⟩ trivial rfl) ?_
  rintro ⟨⟨j, r⟩, hI⟩
  replace hI : ShInv xs j r := hI
  have g5 := hI.le
  have g3 := hI.r0
  show Dw _ _ ⟨21, [(0, .v (.c (cM xs))), (3, .v (.c (.i .u64 r))), (4, .v (.c (.i .i64 ((j : Int) - 1))))], []⟩ _
  refine dw_seq <| dw_seq <| dw_region (by kernel_rfl) <| dl_r (sem_move rfl rfl) <| dl_r (sem_cmp rfl rfl rfl rfl) <| dl_end ?_
  refine dw_cond rfl (fun hc1 => ?_) (fun hc1 => ?_)
  · obtain ⟨q, rfl⟩ : ∃ q, j = q + 1 := ⟨j - 1, by simp only [decide_eq_true_eq] at hc1; omega⟩
    have hS := hI.step hLxs
    have hB := hS.bound hLxs
    have g1 := lim_getD hLxs q
    refine Dw.weak (σ' := ⟨21, [(0, .v (.c (cM xs))), (3, .v (.c (.i .u64 r))), (4, .v (.c (.i .i64 (q : Int))))], []⟩) (sub_of ⟨rfl, rfl, by rw [show (q : Int) = ((q + 1 : Nat) : Int) - 1 from by omega]; rfl, trivial⟩ trivial rfl) <| dw_skip <| dw_seq <| dw_block <| dw_region (by kernel_rfl) <| dl_r (sem_move rfl rfl) ?_
    refine dl_r (sem_ari (r := r * 1000000000) rfl rfl (ari_u64_mul (by (first | omega | (simp; omega))) (by (first | omega | (simp; omega)))) rfl) ?_
    refine dl_r (sem_move rfl rfl) <| dl_r (sem_move rfl rfl) ?_
    refine dl_r (sem_index sl22 rfl rfl (by (first | omega | (simp; omega))) (M_len _) rfl rfl) ?_
    refine dl_r (sem_loadq1 ty89 rfl (M_get (i := q) (by (first | omega | (simp; omega)))) rfl) ?_
    refine dl_r (sem_conv' (r := xs.getD q 0) und89 und69 rfl (nwu64 (by (first | omega | (simp; omega))) (by (first | omega | (simp; omega)))) rfl) ?_
    refine dl_r (sem_ari (r := (r * 1000000000) + (xs.getD q 0)) rfl rfl (ari_u64_add (by (first | omega | (simp; omega))) (by (first | omega | (simp; omega)))) rfl) ?_
    refine dl_r (sem_assign rfl rfl) <| dl_end <| dw_region (by kernel_rfl) <| dl_r (sem_move rfl rfl) ?_
    refine dl_r (sem_ari (r := (q : Int) - 1) rfl rfl (ari_i64_sub (by (first | omega | (simp; omega))) (by (first | omega | (simp; omega)))) rfl) ?_
    refine dl_r (sem_assign rfl rfl) <| dl_end ?_
    exact ⟨⟨(q, r * 1000000000 + xs.getD q 0), hS⟩, sub_of ⟨rfl, rfl, rfl, trivial⟩ trivial rfl, by show q < q + 1; omega⟩
  · have hz : j = 0 := by simp only [decide_eq_false_iff_not] at hc1; omega
    have hfin : val xs = r := by subst hz; have := hI.v; simp [val, pw_zero] at this; omega
    refine dw_exit <| dw_seq <| dw_region (by kernel_rfl) <| dl_r (sem_move rfl rfl) <| dl_r (sem_assign rfl rfl) <| dl_end <| dw_ret ?_
    rw [hfin]
    exact ⟨.inr rfl, (resL_tmp rfl resL_nil)⟩
theorem rSigned_ok {neg : Bool} {xs : List Int} (hL : Lim xs) (hn : xs.length ≤ 10000000) : Ok Tryz.prog 80 [.c (.b neg), .c (cM xs)] [dI (sg neg (val xs))] := by
  refine Ok.of (by kernel_rfl) Tryz.func80 rfl rfl ?_
  rw [show Tryz.f80.ntmps = 15 from rfl, show Tryz.f80.results.toList = [.cell 4 24] from rfl]
  refine dw_seq <| dw_region (by kernel_rfl) <| dl_new (sem_alloc zc24 rfl) rfl <| dl_end <| dw_seq <| dw_region (by kernel_rfl) <| dl_r (sem_move rfl rfl) <| dl_r (sem_call rfl rfl (rTrim_ok hL (by omega)) rfl) ?_
  refine dl_r (sem_assign rfl rfl) <| dl_end <| dw_seq <| dw_region (by kernel_rfl) <| dl_r (sem_move rfl rfl) ?_
  refine dl_rb (sem_move rfl rfl) (fun c1 hb1 => ?_)
  cases c1
  · have hfin : dI (sg neg (val xs)) = .a ([.b false] ++ [cL (val xs)]) := by rw [hb1, sg_false]; unfold dI cI; rw [show decide (val xs < 0) = false from by have := val_nonneg hL; simp; omega]; rfl
    refine dl_skip (sem_skip rfl) <| dl_skip (sem_skip rfl) <| dl_skip (sem_skip rfl) <| dl_r (sem_pick rfl rfl rfl rfl) <| dl_r (sem_move rfl rfl) <| dl_r (sem_build (us := ([.b false] ++ [cL (val xs)])) fs24 zc24 rfl rfl rfl) <| dl_st (sem_store_a ty24 rfl rfl rfl rfl rfl rfl) <| dl_end ?_
    refine dw_ret ?_
    rw [hfin]
    exact ⟨.inr rfl, (resL_cell (us := ([.b false] ++ [cL (val xs)])) ty24 rfl rfl rfl rfl resL_nil)⟩
  · have hfin : dI (sg neg (val xs)) = .a ([.b (decide (((lim (val xs).natAbs).length : Int) > 0))] ++ [cL (val xs)]) := by rw [hb1]; exact sg_data (val_nonneg hL)
    refine dl_r (sem_move rfl rfl) <| dl_r (sem_len sl22 rfl rfl) <| dl_r (sem_cmp rfl rfl rfl rfl) <| dl_r (sem_pick rfl rfl rfl rfl) <| dl_r (sem_move rfl rfl) <| dl_r (sem_build (us := ([.b (decide ((((lim (val xs).natAbs).length : Int)) > 0))] ++ [cL (val xs)])) fs24 zc24 rfl rfl rfl) <| dl_st (sem_store_a ty24 rfl rfl rfl rfl rfl rfl) <| dl_end ?_
    refine dw_ret ?_
    rw [hfin]
    exact ⟨.inr rfl, (resL_cell (us := ([.b (decide ((((lim (val xs).natAbs).length : Int)) > 0))] ++ [cL (val xs)])) ty24 rfl rfl rfl rfl resL_nil)⟩
theorem lim_step {r : Int} (h : 0 < r) : lim r.toNat = (r % 1000000000) :: lim (r / 1000000000).toNat := by
  rw [lim_pos (by omega)]
  congr 1
  · omega
  · congr 1; omega
set_option maxHeartbeats 1000000 in
set_option maxRecDepth 10000 in
theorem rlimbs_any (u : Int) (w : World) (h0 : 0 ≤ u) (h1 : u ≤ 18446744073709551615) :
    Calls Tryz.prog 81 #[.int .u64 u] w fun e w' => ∃ v, e = .returned v ∧ w'.ownsRow w.heap.size 89 1 v (lim u.toNat).length ((lim u.toNat).map (Value.int .u32)) ∧ Below w.heap.size w w' := by
  obtain ⟨i0, hi0, hz0, hz1, hz2⟩ := info_parts info_u32
  have hlen : (lim u.toNat).length ≤ 3 := by
    refine (nrm_lim _).len (lim_lim _) ?_
    rw [val_lim]
    have h3 : pw 3 = 1000000000000000000000000000 := by decide
    omega
  go_enter Tryz.func81, Tryz.ntmps81
  go_wp2_with fail
  go_loopw [0, 3] (fun n v wr => ∃ (r : Int) (k : Nat) (zs : List Int), n = .int .u64 r ∧ 0 ≤ r ∧ r ≤ u ∧ wr.ownsRow w.heap.size 89 1 v k (zs.map (Value.int .u32)) ∧ Below w.heap.size w wr ∧ Hid (zs.length = k ∧ lim u.toNat = zs ++ lim r.toNat))
    (fun n _ _ => (intOf n).toNat)
  case atStart => exact ⟨u, 0, [], rfl, h0, Int.le_refl _, own_nil _ _ _ _, Below.refl _ _, rfl, rfl⟩
  case round =>
    obtain ⟨r, k, zs, rfl, hr0, hru, hown, hbel, H⟩ := hrel
    have hz := hbel.size
    by_cases hr : 0 < r
    · have Hs : Hid ((zs ++ [r % 1000000000]).length = k + 1 ∧ lim u.toNat = (zs ++ [r % 1000000000]) ++ lim (r / 1000000000).toNat) := by
        obtain ⟨l1, l2⟩ := H.out
        refine ⟨by simp [l1], ?_⟩
        rw [l2, lim_step hr]; simp
      have hk : k ≤ 3 := by
        obtain ⟨l1, l2⟩ := H.out
        rw [l2] at hlen
        simp at hlen; omega
      clear H
      have e1 : r.tmod 1000000000 = r % 1000000000 := Int.tmod_eq_emod_of_nonneg hr0
      have e2 : IntKind.u32.wrap (r % 1000000000) = r % 1000000000 := nwu32 (by omega) (by omega)
      have e3 : r.tdiv 1000000000 = r / 1000000000 := Int.tdiv_eq_ediv_of_nonneg hr0
      have e4 : IntKind.u64.wrap (r / 1000000000) = r / 1000000000 := nwu64 (by omega) (by omega)
      go_wp2_with (at_builtin; go_must (refine wpList_append_own _ rfl _ _ 22 rfl w.heap.size 89 i0 (.int .u32 0) 1 4 Tryz.underlying22 hi0 hz0 hz1 hz2 rfl (by decide) _ _ _ rfl (hown.alloc _) ⟨wr.heap.size, 0, none⟩ 1 1 [.int .u32 _] rfl rfl (cell_one_new _ _ _) (by simp [Value.oneCell']) (by unfold maxLen; omega) (by omega) (by simp; omega) ?_); intro v' w1 hown' hgrow' _)
      go_roundw
      case rel => exact ⟨r / 1000000000, k + 1, _, by first | rfl | (simp [e3, e4]), by omega, by omega, by simpa using hown', below_append hown hbel hz hgrow', Hs⟩
      case measure => simp [intOf] <;> omega
    · obtain rfl : r = 0 := by omega
      have Hs : Hid (zs.length = k ∧ lim u.toNat = zs) := by
        obtain ⟨l1, l2⟩ := H.out
        refine ⟨l1, ?_⟩
        rw [l2]; simp [lim_zero]
      clear H
      go_wp2
      go_ret
      obtain ⟨l1, l2⟩ := Hs.out
      exact ⟨_, rfl, by rw [l2, l1]; exact hown, hbel⟩
theorem rLimbs_ok {u : Int} (h0 : 0 ≤ u) (h1 : u ≤ 18446744073709551615) : Ok Tryz.prog 81 [.c (.i .u64 u)] [.c (cL u)] := ⟨by kernel_rfl, fun av vs w hav h => by
  obtain ⟨vs⟩ := vs
  match vs, h.1, h with
  | [v], _, h =>
    obtain rfl := RdC.int_eq h.uncons.1
    refine (rlimbs_any u w h0 h1).mono ?_
    rintro e w' ⟨v, rfl, g1, g2⟩
    obtain ⟨A, c, rfl⟩ := own_form g1
    refine ⟨_, rfl, ?_, g2⟩
    have hn : u.natAbs = u.toNat := by omega
    have hsl := Ow.sl ⟨g1, lim_lim _⟩
    have := rdc_of_rdi (av := av) hsl.1 hsl.2.1 hsl.2.2.1 (fun b off e hV => by have := Ow.fresh (k := w.heap.size) (⟨g1, lim_lim _⟩ : Ow w' w.heap.size _ _ _) (Nat.le_refl _) b off e; have := hav b hV; omega)
    show RdC av w' _ (cL u)
    unfold cL
    rw [hn]; exact this⟩
structure DInv (us : List Int) (V : Int) (N j : Nat) (R : Int) (zs : List Int) : Prop where
  le : j ≤ us.length
  R0 : 0 ≤ R
  RV : R < V
  L : Lim zs
  len : zs.length = N
  hN : us.length ≤ N
  v : val (us.drop j) = val ((zs.take us.length).drop j) * V + R
theorem drop_getD {xs : List Int} {i : Nat} (h : i < xs.length) : val (xs.drop i) = xs.getD i 0 + 1000000000 * val (xs.drop (i + 1)) := by
  rw [List.drop_eq_getElem_cons h, val_cons]
  simp [List.getD, h]
theorem DInv.start {us : List Int} {V : Int} {N : Nat} (hV : 0 < V) (hN : us.length ≤ N) : DInv us V N us.length 0 (List.replicate N 0) :=
  ⟨Nat.le_refl _, Int.le_refl _, hV, Lim.zeros _, by simp, hN, by rw [List.drop_eq_nil_of_le (Nat.le_refl _), List.drop_eq_nil_of_le (by simp; omega)]; simp [val]⟩
theorem DInv.step {us zs : List Int} {V R q R' : Int} {N i : Nat} (h : DInv us V N (i + 1) R zs) (_hL : Lim us) (hq0 : 0 ≤ q) (hq1 : q < 1000000000) (hR0 : 0 ≤ R') (hRV : R' < V) (he : us.getD i 0 + 1000000000 * R = q * V + R') : DInv us V N i R' (zs.set i q) := by
  have hi : i < us.length := h.le
  have hlen := h.len
  have hN := h.hN
  refine ⟨by omega, hR0, hRV, h.L.set hq0 hq1, by simp [hlen], hN, ?_⟩
  have e1 : ((zs.set i q).take us.length) = (zs.take us.length).set i q := by rw [List.take_set]
  have hi2 : i < ((zs.take us.length).set i q).length := by simp; omega
  rw [drop_getD hi, h.v, e1, drop_getD hi2]
  have e2 : ((zs.take us.length).set i q).getD i 0 = q := by
    have : i < (zs.take us.length).length := by rw [List.length_take]; omega
    rw [List.getD, List.getElem?_set_self this]; rfl
  have e3 : ((zs.take us.length).set i q).drop (i + 1) = (zs.take us.length).drop (i + 1) := by rw [List.drop_set_of_lt (by omega)]
  rw [e2, e3]
  generalize val ((zs.take us.length).drop (i + 1)) = Q at *
  have : (q + 1000000000 * Q) * V = q * V + 1000000000 * (Q * V) := by rw [Int.add_mul, Int.mul_assoc]
  rw [this]
  omega
theorem DInv.done {us zs : List Int} {V R : Int} {N : Nat} (h : DInv us V N 0 R zs) : val us / V = val (zs.take us.length) ∧ val us % V = R := by
  have hv := h.v
  simp only [List.drop_zero] at hv
  have h0 := h.R0
  have h1 := h.RV
  exact (Int.ediv_emod_unique (show 0 < V by omega)).2 ⟨by rw [hv, Int.mul_comm V]; omega, h0, h1⟩
theorem quo_bound {R V d : Int} (hR : 0 ≤ R) (hV : R < V) (hd : 0 ≤ d) (hd1 : d < 1000000000) : 0 ≤ (d + 1000000000 * R) / V ∧ (d + 1000000000 * R) / V ≤ 999999999 := by
  refine ⟨Int.ediv_nonneg (by omega) (by omega), ?_⟩
  have : (d + 1000000000 * R) / V < 1000000000 := Int.ediv_lt_of_lt_mul (by omega) (by omega)
  omega
theorem est_ge {T V hi top : Int} {n : Nat} (hV : top * pw n ≤ V) (htop : 0 < top) (hT : T < (hi + 1) * pw n) (hT0 : 0 ≤ T) (hVp : 0 < V) : T / V ≤ hi / top := by
  have h1 : T / V * V ≤ T := Int.ediv_mul_le _ (by omega)
  have h0 : 0 ≤ T / V := Int.ediv_nonneg hT0 (by omega)
  generalize T / V = q at *
  have h2 : q * (top * pw n) ≤ q * V := Int.mul_le_mul_of_nonneg_left hV h0
  have hp := pw_pos n
  have h3 : q * top * pw n < (hi + 1) * pw n := by rw [Int.mul_assoc]; omega
  have h4 : q * top < hi + 1 := Int.lt_of_mul_lt_mul_right h3 (by omega)
  exact (Int.le_ediv_iff_mul_le htop).2 (by omega)
structure HInv (rs : List Int) (n : Nat) (H : Int) : Prop where
  h0 : 0 ≤ H
  h1 : H ≤ 999999999999999999
  h : val rs < (H + 1) * pw (n - 1)
theorem top_two {rs : List Int} {n : Nat} (hL : Lim rs) (hn : 1 ≤ n) (hl : rs.length = n + 1) : HInv rs n (rs.getD n 0 * 1000000000 + rs.getD (n - 1) 0) := by
  have g1 := lim_getD hL n
  have g2 := lim_getD hL (n - 1)
  refine ⟨by omega, by omega, ?_⟩
  obtain ⟨k, rfl⟩ : ∃ k, n = k + 1 := ⟨n - 1, by omega⟩
  rw [Nat.add_sub_cancel] at *
  have e1 := take_getD (xs := rs) (k := k + 1) (by omega)
  have e2 := take_getD (xs := rs) (k := k) (by omega)
  rw [val_take_all (by omega), e2] at e1
  have h1 := val_lt (hL.take k)
  rw [List.length_take, Nat.min_eq_left (by omega)] at h1
  rw [e1, pw_succ]
  generalize pw k = b at *
  generalize rs.getD (k + 1) 0 = x at *
  generalize rs.getD k 0 = y at *
  have : (x * 1000000000 + y + 1) * b = 1000000000 * b * x + b * y + b := by grind
  omega
theorem top_one {rs : List Int} {n : Nat} (hL : Lim rs) (hn : 1 ≤ n) (hl : rs.length = n) : HInv rs n (rs.getD (n - 1) 0) := by
  have g2 := lim_getD hL (n - 1)
  refine ⟨by omega, by omega, ?_⟩
  obtain ⟨k, rfl⟩ : ∃ k, n = k + 1 := ⟨n - 1, by omega⟩
  rw [Nat.add_sub_cancel] at *
  have e2 := take_getD (xs := rs) (k := k) (by omega)
  rw [val_take_all (by omega)] at e2
  have h1 := val_lt (hL.take k)
  rw [List.length_take, Nat.min_eq_left (by omega)] at h1
  rw [e2]
  generalize pw k = b at *
  generalize rs.getD k 0 = y at *
  have : (y + 1) * b = b * y + b := by grind
  omega
theorem top_none {rs : List Int} {n : Nat} (hL : Lim rs) (hl : rs.length < n) : HInv rs n 0 := by
  refine ⟨by omega, by omega, ?_⟩
  have h1 := val_lt hL
  have := pw_le (n := rs.length) (m := n - 1) (by omega)
  omega
theorem top_limb {vs : List Int} (hL : Lim vs) (hN : Nrm vs) (hne : vs ≠ []) : 0 < vs.getD (vs.length - 1) 0 ∧ vs.getD (vs.length - 1) 0 * pw (vs.length - 1) ≤ val vs := by
  obtain ⟨ys, y, e, hy⟩ := hN.last hne
  have hl : vs.length = ys.length + 1 := by rw [e]; simp
  have hk : vs.length - 1 < vs.length := by omega
  have e1 := take_getD hk
  rw [show vs.length - 1 + 1 = vs.length from by omega, val_take_all (Nat.le_refl _)] at e1
  have h1 := val_nonneg (hL.take (vs.length - 1))
  have h2 := lim_getD hL (vs.length - 1)
  have e3 : vs.getD (vs.length - 1) 0 = y := by rw [e]; simp [List.getD]
  refine ⟨by rw [e3] at h2 ⊢; omega, ?_⟩
  rw [Int.mul_comm]; omega
theorem len_of_lt {n : Nat} {r : Int} (h0 : 0 ≤ r) (h : r < pw n) : (lim r.natAbs).length ≤ n := by
  refine (nrm_lim _).len (lim_lim _) ?_
  rw [val_lim]; omega
theorem scaled {x y s : Int} (hs : 0 < s) : (x * s) / (y * s) = x / y ∧ (x * s) % (y * s) = x % y * s := by
  refine ⟨Int.mul_ediv_mul_of_pos_left x y hs, ?_⟩
  rw [Int.mul_comm x, Int.mul_comm y, Int.mul_emod_mul_of_pos _ _ hs, Int.mul_comm]
theorem nat_sz {a : Int} {k : Nat} (h : Sz k a) : Sz k (a.natAbs : Int) := h.of_le (by omega)
theorem rCompare_c {a b : Int} (ha : Sz 1000000 a) (hb : Sz 1000000 b) : Ok Tryz.prog 78 [.c (cL a), .c (cL b)] [.c (.i .i64 (cmpI a.natAbs b.natAbs))] := by
  have := rCompare_ok (lim_lim a.natAbs) (lim_lim b.natAbs) (nrm_lim _) (nrm_lim _) (lim_len ha) (lim_len hb)
  rw [val_lim, val_lim] at this
  exact this
theorem rPlus_c {a b : Int} (ha : Sz 1000000 a) (hb : Sz 1000000 b) : Ok Tryz.prog 85 [.c (cL a), .c (cL b)] [.c (cL ((a.natAbs : Int) + b.natAbs))] := by
  have := rPlus_ok (lim_lim a.natAbs) (lim_lim b.natAbs) (lim_len ha) (lim_len hb)
  rw [val_lim, val_lim] at this
  exact this
theorem rMinus_c {a b : Int} (ha : Sz 1000000 a) (h : b.natAbs ≤ a.natAbs) : Ok Tryz.prog 86 [.c (cL a), .c (cL b)] [.c (cL ((a.natAbs : Int) - b.natAbs))] := by
  have := rMinus_ok (lim_lim a.natAbs) (lim_lim b.natAbs) (lim_len ha) ((nrm_lim _).len (lim_lim _) (by have := val_lt (lim_lim a.natAbs); rw [val_lim] at this ⊢; omega)) (by rw [val_lim, val_lim]; omega)
  rw [val_lim, val_lim] at this
  exact this
theorem rTimes_c {a b : Int} (ha : Sz 1000000 a) (hb : Sz 1000000 b) : Ok Tryz.prog 84 [.c (cL a), .c (cL b)] [.c (cL ((a.natAbs : Int) * b.natAbs))] := by
  have := rTimes_ok (lim_lim a.natAbs) (lim_lim b.natAbs) (lim_len ha) (lim_len hb)
  rw [val_lim, val_lim] at this
  exact this
theorem rBy_c {a m : Int} (ha : Sz 1000000 a) (h0 : 0 ≤ m) (h1 : m < 1000000000) : Ok Tryz.prog 111 [.c (cL a), .c (.i .u32 m)] [.c (cL ((a.natAbs : Int) * m))] := by
  have := rBy_ok (lim_lim a.natAbs) (lim_len ha) h0 h1
  rw [val_lim] at this
  exact this
theorem rSigned_c {neg : Bool} {a : Int} (ha : Sz 1000000 a) : Ok Tryz.prog 80 [.c (.b neg), .c (cL a)] [dI (sg neg (a.natAbs : Int))] := by
  have := rSigned_ok (neg := neg) (lim_lim a.natAbs) (by have := lim_len ha; omega)
  rw [val_lim] at this
  exact this
theorem rTrim_cM {d : Int} {r : Int} (hr : 0 ≤ r) (h0 : 0 ≤ d) (h1 : d < 1000000000) (hl : (lim r.natAbs).length ≤ 1000000) : Ok Tryz.prog 77 [.c (cM (d :: lim r.natAbs))] [.c (cL (d + 1000000000 * r))] := by
  have := rTrim_ok (Lim.cons h0 h1 (lim_lim r.natAbs)) (by simp; omega)
  rw [val_cons, val_lim] at this
  rw [show ((r.natAbs : Nat) : Int) = r from by omega] at this
  exact this
theorem rShort_c {a : Int} (ha : a.natAbs ≤ 18446744073709551615) : Ok Tryz.prog 47 [.c (cL a)] [.c (.i .u64 (a.natAbs : Int))] := by
  have := rShort_ok (lim_lim a.natAbs) (by have h3 : pw 3 = 1000000000000000000000000000 := by decide
                                           have := (nrm_lim a.natAbs).len (lim_lim _) (k := 3) (by rw [val_lim]; omega)
                                           omega) (by rw [val_lim]; omega)
  rw [val_lim] at this
  exact this
theorem rParts_ok {xs ys : List Int} (hLxs : Lim xs) (hLys : Lim ys) (_nX : Nrm xs) (nY : Nrm ys) (hn : xs.length ≤ 200000) (hm : ys.length ≤ 200000) (hy0 : ys ≠ []) : Ok Tryz.prog 79 [.c (cM xs), .c (cM ys)] [.c (cL (val xs / val ys)), .c (cL (val xs % val ys))] := by
  have hyl : 1 ≤ ys.length := by have := List.length_pos_iff.2 hy0; omega
  obtain ⟨htop, htopv⟩ := top_limb hLys nY hy0
  have hB1 := lim_getD hLys (ys.length - 1)
  have hvy0 : 0 < val ys := by have h2 := Int.mul_le_mul_of_nonneg_left (pw_pos (ys.length - 1)) (show 0 ≤ ys.getD (ys.length - 1) 0 by omega); omega
  have hvx0 := val_nonneg hLxs
  obtain ⟨B, hB⟩ : ∃ B, ys.getD (ys.length - 1) 0 = B := ⟨_, rfl⟩
  rw [hB] at htop hB1 htopv
  obtain ⟨s, hs⟩ : ∃ s, 1000000000 / (B + 1) = s := ⟨_, rfl⟩
  have hs1 : 1 ≤ s := by rw [← hs]; exact (Int.le_ediv_iff_mul_le (by omega)).2 (by omega)
  have hs2 : s ≤ 500000000 := by rw [← hs]; exact Int.ediv_le_of_le_mul (by omega) (by omega)
  obtain ⟨V, hV⟩ : ∃ V, val ys * s = V := ⟨_, rfl⟩
  obtain ⟨W, hW⟩ : ∃ W, val xs * s = W := ⟨_, rfl⟩
  have hV0 : 0 < V := by rw [← hV]; exact Int.mul_pos hvy0 (by omega)
  have hW0 : 0 ≤ W := by rw [← hW]; exact Int.mul_nonneg hvx0 (by omega)
  have eV : (V.natAbs : Int) = V := by omega
  have eW : (W.natAbs : Int) = W := by omega
  have hVb : V < pw (ys.length + 1) := by
    have h1 := val_lt hLys
    have h2 : val ys * s ≤ val ys * 1000000000 := Int.mul_le_mul_of_nonneg_left (by omega) (by omega)
    rw [pw_succ]; omega
  have hWb : W < pw (xs.length + 1) := by
    have h1 := val_lt hLxs
    have h2 : val xs * s ≤ val xs * 1000000000 := Int.mul_le_mul_of_nonneg_left (by omega) (by omega)
    rw [pw_succ]; omega
  have hVlen : (lim V.natAbs).length ≤ ys.length + 1 := len_of_lt (by omega) hVb
  have hWlen : (lim W.natAbs).length ≤ xs.length + 1 := len_of_lt hW0 hWb
  have hVne : lim V.natAbs ≠ [] := fun e => by have := lim_eq_nil.1 e; omega
  have hVl1 : 1 ≤ (lim V.natAbs).length := by have := List.length_pos_iff.2 hVne; omega
  obtain ⟨htop2, htopv2⟩ := top_limb (lim_lim V.natAbs) (nrm_lim _) hVne
  have hB2 := lim_getD (lim_lim V.natAbs) ((lim V.natAbs).length - 1)
  rw [val_lim, eV] at htopv2
  obtain ⟨top, ht⟩ : ∃ top, (lim V.natAbs).getD ((lim V.natAbs).length - 1) 0 = top := ⟨_, rfl⟩
  rw [ht] at htop2 htopv2 hB2
  obtain ⟨n, hnl⟩ : ∃ n, (lim V.natAbs).length = n := ⟨_, rfl⟩
  rw [hnl] at hVlen hVl1 htopv2 ht
  have hVlt : V < pw n := by have := val_lt (lim_lim V.natAbs); rw [val_lim, eV, hnl] at this; exact this
  obtain ⟨hq1, hq2⟩ := scaled (x := val xs) (y := val ys) (s := s) (by omega)
  rw [hV, hW] at hq1 hq2
  have szV : Sz 1000000 V := ⟨by have := pw_le (n := ys.length + 1) (m := 1000000) (by omega); omega, by have := pw_pos 1000000; omega⟩
  have hby1 : Ok Tryz.prog 111 [.c (cM ys), .c (.i .u32 s)] [.c (cL V)] := by rw [← hV]; exact rBy_ok hLys (by omega) (by omega) (by omega)
  have hby2 : Ok Tryz.prog 111 [.c (cM xs), .c (.i .u32 s)] [.c (cL W)] := by rw [← hW]; exact rBy_ok hLxs (by omega) (by omega) (by omega)
  have hbyV : ∀ g : Int, 0 ≤ g → g < 1000000000 → Ok Tryz.prog 111 [.c (cL V), .c (.i .u32 g)] [.c (cL (V * g))] := fun g h0 h1 => by have := rBy_c szV h0 h1; rw [eV] at this; exact this
  refine Ok.of (by kernel_rfl) Tryz.func79 rfl rfl ?_
  rw [show Tryz.f79.ntmps = 173 from rfl, show Tryz.f79.results.toList = [.tmp 4, .tmp 5] from rfl]
  refine dw_seq <| dw_region (by kernel_rfl) <| dl_r (sem_assign rfl rfl) <| dl_r (sem_assign rfl rfl) <| dl_end ?_
  refine dw_seqJ (ι := Unit) (fun i => ⟨173, [(0, .v (.c (cM xs))), (1, .v (.c (cM ys)))], []⟩) ?_ ?_
  · refine dw_seq <| dw_region (by kernel_rfl) <| dl_r (sem_move rfl rfl) <| dl_r (sem_len sl22 rfl rfl) <| dl_r (sem_cmp rfl rfl rfl rfl) ?_
    refine dl_rb (sem_move rfl rfl) (fun c1 hb1 => ?_)
    cases c1
    · refine dl_skip (sem_skip rfl) <| dl_skip (sem_skip rfl) <| dl_skip (sem_skip rfl) <| dl_r (sem_pick rfl rfl rfl rfl) <| dl_end <| dw_false rfl <| dw_skip ?_
      exact ⟨(), sub_of ⟨rfl, rfl, trivial⟩ trivial rfl⟩
    · have ha2 : xs.length ≤ 2 := by simp only [decide_eq_true_eq] at hb1; omega
      refine dl_r (sem_move rfl rfl) <| dl_r (sem_len sl22 rfl rfl) <| dl_r (sem_cmp rfl rfl rfl rfl) <| dl_r (sem_pick rfl rfl rfl rfl) <| dl_end ?_
      refine dw_cond rfl (fun hc2 => ?_) (fun hc2 => ?_)
      · have hb2 : ys.length ≤ 2 := by simp only [decide_eq_true_eq] at hc2; omega
        have hp2 : pw 2 = 1000000000000000000 := by decide
        have hvx2 := val_lt hLxs
        have hvy2 := val_lt hLys
        have hp3 := pw_le (n := xs.length) (m := 2) ha2
        have hp4 := pw_le (n := ys.length) (m := 2) hb2
        have hd0 : 0 ≤ val xs / val ys := Int.ediv_nonneg (by omega) (by omega)
        have hd1 : val xs / val ys ≤ val xs := Int.ediv_le_self _ (by omega)
        have hd2 : val xs / val ys ≤ 18446744073709551615 := by omega
        have hm0 : 0 ≤ val xs % val ys := Int.emod_nonneg _ (by omega)
        have hm1 : val xs % val ys < val ys := Int.emod_lt_of_pos _ (by omega)
        have hm2 : val xs % val ys ≤ 18446744073709551615 := by omega
        refine dw_seq <| dw_region (by kernel_rfl) <| dl_r (sem_move rfl rfl) <| dl_r (sem_call rfl rfl (rShort_ok hLxs (by omega) (by omega)) rfl) <| dl_r (sem_move rfl rfl) <| dl_r (sem_call rfl rfl (rShort_ok hLys (by omega) (by omega)) rfl) <| dl_r (sem_assign rfl rfl) <| dl_r (sem_assign rfl rfl) ?_
        refine dl_end <| dw_seq <| dw_draw 10 [] follows_mixed (by kernel_rfl) rfl rfl <| dq_r (sem_move rfl rfl) <| dq_r (sem_move rfl rfl) <| dq_r (sem_quo' (r := val xs / val ys) rfl rfl (by omega) (by rw [Int.tdiv_eq_ediv_of_nonneg (by omega)]; exact nwu64 (by omega) (by omega)) rfl) <| dq_r (sem_call rfl rfl (rLimbs_ok (by assumption) (by assumption)) rfl) <| dq_r (sem_move rfl rfl) ?_
        refine dq_r (sem_move rfl rfl) <| dq_r (sem_rem' (r := val xs % val ys) rfl rfl (by omega) (Int.tmod_eq_emod_of_nonneg hvx0) rfl) <| dq_r (sem_call rfl rfl (rLimbs_ok (by assumption) (by assumption)) rfl) <| dq_r (sem_assign rfl rfl) <| dq_r (sem_assign rfl rfl) <| dq_end <| dl_start0 <| dl_end ?_
        refine dw_ret ?_
        exact ⟨.inr rfl, (resL_tmp rfl (resL_tmp rfl resL_nil))⟩
      · refine dw_skip ?_
        exact ⟨(), sub_of ⟨rfl, rfl, trivial⟩ trivial rfl⟩
  · rintro ⟨⟩
    show Dw _ _ ⟨173, [(0, .v (.c (cM xs))), (1, .v (.c (cM ys)))], []⟩ _
    refine dw_seq <| dw_region (by kernel_rfl) <| dl_r (sem_move rfl rfl) <| dl_r (sem_move rfl rfl) <| dl_r (sem_len sl22 rfl rfl) <| dl_r (sem_ari (r := ((ys.length - 1 : Nat) : Int)) rfl rfl (by rw [show ((ys.length - 1 : Nat) : Int) = (ys.length : Int) - 1 from by omega]; exact ari_i64_sub (by omega) (by omega)) rfl) ?_
    refine dl_r (sem_index sl22 rfl rfl (by (first | omega | (simp; omega))) (M_len _) rfl rfl) ?_
    refine dl_r (sem_loadq1 ty89 rfl (M_get (i := (ys.length - 1)) (by (first | omega | (simp; omega)))) rfl) ?_
    refine dl_r (sem_conv' (r := B) und89 und69 rfl (by rw [hB]; exact nwu64 (by omega) (by omega)) rfl) ?_
    refine dl_r (sem_ari (r := B + 1) rfl rfl (ari_u64_add (by (first | omega | (simp; omega))) (by (first | omega | (simp; omega)))) rfl) ?_
    refine dl_r (sem_quo' (r := s) rfl rfl (by omega) (by rw [Int.tdiv_eq_ediv_of_nonneg (by omega), hs]; exact nwu64 (by omega) (by omega)) rfl) <| dl_r (sem_conv' (r := s) und69 und89 rfl (nwu32 (by omega) (by omega)) rfl) <| dl_r (sem_assign rfl rfl) <| dl_end <| dw_seq <| dw_region (by kernel_rfl) <| dl_r (sem_move rfl rfl) <| dl_r (sem_move rfl rfl) ?_
    refine dl_r (sem_call rfl rfl (hby1) rfl) <| dl_r (sem_assign rfl rfl) <| dl_end <| dw_seq <| dw_region (by kernel_rfl) <| dl_r (sem_move rfl rfl) <| dl_r (sem_move rfl rfl) <| dl_r (sem_len sl22 rfl rfl) ?_
    refine dl_r (sem_ari (r := ((n - 1 : Nat) : Int)) rfl rfl (by rw [hnl, show ((n - 1 : Nat) : Int) = (n : Int) - 1 from by omega]; exact ari_i64_sub (by omega) (by omega)) rfl) ?_
    refine dl_r (sem_index sl22 rfl rfl (by (first | omega | (simp; omega))) (M_len _) rfl rfl) ?_
    refine dl_r (sem_loadq1 ty89 rfl (M_get (i := (n - 1)) (by (first | omega | (simp; omega)))) rfl) ?_
    refine dl_r (sem_conv' (r := top) und89 und69 rfl (by rw [ht]; exact nwu64 (by omega) (by omega)) rfl) <| dl_r (sem_assign rfl rfl) <| dl_end <| dw_seq <| dw_region (by kernel_rfl) <| dl_r (sem_assign rfl rfl) <| dl_end <| dw_seq ?_
    refine dw_region (by kernel_rfl) <| dl_r (sem_move rfl rfl) <| dl_r (sem_len sl22 rfl rfl) ?_
    refine dl_r (sem_ari (r := (xs.length : Int) + 1) rfl rfl (ari_i64_add (by (first | omega | (simp; omega))) (by (first | omega | (simp; omega)))) rfl) ?_
    refine dl_mk (sem_make (n := xs.length + 1) el22 rfl rfl (by omega) (by omega) rfl) rfl <| dl_r (sem_assign rfl rfl) <| dl_end <| dw_seq <| dw_region (by kernel_rfl) <| dl_r (sem_move rfl rfl) <| dl_r (sem_move rfl rfl) <| dl_r (sem_call rfl rfl (hby2) rfl) ?_
    refine dl_r (sem_assign rfl rfl) <| dl_end <| dw_seq <| dw_region (by kernel_rfl) <| dl_r (sem_move rfl rfl) <| dl_r (sem_move rfl rfl) <| dl_r (sem_len sl22 rfl rfl) ?_
    refine dl_r (sem_slice_o (q := ((lim W.natAbs).length)) sl22 rfl rfl (by (first | omega | (simp; omega))) rfl) ?_
    refine dl_r (sem_assign rfl rfl) <| dl_end <| dw_seq <| dw_seq <| dw_region (by kernel_rfl) <| dl_r (sem_move rfl rfl) <| dl_r (sem_len sl22 rfl rfl) ?_
    refine dl_r (sem_ari (r := (((lim W.natAbs).length : Int)) - 1) rfl rfl (ari_i64_sub (by (first | omega | (simp; omega))) (by (first | omega | (simp; omega)))) rfl) ?_
    refine dl_r (sem_assign rfl rfl) <| dl_end <| dw_block <| dw_loop (ι := {t : Nat × Int × List Int // DInv (lim W.natAbs) V (xs.length + 1) t.1 t.2.1 t.2.2}) (fun i => ⟨173, [(8, .v (.c (.i .u32 s))), (9, .v (.c (cL V))), (10, .v (.c (.i .u64 top))), (11, .v (.c (cL i.1.2.1))), (12, .o 64 ((lim W.natAbs).length) (xs.length + 1)), (13, .v (.c (cL W))), (14, .v (.c (.i .i64 ((i.1.1 : Int) - 1))))], [(64, 89, i.1.2.2.map (CellD.i .u32))]⟩) (fun i => i.1.1) ⟨((lim W.natAbs).length, 0, List.replicate (xs.length + 1) 0), DInv.start hV0 hWlen⟩ (sub_of ⟨rfl, rfl, rfl, by rw [show cL 0 = .s 0 [] from by unfold cL; rw [show (0 : Int).natAbs = 0 from rfl, lim_zero]; rfl]; rfl, rfl, rfl, rfl, trivial⟩ ⟨by rw [show (List.replicate (xs.length + 1) (CellD.i .u32 0)) = (List.replicate (xs.length + 1) 0).map (CellD.i .u32) from by simp]; rfl, trivial⟩ rfl) ?_
    rintro ⟨⟨j, R, zs⟩, hI⟩
    replace hI : DInv (lim W.natAbs) V (xs.length + 1) j R zs := hI
    have g6 := hI.len
    have gR0 := hI.R0
    have gRV := hI.RV
    have gle := hI.le
    have eR : (R.natAbs : Int) = R := by omega
    have hRlen : (lim R.natAbs).length ≤ n := len_of_lt gR0 (by omega)
    show Dw _ _ ⟨173, [(8, .v (.c (.i .u32 s))), (9, .v (.c (cL V))), (10, .v (.c (.i .u64 top))), (11, .v (.c (cL R))), (12, .o 64 ((lim W.natAbs).length) (xs.length + 1)), (13, .v (.c (cL W))), (14, .v (.c (.i .i64 ((j : Int) - 1))))], [(64, 89, zs.map (CellD.i .u32))]⟩ _
    refine dw_seq <| dw_seq <| dw_region (by kernel_rfl) <| dl_r (sem_move rfl rfl) <| dl_r (sem_cmp rfl rfl rfl rfl) <| dl_end ?_
    refine dw_cond rfl (fun hc3 => ?_) (fun hc3 => ?_)
    · obtain ⟨q, rfl⟩ : ∃ q, j = q + 1 := ⟨j - 1, by simp only [decide_eq_true_eq] at hc3; omega⟩
      have gd := lim_getD (lim_lim W.natAbs) q
      obtain ⟨T, hT⟩ : ∃ T, (lim W.natAbs).getD q 0 + 1000000000 * R = T := ⟨_, rfl⟩
      have hT0 : 0 ≤ T := by omega
      have eT : (T.natAbs : Int) = T := by omega
      have htrim : Ok Tryz.prog 77 [.c (cM ((lim W.natAbs).getD q 0 :: lim R.natAbs))] [.c (cL T)] := by rw [← hT]; exact rTrim_cM gR0 gd.1 gd.2 (by omega)
      have hTb : T < pw (n + 1) := by rw [pw_succ]; omega
      have hTlen : (lim T.natAbs).length ≤ n + 1 := len_of_lt hT0 hTb
      have szT : Sz 1000000 T := ⟨by have := pw_le (n := n + 1) (m := 1000000) (by omega); omega, by have := pw_pos 1000000; omega⟩
      have hquo := quo_bound gR0 gRV gd.1 gd.2
      rw [hT] at hquo
      have gt1 := lim_getD (lim_lim T.natAbs) (lim V.natAbs).length
      have gt2 := lim_getD (lim_lim T.natAbs) (n - 1)
      refine Dw.weak (σ' := ⟨173, [(8, .v (.c (.i .u32 s))), (9, .v (.c (cL V))), (10, .v (.c (.i .u64 top))), (11, .v (.c (cL R))), (12, .o 64 ((lim W.natAbs).length) (xs.length + 1)), (13, .v (.c (cL W))), (14, .v (.c (.i .i64 (q : Int))))], [(64, 89, zs.map (CellD.i .u32))]⟩) (sub_of ⟨rfl, rfl, rfl, rfl, rfl, rfl, by rw [show (q : Int) = ((q + 1 : Nat) : Int) - 1 from by omega]; rfl, trivial⟩ ⟨rfl, trivial⟩ rfl) <| dw_skip <| dw_seq <| dw_block <| dw_seq <| dw_region (by kernel_rfl) <| dl_r (sem_move rfl rfl) <| dl_r (sem_move rfl rfl) ?_
      refine dl_r (sem_index sl22 rfl rfl (by (first | omega | (simp; omega))) (M_len _) rfl rfl) ?_
      refine dl_r (sem_loadq1 ty89 rfl (M_get (i := q) (by (first | omega | (simp; omega)))) rfl) ?_
      refine dl_mk (sem_slit (us := [.i .u32 ((lim W.natAbs).getD q 0)]) el22 rfl rfl (by decide) (by decide) rfl) rfl <| dl_r (sem_move rfl rfl) <| dl_c (sem_append_1M (rs := lim R.natAbs) el22 rfl rfl rfl (by omega) rfl) <| dl_r (sem_call rfl rfl (htrim) rfl) <| dl_r (sem_assign rfl rfl) <| dl_end <| dw_seq <| dw_region (by kernel_rfl) ?_
      refine dl_r (sem_assign rfl rfl) <| dl_end ?_
      refine dw_seqJ (ι := {H : Int // H = if n < (lim T.natAbs).length then (lim T.natAbs).getD n 0 * 1000000000 else 0}) (fun i => ⟨173, [(8, .v (.c (.i .u32 s))), (9, .v (.c (cL V))), (10, .v (.c (.i .u64 top))), (11, .v (.c (cL T))), (12, .o 64 ((lim W.natAbs).length) (xs.length + 1)), (13, .v (.c (cL W))), (14, .v (.c (.i .i64 (q : Int)))), (15, .v (.c (.i .u64 i.1)))], [(64, 89, zs.map (CellD.i .u32))]⟩) ?_ ?_
      · refine dw_seq <| dw_region (by kernel_rfl) <| dl_r (sem_move rfl rfl) <| dl_r (sem_len sl22 rfl rfl) <| dl_r (sem_move rfl rfl) <| dl_r (sem_len sl22 rfl rfl) <| dl_r (sem_cmp rfl rfl rfl rfl) <| dl_end ?_
        refine dw_cond rfl (fun hc4 => ?_) (fun hc4 => ?_)
        · have hlt : (lim V.natAbs).length < (lim T.natAbs).length := by simp only [decide_eq_true_eq] at hc4; omega
          refine dw_region (by kernel_rfl) <| dl_r (sem_move rfl rfl) <| dl_r (sem_move rfl rfl) <| dl_r (sem_len sl22 rfl rfl) ?_
          refine dl_r (sem_index sl22 rfl rfl (by (first | omega | (simp; omega))) (M_len _) rfl rfl) ?_
          refine dl_r (sem_loadq1 ty89 rfl (M_get (i := ((lim V.natAbs).length)) (by (first | omega | (simp; omega)))) rfl) ?_
          refine dl_r (sem_conv' (r := (lim T.natAbs).getD (((lim V.natAbs).length)) 0) und89 und69 rfl (nwu64 (by (first | omega | (simp; omega))) (by (first | omega | (simp; omega)))) rfl) ?_
          refine dl_r (sem_ari (r := ((lim T.natAbs).getD (((lim V.natAbs).length)) 0) * 1000000000) rfl rfl (ari_u64_mul (by (first | omega | (simp; omega))) (by (first | omega | (simp; omega)))) rfl) ?_
          refine dl_r (sem_assign rfl rfl) <| dl_end ?_
          exact ⟨⟨(lim T.natAbs).getD (lim V.natAbs).length 0 * 1000000000, by rw [hnl] at *; rw [if_pos (by have := hc4; simp only [decide_eq_true_eq] at this; omega)]⟩, sub_of ⟨rfl, rfl, rfl, rfl, rfl, rfl, rfl, rfl, trivial⟩ ⟨rfl, trivial⟩ rfl⟩
        · refine dw_skip ?_
          exact ⟨⟨0, by rw [if_neg (by have := hc4; simp only [decide_eq_false_iff_not] at this; omega)]⟩, sub_of ⟨rfl, rfl, rfl, rfl, rfl, rfl, rfl, rfl, trivial⟩ ⟨rfl, trivial⟩ rfl⟩
      · rintro ⟨H1, hH1⟩
        replace hH1 : H1 = if n < (lim T.natAbs).length then (lim T.natAbs).getD n 0 * 1000000000 else 0 := hH1
        rw [hnl] at gt1
        have hHb : 0 ≤ H1 ∧ H1 ≤ 999999999000000000 := by rw [hH1]; split <;> omega
        show Dw _ _ ⟨173, [(8, .v (.c (.i .u32 s))), (9, .v (.c (cL V))), (10, .v (.c (.i .u64 top))), (11, .v (.c (cL T))), (12, .o 64 ((lim W.natAbs).length) (xs.length + 1)), (13, .v (.c (cL W))), (14, .v (.c (.i .i64 (q : Int)))), (15, .v (.c (.i .u64 H1)))], [(64, 89, zs.map (CellD.i .u32))]⟩ _
        refine dw_seqJ (ι := {H : Int // HInv (lim T.natAbs) n H}) (fun i => ⟨173, [(8, .v (.c (.i .u32 s))), (9, .v (.c (cL V))), (10, .v (.c (.i .u64 top))), (11, .v (.c (cL T))), (12, .o 64 ((lim W.natAbs).length) (xs.length + 1)), (13, .v (.c (cL W))), (14, .v (.c (.i .i64 (q : Int)))), (15, .v (.c (.i .u64 i.1)))], [(64, 89, zs.map (CellD.i .u32))]⟩) ?_ ?_
        · refine dw_seq <| dw_region (by kernel_rfl) <| dl_r (sem_move rfl rfl) <| dl_r (sem_len sl22 rfl rfl) <| dl_r (sem_move rfl rfl) <| dl_r (sem_len sl22 rfl rfl) <| dl_r (sem_cmp rfl rfl rfl rfl) <| dl_end ?_
          refine dw_cond rfl (fun hc5 => ?_) (fun hc5 => ?_)
          · have hlt : n ≤ (lim T.natAbs).length := by simp only [decide_eq_true_eq] at hc5; omega
            have hHT : HInv (lim T.natAbs) n (H1 + (lim T.natAbs).getD (n - 1) 0) := by
              rcases Nat.lt_or_ge n (lim T.natAbs).length with h1 | h1
              · rw [hH1, if_pos h1]; exact top_two (lim_lim _) (by omega) (by omega)
              · rw [hH1, if_neg (by omega), Int.zero_add]; exact top_one (lim_lim _) (by omega) (by omega)
            refine dw_region (by kernel_rfl) <| dl_r (sem_move rfl rfl) <| dl_r (sem_move rfl rfl) <| dl_r (sem_move rfl rfl) <| dl_r (sem_len sl22 rfl rfl) <| dl_r (sem_ari (r := ((n - 1 : Nat) : Int)) rfl rfl (by rw [hnl, show ((n - 1 : Nat) : Int) = (n : Int) - 1 from by omega]; exact ari_i64_sub (by omega) (by omega)) rfl) ?_
            refine dl_r (sem_index sl22 rfl rfl (by (first | omega | (simp; omega))) (M_len _) rfl rfl) ?_
            refine dl_r (sem_loadq1 ty89 rfl (M_get (i := (n - 1)) (by (first | omega | (simp; omega)))) rfl) ?_
            refine dl_r (sem_conv' (r := (lim T.natAbs).getD (n - 1) 0) und89 und69 rfl (nwu64 (by (first | omega | (simp; omega))) (by (first | omega | (simp; omega)))) rfl) ?_
            refine dl_r (sem_ari (r := H1 + ((lim T.natAbs).getD (n - 1) 0)) rfl rfl (ari_u64_add (by (first | omega | (simp; omega))) (by (first | omega | (simp; omega)))) rfl) ?_
            refine dl_r (sem_assign rfl rfl) <| dl_end ?_
            exact ⟨⟨H1 + (lim T.natAbs).getD (n - 1) 0, hHT⟩, sub_of ⟨rfl, rfl, rfl, rfl, rfl, rfl, rfl, rfl, trivial⟩ ⟨rfl, trivial⟩ rfl⟩
          · have hHF : HInv (lim T.natAbs) n H1 := by
              simp only [decide_eq_false_iff_not] at hc5
              rw [hH1, if_neg (by omega)]; exact top_none (lim_lim _) (by omega)
            refine dw_skip ?_
            exact ⟨⟨H1, hHF⟩, sub_of ⟨rfl, rfl, rfl, rfl, rfl, rfl, rfl, rfl, trivial⟩ ⟨rfl, trivial⟩ rfl⟩
        · rintro ⟨H, hH⟩
          replace hH : HInv (lim T.natAbs) n H := hH
          have hHa := hH.h0
          have hHc := hH.h1
          have hHh := hH.h
          rw [val_lim, eT] at hHh
          have hest := est_ge htopv2 htop2 hHh hT0 hV0
          have hq0 : 0 ≤ H / top := Int.ediv_nonneg (by omega) (by omega)
          have hq9 : H / top ≤ H := Int.ediv_le_self _ (by omega)
          show Dw _ _ ⟨173, [(8, .v (.c (.i .u32 s))), (9, .v (.c (cL V))), (10, .v (.c (.i .u64 top))), (11, .v (.c (cL T))), (12, .o 64 ((lim W.natAbs).length) (xs.length + 1)), (13, .v (.c (cL W))), (14, .v (.c (.i .i64 (q : Int)))), (15, .v (.c (.i .u64 H)))], [(64, 89, zs.map (CellD.i .u32))]⟩ _
          refine dw_seq <| dw_region (by kernel_rfl) <| dl_r (sem_move rfl rfl) <| dl_r (sem_move rfl rfl) <| dl_r (sem_quo' (r := H / top) rfl rfl (by omega) (by rw [Int.tdiv_eq_ediv_of_nonneg (by omega)]; exact nwu64 (by omega) (by omega)) rfl) <| dl_r (sem_assign rfl rfl) <| dl_end ?_
          refine dw_seqJ (ι := {g : Int // T / V ≤ g ∧ g ≤ 999999999}) (fun i => ⟨173, [(8, .v (.c (.i .u32 s))), (9, .v (.c (cL V))), (10, .v (.c (.i .u64 top))), (11, .v (.c (cL T))), (12, .o 64 ((lim W.natAbs).length) (xs.length + 1)), (13, .v (.c (cL W))), (14, .v (.c (.i .i64 (q : Int)))), (16, .v (.c (.i .u64 i.1)))], [(64, 89, zs.map (CellD.i .u32))]⟩) ?_ ?_
          · refine dw_seq <| dw_region (by kernel_rfl) <| dl_r (sem_move rfl rfl) <| dl_r (sem_cmp rfl rfl rfl rfl) <| dl_end ?_
            refine dw_cond rfl (fun hc6 => ?_) (fun hc6 => ?_)
            · -- region 22
              refine dw_region (by kernel_rfl) <| dl_r (sem_assign rfl rfl) <| dl_end ?_
              exact ⟨⟨999999999, hquo.2, Int.le_refl _⟩, sub_of ⟨rfl, rfl, rfl, rfl, rfl, rfl, rfl, rfl, trivial⟩ ⟨rfl, trivial⟩ rfl⟩
            · refine dw_skip ?_
              exact ⟨⟨H / top, hest, by have := hc6; simp only [decide_eq_false_iff_not] at this; omega⟩, sub_of ⟨rfl, rfl, rfl, rfl, rfl, rfl, rfl, rfl, trivial⟩ ⟨rfl, trivial⟩ rfl⟩
          · rintro ⟨g, hg⟩
            replace hg : T / V ≤ g ∧ g ≤ 999999999 := hg
            show Dw _ _ ⟨173, [(8, .v (.c (.i .u32 s))), (9, .v (.c (cL V))), (10, .v (.c (.i .u64 top))), (11, .v (.c (cL T))), (12, .o 64 ((lim W.natAbs).length) (xs.length + 1)), (13, .v (.c (cL W))), (14, .v (.c (.i .i64 (q : Int)))), (16, .v (.c (.i .u64 g)))], [(64, 89, zs.map (CellD.i .u32))]⟩ _
            refine dw_seq <| dw_region (by kernel_rfl) <| dl_r (sem_move rfl rfl) <| dl_r (sem_move rfl rfl) <| dl_r (sem_conv' (r := g) und69 und89 rfl (nwu32 (by omega) (by omega)) rfl) <| dl_r (sem_call rfl rfl (hbyV g (by omega) (by omega)) rfl) <| dl_r (sem_assign rfl rfl) <| dl_end ?_
            refine dw_seq <| dw_block <| dw_loop (ι := {g : Int // T / V ≤ g ∧ g ≤ 999999999}) (fun i => ⟨173, [(8, .v (.c (.i .u32 s))), (9, .v (.c (cL V))), (10, .v (.c (.i .u64 top))), (11, .v (.c (cL T))), (12, .o 64 ((lim W.natAbs).length) (xs.length + 1)), (13, .v (.c (cL W))), (14, .v (.c (.i .i64 (q : Int)))), (16, .v (.c (.i .u64 i.1))), (17, .v (.c (cL (V * i.1))))], [(64, 89, zs.map (CellD.i .u32))]⟩) (fun i => i.1.toNat) ⟨g, hg⟩ (sub_of ⟨rfl, rfl, rfl, rfl, rfl, rfl, rfl, rfl, rfl, trivial⟩ ⟨rfl, trivial⟩ rfl) ?_
            rintro ⟨g, hg⟩
            replace hg : T / V ≤ g ∧ g ≤ 999999999 := hg
            have hVg0 : 0 ≤ V * g := Int.mul_nonneg (by omega) (by omega)
            have eVg : ((V * g).natAbs : Int) = V * g := by omega
            have hVgb : V * g ≤ V * 1000000000 := Int.mul_le_mul_of_nonneg_left (by omega) (by omega)
            have szP : Sz 1000000 (V * g) := ⟨by have := pw_le (n := n + 1) (m := 1000000) (by omega); rw [pw_succ] at this; omega, by have := pw_pos 1000000; omega⟩
            have hcmp : Ok Tryz.prog 78 [.c (cL (V * g)), .c (cL T)] [.c (.i .i64 (cmpI (V * g) T))] := by have := rCompare_c szP szT; rw [eVg, eT] at this; exact this
            show Dw _ _ ⟨173, [(8, .v (.c (.i .u32 s))), (9, .v (.c (cL V))), (10, .v (.c (.i .u64 top))), (11, .v (.c (cL T))), (12, .o 64 ((lim W.natAbs).length) (xs.length + 1)), (13, .v (.c (cL W))), (14, .v (.c (.i .i64 (q : Int)))), (16, .v (.c (.i .u64 g))), (17, .v (.c (cL (V * g))))], [(64, 89, zs.map (CellD.i .u32))]⟩ _
            refine dw_seq <| dw_seq <| dw_region (by kernel_rfl) <| dl_r (sem_move rfl rfl) <| dl_r (sem_move rfl rfl) <| dl_r (sem_call rfl rfl (hcmp) rfl) <| dl_r (sem_cmp rfl rfl rfl rfl) <| dl_end ?_
            refine dw_cond rfl (fun hc7 => ?_) (fun hc7 => ?_)
            · have hgt : T < V * g := by simp only [decide_eq_true_eq] at hc7; rcases Int.lt_trichotomy (V * g) T with h1 | h1 | h1 <;> first | (rw [cmp_lt h1] at hc7; omega) | (rw [cmp_eq h1] at hc7; omega) | exact h1
              have hg2 : T / V ≤ g - 1 := by have : T / V < g := (Int.ediv_lt_iff_lt_mul hV0).2 (by rw [Int.mul_comm]; exact hgt); omega
              have hVm : V * (g - 1) = V * g - V := by rw [Int.mul_sub, Int.mul_one]
              have hVm0 : 0 ≤ V * (g - 1) := Int.mul_nonneg (by omega) (by omega)
              have hmin : Ok Tryz.prog 86 [.c (cL (V * g)), .c (cL V)] [.c (cL (V * (g - 1)))] := by have := rMinus_c (b := V) szP (by omega); rw [eVg, eV, ← hVm] at this; exact this
              refine dw_skip <| dw_block <| dw_seq <| dw_region (by kernel_rfl) <| dl_r (sem_move rfl rfl) ?_
              refine dl_r (sem_ari (r := g - 1) rfl rfl (ari_u64_sub (by (first | omega | (simp; omega))) (by (first | omega | (simp; omega)))) rfl) ?_
              refine dl_r (sem_assign rfl rfl) <| dl_end <| dw_region (by kernel_rfl) <| dl_r (sem_move rfl rfl) <| dl_r (sem_move rfl rfl) <| dl_r (sem_call rfl rfl (hmin) rfl) <| dl_r (sem_assign rfl rfl) <| dl_end ?_
              exact ⟨⟨g - 1, hg2, by omega⟩, sub_of ⟨rfl, rfl, rfl, rfl, rfl, rfl, rfl, rfl, rfl, trivial⟩ ⟨rfl, trivial⟩ rfl, by show (g - 1).toNat < g.toNat; omega⟩
            · have hle : V * g ≤ T := by simp only [decide_eq_false_iff_not] at hc7; rcases Int.lt_trichotomy (V * g) T with h1 | h1 | h1 <;> first | omega | (rw [cmp_gt h1] at hc7; omega)
              have hgq : g = T / V := by have : g ≤ T / V := (Int.le_ediv_iff_mul_le hV0).2 (by rw [Int.mul_comm]; exact hle); omega
              have hr0 : 0 ≤ T - V * g := by omega
              have hr1 : T - V * g < V := by have := Int.emod_lt_of_pos T hV0; have h2 := Int.mul_ediv_add_emod T V; rw [← hgq] at h2; omega
              have hmin : Ok Tryz.prog 86 [.c (cL T), .c (cL (V * g))] [.c (cL (T - V * g))] := by have := rMinus_c (b := V * g) szT (by omega); rw [eVg, eT] at this; exact this
              refine dw_exit <| dw_seq <| dw_region (by kernel_rfl) <| dl_r (sem_move rfl rfl) <| dl_r (sem_move rfl rfl) <| dl_r (sem_call rfl rfl (hmin) rfl) <| dl_r (sem_assign rfl rfl) <| dl_end ?_
              refine dw_region (by kernel_rfl) <| dl_r (sem_move rfl rfl) <| dl_r (sem_move rfl rfl) <| dl_r (sem_move rfl rfl) <| dl_r (sem_conv' (r := g) und69 und89 rfl (nwu32 (by omega) (by omega)) rfl) ?_
              refine dl_r (sem_index_o sl22 rfl rfl (by (first | omega | (simp; omega))) rfl) ?_
              refine dl_st (sem_store (us := (zs.set q g).map (CellD.i .u32)) ty89 rfl rfl rfl rfl (by simp; omega) (O_set (by (first | omega | (simp; omega)))) rfl) ?_
              refine dl_end <| dw_region (by kernel_rfl) <| dl_r (sem_move rfl rfl) ?_
              refine dl_r (sem_ari (r := (q : Int) - 1) rfl rfl (ari_i64_sub (by (first | omega | (simp; omega))) (by (first | omega | (simp; omega)))) rfl) ?_
              refine dl_r (sem_assign rfl rfl) <| dl_end ?_
              exact ⟨⟨(q, T - V * g, zs.set q g), hI.step (lim_lim _) (by omega) (by omega) hr0 hr1 (by rw [hT]; show T = g * V + (T - V * g); rw [Int.mul_comm g V]; omega)⟩, sub_of ⟨rfl, rfl, rfl, rfl, rfl, rfl, rfl, trivial⟩ ⟨rfl, trivial⟩ rfl, by show q < q + 1; omega⟩
    · have hj0 : j = 0 := by simp only [decide_eq_false_iff_not] at hc3; omega
      subst hj0
      obtain ⟨d1, d2⟩ := hI.done
      rw [val_lim, eW] at d1 d2
      refine dw_exit <| dw_seq <| dw_region (by kernel_rfl) <| dl_r (sem_assign rfl rfl) <| dl_end <| dw_seq <| dw_region (by kernel_rfl) <| dl_r (sem_move rfl rfl) ?_
      refine dl_r (sem_len sl22 rfl rfl) <| dl_mk (sem_make (n := ((lim R.natAbs).length)) el22 rfl rfl (by omega) (by omega) rfl) rfl <| dl_r (sem_assign rfl rfl) <| dl_end <| dw_seq <| dw_seq <| dw_region (by kernel_rfl) <| dl_r (sem_move rfl rfl) ?_
      refine dl_r (sem_len sl22 rfl rfl) ?_
      refine dl_r (sem_ari (r := (((lim R.natAbs).length : Int)) - 1) rfl rfl (ari_i64_sub (by (first | omega | (simp; omega))) (by (first | omega | (simp; omega)))) rfl) ?_
      refine dl_r (sem_assign rfl rfl) <| dl_end <| dw_block <| dw_loop (ι := {t : Nat × Int × List Int // DInv (lim R.natAbs) s (lim R.natAbs).length t.1 t.2.1 t.2.2}) (fun i => ⟨173, [(8, .v (.c (.i .u32 s))), (11, .v (.c (cL R))), (12, .o 64 ((lim W.natAbs).length) (xs.length + 1)), (18, .v (.c (.i .u64 i.1.2.1))), (19, .o 141 ((lim R.natAbs).length) ((lim R.natAbs).length)), (20, .v (.c (.i .i64 ((i.1.1 : Int) - 1))))], [(64, 89, zs.map (CellD.i .u32)), (141, 89, i.1.2.2.map (CellD.i .u32))]⟩) (fun i => i.1.1) ⟨((lim R.natAbs).length, 0, List.replicate (lim R.natAbs).length 0), DInv.start (by omega) (Nat.le_refl _)⟩ (sub_of ⟨rfl, rfl, rfl, rfl, rfl, rfl, trivial⟩ ⟨rfl, by rw [show (List.replicate (lim R.natAbs).length (CellD.i .u32 0)) = (List.replicate (lim R.natAbs).length 0).map (CellD.i .u32) from by simp]; rfl, trivial⟩ rfl) ?_
      rintro ⟨⟨j2, c, ls⟩, hI2⟩
      replace hI2 : DInv (lim R.natAbs) s (lim R.natAbs).length j2 c ls := hI2
      have k6 := hI2.len
      have k0 := hI2.R0
      have k1 := hI2.RV
      have kle := hI2.le
      show Dw _ _ ⟨173, [(8, .v (.c (.i .u32 s))), (11, .v (.c (cL R))), (12, .o 64 ((lim W.natAbs).length) (xs.length + 1)), (18, .v (.c (.i .u64 c))), (19, .o 141 ((lim R.natAbs).length) ((lim R.natAbs).length)), (20, .v (.c (.i .i64 ((j2 : Int) - 1))))], [(64, 89, zs.map (CellD.i .u32)), (141, 89, ls.map (CellD.i .u32))]⟩ _
      refine dw_seq <| dw_seq <| dw_region (by kernel_rfl) <| dl_r (sem_move rfl rfl) <| dl_r (sem_cmp rfl rfl rfl rfl) <| dl_end ?_
      refine dw_cond rfl (fun hc8 => ?_) (fun hc8 => ?_)
      · obtain ⟨q2, rfl⟩ : ∃ q, j2 = q + 1 := ⟨j2 - 1, by simp only [decide_eq_true_eq] at hc8; omega⟩
        have gd := lim_getD (lim_lim R.natAbs) q2
        have hb0 := quo_bound k0 k1 gd.1 gd.2
        rw [show (lim R.natAbs).getD q2 0 + 1000000000 * c = c * 1000000000 + (lim R.natAbs).getD q2 0 from by omega] at hb0
        have hd20 : 0 ≤ (c * 1000000000 + (lim R.natAbs).getD q2 0) / s := hb0.1
        have hd21 : (c * 1000000000 + (lim R.natAbs).getD q2 0) / s < 1000000000 := by omega
        have hr20 : 0 ≤ (c * 1000000000 + (lim R.natAbs).getD q2 0) % s := Int.emod_nonneg _ (by omega)
        have hr21 : (c * 1000000000 + (lim R.natAbs).getD q2 0) % s < s := Int.emod_lt_of_pos _ (by omega)
        refine Dw.weak (σ' := ⟨173, [(8, .v (.c (.i .u32 s))), (11, .v (.c (cL R))), (12, .o 64 ((lim W.natAbs).length) (xs.length + 1)), (18, .v (.c (.i .u64 c))), (19, .o 141 ((lim R.natAbs).length) ((lim R.natAbs).length)), (20, .v (.c (.i .i64 (q2 : Int))))], [(64, 89, zs.map (CellD.i .u32)), (141, 89, ls.map (CellD.i .u32))]⟩) (sub_of ⟨rfl, rfl, rfl, rfl, rfl, by rw [show (q2 : Int) = ((q2 + 1 : Nat) : Int) - 1 from by omega]; rfl, trivial⟩ ⟨rfl, rfl, trivial⟩ rfl) <| dw_skip <| dw_seq <| dw_block <| dw_seq <| dw_region (by kernel_rfl) <| dl_r (sem_move rfl rfl) ?_
        refine dl_r (sem_ari (r := c * 1000000000) rfl rfl (ari_u64_mul (by (first | omega | (simp; omega))) (by (first | omega | (simp; omega)))) rfl) ?_
        refine dl_r (sem_move rfl rfl) <| dl_r (sem_move rfl rfl) ?_
        refine dl_r (sem_index sl22 rfl rfl (by (first | omega | (simp; omega))) (M_len _) rfl rfl) ?_
        refine dl_r (sem_loadq1 ty89 rfl (M_get (i := q2) (by (first | omega | (simp; omega)))) rfl) ?_
        refine dl_r (sem_conv' (r := (lim R.natAbs).getD q2 0) und89 und69 rfl (nwu64 (by (first | omega | (simp; omega))) (by (first | omega | (simp; omega)))) rfl) ?_
        refine dl_r (sem_ari (r := (c * 1000000000) + ((lim R.natAbs).getD q2 0)) rfl rfl (ari_u64_add (by (first | omega | (simp; omega))) (by (first | omega | (simp; omega)))) rfl) ?_
        refine dl_r (sem_assign rfl rfl) <| dl_end <| dw_seq <| dw_region (by kernel_rfl) <| dl_r (sem_move rfl rfl) <| dl_r (sem_move rfl rfl) <| dl_r (sem_move rfl rfl) <| dl_r (sem_move rfl rfl) ?_
        refine dl_r (sem_conv' (r := s) und89 und69 rfl (nwu64 (by (first | omega | (simp; omega))) (by (first | omega | (simp; omega)))) rfl) ?_
        refine dl_r (sem_quo' (r := (c * 1000000000 + (lim R.natAbs).getD q2 0) / s) rfl rfl (by omega) (by rw [Int.tdiv_eq_ediv_of_nonneg (by omega)]; exact nwu64 (by omega) (by omega)) rfl) <| dl_r (sem_conv' (r := (c * 1000000000 + (lim R.natAbs).getD q2 0) / s) und69 und89 rfl (nwu32 (by omega) (by omega)) rfl) ?_
        refine dl_r (sem_index_o sl22 rfl rfl (by (first | omega | (simp; omega))) rfl) ?_
        refine dl_st (sem_store (us := (ls.set q2 ((c * 1000000000 + (lim R.natAbs).getD q2 0) / s)).map (CellD.i .u32)) ty89 rfl rfl rfl rfl (by simp; omega) (O_set (by (first | omega | (simp; omega)))) rfl) ?_
        refine dl_end <| dw_region (by kernel_rfl) <| dl_r (sem_move rfl rfl) <| dl_r (sem_move rfl rfl) ?_
        refine dl_r (sem_conv' (r := s) und89 und69 rfl (nwu64 (by (first | omega | (simp; omega))) (by (first | omega | (simp; omega)))) rfl) ?_
        refine dl_r (sem_rem' (r := (c * 1000000000 + (lim R.natAbs).getD q2 0) % s) rfl rfl (by omega) (Int.tmod_eq_emod_of_nonneg (by omega)) rfl) <| dl_r (sem_assign rfl rfl) <| dl_end <| dw_region (by kernel_rfl) <| dl_r (sem_move rfl rfl) ?_
        refine dl_r (sem_ari (r := (q2 : Int) - 1) rfl rfl (ari_i64_sub (by (first | omega | (simp; omega))) (by (first | omega | (simp; omega)))) rfl) ?_
        refine dl_r (sem_assign rfl rfl) <| dl_end ?_
        exact ⟨⟨(q2, (c * 1000000000 + (lim R.natAbs).getD q2 0) % s, ls.set q2 ((c * 1000000000 + (lim R.natAbs).getD q2 0) / s)), hI2.step (lim_lim _) hd20 hd21 hr20 hr21 (by rw [Int.mul_comm ((c * 1000000000 + (lim R.natAbs).getD q2 0) / s) s, Int.mul_ediv_add_emod]; omega)⟩, sub_of ⟨rfl, rfl, rfl, rfl, rfl, rfl, trivial⟩ ⟨rfl, rfl, trivial⟩ rfl, by show q2 < q2 + 1; omega⟩
      · have hj0 : j2 = 0 := by simp only [decide_eq_false_iff_not] at hc8; omega
        subst hj0
        obtain ⟨d3, d4⟩ := hI2.done
        rw [val_lim, eR, List.take_of_length_le (by omega)] at d3
        have f1 : val xs / val ys = val (zs.take (lim W.natAbs).length) := by rw [← hq1, d1]
        have f2 : val xs % val ys = val ls := by rw [← d3, ← d2, hq2, Int.mul_ediv_cancel _ (by omega)]
        have hLo : Lim (zs.take (lim W.natAbs).length) := hI.L.take _
        have hLl := hI2.L
        refine dw_exit <| dw_seq ?_
        refine dw_relM (t := 12) (zs := zs) (ys := zs.take ((lim W.natAbs).length)) rfl rfl (by first | omega | (simp; omega) | simp) (by omega) (by omega) (rfl) ?_
        refine dw_relM (t := 19) (zs := ls) (ys := ls) rfl rfl (by first | omega | (simp; omega) | simp) (by omega) (by omega) (List.take_of_length_le (by first | omega | (simp; omega) | simp)) ?_
        refine dw_region (by kernel_rfl) <| dl_r (sem_move rfl rfl) <| dl_r (sem_call rfl rfl (rTrim_ok hLo (by simp <;> omega)) rfl) <| dl_r (sem_move rfl rfl) <| dl_r (sem_call rfl rfl (rTrim_ok hLl (by omega)) rfl) <| dl_r (sem_assign rfl rfl) <| dl_r (sem_assign rfl rfl) <| dl_end ?_
        refine dw_ret ?_
        rw [f1, f2]
        exact ⟨.inr rfl, (resL_tmp rfl (resL_tmp rfl resL_nil))⟩
theorem cL_abs (x : Int) : cL x = cL ((x.natAbs : Nat) : Int) := by unfold cL; rw [show ((x.natAbs : Nat) : Int).natAbs = x.natAbs from by omega]
theorem rParts_c {a b : Int} (ha : Sz 200000 a) (hb : Sz 200000 b) (h0 : b ≠ 0) : Ok Tryz.prog 79 [.c (cL a), .c (cL b)] [.c (cL ((a.natAbs : Int) / b.natAbs)), .c (cL ((a.natAbs : Int) % b.natAbs))] := by
  have := rParts_ok (lim_lim a.natAbs) (lim_lim b.natAbs) (nrm_lim _) (nrm_lim _) (lim_len ha) (lim_len hb) (fun e => by have := lim_eq_nil.1 e; omega)
  rw [val_lim, val_lim] at this
  exact this
theorem sa_same {x y : Int} (h : (decide (x < 0) == decide (y < 0)) = true) : sg (decide (x < 0)) ((((x.natAbs : Int) + y.natAbs).natAbs : Nat) : Int) = x + y := by
  by_cases h1 : x < 0 <;> by_cases h2 : y < 0 <;> simp [h1, h2, sg] at h ⊢ <;> omega
theorem sa_ge {x y : Int} (h : (decide (x < 0) == decide (y < 0)) = false) (hg : y.natAbs ≤ x.natAbs) : sg (decide (x < 0)) ((((x.natAbs : Int) - y.natAbs).natAbs : Nat) : Int) = x + y := by
  by_cases h1 : x < 0 <;> by_cases h2 : y < 0 <;> simp [h1, h2, sg] at h ⊢ <;> omega
theorem sa_lt {x y : Int} (h : (decide (x < 0) == decide (y < 0)) = false) (hg : x.natAbs < y.natAbs) : sg (decide (y < 0)) ((((y.natAbs : Int) - x.natAbs).natAbs : Nat) : Int) = x + y := by
  by_cases h1 : x < 0 <;> by_cases h2 : y < 0 <;> simp [h1, h2, sg] at h ⊢ <;> omega
theorem sa_mul {x y : Int} : sg (!(decide (x < 0) == decide (y < 0))) ((((x.natAbs : Int) * y.natAbs).natAbs : Nat) : Int) = x * y := by
  have h0 : 0 ≤ (x.natAbs : Int) * y.natAbs := Int.mul_nonneg (by omega) (by omega)
  rw [show ((((x.natAbs : Int) * y.natAbs).natAbs : Nat) : Int) = (x.natAbs : Int) * y.natAbs from by omega]
  by_cases h1 : x < 0 <;> by_cases h2 : y < 0 <;> simp only [h1, h2, sg, decide_true, decide_false, Bool.not_true, Bool.not_false, beq_self_eq_true, Bool.false_eq_true, if_true, if_false, show (true == false) = false from rfl, show (false == true) = false from rfl]
  · rw [show (x.natAbs : Int) = -x from by omega, show (y.natAbs : Int) = -y from by omega, Int.neg_mul_neg]
  · rw [show (x.natAbs : Int) = -x from by omega, show (y.natAbs : Int) = y from by omega, Int.neg_mul, Int.neg_neg]
  · rw [show (x.natAbs : Int) = x from by omega, show (y.natAbs : Int) = -y from by omega, Int.mul_neg, Int.neg_neg]
  · rw [show (x.natAbs : Int) = x from by omega, show (y.natAbs : Int) = y from by omega]
theorem sa_not {x : Int} : sg (!decide (x < 0)) ((x.natAbs : Nat) : Int) = -x := by
  by_cases h1 : x < 0 <;> simp [h1, sg] <;> omega
theorem cmpI_ge {a b : Int} (h : decide (cmpI a b ≥ 0) = true) : b ≤ a := by
  simp only [decide_eq_true_eq] at h
  rcases Int.lt_trichotomy a b with h1 | h1 | h1
  · rw [cmp_lt h1] at h; omega
  · omega
  · omega
theorem cmpI_lt {a b : Int} (h : decide (cmpI a b ≥ 0) = false) : a < b := by
  simp only [decide_eq_false_iff_not] at h
  rcases Int.lt_trichotomy a b with h1 | h1 | h1
  · omega
  · rw [cmp_eq h1] at h; omega
  · rw [cmp_gt h1] at h; omega
theorem cmpI_abs_pos {x y : Int} (hx : decide (x < 0) = false) (hy : ¬ (y < 0)) : cmpI x.natAbs y.natAbs = cmpI x y := by
  simp only [decide_eq_false_iff_not] at hx
  rw [show (x.natAbs : Int) = x from by omega, show (y.natAbs : Int) = y from by omega]
theorem cmpI_abs_neg {x y : Int} (hx : decide (x < 0) = true) (hy : y < 0) : cmpI y.natAbs x.natAbs = cmpI x y := by
  simp only [decide_eq_true_eq] at hx
  rw [show (y.natAbs : Int) = -y from by omega, show (x.natAbs : Int) = -x from by omega, cmp_negs]
theorem sq_q0 {x y : Int} : sg (!(decide (x < 0) == decide (y < 0))) (((((x.natAbs : Int) / y.natAbs).natAbs : Nat)) : Int) = q0 x y := by
  have : 0 ≤ (x.natAbs : Int) / y.natAbs := Int.ediv_nonneg (by omega) (by omega)
  unfold q0
  rw [show ((((x.natAbs : Int) / y.natAbs).natAbs : Nat) : Int) = (x.natAbs : Int) / y.natAbs from by omega]
theorem sq_r0 {x y : Int} (h0 : y ≠ 0) : sg (decide (x < 0)) (((((x.natAbs : Int) % y.natAbs).natAbs : Nat)) : Int) = r0 x y := by
  have := (r_bd (x := x) h0).1
  unfold r0
  rw [show ((((x.natAbs : Int) % y.natAbs).natAbs : Nat) : Int) = (x.natAbs : Int) % y.natAbs from by omega]
theorem r0_zero {x y : Int} : (x.natAbs : Int) % y.natAbs = 0 ↔ r0 x y = 0 := by
  unfold r0
  generalize decide (x < 0) = s
  cases s
  · rw [sg_false]
  · rw [sg_true]; omega
theorem r0_sign {x y : Int} (h0 : y ≠ 0) (h : (x.natAbs : Int) % y.natAbs ≠ 0) : (r0 x y < 0 ↔ x < 0) := by
  have := (r_bd (x := x) h0).1
  unfold r0
  by_cases hx : x < 0
  · rw [show decide (x < 0) = true from by simpa using hx, sg_true]; omega
  · rw [show decide (x < 0) = false from by simpa using hx, sg_false]; omega
structure RG (x y a c : Int) : Prop where
  sa : Sz 200000 a
  sc : Sz 200000 c
  a0 : 0 ≤ a
  c0 : 0 ≤ c
  g : Int.gcd a c = Int.gcd x y
theorem RG.start {x y : Int} (hx : Sz 200000 x) (hy : Sz 200000 y) : RG x y (x.natAbs : Int) (y.natAbs : Int) := ⟨hx.of_le (by omega), hy.of_le (by omega), by omega, by omega, rfl⟩
theorem RG.step {x y a c : Int} (h : RG x y a c) (hc : c ≠ 0) : RG x y c ((a.natAbs : Int) % c.natAbs) := by
  have h1 := h.a0
  have h2 := h.c0
  have e1 : (a.natAbs : Int) = a := by omega
  have e2 : (c.natAbs : Int) = c := by omega
  rw [e1, e2]
  have h3 := Int.emod_nonneg a hc
  have h4 := Int.emod_lt_of_pos a (show 0 < c by omega)
  exact ⟨h.sc, h.sc.of_le (by omega), h2, h3, by rw [← h.g, gcd_mod h1 h2]⟩
theorem RG.less {x y a c : Int} (h : RG x y a c) (hc : c ≠ 0) : ((a.natAbs : Int) % c.natAbs).toNat < c.toNat := by
  have := h.c0
  have := r_bd (x := a) hc
  omega
theorem RG.done {x y a c : Int} (h : RG x y a c) (hc : c = 0) : (Int.gcd x y : Int) = sg false ((a.natAbs : Nat) : Int) := by
  rw [← h.g, hc, sg_false]; simp
theorem word_of {a : Int} (h : decide (((lim a.natAbs).length : Int) > 2) = false) : a.natAbs ≤ 18446744073709551615 := by
  simp only [decide_eq_false_iff_not] at h
  have h1 := val_lt (lim_lim a.natAbs)
  rw [val_lim] at h1
  have h2 := pw_le (n := (lim a.natAbs).length) (m := 2) (by omega)
  have h3 : pw 2 = 1000000000000000000 := by decide
  omega
theorem RG.word {x y a c : Int} (h : RG x y a c) (ha : a.natAbs ≤ 18446744073709551615) (hc : c.natAbs ≤ 18446744073709551615) : GInv2 x y (a.natAbs : Int) (c.natAbs : Int) :=
  ⟨by omega, by omega, by omega, by omega, by rw [← h.g]; rfl⟩
theorem GInv2.fin {x y u v : Int} (h : GInv2 x y u v) (hv : v ≤ 0) : (Int.gcd x y : Int) = sg false ((u.natAbs : Nat) : Int) := by
  rw [h.done hv, sg_false, sg_false]; have := h.u0; omega
theorem Sz.small3 {x : Int} (h0 : 0 ≤ x) (h1 : x ≤ 18446744073709551615) : Sz 1000000 x := by
  have h3 : pw 3 = 1000000000000000000000000000 := by decide
  have : Sz 3 x := ⟨by omega, by omega⟩
  exact this.mono (by decide)
theorem nq_sz {x y : Int} (hx : Sz 200000 x) : Sz 1000000 ((x.natAbs : Int) / y.natAbs) := by
  have h1 : (x.natAbs : Int) / (y.natAbs : Int) ≤ x.natAbs := Int.ediv_le_self _ (by omega)
  have h2 : 0 ≤ (x.natAbs : Int) / (y.natAbs : Int) := Int.ediv_nonneg (by omega) (by omega)
  exact (hx.mono (by decide)).of_le (by omega)
theorem nr_sz {x y : Int} (hy : Sz 200000 y) (h0 : y ≠ 0) : Sz 1000000 ((x.natAbs : Int) % y.natAbs) := by
  have := r_bd (x := x) h0
  exact (hy.mono (by decide)).of_le (by omega)
theorem wu64_neg {x : Int} (hn : x < 0) (h0 : -9223372036854775808 ≤ x) : IntKind.u64.wrap x = x + 18446744073709551616 := by unfold IntKind.wrap; simp [IntKind.bits, IntKind.signed]; omega
theorem wu64_neg2 {x : Int} (hn : x < 0) (h0 : -9223372036854775808 ≤ x) : IntKind.u64.wrap (0 - (x + 18446744073709551616)) = -x := by unfold IntKind.wrap; simp [IntKind.bits, IntKind.signed]; omega
theorem sem_neg' {P : Program} {ops : Array Oper} {T : TF} {B : BF} {dst : Option Nat} {xt : TypeId} {x : Operand} {ty : TypeId} {pos : String} {af : Array Edge} {g : Option (Nat × Bool)} {k : IntKind} {m r : Int}
    (hx : opd T x = some (.v (.c (.i k m)))) (hr : k.wrap (0 - m) = r) (hg : gd ops ⟨dst, .unOp .neg xt x, ty, pos, af, g⟩ T = some true) :
    Sem P ops ⟨dst, .unOp .neg xt x, ty, pos, af, g⟩ T B (.r (.v (.c (.i k r)))) := by subst hr; exact sem_neg hx hg
theorem rSigned_q0 {x y : Int} (h : Sz 1000000 ((x.natAbs : Int) / y.natAbs)) : Ok Tryz.prog 80 [.c (.b (!(decide (x < 0) == decide (y < 0)))), .c (cL ((x.natAbs : Int) / y.natAbs))] [dI (q0 x y)] := by
  rw [← sq_q0]; exact rSigned_c h
theorem rSigned_r0 {x y : Int} (h0 : y ≠ 0) (h : Sz 1000000 ((x.natAbs : Int) % y.natAbs)) : Ok Tryz.prog 80 [.c (.b (decide (x < 0))), .c (cL ((x.natAbs : Int) % y.natAbs))] [dI (r0 x y)] := by
  rw [← sq_r0 h0]; exact rSigned_c h
theorem same_abs {x y : Int} (h : (decide (x < 0) == decide (y < 0)) = true) : (cmpI x.natAbs y.natAbs == 0) = (x == y) := by
  have hs : x < 0 ↔ y < 0 := by simpa using h
  rcases Int.lt_trichotomy (x.natAbs : Int) y.natAbs with h1 | h1 | h1
  · rw [cmp_lt h1, show (x == y) = false from by simp only [beq_eq_false_iff_ne]; omega]; rfl
  · rw [cmp_eq h1, show (x == y) = true from by simp only [beq_iff_eq]; omega]; rfl
  · rw [cmp_gt h1, show (x == y) = false from by simp only [beq_eq_false_iff_ne]; omega]; rfl
def isq : Nat → Nat
  | 0 => 0
  | n + 1 => if (isq n + 1) * (isq n + 1) ≤ n + 1 then isq n + 1 else isq n
theorem isq_spec (n : Nat) : isq n * isq n ≤ n ∧ n < (isq n + 1) * (isq n + 1) := by
  induction n with
  | zero => exact ⟨by decide, by decide⟩
  | succ n ih =>
    obtain ⟨h1, h2⟩ := ih
    unfold isq
    split
    · rename_i h
      refine ⟨h, ?_⟩
      have : (isq n + 1) * (isq n + 1) < (isq n + 1 + 1) * (isq n + 1 + 1) := Nat.mul_lt_mul_of_lt_of_le (by omega) (by omega) (by omega)
      omega
    · exact ⟨by omega, by omega⟩
theorem sq_le {a b : Int} (ha : 0 ≤ a) (h : a ≤ b) : a * a ≤ b * b := Int.mul_le_mul h h ha (by omega)
theorem sq_lt_imp {a b : Int} (hb : 0 ≤ b) (h : a * a < b * b) : a < b := by
  by_cases h1 : a < b
  · exact h1
  · have := sq_le hb (show b ≤ a by omega); omega
def isqI (x : Int) : Int := if x < 0 then 0 else (isq x.toNat : Nat)
theorem isqI_nonneg (x : Int) : 0 ≤ isqI x := by unfold isqI; split <;> omega
theorem isqI_le {x : Int} (h : 0 ≤ x) : isqI x * isqI x ≤ x := by
  unfold isqI; rw [if_neg (by omega)]
  have := (isq_spec x.toNat).1
  rw [← Int.natCast_mul]; omega
theorem isqI_lt {x : Int} (h : 0 ≤ x) : x < (isqI x + 1) * (isqI x + 1) := by
  unfold isqI; rw [if_neg (by omega)]
  have := (isq_spec x.toNat).2
  rw [show ((isq x.toNat : Nat) : Int) + 1 = ((isq x.toNat + 1 : Nat) : Int) from by omega, ← Int.natCast_mul]; omega
theorem isqI_unique {x r : Int} (h : 0 ≤ x) (hr : 0 ≤ r) (h1 : r * r ≤ x) (h2 : x < (r + 1) * (r + 1)) : isqI x = r := by
  have a1 := isqI_le h
  have a2 := isqI_lt h
  have a0 := isqI_nonneg x
  have := sq_lt_imp (a := r) (b := isqI x + 1) (by omega) (by omega)
  have := sq_lt_imp (a := isqI x) (b := r + 1) (by omega) (by omega)
  omega
theorem isqI_zero : isqI 0 = 0 := by decide
theorem isqI_neg {x : Int} (h : x < 0) : isqI x = 0 := by unfold isqI; rw [if_pos h]
theorem isqI_abs {x : Int} : (isqI x).natAbs ≤ x.natAbs := by
  have h0 := isqI_nonneg x
  by_cases h : x < 0
  · rw [isqI_neg h]; omega
  · have h1 := isqI_le (show 0 ≤ x by omega)
    by_cases h2 : isqI x < 1
    · omega
    · have := Int.mul_le_mul_of_nonneg_left (show 1 ≤ isqI x by omega) h0
      omega
theorem four_mul_le (a b : Int) : 4 * (a * b) ≤ (a + b) * (a + b) := by
  have h : 0 ≤ (a - b) * (a - b) := by
    rcases Int.le_total 0 (a - b) with h | h
    · exact Int.mul_nonneg h h
    · exact Int.mul_nonneg_of_nonpos_of_nonpos h h
  have e1 : (a - b) * (a - b) = a * a - 2 * (a * b) + b * b := by rw [Int.sub_mul, Int.mul_sub, Int.mul_sub, Int.mul_comm b a]; omega
  have e2 : (a + b) * (a + b) = a * a + 2 * (a * b) + b * b := by rw [Int.add_mul, Int.mul_add, Int.mul_add, Int.mul_comm b a]; omega
  omega
theorem newton {x r : Int} (hx : 0 < x) (hr : 0 < r) (_hup : x < (r + 1) * (r + 1)) :
    0 ≤ (r + x.fdiv r).fdiv 2 ∧ x < ((r + x.fdiv r).fdiv 2 + 1) * ((r + x.fdiv r).fdiv 2 + 1) ∧ 0 < (r + x.fdiv r).fdiv 2 ∧ 0 ≤ x.fdiv r ∧ x.fdiv r ≤ x := by
  rw [Int.fdiv_eq_ediv_of_nonneg _ (by omega : (0 : Int) ≤ r), Int.fdiv_eq_ediv_of_nonneg _ (by omega : (0 : Int) ≤ 2)]
  have hq0 : 0 ≤ x / r := Int.ediv_nonneg (by omega) (by omega)
  have hq1 : x / r ≤ x := Int.ediv_le_self _ (by omega)
  have hq2 : x < r * (x / r + 1) := by have h1 := Int.mul_ediv_add_emod x r; have h2 := Int.emod_lt_of_pos x hr; rw [Int.mul_add]; omega
  obtain ⟨q, hq⟩ : ∃ q, x / r = q := ⟨_, rfl⟩
  rw [hq] at hq0 hq1 hq2 ⊢
  obtain ⟨n, hn⟩ : ∃ n, (r + q) / 2 = n := ⟨_, rfl⟩
  rw [hn]
  have hn0 : 0 ≤ n := by omega
  have h4 := four_mul_le r (q + 1)
  have h5 : (r + (q + 1)) * (r + (q + 1)) ≤ (2 * (n + 1)) * (2 * (n + 1)) := sq_le (by omega) (by omega)
  have h6 : (2 * (n + 1)) * (2 * (n + 1)) = 4 * ((n + 1) * (n + 1)) := by rw [Int.mul_assoc, Int.mul_left_comm (n + 1) 2, ← Int.mul_assoc]; omega
  have hu : x < (n + 1) * (n + 1) := by omega
  refine ⟨hn0, hu, ?_, hq0, hq1⟩
  by_cases h : 0 < n
  · exact h
  · rw [show n = 0 from by omega] at hu; omega
theorem newton_stop {x r : Int} (_hx : 0 < x) (hr : 0 < r) (h : r ≤ (r + x.fdiv r).fdiv 2) : r * r ≤ x := by
  rw [Int.fdiv_eq_ediv_of_nonneg _ (by omega : (0 : Int) ≤ r), Int.fdiv_eq_ediv_of_nonneg _ (by omega : (0 : Int) ≤ 2)] at h
  have h1 := Int.mul_ediv_add_emod x r
  have h2 := Int.emod_nonneg x (show r ≠ 0 by omega)
  have h3 : r ≤ x / r := by omega
  have := Int.mul_le_mul_of_nonneg_left h3 (show 0 ≤ r by omega)
  omega
structure NInv (K : Nat) (x r : Int) : Prop where
  r0 : 0 < r
  sz : Sz K r
  up : x < (r + 1) * (r + 1)
theorem NInv.sum {K : Nat} {x r : Int} (h : NInv K x r) (hs : Sz K x) (hx : 0 < x) : Sz K (x.fdiv r) ∧ Sz (K + 1) (r + x.fdiv r) ∧ Sz (K + 1) ((r + x.fdiv r).fdiv 2) := by
  obtain ⟨h1, h2, h3, h4, h5⟩ := newton hx h.r0 h.up
  have h6 : Sz K (x.fdiv r) := hs.of_le (by omega)
  have h7 := h.sz.add h6
  refine ⟨h6, h7, h7.of_le ?_⟩
  have h8 := h.r0
  rw [Int.fdiv_eq_ediv_of_nonneg _ (by omega : (0 : Int) ≤ 2)] at *
  omega
theorem NInv.next {K : Nat} {x r : Int} (h : NInv K x r) (hx : 0 < x) (hl : (r + x.fdiv r).fdiv 2 < r) : NInv K x ((r + x.fdiv r).fdiv 2) := by
  obtain ⟨h1, h2, h3, h4, h5⟩ := newton hx h.r0 h.up
  exact ⟨h3, h.sz.of_le (by omega), h2⟩
theorem NInv.done {K : Nat} {x r : Int} (h : NInv K x r) (hx : 0 < x) (hl : r ≤ (r + x.fdiv r).fdiv 2) : isqI x = r :=
  isqI_unique (by omega) (by have := h.r0; omega) (newton_stop hx h.r0 hl) h.up
theorem dI_zero : dI 0 = .a ([.b false] ++ [.s 0 []]) := by unfold dI cI; rw [show cL 0 = .s 0 [] from by unfold cL; rw [show (0 : Int).natAbs = 0 from rfl, lim_zero]; rfl]; rfl
theorem cI_nn {v : Int} (h : 0 ≤ v) : ([CellD.b false] ++ [cL v]) = cI v := by unfold cI; rw [show decide (v < 0) = false from by simp; omega]; rfl
theorem pw_up {x : Int} {n k : Nat} (_h0 : 0 ≤ x) (h : x < pw n) (hk : n ≤ 2 * k) : x < (pw k + 1) * (pw k + 1) := by
  have h1 := pw_le (n := n) (m := 2 * k) hk
  have h2 : pw (2 * k) = pw k * pw k := by rw [show 2 * k = k + k from by omega, pw_add]
  have h3 := pw_pos k
  have h4 : (pw k + 1) * (pw k + 1) = pw k * pw k + 2 * pw k + 1 := by rw [Int.add_mul, Int.mul_add]; omega
  omega
theorem NInv.start {K k : Nat} {x : Int} (h0 : 0 < x) (_hs : Sz K x) (hk : ((lim x.natAbs).length + 1) / 2 = k) (hK : k < K) : NInv K x (pw k) := by
  have hv := val_lt (lim_lim x.natAbs)
  rw [val_lim] at hv
  refine ⟨pw_pos k, ?_, pw_up (n := (lim x.natAbs).length) (by omega) (by omega) (by omega)⟩
  have h1 : Sz (k + 1) (pw k) := ⟨by have := pw_pos k; rw [pw_succ]; omega, by have := pw_pos k; have := pw_pos (k + 1); omega⟩
  exact h1.mono (by omega)
theorem val_pw (n : Nat) : val (List.replicate n 0 ++ [1]) = pw n := by
  induction n with
  | zero => decide
  | succ n ih => rw [List.replicate_succ, List.cons_append, val_cons, ih, pw_succ]; omega
theorem cL_pw (n : Nat) : cL (pw n) = cM (List.replicate n 0 ++ [1]) := by
  have hL : Lim (List.replicate n 0 ++ [1]) := (Lim.zeros n).append (Lim.nil.cons (by omega) (by omega))
  have hN : Nrm (List.replicate n 0 ++ [1]) := by
    induction n with
    | zero => exact nrm_snoc [] 1 (by decide)
    | succ n ih => exact nrm_cons (ih ((Lim.zeros n).append (Lim.nil.cons (by omega) (by omega)))) (by simp)
  rw [cL_cM, ← val_pw]
  have := lim_of hN hL
  rw [show (val (List.replicate n 0 ++ [1])).natAbs = (val (List.replicate n 0 ++ [1])).toNat from by have := val_nonneg hL; omega, ← this]
variable {P : Program} {ops : Array Oper} {T : TF} {B : BF}
theorem sem_append_pw {dst : Option Nat} {x y : Operand} {U e : TypeId} {ty : TypeId} {pos : String} {af : Array Edge} {g : Option (Nat × Bool)} {k n : Nat} {z : CellD}
    (hU : elB P U = some (e, 1, 4, [z])) (hx : opd T x = some (.o k n n)) (hy : opd T y = some (.v (.c (cM [1])))) (hb : B k = some (e, List.replicate n (CellD.i .u32 0))) (hl : n ≤ 10000000)
    (hg : gd ops ⟨dst, .call ⟨.builtin .append, #[x, y], #[U, U]⟩, ty, pos, af, g⟩ T = some true) :
    Sem P ops ⟨dst, .call ⟨.builtin .append, #[x, y], #[U, U]⟩, ty, pos, af, g⟩ T B (.c k (.v (.c (cL (pw n))))) := by
  rw [cL_pw]
  have := sem_append_c (us := (List.replicate n (0 : Int) ++ [1]).map (CellD.i .u32)) hU hx hy hb (by simp) (M_len _) (by omega) (by simp) (by omega) (by simp; omega) (by simp; unfold maxLen; omega) (by simp) hg
  rw [show n + [(1 : Int)].length = (List.replicate n (0 : Int) ++ [1]).length from by simp] at this
  exact this
theorem cmpI_eq0 {a b : Int} : cmpI a b = 0 ↔ a = b := by
  rcases Int.lt_trichotomy a b with h | h | h
  · rw [cmp_lt h]; constructor <;> intro h2 <;> omega
  · rw [cmp_eq h]; constructor <;> intro h2 <;> omega
  · rw [cmp_gt h]; constructor <;> intro h2 <;> omega
theorem cmpI_lt0 {a b : Int} : cmpI a b < 0 ↔ a < b := by
  rcases Int.lt_trichotomy a b with h | h | h
  · rw [cmp_lt h]; constructor <;> intro h2 <;> omega
  · rw [cmp_eq h]; constructor <;> intro h2 <;> omega
  · rw [cmp_gt h]; constructor <;> intro h2 <;> omega
theorem cmpI_gt0 {a b : Int} : 0 < cmpI a b ↔ b < a := by
  rcases Int.lt_trichotomy a b with h | h | h
  · rw [cmp_lt h]; constructor <;> intro h2 <;> omega
  · rw [cmp_eq h]; constructor <;> intro h2 <;> omega
  · rw [cmp_gt h]; constructor <;> intro h2 <;> omega
theorem t_lt {a b : Int} (h : decide (cmpI a b < 0) = true) : a < b := cmpI_lt0.1 (by simpa using h)
theorem f_lt {a b : Int} (h : decide (cmpI a b < 0) = false) : ¬ a < b := fun e => by have := cmpI_lt0.2 e; simp at h; omega
theorem t_eq {a b : Int} (h : (cmpI a b == 0) = true) : a = b := cmpI_eq0.1 (by simpa using h)
theorem f_eq {a b : Int} (h : (cmpI a b == 0) = false) : a ≠ b := fun e => by have := cmpI_eq0.2 e; simp at h; omega
theorem t_ne {a b : Int} (h : (cmpI a b != 0) = true) : a ≠ b := fun e => by have := cmpI_eq0.2 e; simp at h; omega
theorem f_ne {a b : Int} (h : (cmpI a b != 0) = false) : a = b := cmpI_eq0.1 (by simpa using h)
theorem t_gt {a b : Int} (h : decide (cmpI a b > 0) = true) : b < a := cmpI_gt0.1 (by simpa using h)
theorem f_gt {a b : Int} (h : decide (cmpI a b > 0) = false) : ¬ b < a := fun e => by have := cmpI_gt0.2 e; simp at h; omega
structure Rz (k : Nat) (x : Rat) : Prop where
  n : Sz k x.num
  d : Sz k (x.den : Int)
theorem Sz.addm {k l : Nat} {x y : Int} (h : Sz k x) (h' : Sz l y) : Sz (max k l + 1) (x + y) := (h.mono (Nat.le_max_left k l)).add (h'.mono (Nat.le_max_right k l))
theorem Sz.gcd {l : Nat} {x y : Int} (h' : Sz l y) (h0 : y ≠ 0) : Sz l ((Int.gcd x y : Nat) : Int) := h'.of_le (by
  have : Int.gcd x y ≤ y.natAbs := Nat.le_of_dvd (by omega) (Nat.gcd_dvd_right ..)
  rw [Int.natAbs_natCast]; exact this)
theorem Rz.mono {k l : Nat} {x : Rat} (h : Rz k x) (hl : k ≤ l) : Rz l x := ⟨h.n.mono hl, h.d.mono hl⟩
theorem den_pos (x : Rat) : (0 : Int) < (x.den : Int) := by have := x.den_pos; omega
theorem den_ne (x : Rat) : (x.den : Int) ≠ 0 := by have := den_pos x; omega
theorem ediv_abs_le (a b : Int) : (a / b).natAbs ≤ a.natAbs := Int.natAbs_ediv_le_natAbs a b
theorem Rz.of {k : Nat} {n d : Int} (hn : Sz k n) (hd : Sz k d) (h0 : d ≠ 0) : Rz k (Rat.divInt n d) := by
  refine ⟨hn.of_le ?_, hd.of_le ?_⟩
  · rw [Rat.num_divInt]
    refine Nat.le_trans (ediv_abs_le _ _) ?_
    rw [Int.natAbs_mul, Int.natAbs_sign_of_ne_zero h0]; omega
  · rw [Rat.den_divInt, if_neg h0]
    rw [Int.natAbs_natCast]
    exact Nat.div_le_self d.natAbs (Int.gcd d n)
theorem radd {x y : Rat} : Rat.divInt (x.num * (y.den : Int) + y.num * (x.den : Int)) ((x.den : Int) * (y.den : Int)) = x + y := by
  rw [Rat.add_def', ← Int.natCast_mul, Rat.divInt_ofNat]
theorem radd1 {x y : Rat} (h : (x.den : Int) = (y.den : Int)) : Rat.divInt (x.num + y.num) (x.den : Int) = x + y := by
  rw [← radd, ← h, ← Int.add_mul, Rat.divInt_mul_right (den_ne x)]
theorem rmul {x y : Rat} : Rat.divInt (x.num * y.num) ((x.den : Int) * (y.den : Int)) = x * y := by
  rw [Rat.mul_def', ← Int.natCast_mul, Rat.divInt_ofNat]
theorem rdiv {x y : Rat} : Rat.divInt (x.num * (y.den : Int)) ((x.den : Int) * y.num) = x / y := by
  rw [Rat.div_def, Rat.inv_def, ← Rat.divInt_mul_divInt, Rat.num_divInt_den]
theorem Rz.add {k l : Nat} {x y : Rat} (hx : Rz k x) (hy : Rz l y) : Rz (k + l + 1) (x + y) := by
  rw [← radd]
  exact Rz.of (((hx.n.mul hy.d).addm (hy.n.mul hx.d)).mono (by omega)) ((hx.d.mul hy.d).mono (by omega)) (by have := Int.mul_pos (den_pos x) (den_pos y); omega)
theorem Rz.mul {k l : Nat} {x y : Rat} (hx : Rz k x) (hy : Rz l y) : Rz (k + l) (x * y) := by
  rw [← rmul]
  exact Rz.of (hx.n.mul hy.n) (hx.d.mul hy.d) (by have := Int.mul_pos (den_pos x) (den_pos y); omega)
theorem Rz.neg {k : Nat} {x : Rat} (hx : Rz k x) : Rz k (-x) := ⟨by rw [Rat.neg_num]; exact hx.n.neg, by rw [Rat.neg_den]; exact hx.d⟩
theorem Rz.sub {k l : Nat} {x y : Rat} (hx : Rz k x) (hy : Rz l y) : Rz (k + l + 1) (x - y) := by rw [Rat.sub_eq_add_neg]; exact hx.add hy.neg
theorem Rz.div {k l : Nat} {x y : Rat} (hx : Rz k x) (hy : Rz l y) (h0 : y ≠ 0) : Rz (k + l) (x / y) := by
  rw [← rdiv]
  exact Rz.of (hx.n.mul hy.d) (hx.d.mul hy.n) (by
    have h1 : y.num ≠ 0 := fun e => h0 (Rat.num_eq_zero.1 e)
    intro e
    rcases Int.mul_eq_zero.1 e with h | h
    · exact den_ne x h
    · exact h1 h)
theorem Sz.one {k : Nat} (hk : 1 ≤ k) : Sz k 1 := by
  have := pw_le (n := 1) (m := k) hk
  have h1 : pw 1 = 1000000000 := by decide
  exact ⟨by omega, by omega⟩
theorem Rz.int {k : Nat} {n : Int} (h : Sz k n) (hk : 1 ≤ k) : Rz k (n : Rat) := ⟨by rw [Rat.num_intCast]; exact h, by rw [Rat.den_intCast]; exact Sz.one hk⟩
theorem dR_red {n d : Int} (hd : 0 < d) : dR (Rat.divInt n d) = dQ (n.fdiv ((Int.gcd n d : Nat) : Int)) (d.fdiv ((Int.gcd n d : Nat) : Int)) := by
  unfold dR cR
  rw [Rat.num_divInt, Rat.den_divInt, if_neg (by omega), Int.sign_eq_one_of_pos hd, Int.one_mul, Int.gcd_comm d n, Int.fdiv_eq_ediv_of_nonneg _ (by omega), Int.fdiv_eq_ediv_of_nonneg _ (by omega)]
  rw [show ((d.natAbs / Int.gcd n d : Nat) : Int) = d / ((Int.gcd n d : Nat) : Int) from by rw [Int.natCast_ediv]; rw [show ((d.natAbs : Nat) : Int) = d from by omega]]
  rfl
theorem dR_red1 {n d : Int} (hd : 0 < d) (hg : ((Int.gcd n d : Nat) : Int) = 1) : dR (Rat.divInt n d) = dQ n d := by
  rw [dR_red hd, hg, Int.fdiv_one, Int.fdiv_one]
theorem dR_neg {n d : Int} : dR (Rat.divInt n d) = dR (Rat.divInt (-n) (-d)) := by rw [Rat.neg_divInt_neg]
theorem gcd_ne {n d : Int} (h : d ≠ 0) : ((Int.gcd n d : Nat) : Int) ≠ 0 := by
  have : Int.gcd n d ≠ 0 := fun e => h (Int.gcd_eq_zero_iff.1 e).2
  omega
theorem cmp_rat {x y : Rat} : cmpI (x.num * (y.den : Int)) (y.num * (x.den : Int)) = if x < y then -1 else if y < x then 1 else 0 := by
  unfold cmpI
  simp only [Rat.lt_iff]
def cmpR (x y : Rat) : Int := if x < y then -1 else if y < x then 1 else 0
theorem cmpR_num {x : Rat} : cmpI x.num 0 = cmpR x 0 := by
  unfold cmpR
  rw [← cmp_rat]
  simp
theorem dR_eq {x : Rat} {n d : Int} (h1 : x.num = n) (h2 : (x.den : Int) = d) : dR x = dQ n d := by unfold dR cR; rw [h1, h2]; rfl
theorem dR_int {n : Int} : dR (n : Rat) = dQ n 1 := dR_eq (Rat.num_intCast n) (by rw [Rat.den_intCast]; rfl)
def sqI (x : Int) : Bool := isqI x * isqI x == x
def sqR (x : Rat) : Bool := sqI x.num && sqI (x.den : Int)
theorem sqI_neg {x : Int} (h : x < 0) : sqI x = false := by unfold sqI; rw [isqI_neg h]; simp; omega
end Go.Proofs.YthlnndkgpgfbnaaGreat
