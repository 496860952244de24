/- Package swarfref01: parts. -/
import Derived.Test.YthhhlpdbainlaaaGreatTaG
namespace Go.Proofs.YthhhlpdbainlaaaGreat
open Go Go.RowKit
theorem rParts_ok {xs ys : List Int} (hLxs : Lim xs) (hLys : Lim ys) (_nX : Nrm xs) (nY : Nrm ys) (hn : xs.length ≤ 1000) (hm : ys.length ≤ 1000) (hy0 : ys ≠ []) : Ok Tryz.prog 113 [.c (cM xs), .c (cM ys)] [.c (cL (val xs / val ys)), .c (cL (val xs % val ys))] := by
  have hyl : 1 ≤ ys.length := by have := List.length_pos_iff.2 hy0; omega
  obtain ⟨htop, htopv⟩ := top_limb hLys nY hy0
  have hB1 := lim_getD hLys (ys.length - 1)
  have hvy0 : 0 < val ys := by have h2 := Int.mul_le_mul_of_nonneg_left (pw_pos (ys.length - 1)) (show 0 ≤ ys.getD (ys.length - 1) 0 by omega); omega
  have hvx0 := val_nonneg hLxs
  obtain ⟨B, hB⟩ : ∃ B, ys.getD (ys.length - 1) 0 = B := ⟨_, rfl⟩
  rw [hB] at htop hB1 htopv
  obtain ⟨s, hs⟩ : ∃ s, 1000000000 / (B + 1) = s := ⟨_, rfl⟩
  have hs1 : 1 ≤ s := by rw [← hs]; exact (Int.le_ediv_iff_mul_le (by omega)).2 (by omega)
  have hs2 : s ≤ 500000000 := by rw [← hs]; exact Int.ediv_le_of_le_mul (by omega) (by omega)
  obtain ⟨V, hV⟩ : ∃ V, val ys * s = V := ⟨_, rfl⟩
  obtain ⟨W, hW⟩ : ∃ W, val xs * s = W := ⟨_, rfl⟩
  have hV0 : 0 < V := by rw [← hV]; exact Int.mul_pos hvy0 (by omega)
  have hW0 : 0 ≤ W := by rw [← hW]; exact Int.mul_nonneg hvx0 (by omega)
  have eV : (V.natAbs : Int) = V := by omega
  have eW : (W.natAbs : Int) = W := by omega
  have hVb : V < pw (ys.length + 1) := by
    have h1 := val_lt hLys
    have h2 : val ys * s ≤ val ys * 1000000000 := Int.mul_le_mul_of_nonneg_left (by omega) (by omega)
    rw [pw_succ]; omega
  have hWb : W < pw (xs.length + 1) := by
    have h1 := val_lt hLxs
    have h2 : val xs * s ≤ val xs * 1000000000 := Int.mul_le_mul_of_nonneg_left (by omega) (by omega)
    rw [pw_succ]; omega
  have hVlen : (lim V.natAbs).length ≤ ys.length + 1 := len_of_lt (by omega) hVb
  have hWlen : (lim W.natAbs).length ≤ xs.length + 1 := len_of_lt hW0 hWb
  have hVne : lim V.natAbs ≠ [] := fun e => by have := lim_eq_nil.1 e; omega
  have hVl1 : 1 ≤ (lim V.natAbs).length := by have := List.length_pos_iff.2 hVne; omega
  obtain ⟨htop2, htopv2⟩ := top_limb (lim_lim V.natAbs) (nrm_lim _) hVne
  have hB2 := lim_getD (lim_lim V.natAbs) ((lim V.natAbs).length - 1)
  rw [val_lim, eV] at htopv2
  obtain ⟨top, ht⟩ : ∃ top, (lim V.natAbs).getD ((lim V.natAbs).length - 1) 0 = top := ⟨_, rfl⟩
  rw [ht] at htop2 htopv2 hB2
  obtain ⟨n, hnl⟩ : ∃ n, (lim V.natAbs).length = n := ⟨_, rfl⟩
  rw [hnl] at hVlen hVl1 htopv2 ht
  have hVlt : V < pw n := by have := val_lt (lim_lim V.natAbs); rw [val_lim, eV, hnl] at this; exact this
  obtain ⟨hq1, hq2⟩ := scaled (x := val xs) (y := val ys) (s := s) (by omega)
  rw [hV, hW] at hq1 hq2
  have szV : Sz 1000000 V := ⟨by have := pw_le (n := ys.length + 1) (m := 1000000) (by omega); omega, by have := pw_pos 1000000; omega⟩
  have hby1 : Ok Tryz.prog 156 [.c (cM ys), .c (.i .u32 s)] [.c (cL V)] := by rw [← hV]; exact rBy_ok hLys (by omega) (by omega) (by omega)
  have hby2 : Ok Tryz.prog 156 [.c (cM xs), .c (.i .u32 s)] [.c (cL W)] := by rw [← hW]; exact rBy_ok hLxs (by omega) (by omega) (by omega)
  have hbyV : ∀ g : Int, 0 ≤ g → g < 1000000000 → Ok Tryz.prog 156 [.c (cL V), .c (.i .u32 g)] [.c (cL (V * g))] := fun g h0 h1 => by have := rBy_c szV h0 h1; rw [eV] at this; exact this
  refine Ok.of (by kernel_rfl) Tryz.func113 rfl rfl ?_
  rw [show Tryz.f113.ntmps = 173 from rfl, show Tryz.f113.results.toList = [.tmp 4, .tmp 5] from rfl]
  refine dw_seq <| dw_region (by kernel_rfl) <| dl_r (sem_assign rfl rfl) <| dl_r (sem_assign rfl rfl) <| dl_end ?_
  refine dw_seqJ (ι := Unit) (fun i => ⟨173, [(0, .v (.c (cM xs))), (1, .v (.c (cM ys)))], []⟩) ?_ ?_
  · refine dw_seq <| dw_region (by kernel_rfl) <| dl_r (sem_move rfl rfl) <| dl_r (sem_len sl27 rfl rfl) <| dl_r (sem_cmp rfl rfl rfl rfl) ?_
    refine dl_rb (sem_move rfl rfl) (fun c1 hb1 => ?_)
    cases c1
    · refine dl_skip (sem_skip rfl) <| dl_skip (sem_skip rfl) <| dl_skip (sem_skip rfl) <| dl_r (sem_pick rfl rfl rfl rfl) <| dl_end <| dw_false rfl <| dw_skip ?_
      exact ⟨(), sub_of ⟨rfl, rfl, trivial⟩ trivial rfl⟩
    · have ha2 : xs.length ≤ 2 := by simp only [decide_eq_true_eq] at hb1; omega
      refine dl_r (sem_move rfl rfl) <| dl_r (sem_len sl27 rfl rfl) <| dl_r (sem_cmp rfl rfl rfl rfl) <| dl_r (sem_pick rfl rfl rfl rfl) <| dl_end ?_
      refine dw_cond rfl (fun hc2 => ?_) (fun hc2 => ?_)
      · have hb2 : ys.length ≤ 2 := by simp only [decide_eq_true_eq] at hc2; omega
        have hp2 : pw 2 = 1000000000000000000 := by decide
        have hvx2 := val_lt hLxs
        have hvy2 := val_lt hLys
        have hp3 := pw_le (n := xs.length) (m := 2) ha2
        have hp4 := pw_le (n := ys.length) (m := 2) hb2
        have hd0 : 0 ≤ val xs / val ys := Int.ediv_nonneg (by omega) (by omega)
        have hd1 : val xs / val ys ≤ val xs := Int.ediv_le_self _ (by omega)
        have hd2 : val xs / val ys ≤ 18446744073709551615 := by omega
        have hm0 : 0 ≤ val xs % val ys := Int.emod_nonneg _ (by omega)
        have hm1 : val xs % val ys < val ys := Int.emod_lt_of_pos _ (by omega)
        have hm2 : val xs % val ys ≤ 18446744073709551615 := by omega
        refine dw_seq <| dw_region (by kernel_rfl) <| dl_r (sem_move rfl rfl) <| dl_r (sem_call rfl rfl (rShort_ok hLxs (by omega) (by omega)) rfl) <| dl_r (sem_move rfl rfl) <| dl_r (sem_call rfl rfl (rShort_ok hLys (by omega) (by omega)) rfl) <| dl_r (sem_assign rfl rfl) <| dl_r (sem_assign rfl rfl) ?_
        refine dl_end <| dw_seq <| dw_draw 10 [] follows_mixed (by kernel_rfl) rfl rfl <| dq_r (sem_move rfl rfl) <| dq_r (sem_move rfl rfl) <| dq_r (sem_quo' (r := val xs / val ys) rfl rfl (by omega) (by rw [Int.tdiv_eq_ediv_of_nonneg (by omega)]; exact nwu64 (by omega) (by omega)) rfl) <| dq_r (sem_call rfl rfl (rLimbs_ok (by assumption) (by assumption)) rfl) <| dq_r (sem_move rfl rfl) ?_
        refine dq_r (sem_move rfl rfl) <| dq_r (sem_rem' (r := val xs % val ys) rfl rfl (by omega) (Int.tmod_eq_emod_of_nonneg hvx0) rfl) <| dq_r (sem_call rfl rfl (rLimbs_ok (by assumption) (by assumption)) rfl) <| dq_r (sem_assign rfl rfl) <| dq_r (sem_assign rfl rfl) <| dq_end <| dl_start0 <| dl_end ?_
        refine dw_ret ?_
        exact ⟨.inr rfl, (resL_tmp rfl (resL_tmp rfl resL_nil))⟩
      · refine dw_skip ?_
        exact ⟨(), sub_of ⟨rfl, rfl, trivial⟩ trivial rfl⟩
  · rintro ⟨⟩
    show Dw _ _ ⟨173, [(0, .v (.c (cM xs))), (1, .v (.c (cM ys)))], []⟩ _
    refine dw_seq <| dw_region (by kernel_rfl) <| dl_r (sem_move rfl rfl) <| dl_r (sem_move rfl rfl) <| dl_r (sem_len sl27 rfl rfl) <| dl_r (sem_ari (r := ((ys.length - 1 : Nat) : Int)) rfl rfl (by rw [show ((ys.length - 1 : Nat) : Int) = (ys.length : Int) - 1 from by omega]; exact ari_i64_sub (by omega) (by omega)) rfl) ?_
    refine dl_r (sem_index sl27 rfl rfl (by (first | omega | (simp; omega))) (M_len _) rfl rfl) ?_
    refine dl_r (sem_loadq1 ty134 rfl (M_get (i := (ys.length - 1)) (by (first | omega | (simp; omega)))) rfl) ?_
    refine dl_r (sem_conv' (r := B) und134 und84 rfl (by rw [hB]; exact nwu64 (by omega) (by omega)) rfl) ?_
    refine dl_r (sem_ari (r := B + 1) rfl rfl (ari_u64_add (by (first | omega | (simp; omega))) (by (first | omega | (simp; omega)))) rfl) ?_
    refine dl_r (sem_quo' (r := s) rfl rfl (by omega) (by rw [Int.tdiv_eq_ediv_of_nonneg (by omega), hs]; exact nwu64 (by omega) (by omega)) rfl) <| dl_r (sem_conv' (r := s) und84 und134 rfl (nwu32 (by omega) (by omega)) rfl) <| dl_r (sem_assign rfl rfl) <| dl_end <| dw_seq <| dw_region (by kernel_rfl) <| dl_r (sem_move rfl rfl) <| dl_r (sem_move rfl rfl) ?_
    refine dl_r (sem_call rfl rfl (hby1) rfl) <| dl_r (sem_assign rfl rfl) <| dl_end <| dw_seq <| dw_region (by kernel_rfl) <| dl_r (sem_move rfl rfl) <| dl_r (sem_move rfl rfl) <| dl_r (sem_len sl27 rfl rfl) ?_
    refine dl_r (sem_ari (r := ((n - 1 : Nat) : Int)) rfl rfl (by rw [hnl, show ((n - 1 : Nat) : Int) = (n : Int) - 1 from by omega]; exact ari_i64_sub (by omega) (by omega)) rfl) ?_
    refine dl_r (sem_index sl27 rfl rfl (by (first | omega | (simp; omega))) (M_len _) rfl rfl) ?_
    refine dl_r (sem_loadq1 ty134 rfl (M_get (i := (n - 1)) (by (first | omega | (simp; omega)))) rfl) ?_
    refine dl_r (sem_conv' (r := top) und134 und84 rfl (by rw [ht]; exact nwu64 (by omega) (by omega)) rfl) <| dl_r (sem_assign rfl rfl) <| dl_end <| dw_seq <| dw_region (by kernel_rfl) <| dl_r (sem_assign rfl rfl) <| dl_end <| dw_seq ?_
    refine dw_region (by kernel_rfl) <| dl_r (sem_move rfl rfl) <| dl_r (sem_len sl27 rfl rfl) ?_
    refine dl_r (sem_ari (r := (xs.length : Int) + 1) rfl rfl (ari_i64_add (by (first | omega | (simp; omega))) (by (first | omega | (simp; omega)))) rfl) ?_
    refine dl_mk (sem_make (n := xs.length + 1) el27 rfl rfl (by omega) (by omega) rfl) rfl <| dl_r (sem_assign rfl rfl) <| dl_end <| dw_seq <| dw_region (by kernel_rfl) <| dl_r (sem_move rfl rfl) <| dl_r (sem_move rfl rfl) <| dl_r (sem_call rfl rfl (hby2) rfl) ?_
    refine dl_r (sem_assign rfl rfl) <| dl_end <| dw_seq <| dw_region (by kernel_rfl) <| dl_r (sem_move rfl rfl) <| dl_r (sem_move rfl rfl) <| dl_r (sem_len sl27 rfl rfl) ?_
    refine dl_r (sem_slice_o (q := ((lim W.natAbs).length)) sl27 rfl rfl (by (first | omega | (simp; omega))) rfl) ?_
    refine dl_r (sem_assign rfl rfl) <| dl_end <| dw_seq <| dw_seq <| dw_region (by kernel_rfl) <| dl_r (sem_move rfl rfl) <| dl_r (sem_len sl27 rfl rfl) ?_
    refine dl_r (sem_ari (r := (((lim W.natAbs).length : Int)) - 1) rfl rfl (ari_i64_sub (by (first | omega | (simp; omega))) (by (first | omega | (simp; omega)))) rfl) ?_
    refine dl_r (sem_assign rfl rfl) <| dl_end <| dw_block <| dw_loop (ι := {t : Nat × Int × List Int // DInv (lim W.natAbs) V (xs.length + 1) t.1 t.2.1 t.2.2}) (fun i => ⟨173, [(8, .v (.c (.i .u32 s))), (9, .v (.c (cL V))), (10, .v (.c (.i .u64 top))), (11, .v (.c (cL i.1.2.1))), (12, .o 64 ((lim W.natAbs).length) (xs.length + 1)), (13, .v (.c (cL W))), (14, .v (.c (.i .i64 ((i.1.1 : Int) - 1))))], [(64, 134, i.1.2.2.map (CellD.i .u32))]⟩) (fun i => i.1.1) ⟨((lim W.natAbs).length, 0, List.replicate (xs.length + 1) 0), DInv.start hV0 hWlen⟩ (sub_of ⟨rfl, rfl, rfl, by rw [show cL 0 = .s 0 [] from by unfold cL; rw [show (0 : Int).natAbs = 0 from rfl, lim_zero]; rfl]; rfl, rfl, rfl, rfl, trivial⟩ ⟨by rw [show (List.replicate (xs.length + 1) (CellD.i .u32 0)) = (List.replicate (xs.length + 1) 0).map (CellD.i .u32) from by simp]; rfl, trivial⟩ rfl) ?_
    rintro ⟨⟨j, R, zs⟩, hI⟩
    replace hI : DInv (lim W.natAbs) V (xs.length + 1) j R zs := hI
    have g6 := hI.len
    have gR0 := hI.R0
    have gRV := hI.RV
    have gle := hI.le
    have eR : (R.natAbs : Int) = R := by omega
    have hRlen : (lim R.natAbs).length ≤ n := len_of_lt gR0 (by omega)
    show Dw _ _ ⟨173, [(8, .v (.c (.i .u32 s))), (9, .v (.c (cL V))), (10, .v (.c (.i .u64 top))), (11, .v (.c (cL R))), (12, .o 64 ((lim W.natAbs).length) (xs.length + 1)), (13, .v (.c (cL W))), (14, .v (.c (.i .i64 ((j : Int) - 1))))], [(64, 134, zs.map (CellD.i .u32))]⟩ _
    refine dw_seq <| dw_seq <| dw_region (by kernel_rfl) <| dl_r (sem_move rfl rfl) <| dl_r (sem_cmp rfl rfl rfl rfl) <| dl_end ?_
    refine dw_cond rfl (fun hc3 => ?_) (fun hc3 => ?_)
    · obtain ⟨q, rfl⟩ : ∃ q, j = q + 1 := ⟨j - 1, by simp only [decide_eq_true_eq] at hc3; omega⟩
      have gd := lim_getD (lim_lim W.natAbs) q
      obtain ⟨T, hT⟩ : ∃ T, (lim W.natAbs).getD q 0 + 1000000000 * R = T := ⟨_, rfl⟩
      have hT0 : 0 ≤ T := by omega
      have eT : (T.natAbs : Int) = T := by omega
      have htrim : Ok Tryz.prog 116 [.c (cM ((lim W.natAbs).getD q 0 :: lim R.natAbs))] [.c (cL T)] := by rw [← hT]; exact rTrim_cM gR0 gd.1 gd.2 (by omega)
      have hTb : T < pw (n + 1) := by rw [pw_succ]; omega
      have hTlen : (lim T.natAbs).length ≤ n + 1 := len_of_lt hT0 hTb
      have szT : Sz 1000000 T := ⟨by have := pw_le (n := n + 1) (m := 1000000) (by omega); omega, by have := pw_pos 1000000; omega⟩
      have hquo := quo_bound gR0 gRV gd.1 gd.2
      rw [hT] at hquo
      have gt1 := lim_getD (lim_lim T.natAbs) (lim V.natAbs).length
      have gt2 := lim_getD (lim_lim T.natAbs) (n - 1)
      refine Dw.weak (σ' := ⟨173, [(8, .v (.c (.i .u32 s))), (9, .v (.c (cL V))), (10, .v (.c (.i .u64 top))), (11, .v (.c (cL R))), (12, .o 64 ((lim W.natAbs).length) (xs.length + 1)), (13, .v (.c (cL W))), (14, .v (.c (.i .i64 (q : Int))))], [(64, 134, zs.map (CellD.i .u32))]⟩) (sub_of ⟨rfl, rfl, rfl, rfl, rfl, rfl, by rw [show (q : Int) = ((q + 1 : Nat) : Int) - 1 from by omega]; rfl, trivial⟩ ⟨rfl, trivial⟩ rfl) <| dw_skip <| dw_seq <| dw_block <| dw_seq <| dw_region (by kernel_rfl) <| dl_r (sem_move rfl rfl) <| dl_r (sem_move rfl rfl) ?_
      refine dl_r (sem_index sl27 rfl rfl (by (first | omega | (simp; omega))) (M_len _) rfl rfl) ?_
      refine dl_r (sem_loadq1 ty134 rfl (M_get (i := q) (by (first | omega | (simp; omega)))) rfl) ?_
      refine dl_mk (sem_slit (us := [.i .u32 ((lim W.natAbs).getD q 0)]) el27 rfl rfl (by decide) (by decide) rfl) rfl <| dl_r (sem_move rfl rfl) <| dl_c (sem_append_1M (rs := lim R.natAbs) el27 rfl rfl rfl (by omega) rfl) <| dl_r (sem_call rfl rfl (htrim) rfl) <| dl_r (sem_assign rfl rfl) <| dl_end <| dw_seq <| dw_region (by kernel_rfl) ?_
      refine dl_r (sem_assign rfl rfl) <| dl_end ?_
      refine dw_seqJ (ι := {H : Int // H = if n < (lim T.natAbs).length then (lim T.natAbs).getD n 0 * 1000000000 else 0}) (fun i => ⟨173, [(8, .v (.c (.i .u32 s))), (9, .v (.c (cL V))), (10, .v (.c (.i .u64 top))), (11, .v (.c (cL T))), (12, .o 64 ((lim W.natAbs).length) (xs.length + 1)), (13, .v (.c (cL W))), (14, .v (.c (.i .i64 (q : Int)))), (15, .v (.c (.i .u64 i.1)))], [(64, 134, zs.map (CellD.i .u32))]⟩) ?_ ?_
      · refine dw_seq <| dw_region (by kernel_rfl) <| dl_r (sem_move rfl rfl) <| dl_r (sem_len sl27 rfl rfl) <| dl_r (sem_move rfl rfl) <| dl_r (sem_len sl27 rfl rfl) <| dl_r (sem_cmp rfl rfl rfl rfl) <| dl_end ?_
        refine dw_cond rfl (fun hc4 => ?_) (fun hc4 => ?_)
        · have hlt : (lim V.natAbs).length < (lim T.natAbs).length := by simp only [decide_eq_true_eq] at hc4; omega
          refine dw_region (by kernel_rfl) <| dl_r (sem_move rfl rfl) <| dl_r (sem_move rfl rfl) <| dl_r (sem_len sl27 rfl rfl) ?_
          refine dl_r (sem_index sl27 rfl rfl (by (first | omega | (simp; omega))) (M_len _) rfl rfl) ?_
          refine dl_r (sem_loadq1 ty134 rfl (M_get (i := ((lim V.natAbs).length)) (by (first | omega | (simp; omega)))) rfl) ?_
          refine dl_r (sem_conv' (r := (lim T.natAbs).getD (((lim V.natAbs).length)) 0) und134 und84 rfl (nwu64 (by (first | omega | (simp; omega))) (by (first | omega | (simp; omega)))) rfl) ?_
          refine dl_r (sem_ari (r := ((lim T.natAbs).getD (((lim V.natAbs).length)) 0) * 1000000000) rfl rfl (ari_u64_mul (by (first | omega | (simp; omega))) (by (first | omega | (simp; omega)))) rfl) ?_
          refine dl_r (sem_assign rfl rfl) <| dl_end ?_
          exact ⟨⟨(lim T.natAbs).getD (lim V.natAbs).length 0 * 1000000000, by rw [hnl] at *; rw [if_pos (by have := hc4; simp only [decide_eq_true_eq] at this; omega)]⟩, sub_of ⟨rfl, rfl, rfl, rfl, rfl, rfl, rfl, rfl, trivial⟩ ⟨rfl, trivial⟩ rfl⟩
        · refine dw_skip ?_
          exact ⟨⟨0, by rw [if_neg (by have := hc4; simp only [decide_eq_false_iff_not] at this; omega)]⟩, sub_of ⟨rfl, rfl, rfl, rfl, rfl, rfl, rfl, rfl, trivial⟩ ⟨rfl, trivial⟩ rfl⟩
      · rintro ⟨H1, hH1⟩
        replace hH1 : H1 = if n < (lim T.natAbs).length then (lim T.natAbs).getD n 0 * 1000000000 else 0 := hH1
        rw [hnl] at gt1
        have hHb : 0 ≤ H1 ∧ H1 ≤ 999999999000000000 := by rw [hH1]; split <;> omega
        show Dw _ _ ⟨173, [(8, .v (.c (.i .u32 s))), (9, .v (.c (cL V))), (10, .v (.c (.i .u64 top))), (11, .v (.c (cL T))), (12, .o 64 ((lim W.natAbs).length) (xs.length + 1)), (13, .v (.c (cL W))), (14, .v (.c (.i .i64 (q : Int)))), (15, .v (.c (.i .u64 H1)))], [(64, 134, zs.map (CellD.i .u32))]⟩ _
        refine dw_seqJ (ι := {H : Int // HInv (lim T.natAbs) n H}) (fun i => ⟨173, [(8, .v (.c (.i .u32 s))), (9, .v (.c (cL V))), (10, .v (.c (.i .u64 top))), (11, .v (.c (cL T))), (12, .o 64 ((lim W.natAbs).length) (xs.length + 1)), (13, .v (.c (cL W))), (14, .v (.c (.i .i64 (q : Int)))), (15, .v (.c (.i .u64 i.1)))], [(64, 134, zs.map (CellD.i .u32))]⟩) ?_ ?_
        · refine dw_seq <| dw_region (by kernel_rfl) <| dl_r (sem_move rfl rfl) <| dl_r (sem_len sl27 rfl rfl) <| dl_r (sem_move rfl rfl) <| dl_r (sem_len sl27 rfl rfl) <| dl_r (sem_cmp rfl rfl rfl rfl) <| dl_end ?_
          refine dw_cond rfl (fun hc5 => ?_) (fun hc5 => ?_)
          · have hlt : n ≤ (lim T.natAbs).length := by simp only [decide_eq_true_eq] at hc5; omega
            have hHT : HInv (lim T.natAbs) n (H1 + (lim T.natAbs).getD (n - 1) 0) := by
              rcases Nat.lt_or_ge n (lim T.natAbs).length with h1 | h1
              · rw [hH1, if_pos h1]; exact top_two (lim_lim _) (by omega) (by omega)
              · rw [hH1, if_neg (by omega), Int.zero_add]; exact top_one (lim_lim _) (by omega) (by omega)
            refine dw_region (by kernel_rfl) <| dl_r (sem_move rfl rfl) <| dl_r (sem_move rfl rfl) <| dl_r (sem_move rfl rfl) <| dl_r (sem_len sl27 rfl rfl) <| dl_r (sem_ari (r := ((n - 1 : Nat) : Int)) rfl rfl (by rw [hnl, show ((n - 1 : Nat) : Int) = (n : Int) - 1 from by omega]; exact ari_i64_sub (by omega) (by omega)) rfl) ?_
            refine dl_r (sem_index sl27 rfl rfl (by (first | omega | (simp; omega))) (M_len _) rfl rfl) ?_
            refine dl_r (sem_loadq1 ty134 rfl (M_get (i := (n - 1)) (by (first | omega | (simp; omega)))) rfl) ?_
            refine dl_r (sem_conv' (r := (lim T.natAbs).getD (n - 1) 0) und134 und84 rfl (nwu64 (by (first | omega | (simp; omega))) (by (first | omega | (simp; omega)))) rfl) ?_
            refine dl_r (sem_ari (r := H1 + ((lim T.natAbs).getD (n - 1) 0)) rfl rfl (ari_u64_add (by (first | omega | (simp; omega))) (by (first | omega | (simp; omega)))) rfl) ?_
            refine dl_r (sem_assign rfl rfl) <| dl_end ?_
            exact ⟨⟨H1 + (lim T.natAbs).getD (n - 1) 0, hHT⟩, sub_of ⟨rfl, rfl, rfl, rfl, rfl, rfl, rfl, rfl, trivial⟩ ⟨rfl, trivial⟩ rfl⟩
          · have hHF : HInv (lim T.natAbs) n H1 := by
              simp only [decide_eq_false_iff_not] at hc5
              rw [hH1, if_neg (by omega)]; exact top_none (lim_lim _) (by omega)
            refine dw_skip ?_
            exact ⟨⟨H1, hHF⟩, sub_of ⟨rfl, rfl, rfl, rfl, rfl, rfl, rfl, rfl, trivial⟩ ⟨rfl, trivial⟩ rfl⟩
        · rintro ⟨H, hH⟩
          replace hH : HInv (lim T.natAbs) n H := hH
          have hHa := hH.h0
          have hHc := hH.h1
          have hHh := hH.h
          rw [val_lim, eT] at hHh
          have hest := est_ge htopv2 htop2 hHh hT0 hV0
          have hq0 : 0 ≤ H / top := Int.ediv_nonneg (by omega) (by omega)
          have hq9 : H / top ≤ H := Int.ediv_le_self _ (by omega)
          show Dw _ _ ⟨173, [(8, .v (.c (.i .u32 s))), (9, .v (.c (cL V))), (10, .v (.c (.i .u64 top))), (11, .v (.c (cL T))), (12, .o 64 ((lim W.natAbs).length) (xs.length + 1)), (13, .v (.c (cL W))), (14, .v (.c (.i .i64 (q : Int)))), (15, .v (.c (.i .u64 H)))], [(64, 134, zs.map (CellD.i .u32))]⟩ _
          refine dw_seq <| dw_region (by kernel_rfl) <| dl_r (sem_move rfl rfl) <| dl_r (sem_move rfl rfl) <| dl_r (sem_quo' (r := H / top) rfl rfl (by omega) (by rw [Int.tdiv_eq_ediv_of_nonneg (by omega)]; exact nwu64 (by omega) (by omega)) rfl) <| dl_r (sem_assign rfl rfl) <| dl_end ?_
          refine dw_seqJ (ι := {g : Int // T / V ≤ g ∧ g ≤ 999999999}) (fun i => ⟨173, [(8, .v (.c (.i .u32 s))), (9, .v (.c (cL V))), (10, .v (.c (.i .u64 top))), (11, .v (.c (cL T))), (12, .o 64 ((lim W.natAbs).length) (xs.length + 1)), (13, .v (.c (cL W))), (14, .v (.c (.i .i64 (q : Int)))), (16, .v (.c (.i .u64 i.1)))], [(64, 134, zs.map (CellD.i .u32))]⟩) ?_ ?_
          · refine dw_seq <| dw_region (by kernel_rfl) <| dl_r (sem_move rfl rfl) <| dl_r (sem_cmp rfl rfl rfl rfl) <| dl_end ?_
            refine dw_cond rfl (fun hc6 => ?_) (fun hc6 => ?_)
            · -- region 22
              refine dw_region (by kernel_rfl) <| dl_r (sem_assign rfl rfl) <| dl_end ?_
              exact ⟨⟨999999999, hquo.2, Int.le_refl _⟩, sub_of ⟨rfl, rfl, rfl, rfl, rfl, rfl, rfl, rfl, trivial⟩ ⟨rfl, trivial⟩ rfl⟩
            · refine dw_skip ?_
              exact ⟨⟨H / top, hest, by have := hc6; simp only [decide_eq_false_iff_not] at this; omega⟩, sub_of ⟨rfl, rfl, rfl, rfl, rfl, rfl, rfl, rfl, trivial⟩ ⟨rfl, trivial⟩ rfl⟩
          · rintro ⟨g, hg⟩
            replace hg : T / V ≤ g ∧ g ≤ 999999999 := hg
            show Dw _ _ ⟨173, [(8, .v (.c (.i .u32 s))), (9, .v (.c (cL V))), (10, .v (.c (.i .u64 top))), (11, .v (.c (cL T))), (12, .o 64 ((lim W.natAbs).length) (xs.length + 1)), (13, .v (.c (cL W))), (14, .v (.c (.i .i64 (q : Int)))), (16, .v (.c (.i .u64 g)))], [(64, 134, zs.map (CellD.i .u32))]⟩ _
            refine dw_seq <| dw_region (by kernel_rfl) <| dl_r (sem_move rfl rfl) <| dl_r (sem_move rfl rfl) <| dl_r (sem_conv' (r := g) und84 und134 rfl (nwu32 (by omega) (by omega)) rfl) <| dl_r (sem_call rfl rfl (hbyV g (by omega) (by omega)) rfl) <| dl_r (sem_assign rfl rfl) <| dl_end ?_
            refine dw_seq <| dw_block <| dw_loop (ι := {g : Int // T / V ≤ g ∧ g ≤ 999999999}) (fun i => ⟨173, [(8, .v (.c (.i .u32 s))), (9, .v (.c (cL V))), (10, .v (.c (.i .u64 top))), (11, .v (.c (cL T))), (12, .o 64 ((lim W.natAbs).length) (xs.length + 1)), (13, .v (.c (cL W))), (14, .v (.c (.i .i64 (q : Int)))), (16, .v (.c (.i .u64 i.1))), (17, .v (.c (cL (V * i.1))))], [(64, 134, zs.map (CellD.i .u32))]⟩) (fun i => i.1.toNat) ⟨g, hg⟩ (sub_of ⟨rfl, rfl, rfl, rfl, rfl, rfl, rfl, rfl, rfl, trivial⟩ ⟨rfl, trivial⟩ rfl) ?_
            rintro ⟨g, hg⟩
            replace hg : T / V ≤ g ∧ g ≤ 999999999 := hg
            have hVg0 : 0 ≤ V * g := Int.mul_nonneg (by omega) (by omega)
            have eVg : ((V * g).natAbs : Int) = V * g := by omega
            have hVgb : V * g ≤ V * 1000000000 := Int.mul_le_mul_of_nonneg_left (by omega) (by omega)
            have szP : Sz 1000000 (V * g) := ⟨by have := pw_le (n := n + 1) (m := 1000000) (by omega); rw [pw_succ] at this; omega, by have := pw_pos 1000000; omega⟩
            have hcmp : Ok Tryz.prog 127 [.c (cL (V * g)), .c (cL T)] [.c (.i .i64 (cmpI (V * g) T))] := by have := rCompare_c szP szT; rw [eVg, eT] at this; exact this
            show Dw _ _ ⟨173, [(8, .v (.c (.i .u32 s))), (9, .v (.c (cL V))), (10, .v (.c (.i .u64 top))), (11, .v (.c (cL T))), (12, .o 64 ((lim W.natAbs).length) (xs.length + 1)), (13, .v (.c (cL W))), (14, .v (.c (.i .i64 (q : Int)))), (16, .v (.c (.i .u64 g))), (17, .v (.c (cL (V * g))))], [(64, 134, zs.map (CellD.i .u32))]⟩ _
            refine dw_seq <| dw_seq <| dw_region (by kernel_rfl) <| dl_r (sem_move rfl rfl) <| dl_r (sem_move rfl rfl) <| dl_r (sem_call rfl rfl (hcmp) rfl) <| dl_r (sem_cmp rfl rfl rfl rfl) <| dl_end ?_
            refine dw_cond rfl (fun hc7 => ?_) (fun hc7 => ?_)
            · have hgt : T < V * g := by simp only [decide_eq_true_eq] at hc7; rcases Int.lt_trichotomy (V * g) T with h1 | h1 | h1 <;> first | (rw [cmp_lt h1] at hc7; omega) | (rw [cmp_eq h1] at hc7; omega) | exact h1
              have hg2 : T / V ≤ g - 1 := by have : T / V < g := (Int.ediv_lt_iff_lt_mul hV0).2 (by rw [Int.mul_comm]; exact hgt); omega
              have hVm : V * (g - 1) = V * g - V := by rw [Int.mul_sub, Int.mul_one]
              have hVm0 : 0 ≤ V * (g - 1) := Int.mul_nonneg (by omega) (by omega)
              have hmin : Ok Tryz.prog 128 [.c (cL (V * g)), .c (cL V)] [.c (cL (V * (g - 1)))] := by have := rMinus_c (b := V) szP (by omega); rw [eVg, eV, ← hVm] at this; exact this
              refine dw_skip <| dw_block <| dw_seq <| dw_region (by kernel_rfl) <| dl_r (sem_move rfl rfl) ?_
              refine dl_r (sem_ari (r := g - 1) rfl rfl (ari_u64_sub (by (first | omega | (simp; omega))) (by (first | omega | (simp; omega)))) rfl) ?_
              refine dl_r (sem_assign rfl rfl) <| dl_end <| dw_region (by kernel_rfl) <| dl_r (sem_move rfl rfl) <| dl_r (sem_move rfl rfl) <| dl_r (sem_call rfl rfl (hmin) rfl) <| dl_r (sem_assign rfl rfl) <| dl_end ?_
              exact ⟨⟨g - 1, hg2, by omega⟩, sub_of ⟨rfl, rfl, rfl, rfl, rfl, rfl, rfl, rfl, rfl, trivial⟩ ⟨rfl, trivial⟩ rfl, by show (g - 1).toNat < g.toNat; omega⟩
            · have hle : V * g ≤ T := by simp only [decide_eq_false_iff_not] at hc7; rcases Int.lt_trichotomy (V * g) T with h1 | h1 | h1 <;> first | omega | (rw [cmp_gt h1] at hc7; omega)
              have hgq : g = T / V := by have : g ≤ T / V := (Int.le_ediv_iff_mul_le hV0).2 (by rw [Int.mul_comm]; exact hle); omega
              have hr0 : 0 ≤ T - V * g := by omega
              have hr1 : T - V * g < V := by have := Int.emod_lt_of_pos T hV0; have h2 := Int.mul_ediv_add_emod T V; rw [← hgq] at h2; omega
              have hmin : Ok Tryz.prog 128 [.c (cL T), .c (cL (V * g))] [.c (cL (T - V * g))] := by have := rMinus_c (b := V * g) szT (by omega); rw [eVg, eT] at this; exact this
              refine dw_exit <| dw_seq <| dw_region (by kernel_rfl) <| dl_r (sem_move rfl rfl) <| dl_r (sem_move rfl rfl) <| dl_r (sem_call rfl rfl (hmin) rfl) <| dl_r (sem_assign rfl rfl) <| dl_end ?_
              refine dw_region (by kernel_rfl) <| dl_r (sem_move rfl rfl) <| dl_r (sem_move rfl rfl) <| dl_r (sem_move rfl rfl) <| dl_r (sem_conv' (r := g) und84 und134 rfl (nwu32 (by omega) (by omega)) rfl) ?_
              refine dl_r (sem_index_o sl27 rfl rfl (by (first | omega | (simp; omega))) rfl) ?_
              refine dl_st (sem_store (us := (zs.set q g).map (CellD.i .u32)) ty134 rfl rfl rfl rfl (by simp; omega) (O_set (by (first | omega | (simp; omega)))) rfl) ?_
              refine dl_end <| dw_region (by kernel_rfl) <| dl_r (sem_move rfl rfl) ?_
              refine dl_r (sem_ari (r := (q : Int) - 1) rfl rfl (ari_i64_sub (by (first | omega | (simp; omega))) (by (first | omega | (simp; omega)))) rfl) ?_
              refine dl_r (sem_assign rfl rfl) <| dl_end ?_
              exact ⟨⟨(q, T - V * g, zs.set q g), hI.step (lim_lim _) (by omega) (by omega) hr0 hr1 (by rw [hT]; show T = g * V + (T - V * g); rw [Int.mul_comm g V]; omega)⟩, sub_of ⟨rfl, rfl, rfl, rfl, rfl, rfl, rfl, trivial⟩ ⟨rfl, trivial⟩ rfl, by show q < q + 1; omega⟩
    · have hj0 : j = 0 := by simp only [decide_eq_false_iff_not] at hc3; omega
      subst hj0
      obtain ⟨d1, d2⟩ := hI.done
      rw [val_lim, eW] at d1 d2
      refine dw_exit <| dw_seq <| dw_region (by kernel_rfl) <| dl_r (sem_assign rfl rfl) <| dl_end <| dw_seq <| dw_region (by kernel_rfl) <| dl_r (sem_move rfl rfl) ?_
      refine dl_r (sem_len sl27 rfl rfl) <| dl_mk (sem_make (n := ((lim R.natAbs).length)) el27 rfl rfl (by omega) (by omega) rfl) rfl <| dl_r (sem_assign rfl rfl) <| dl_end <| dw_seq <| dw_seq <| dw_region (by kernel_rfl) <| dl_r (sem_move rfl rfl) ?_
      refine dl_r (sem_len sl27 rfl rfl) ?_
      refine dl_r (sem_ari (r := (((lim R.natAbs).length : Int)) - 1) rfl rfl (ari_i64_sub (by (first | omega | (simp; omega))) (by (first | omega | (simp; omega)))) rfl) ?_
      refine dl_r (sem_assign rfl rfl) <| dl_end <| dw_block <| dw_loop (ι := {t : Nat × Int × List Int // DInv (lim R.natAbs) s (lim R.natAbs).length t.1 t.2.1 t.2.2}) (fun i => ⟨173, [(8, .v (.c (.i .u32 s))), (11, .v (.c (cL R))), (12, .o 64 ((lim W.natAbs).length) (xs.length + 1)), (18, .v (.c (.i .u64 i.1.2.1))), (19, .o 141 ((lim R.natAbs).length) ((lim R.natAbs).length)), (20, .v (.c (.i .i64 ((i.1.1 : Int) - 1))))], [(64, 134, zs.map (CellD.i .u32)), (141, 134, i.1.2.2.map (CellD.i .u32))]⟩) (fun i => i.1.1) ⟨((lim R.natAbs).length, 0, List.replicate (lim R.natAbs).length 0), DInv.start (by omega) (Nat.le_refl _)⟩ (sub_of ⟨rfl, rfl, rfl, rfl, rfl, rfl, trivial⟩ ⟨rfl, by rw [show (List.replicate (lim R.natAbs).length (CellD.i .u32 0)) = (List.replicate (lim R.natAbs).length 0).map (CellD.i .u32) from by simp]; rfl, trivial⟩ rfl) ?_
      rintro ⟨⟨j2, c, ls⟩, hI2⟩
      replace hI2 : DInv (lim R.natAbs) s (lim R.natAbs).length j2 c ls := hI2
      have k6 := hI2.len
      have k0 := hI2.R0
      have k1 := hI2.RV
      have kle := hI2.le
      show Dw _ _ ⟨173, [(8, .v (.c (.i .u32 s))), (11, .v (.c (cL R))), (12, .o 64 ((lim W.natAbs).length) (xs.length + 1)), (18, .v (.c (.i .u64 c))), (19, .o 141 ((lim R.natAbs).length) ((lim R.natAbs).length)), (20, .v (.c (.i .i64 ((j2 : Int) - 1))))], [(64, 134, zs.map (CellD.i .u32)), (141, 134, ls.map (CellD.i .u32))]⟩ _
      refine dw_seq <| dw_seq <| dw_region (by kernel_rfl) <| dl_r (sem_move rfl rfl) <| dl_r (sem_cmp rfl rfl rfl rfl) <| dl_end ?_
      refine dw_cond rfl (fun hc8 => ?_) (fun hc8 => ?_)
      · obtain ⟨q2, rfl⟩ : ∃ q, j2 = q + 1 := ⟨j2 - 1, by simp only [decide_eq_true_eq] at hc8; omega⟩
        have gd := lim_getD (lim_lim R.natAbs) q2
        have hb0 := quo_bound k0 k1 gd.1 gd.2
        rw [show (lim R.natAbs).getD q2 0 + 1000000000 * c = c * 1000000000 + (lim R.natAbs).getD q2 0 from by omega] at hb0
        have hd20 : 0 ≤ (c * 1000000000 + (lim R.natAbs).getD q2 0) / s := hb0.1
        have hd21 : (c * 1000000000 + (lim R.natAbs).getD q2 0) / s < 1000000000 := by omega
        have hr20 : 0 ≤ (c * 1000000000 + (lim R.natAbs).getD q2 0) % s := Int.emod_nonneg _ (by omega)
        have hr21 : (c * 1000000000 + (lim R.natAbs).getD q2 0) % s < s := Int.emod_lt_of_pos _ (by omega)
        refine Dw.weak (σ' := ⟨173, [(8, .v (.c (.i .u32 s))), (11, .v (.c (cL R))), (12, .o 64 ((lim W.natAbs).length) (xs.length + 1)), (18, .v (.c (.i .u64 c))), (19, .o 141 ((lim R.natAbs).length) ((lim R.natAbs).length)), (20, .v (.c (.i .i64 (q2 : Int))))], [(64, 134, zs.map (CellD.i .u32)), (141, 134, ls.map (CellD.i .u32))]⟩) (sub_of ⟨rfl, rfl, rfl, rfl, rfl, by rw [show (q2 : Int) = ((q2 + 1 : Nat) : Int) - 1 from by omega]; rfl, trivial⟩ ⟨rfl, rfl, trivial⟩ rfl) <| dw_skip <| dw_seq <| dw_block <| dw_seq <| dw_region (by kernel_rfl) <| dl_r (sem_move rfl rfl) ?_
        refine dl_r (sem_ari (r := c * 1000000000) rfl rfl (ari_u64_mul (by (first | omega | (simp; omega))) (by (first | omega | (simp; omega)))) rfl) ?_
        refine dl_r (sem_move rfl rfl) <| dl_r (sem_move rfl rfl) ?_
        refine dl_r (sem_index sl27 rfl rfl (by (first | omega | (simp; omega))) (M_len _) rfl rfl) ?_
        refine dl_r (sem_loadq1 ty134 rfl (M_get (i := q2) (by (first | omega | (simp; omega)))) rfl) ?_
        refine dl_r (sem_conv' (r := (lim R.natAbs).getD q2 0) und134 und84 rfl (nwu64 (by (first | omega | (simp; omega))) (by (first | omega | (simp; omega)))) rfl) ?_
        refine dl_r (sem_ari (r := (c * 1000000000) + ((lim R.natAbs).getD q2 0)) rfl rfl (ari_u64_add (by (first | omega | (simp; omega))) (by (first | omega | (simp; omega)))) rfl) ?_
        refine dl_r (sem_assign rfl rfl) <| dl_end <| dw_seq <| dw_region (by kernel_rfl) <| dl_r (sem_move rfl rfl) <| dl_r (sem_move rfl rfl) <| dl_r (sem_move rfl rfl) <| dl_r (sem_move rfl rfl) ?_
        refine dl_r (sem_conv' (r := s) und134 und84 rfl (nwu64 (by (first | omega | (simp; omega))) (by (first | omega | (simp; omega)))) rfl) ?_
        refine dl_r (sem_quo' (r := (c * 1000000000 + (lim R.natAbs).getD q2 0) / s) rfl rfl (by omega) (by rw [Int.tdiv_eq_ediv_of_nonneg (by omega)]; exact nwu64 (by omega) (by omega)) rfl) <| dl_r (sem_conv' (r := (c * 1000000000 + (lim R.natAbs).getD q2 0) / s) und84 und134 rfl (nwu32 (by omega) (by omega)) rfl) ?_
        refine dl_r (sem_index_o sl27 rfl rfl (by (first | omega | (simp; omega))) rfl) ?_
        refine dl_st (sem_store (us := (ls.set q2 ((c * 1000000000 + (lim R.natAbs).getD q2 0) / s)).map (CellD.i .u32)) ty134 rfl rfl rfl rfl (by simp; omega) (O_set (by (first | omega | (simp; omega)))) rfl) ?_
        refine dl_end <| dw_region (by kernel_rfl) <| dl_r (sem_move rfl rfl) <| dl_r (sem_move rfl rfl) ?_
        refine dl_r (sem_conv' (r := s) und134 und84 rfl (nwu64 (by (first | omega | (simp; omega))) (by (first | omega | (simp; omega)))) rfl) ?_
        refine dl_r (sem_rem' (r := (c * 1000000000 + (lim R.natAbs).getD q2 0) % s) rfl rfl (by omega) (Int.tmod_eq_emod_of_nonneg (by omega)) rfl) <| dl_r (sem_assign rfl rfl) <| dl_end <| dw_region (by kernel_rfl) <| dl_r (sem_move rfl rfl) ?_
        refine dl_r (sem_ari (r := (q2 : Int) - 1) rfl rfl (ari_i64_sub (by (first | omega | (simp; omega))) (by (first | omega | (simp; omega)))) rfl) ?_
        refine dl_r (sem_assign rfl rfl) <| dl_end ?_
        exact ⟨⟨(q2, (c * 1000000000 + (lim R.natAbs).getD q2 0) % s, ls.set q2 ((c * 1000000000 + (lim R.natAbs).getD q2 0) / s)), hI2.step (lim_lim _) hd20 hd21 hr20 hr21 (by rw [Int.mul_comm ((c * 1000000000 + (lim R.natAbs).getD q2 0) / s) s, Int.mul_ediv_add_emod]; omega)⟩, sub_of ⟨rfl, rfl, rfl, rfl, rfl, rfl, trivial⟩ ⟨rfl, rfl, trivial⟩ rfl, by show q2 < q2 + 1; omega⟩
      · have hj0 : j2 = 0 := by simp only [decide_eq_false_iff_not] at hc8; omega
        subst hj0
        obtain ⟨d3, d4⟩ := hI2.done
        rw [val_lim, eR, List.take_of_length_le (by omega)] at d3
        have f1 : val xs / val ys = val (zs.take (lim W.natAbs).length) := by rw [← hq1, d1]
        have f2 : val xs % val ys = val ls := by rw [← d3, ← d2, hq2, Int.mul_ediv_cancel _ (by omega)]
        have hLo : Lim (zs.take (lim W.natAbs).length) := hI.L.take _
        have hLl := hI2.L
        refine dw_exit <| dw_seq ?_
        refine dw_relM (t := 12) (zs := zs) (ys := zs.take ((lim W.natAbs).length)) rfl rfl (by first | omega | (simp; omega) | simp) (by omega) (by omega) (rfl) ?_
        refine dw_relM (t := 19) (zs := ls) (ys := ls) rfl rfl (by first | omega | (simp; omega) | simp) (by omega) (by omega) (List.take_of_length_le (by first | omega | (simp; omega) | simp)) ?_
        refine dw_region (by kernel_rfl) <| dl_r (sem_move rfl rfl) <| dl_r (sem_call rfl rfl (rTrim_ok hLo (by simp <;> omega)) rfl) <| dl_r (sem_move rfl rfl) <| dl_r (sem_call rfl rfl (rTrim_ok hLl (by omega)) rfl) <| dl_r (sem_assign rfl rfl) <| dl_r (sem_assign rfl rfl) <| dl_end ?_
        refine dw_ret ?_
        rw [f1, f2]
        exact ⟨.inr rfl, (resL_tmp rfl (resL_tmp rfl resL_nil))⟩
theorem cL_abs (x : Int) : cL x = cL ((x.natAbs : Nat) : Int) := by unfold cL; rw [show ((x.natAbs : Nat) : Int).natAbs = x.natAbs from by omega]
theorem rParts_c {a b : Int} (ha : Sz 1000 a) (hb : Sz 1000 b) (h0 : b ≠ 0) : Ok Tryz.prog 113 [.c (cL a), .c (cL b)] [.c (cL ((a.natAbs : Int) / b.natAbs)), .c (cL ((a.natAbs : Int) % b.natAbs))] := by
  have := rParts_ok (lim_lim a.natAbs) (lim_lim b.natAbs) (nrm_lim _) (nrm_lim _) (lim_len ha) (lim_len hb) (fun e => by have := lim_eq_nil.1 e; omega)
  rw [val_lim, val_lim] at this
  exact this
theorem sa_same {x y : Int} (h : (decide (x < 0) == decide (y < 0)) = true) : sg (decide (x < 0)) ((((x.natAbs : Int) + y.natAbs).natAbs : Nat) : Int) = x + y := by
  by_cases h1 : x < 0 <;> by_cases h2 : y < 0 <;> simp [h1, h2, sg] at h ⊢ <;> omega
theorem sa_ge {x y : Int} (h : (decide (x < 0) == decide (y < 0)) = false) (hg : y.natAbs ≤ x.natAbs) : sg (decide (x < 0)) ((((x.natAbs : Int) - y.natAbs).natAbs : Nat) : Int) = x + y := by
  by_cases h1 : x < 0 <;> by_cases h2 : y < 0 <;> simp [h1, h2, sg] at h ⊢ <;> omega
theorem sa_lt {x y : Int} (h : (decide (x < 0) == decide (y < 0)) = false) (hg : x.natAbs < y.natAbs) : sg (decide (y < 0)) ((((y.natAbs : Int) - x.natAbs).natAbs : Nat) : Int) = x + y := by
  by_cases h1 : x < 0 <;> by_cases h2 : y < 0 <;> simp [h1, h2, sg] at h ⊢ <;> omega
theorem sa_mul {x y : Int} : sg (!(decide (x < 0) == decide (y < 0))) ((((x.natAbs : Int) * y.natAbs).natAbs : Nat) : Int) = x * y := by
  have h0 : 0 ≤ (x.natAbs : Int) * y.natAbs := Int.mul_nonneg (by omega) (by omega)
  rw [show ((((x.natAbs : Int) * y.natAbs).natAbs : Nat) : Int) = (x.natAbs : Int) * y.natAbs from by omega]
  by_cases h1 : x < 0 <;> by_cases h2 : y < 0 <;> simp only [h1, h2, sg, decide_true, decide_false, Bool.not_true, Bool.not_false, beq_self_eq_true, Bool.false_eq_true, if_true, if_false, show (true == false) = false from rfl, show (false == true) = false from rfl]
  · rw [show (x.natAbs : Int) = -x from by omega, show (y.natAbs : Int) = -y from by omega, Int.neg_mul_neg]
  · rw [show (x.natAbs : Int) = -x from by omega, show (y.natAbs : Int) = y from by omega, Int.neg_mul, Int.neg_neg]
  · rw [show (x.natAbs : Int) = x from by omega, show (y.natAbs : Int) = -y from by omega, Int.mul_neg, Int.neg_neg]
  · rw [show (x.natAbs : Int) = x from by omega, show (y.natAbs : Int) = y from by omega]
theorem sa_not {x : Int} : sg (!decide (x < 0)) ((x.natAbs : Nat) : Int) = -x := by
  by_cases h1 : x < 0 <;> simp [h1, sg] <;> omega
theorem cmpI_ge {a b : Int} (h : decide (cmpI a b ≥ 0) = true) : b ≤ a := by
  simp only [decide_eq_true_eq] at h
  rcases Int.lt_trichotomy a b with h1 | h1 | h1
  · rw [cmp_lt h1] at h; omega
  · omega
  · omega
theorem cmpI_lt {a b : Int} (h : decide (cmpI a b ≥ 0) = false) : a < b := by
  simp only [decide_eq_false_iff_not] at h
  rcases Int.lt_trichotomy a b with h1 | h1 | h1
  · omega
  · rw [cmp_eq h1] at h; omega
  · rw [cmp_gt h1] at h; omega
theorem cmpI_abs_pos {x y : Int} (hx : decide (x < 0) = false) (hy : ¬ (y < 0)) : cmpI x.natAbs y.natAbs = cmpI x y := by
  simp only [decide_eq_false_iff_not] at hx
  rw [show (x.natAbs : Int) = x from by omega, show (y.natAbs : Int) = y from by omega]
theorem cmpI_abs_neg {x y : Int} (hx : decide (x < 0) = true) (hy : y < 0) : cmpI y.natAbs x.natAbs = cmpI x y := by
  simp only [decide_eq_true_eq] at hx
  rw [show (y.natAbs : Int) = -y from by omega, show (x.natAbs : Int) = -x from by omega, cmp_negs]
theorem sq_q0 {x y : Int} : sg (!(decide (x < 0) == decide (y < 0))) (((((x.natAbs : Int) / y.natAbs).natAbs : Nat)) : Int) = q0 x y := by
  have : 0 ≤ (x.natAbs : Int) / y.natAbs := Int.ediv_nonneg (by omega) (by omega)
  unfold q0
  rw [show ((((x.natAbs : Int) / y.natAbs).natAbs : Nat) : Int) = (x.natAbs : Int) / y.natAbs from by omega]
theorem sq_r0 {x y : Int} (h0 : y ≠ 0) : sg (decide (x < 0)) (((((x.natAbs : Int) % y.natAbs).natAbs : Nat)) : Int) = r0 x y := by
  have := (r_bd (x := x) h0).1
  unfold r0
  rw [show ((((x.natAbs : Int) % y.natAbs).natAbs : Nat) : Int) = (x.natAbs : Int) % y.natAbs from by omega]
theorem r0_zero {x y : Int} : (x.natAbs : Int) % y.natAbs = 0 ↔ r0 x y = 0 := by
  unfold r0
  generalize decide (x < 0) = s
  cases s
  · rw [sg_false]
  · rw [sg_true]; omega
theorem r0_sign {x y : Int} (h0 : y ≠ 0) (h : (x.natAbs : Int) % y.natAbs ≠ 0) : (r0 x y < 0 ↔ x < 0) := by
  have := (r_bd (x := x) h0).1
  unfold r0
  by_cases hx : x < 0
  · rw [show decide (x < 0) = true from by simpa using hx, sg_true]; omega
  · rw [show decide (x < 0) = false from by simpa using hx, sg_false]; omega
structure RG (x y a c : Int) : Prop where
  sa : Sz 1000 a
  sc : Sz 1000 c
  a0 : 0 ≤ a
  c0 : 0 ≤ c
  g : Int.gcd a c = Int.gcd x y
theorem RG.start {x y : Int} (hx : Sz 1000 x) (hy : Sz 1000 y) : RG x y (x.natAbs : Int) (y.natAbs : Int) := ⟨hx.of_le (by omega), hy.of_le (by omega), by omega, by omega, rfl⟩
theorem RG.step {x y a c : Int} (h : RG x y a c) (hc : c ≠ 0) : RG x y c ((a.natAbs : Int) % c.natAbs) := by
  have h1 := h.a0
  have h2 := h.c0
  have e1 : (a.natAbs : Int) = a := by omega
  have e2 : (c.natAbs : Int) = c := by omega
  rw [e1, e2]
  have h3 := Int.emod_nonneg a hc
  have h4 := Int.emod_lt_of_pos a (show 0 < c by omega)
  exact ⟨h.sc, h.sc.of_le (by omega), h2, h3, by rw [← h.g, gcd_mod h1 h2]⟩
theorem RG.less {x y a c : Int} (h : RG x y a c) (hc : c ≠ 0) : ((a.natAbs : Int) % c.natAbs).toNat < c.toNat := by
  have := h.c0
  have := r_bd (x := a) hc
  omega
theorem RG.done {x y a c : Int} (h : RG x y a c) (hc : c = 0) : (Int.gcd x y : Int) = sg false ((a.natAbs : Nat) : Int) := by
  rw [← h.g, hc, sg_false]; simp
theorem word_of {a : Int} (h : decide (((lim a.natAbs).length : Int) > 2) = false) : a.natAbs ≤ 18446744073709551615 := by
  simp only [decide_eq_false_iff_not] at h
  have h1 := val_lt (lim_lim a.natAbs)
  rw [val_lim] at h1
  have h2 := pw_le (n := (lim a.natAbs).length) (m := 2) (by omega)
  have h3 : pw 2 = 1000000000000000000 := by decide
  omega
theorem RG.word {x y a c : Int} (h : RG x y a c) (ha : a.natAbs ≤ 18446744073709551615) (hc : c.natAbs ≤ 18446744073709551615) : GInv2 x y (a.natAbs : Int) (c.natAbs : Int) :=
  ⟨by omega, by omega, by omega, by omega, by rw [← h.g]; rfl⟩
theorem GInv2.fin {x y u v : Int} (h : GInv2 x y u v) (hv : v ≤ 0) : (Int.gcd x y : Int) = sg false ((u.natAbs : Nat) : Int) := by
  rw [h.done hv, sg_false, sg_false]; have := h.u0; omega
theorem Sz.small3 {x : Int} (h0 : 0 ≤ x) (h1 : x ≤ 18446744073709551615) : Sz 1000000 x := by
  have h3 : pw 3 = 1000000000000000000000000000 := by decide
  have : Sz 3 x := ⟨by omega, by omega⟩
  exact this.mono (by decide)
theorem nq_sz {x y : Int} (hx : Sz 1000 x) : Sz 1000000 ((x.natAbs : Int) / y.natAbs) := by
  have h1 : (x.natAbs : Int) / (y.natAbs : Int) ≤ x.natAbs := Int.ediv_le_self _ (by omega)
  have h2 : 0 ≤ (x.natAbs : Int) / (y.natAbs : Int) := Int.ediv_nonneg (by omega) (by omega)
  exact (hx.mono (by decide)).of_le (by omega)
theorem nr_sz {x y : Int} (hy : Sz 1000 y) (h0 : y ≠ 0) : Sz 1000000 ((x.natAbs : Int) % y.natAbs) := by
  have := r_bd (x := x) h0
  exact (hy.mono (by decide)).of_le (by omega)
theorem wu64_neg {x : Int} (hn : x < 0) (h0 : -9223372036854775808 ≤ x) : IntKind.u64.wrap x = x + 18446744073709551616 := by unfold IntKind.wrap; simp [IntKind.bits, IntKind.signed]; omega
theorem wu64_neg2 {x : Int} (hn : x < 0) (h0 : -9223372036854775808 ≤ x) : IntKind.u64.wrap (0 - (x + 18446744073709551616)) = -x := by unfold IntKind.wrap; simp [IntKind.bits, IntKind.signed]; omega
theorem sem_neg' {P : Program} {ops : Array Oper} {T : TF} {B : BF} {dst : Option Nat} {xt : TypeId} {x : Operand} {ty : TypeId} {pos : String} {af : Array Edge} {g : Option (Nat × Bool)} {k : IntKind} {m r : Int}
    (hx : opd T x = some (.v (.c (.i k m)))) (hr : k.wrap (0 - m) = r) (hg : gd ops ⟨dst, .unOp .neg xt x, ty, pos, af, g⟩ T = some true) :
    Sem P ops ⟨dst, .unOp .neg xt x, ty, pos, af, g⟩ T B (.r (.v (.c (.i k r)))) := by subst hr; exact sem_neg hx hg
theorem rSigned_q0 {x y : Int} (h : Sz 1000000 ((x.natAbs : Int) / y.natAbs)) : Ok Tryz.prog 74 [.c (.b (!(decide (x < 0) == decide (y < 0)))), .c (cL ((x.natAbs : Int) / y.natAbs))] [dI (q0 x y)] := by
  rw [← sq_q0]; exact rSigned_c h
theorem rSigned_r0 {x y : Int} (h0 : y ≠ 0) (h : Sz 1000000 ((x.natAbs : Int) % y.natAbs)) : Ok Tryz.prog 74 [.c (.b (decide (x < 0))), .c (cL ((x.natAbs : Int) % y.natAbs))] [dI (r0 x y)] := by
  rw [← sq_r0 h0]; exact rSigned_c h
theorem same_abs {x y : Int} (h : (decide (x < 0) == decide (y < 0)) = true) : (cmpI x.natAbs y.natAbs == 0) = (x == y) := by
  have hs : x < 0 ↔ y < 0 := by simpa using h
  rcases Int.lt_trichotomy (x.natAbs : Int) y.natAbs with h1 | h1 | h1
  · rw [cmp_lt h1, show (x == y) = false from by simp only [beq_eq_false_iff_ne]; omega]; rfl
  · rw [cmp_eq h1, show (x == y) = true from by simp only [beq_iff_eq]; omega]; rfl
  · rw [cmp_gt h1, show (x == y) = false from by simp only [beq_eq_false_iff_ne]; omega]; rfl
def isq : Nat → Nat
  | 0 => 0
  | n + 1 => if (isq n + 1) * (isq n + 1) ≤ n + 1 then isq n + 1 else isq n
theorem isq_spec (n : Nat) : isq n * isq n ≤ n ∧ n < (isq n + 1) * (isq n + 1) := by
  induction n with
  | zero => exact ⟨by decide, by decide⟩
  | succ n ih =>
    obtain ⟨h1, h2⟩ := ih
    unfold isq
    split
    · rename_i h
      refine ⟨h, ?_⟩
      have : (isq n + 1) * (isq n + 1) < (isq n + 1 + 1) * (isq n + 1 + 1) := Nat.mul_lt_mul_of_lt_of_le (by omega) (by omega) (by omega)
      omega
    · exact ⟨by omega, by omega⟩
theorem sq_le {a b : Int} (ha : 0 ≤ a) (h : a ≤ b) : a * a ≤ b * b := Int.mul_le_mul h h ha (by omega)
theorem sq_lt_imp {a b : Int} (hb : 0 ≤ b) (h : a * a < b * b) : a < b := by
  by_cases h1 : a < b
  · exact h1
  · have := sq_le hb (show b ≤ a by omega); omega
def isqI (x : Int) : Int := if x < 0 then 0 else (isq x.toNat : Nat)
theorem isqI_nonneg (x : Int) : 0 ≤ isqI x := by unfold isqI; split <;> omega
theorem isqI_le {x : Int} (h : 0 ≤ x) : isqI x * isqI x ≤ x := by
  unfold isqI; rw [if_neg (by omega)]
  have := (isq_spec x.toNat).1
  rw [← Int.natCast_mul]; omega
theorem isqI_lt {x : Int} (h : 0 ≤ x) : x < (isqI x + 1) * (isqI x + 1) := by
  unfold isqI; rw [if_neg (by omega)]
  have := (isq_spec x.toNat).2
  rw [show ((isq x.toNat : Nat) : Int) + 1 = ((isq x.toNat + 1 : Nat) : Int) from by omega, ← Int.natCast_mul]; omega
theorem isqI_unique {x r : Int} (h : 0 ≤ x) (hr : 0 ≤ r) (h1 : r * r ≤ x) (h2 : x < (r + 1) * (r + 1)) : isqI x = r := by
  have a1 := isqI_le h
  have a2 := isqI_lt h
  have a0 := isqI_nonneg x
  have := sq_lt_imp (a := r) (b := isqI x + 1) (by omega) (by omega)
  have := sq_lt_imp (a := isqI x) (b := r + 1) (by omega) (by omega)
  omega
theorem isqI_zero : isqI 0 = 0 := by decide
theorem isqI_neg {x : Int} (h : x < 0) : isqI x = 0 := by unfold isqI; rw [if_pos h]
theorem isqI_abs {x : Int} : (isqI x).natAbs ≤ x.natAbs := by
  have h0 := isqI_nonneg x
  by_cases h : x < 0
  · rw [isqI_neg h]; omega
  · have h1 := isqI_le (show 0 ≤ x by omega)
    by_cases h2 : isqI x < 1
    · omega
    · have := Int.mul_le_mul_of_nonneg_left (show 1 ≤ isqI x by omega) h0
      omega
theorem four_mul_le (a b : Int) : 4 * (a * b) ≤ (a + b) * (a + b) := by
  have h : 0 ≤ (a - b) * (a - b) := by
    rcases Int.le_total 0 (a - b) with h | h
    · exact Int.mul_nonneg h h
    · exact Int.mul_nonneg_of_nonpos_of_nonpos h h
  have e1 : (a - b) * (a - b) = a * a - 2 * (a * b) + b * b := by rw [Int.sub_mul, Int.mul_sub, Int.mul_sub, Int.mul_comm b a]; omega
  have e2 : (a + b) * (a + b) = a * a + 2 * (a * b) + b * b := by rw [Int.add_mul, Int.mul_add, Int.mul_add, Int.mul_comm b a]; omega
  omega
theorem newton {x r : Int} (hx : 0 < x) (hr : 0 < r) (_hup : x < (r + 1) * (r + 1)) :
    0 ≤ (r + x.fdiv r).fdiv 2 ∧ x < ((r + x.fdiv r).fdiv 2 + 1) * ((r + x.fdiv r).fdiv 2 + 1) ∧ 0 < (r + x.fdiv r).fdiv 2 ∧ 0 ≤ x.fdiv r ∧ x.fdiv r ≤ x := by
  rw [Int.fdiv_eq_ediv_of_nonneg _ (by omega : (0 : Int) ≤ r), Int.fdiv_eq_ediv_of_nonneg _ (by omega : (0 : Int) ≤ 2)]
  have hq0 : 0 ≤ x / r := Int.ediv_nonneg (by omega) (by omega)
  have hq1 : x / r ≤ x := Int.ediv_le_self _ (by omega)
  have hq2 : x < r * (x / r + 1) := by have h1 := Int.mul_ediv_add_emod x r; have h2 := Int.emod_lt_of_pos x hr; rw [Int.mul_add]; omega
  obtain ⟨q, hq⟩ : ∃ q, x / r = q := ⟨_, rfl⟩
  rw [hq] at hq0 hq1 hq2 ⊢
  obtain ⟨n, hn⟩ : ∃ n, (r + q) / 2 = n := ⟨_, rfl⟩
  rw [hn]
  have hn0 : 0 ≤ n := by omega
  have h4 := four_mul_le r (q + 1)
  have h5 : (r + (q + 1)) * (r + (q + 1)) ≤ (2 * (n + 1)) * (2 * (n + 1)) := sq_le (by omega) (by omega)
  have h6 : (2 * (n + 1)) * (2 * (n + 1)) = 4 * ((n + 1) * (n + 1)) := by rw [Int.mul_assoc, Int.mul_left_comm (n + 1) 2, ← Int.mul_assoc]; omega
  have hu : x < (n + 1) * (n + 1) := by omega
  refine ⟨hn0, hu, ?_, hq0, hq1⟩
  by_cases h : 0 < n
  · exact h
  · rw [show n = 0 from by omega] at hu; omega
theorem newton_stop {x r : Int} (_hx : 0 < x) (hr : 0 < r) (h : r ≤ (r + x.fdiv r).fdiv 2) : r * r ≤ x := by
  rw [Int.fdiv_eq_ediv_of_nonneg _ (by omega : (0 : Int) ≤ r), Int.fdiv_eq_ediv_of_nonneg _ (by omega : (0 : Int) ≤ 2)] at h
  have h1 := Int.mul_ediv_add_emod x r
  have h2 := Int.emod_nonneg x (show r ≠ 0 by omega)
  have h3 : r ≤ x / r := by omega
  have := Int.mul_le_mul_of_nonneg_left h3 (show 0 ≤ r by omega)
  omega
structure NInv (K : Nat) (x r : Int) : Prop where
  r0 : 0 < r
  sz : Sz K r
  up : x < (r + 1) * (r + 1)
theorem NInv.sum {K : Nat} {x r : Int} (h : NInv K x r) (hs : Sz K x) (hx : 0 < x) : Sz K (x.fdiv r) ∧ Sz (K + 1) (r + x.fdiv r) ∧ Sz (K + 1) ((r + x.fdiv r).fdiv 2) := by
  obtain ⟨h1, h2, h3, h4, h5⟩ := newton hx h.r0 h.up
  have h6 : Sz K (x.fdiv r) := hs.of_le (by omega)
  have h7 := h.sz.add h6
  refine ⟨h6, h7, h7.of_le ?_⟩
  have h8 := h.r0
  rw [Int.fdiv_eq_ediv_of_nonneg _ (by omega : (0 : Int) ≤ 2)] at *
  omega
theorem NInv.next {K : Nat} {x r : Int} (h : NInv K x r) (hx : 0 < x) (hl : (r + x.fdiv r).fdiv 2 < r) : NInv K x ((r + x.fdiv r).fdiv 2) := by
  obtain ⟨h1, h2, h3, h4, h5⟩ := newton hx h.r0 h.up
  exact ⟨h3, h.sz.of_le (by omega), h2⟩
theorem NInv.done {K : Nat} {x r : Int} (h : NInv K x r) (hx : 0 < x) (hl : r ≤ (r + x.fdiv r).fdiv 2) : isqI x = r :=
  isqI_unique (by omega) (by have := h.r0; omega) (newton_stop hx h.r0 hl) h.up
theorem dI_zero : dI 0 = .a ([.b false] ++ [.s 0 []]) := by unfold dI cI; rw [show cL 0 = .s 0 [] from by unfold cL; rw [show (0 : Int).natAbs = 0 from rfl, lim_zero]; rfl]; rfl
theorem cI_nn {v : Int} (h : 0 ≤ v) : ([CellD.b false] ++ [cL v]) = cI v := by unfold cI; rw [show decide (v < 0) = false from by simp; omega]; rfl
theorem pw_up {x : Int} {n k : Nat} (_h0 : 0 ≤ x) (h : x < pw n) (hk : n ≤ 2 * k) : x < (pw k + 1) * (pw k + 1) := by
  have h1 := pw_le (n := n) (m := 2 * k) hk
  have h2 : pw (2 * k) = pw k * pw k := by rw [show 2 * k = k + k from by omega, pw_add]
  have h3 := pw_pos k
  have h4 : (pw k + 1) * (pw k + 1) = pw k * pw k + 2 * pw k + 1 := by rw [Int.add_mul, Int.mul_add]; omega
  omega
theorem NInv.start {K k : Nat} {x : Int} (h0 : 0 < x) (_hs : Sz K x) (hk : ((lim x.natAbs).length + 1) / 2 = k) (hK : k < K) : NInv K x (pw k) := by
  have hv := val_lt (lim_lim x.natAbs)
  rw [val_lim] at hv
  refine ⟨pw_pos k, ?_, pw_up (n := (lim x.natAbs).length) (by omega) (by omega) (by omega)⟩
  have h1 : Sz (k + 1) (pw k) := ⟨by have := pw_pos k; rw [pw_succ]; omega, by have := pw_pos k; have := pw_pos (k + 1); omega⟩
  exact h1.mono (by omega)
theorem val_pw (n : Nat) : val (List.replicate n 0 ++ [1]) = pw n := by
  induction n with
  | zero => decide
  | succ n ih => rw [List.replicate_succ, List.cons_append, val_cons, ih, pw_succ]; omega
theorem cL_pw (n : Nat) : cL (pw n) = cM (List.replicate n 0 ++ [1]) := by
  have hL : Lim (List.replicate n 0 ++ [1]) := (Lim.zeros n).append (Lim.nil.cons (by omega) (by omega))
  have hN : Nrm (List.replicate n 0 ++ [1]) := by
    induction n with
    | zero => exact nrm_snoc [] 1 (by decide)
    | succ n ih => exact nrm_cons (ih ((Lim.zeros n).append (Lim.nil.cons (by omega) (by omega)))) (by simp)
  rw [cL_cM, ← val_pw]
  have := lim_of hN hL
  rw [show (val (List.replicate n 0 ++ [1])).natAbs = (val (List.replicate n 0 ++ [1])).toNat from by have := val_nonneg hL; omega, ← this]
variable {P : Program} {ops : Array Oper} {T : TF} {B : BF}
theorem sem_append_pw {dst : Option Nat} {x y : Operand} {U e : TypeId} {ty : TypeId} {pos : String} {af : Array Edge} {g : Option (Nat × Bool)} {k n : Nat} {z : CellD}
    (hU : elB P U = some (e, 1, 4, [z])) (hx : opd T x = some (.o k n n)) (hy : opd T y = some (.v (.c (cM [1])))) (hb : B k = some (e, List.replicate n (CellD.i .u32 0))) (hl : n ≤ 10000000)
    (hg : gd ops ⟨dst, .call ⟨.builtin .append, #[x, y], #[U, U]⟩, ty, pos, af, g⟩ T = some true) :
    Sem P ops ⟨dst, .call ⟨.builtin .append, #[x, y], #[U, U]⟩, ty, pos, af, g⟩ T B (.c k (.v (.c (cL (pw n))))) := by
  rw [cL_pw]
  have := sem_append_c (us := (List.replicate n (0 : Int) ++ [1]).map (CellD.i .u32)) hU hx hy hb (by simp) (M_len _) (by omega) (by simp) (by omega) (by simp; omega) (by simp; unfold maxLen; omega) (by simp) hg
  rw [show n + [(1 : Int)].length = (List.replicate n (0 : Int) ++ [1]).length from by simp] at this
  exact this
theorem cmpI_eq0 {a b : Int} : cmpI a b = 0 ↔ a = b := by
  rcases Int.lt_trichotomy a b with h | h | h
  · rw [cmp_lt h]; constructor <;> intro h2 <;> omega
  · rw [cmp_eq h]; constructor <;> intro h2 <;> omega
  · rw [cmp_gt h]; constructor <;> intro h2 <;> omega
theorem cmpI_lt0 {a b : Int} : cmpI a b < 0 ↔ a < b := by
  rcases Int.lt_trichotomy a b with h | h | h
  · rw [cmp_lt h]; constructor <;> intro h2 <;> omega
  · rw [cmp_eq h]; constructor <;> intro h2 <;> omega
  · rw [cmp_gt h]; constructor <;> intro h2 <;> omega
theorem cmpI_gt0 {a b : Int} : 0 < cmpI a b ↔ b < a := by
  rcases Int.lt_trichotomy a b with h | h | h
  · rw [cmp_lt h]; constructor <;> intro h2 <;> omega
  · rw [cmp_eq h]; constructor <;> intro h2 <;> omega
  · rw [cmp_gt h]; constructor <;> intro h2 <;> omega
theorem t_lt {a b : Int} (h : decide (cmpI a b < 0) = true) : a < b := cmpI_lt0.1 (by simpa using h)
theorem f_lt {a b : Int} (h : decide (cmpI a b < 0) = false) : ¬ a < b := fun e => by have := cmpI_lt0.2 e; simp at h; omega
theorem t_eq {a b : Int} (h : (cmpI a b == 0) = true) : a = b := cmpI_eq0.1 (by simpa using h)
theorem f_eq {a b : Int} (h : (cmpI a b == 0) = false) : a ≠ b := fun e => by have := cmpI_eq0.2 e; simp at h; omega
theorem t_ne {a b : Int} (h : (cmpI a b != 0) = true) : a ≠ b := fun e => by have := cmpI_eq0.2 e; simp at h; omega
theorem f_ne {a b : Int} (h : (cmpI a b != 0) = false) : a = b := cmpI_eq0.1 (by simpa using h)
theorem t_gt {a b : Int} (h : decide (cmpI a b > 0) = true) : b < a := cmpI_gt0.1 (by simpa using h)
theorem f_gt {a b : Int} (h : decide (cmpI a b > 0) = false) : ¬ b < a := fun e => by have := cmpI_gt0.2 e; simp at h; omega
structure Rz (k : Nat) (x : Rat) : Prop where
  n : Sz k x.num
  d : Sz k (x.den : Int)
theorem Sz.addm {k l : Nat} {x y : Int} (h : Sz k x) (h' : Sz l y) : Sz (max k l + 1) (x + y) := (h.mono (Nat.le_max_left k l)).add (h'.mono (Nat.le_max_right k l))
theorem Sz.gcd {l : Nat} {x y : Int} (h' : Sz l y) (h0 : y ≠ 0) : Sz l ((Int.gcd x y : Nat) : Int) := h'.of_le (by
  have : Int.gcd x y ≤ y.natAbs := Nat.le_of_dvd (by omega) (Nat.gcd_dvd_right ..)
  rw [Int.natAbs_natCast]; exact this)
theorem Rz.mono {k l : Nat} {x : Rat} (h : Rz k x) (hl : k ≤ l) : Rz l x := ⟨h.n.mono hl, h.d.mono hl⟩
theorem den_pos (x : Rat) : (0 : Int) < (x.den : Int) := by have := x.den_pos; omega
theorem den_ne (x : Rat) : (x.den : Int) ≠ 0 := by have := den_pos x; omega
theorem ediv_abs_le (a b : Int) : (a / b).natAbs ≤ a.natAbs := Int.natAbs_ediv_le_natAbs a b
theorem Rz.of {k : Nat} {n d : Int} (hn : Sz k n) (hd : Sz k d) (h0 : d ≠ 0) : Rz k (Rat.divInt n d) := by
  refine ⟨hn.of_le ?_, hd.of_le ?_⟩
  · rw [Rat.num_divInt]
    refine Nat.le_trans (ediv_abs_le _ _) ?_
    rw [Int.natAbs_mul, Int.natAbs_sign_of_ne_zero h0]; omega
  · rw [Rat.den_divInt, if_neg h0]
    rw [Int.natAbs_natCast]
    exact Nat.div_le_self d.natAbs (Int.gcd d n)
theorem radd {x y : Rat} : Rat.divInt (x.num * (y.den : Int) + y.num * (x.den : Int)) ((x.den : Int) * (y.den : Int)) = x + y := by
  rw [Rat.add_def', ← Int.natCast_mul, Rat.divInt_ofNat]
theorem radd1 {x y : Rat} (h : (x.den : Int) = (y.den : Int)) : Rat.divInt (x.num + y.num) (x.den : Int) = x + y := by
  rw [← radd, ← h, ← Int.add_mul, Rat.divInt_mul_right (den_ne x)]
theorem rmul {x y : Rat} : Rat.divInt (x.num * y.num) ((x.den : Int) * (y.den : Int)) = x * y := by
  rw [Rat.mul_def', ← Int.natCast_mul, Rat.divInt_ofNat]
theorem rdiv {x y : Rat} : Rat.divInt (x.num * (y.den : Int)) ((x.den : Int) * y.num) = x / y := by
  rw [Rat.div_def, Rat.inv_def, ← Rat.divInt_mul_divInt, Rat.num_divInt_den]
theorem Rz.add {k l : Nat} {x y : Rat} (hx : Rz k x) (hy : Rz l y) : Rz (k + l + 1) (x + y) := by
  rw [← radd]
  exact Rz.of (((hx.n.mul hy.d).addm (hy.n.mul hx.d)).mono (by omega)) ((hx.d.mul hy.d).mono (by omega)) (by have := Int.mul_pos (den_pos x) (den_pos y); omega)
theorem Rz.mul {k l : Nat} {x y : Rat} (hx : Rz k x) (hy : Rz l y) : Rz (k + l) (x * y) := by
  rw [← rmul]
  exact Rz.of (hx.n.mul hy.n) (hx.d.mul hy.d) (by have := Int.mul_pos (den_pos x) (den_pos y); omega)
theorem Rz.neg {k : Nat} {x : Rat} (hx : Rz k x) : Rz k (-x) := ⟨by rw [Rat.neg_num]; exact hx.n.neg, by rw [Rat.neg_den]; exact hx.d⟩
theorem Rz.sub {k l : Nat} {x y : Rat} (hx : Rz k x) (hy : Rz l y) : Rz (k + l + 1) (x - y) := by rw [Rat.sub_eq_add_neg]; exact hx.add hy.neg
theorem Sz.one {k : Nat} (hk : 1 ≤ k) : Sz k 1 := by
  have := pw_le (n := 1) (m := k) hk
  have h1 : pw 1 = 1000000000 := by decide
  exact ⟨by omega, by omega⟩
theorem Rz.int {k : Nat} {n : Int} (h : Sz k n) (hk : 1 ≤ k) : Rz k (n : Rat) := ⟨by rw [Rat.num_intCast]; exact h, by rw [Rat.den_intCast]; exact Sz.one hk⟩
theorem dR_red {n d : Int} (hd : 0 < d) : dR (Rat.divInt n d) = dQ (n.fdiv ((Int.gcd n d : Nat) : Int)) (d.fdiv ((Int.gcd n d : Nat) : Int)) := by
  unfold dR cR
  rw [Rat.num_divInt, Rat.den_divInt, if_neg (by omega), Int.sign_eq_one_of_pos hd, Int.one_mul, Int.gcd_comm d n, Int.fdiv_eq_ediv_of_nonneg _ (by omega), Int.fdiv_eq_ediv_of_nonneg _ (by omega)]
  rw [show ((d.natAbs / Int.gcd n d : Nat) : Int) = d / ((Int.gcd n d : Nat) : Int) from by rw [Int.natCast_ediv]; rw [show ((d.natAbs : Nat) : Int) = d from by omega]]
  rfl
theorem dR_red1 {n d : Int} (hd : 0 < d) (hg : ((Int.gcd n d : Nat) : Int) = 1) : dR (Rat.divInt n d) = dQ n d := by
  rw [dR_red hd, hg, Int.fdiv_one, Int.fdiv_one]
theorem dR_neg {n d : Int} : dR (Rat.divInt n d) = dR (Rat.divInt (-n) (-d)) := by rw [Rat.neg_divInt_neg]
theorem gcd_ne {n d : Int} (h : d ≠ 0) : ((Int.gcd n d : Nat) : Int) ≠ 0 := by
  have : Int.gcd n d ≠ 0 := fun e => h (Int.gcd_eq_zero_iff.1 e).2
  omega
theorem cmp_rat {x y : Rat} : cmpI (x.num * (y.den : Int)) (y.num * (x.den : Int)) = if x < y then -1 else if y < x then 1 else 0 := by
  unfold cmpI
  simp only [Rat.lt_iff]
def cmpR (x y : Rat) : Int := if x < y then -1 else if y < x then 1 else 0
theorem cmpR_num {x : Rat} : cmpI x.num 0 = cmpR x 0 := by
  unfold cmpR
  rw [← cmp_rat]
  simp
theorem dR_eq {x : Rat} {n d : Int} (h1 : x.num = n) (h2 : (x.den : Int) = d) : dR x = dQ n d := by unfold dR cR; rw [h1, h2]; rfl
theorem dR_int {n : Int} : dR (n : Rat) = dQ n 1 := dR_eq (Rat.num_intCast n) (by rw [Rat.den_intCast]; rfl)
def sqI (x : Int) : Bool := isqI x * isqI x == x
def sqR (x : Rat) : Bool := sqI x.num && sqI (x.den : Int)
theorem sqI_neg {x : Int} (h : x < 0) : sqI x = false := by unfold sqI; rw [isqI_neg h]; simp; omega
theorem mul_ne {a b : Int} (ha : a ≠ 0) (hb : b ≠ 0) : a * b ≠ 0 := fun e => by rcases Int.mul_eq_zero.1 e with h | h <;> contradiction
theorem num_ne {x : Rat} (h : x ≠ 0) : x.num ≠ 0 := fun e => h (Rat.num_eq_zero.1 e)
theorem Sz.isq {k : Nat} {x : Int} (h : Sz k x) : Sz k (isqI x) := h.of_le isqI_abs
theorem cmpR_t0 {x : Rat} (h : (cmpR x 0 == 0) = true) : x = 0 := by rw [← cmpR_num] at h; exact Rat.num_eq_zero.1 (t_eq h)
theorem cmpR_eq0 {x y : Rat} : cmpR x y = 0 ↔ x = y := by
  unfold cmpR
  rw [← cmp_rat, cmpI_eq0, Rat.eq_iff_mul_eq_mul]
theorem cmpR_lt0 {x y : Rat} : cmpR x y < 0 ↔ x < y := by
  unfold cmpR
  rw [← cmp_rat, cmpI_lt0, Rat.lt_iff]
theorem cmpR_num0 {x : Rat} : cmpR x 0 = cmpI x.num 0 := cmpR_num.symm
theorem cmpR_signs {x y : Rat} (h : (cmpI (cmpR x 0) (cmpR y 0) != 0) = true) : cmpI (cmpR x 0) (cmpR y 0) = cmpR x y := by
  have h1 := t_ne h
  rw [cmpR_num0, cmpR_num0] at *
  have px := den_pos x
  have py := den_pos y
  have e1 : ∀ {a b : Int}, a < 0 → 0 < b → a * b < 0 := fun ha hb => Int.mul_neg_of_neg_of_pos ha hb
  have hr : cmpR x y = cmpI (x.num * (y.den : Int)) (y.num * (x.den : Int)) := by unfold cmpR; rw [← cmp_rat]
  rw [hr]
  rcases Int.lt_trichotomy x.num 0 with hx | hx | hx <;> rcases Int.lt_trichotomy y.num 0 with hy | hy | hy
  · rw [cmp_lt hx, cmp_lt hy] at h1; exact absurd rfl h1
  · rw [cmp_lt hx, cmp_eq hy, cmp_lt (a := -1) (by decide), cmp_lt]
    rw [hy, Int.zero_mul]; exact e1 hx py
  · rw [cmp_lt hx, cmp_gt hy, cmp_lt (a := -1) (by decide), cmp_lt]
    have := e1 hx py
    have := Int.mul_pos hy px
    omega
  · rw [cmp_eq hx, cmp_lt hy, cmp_gt (a := 0) (by decide), cmp_gt]
    rw [hx, Int.zero_mul]; exact e1 hy px
  · rw [cmp_eq hx, cmp_eq hy] at h1; exact absurd rfl h1
  · rw [cmp_eq hx, cmp_gt hy, cmp_lt (a := 0) (by decide), cmp_lt]
    rw [hx, Int.zero_mul]; exact Int.mul_pos hy px
  · rw [cmp_gt hx, cmp_lt hy, cmp_gt (a := 1) (by decide), cmp_gt]
    have := e1 hy px
    have := Int.mul_pos hx py
    omega
  · rw [cmp_gt hx, cmp_eq hy, cmp_gt (a := 1) (by decide), cmp_gt]
    rw [hy, Int.zero_mul]; exact Int.mul_pos hx py
  · rw [cmp_gt hx, cmp_gt hy] at h1; exact absurd rfl h1
theorem cmpR_mul {x y : Rat} : cmpR x y = cmpI (x.num * (y.den : Int)) (y.num * (x.den : Int)) := by unfold cmpR; rw [← cmp_rat]
theorem e7 {x : Int} (h : ((if x < 0 then (7 : Int) else 0) == 0) = false) : x < 0 := by
  by_cases hx : x < 0
  · exact hx
  · rw [if_neg hx] at h; cases h
theorem sqI_cmp {x : Int} : sqI x = (cmpI (isqI x * isqI x) x == 0) := by
  unfold sqI
  rcases Int.lt_trichotomy (isqI x * isqI x) x with h | h | h
  · rw [cmp_lt h]; simp; omega
  · rw [cmp_eq h]; simp; omega
  · rw [cmp_gt h]; simp; omega
theorem sqR_t {x : Rat} (h : sqI x.num = true) (h2 : sqI (x.den : Int) = true) : sqR x = true := by unfold sqR; rw [h, h2]; rfl
theorem sqR_f1 {x : Rat} (h : sqI x.num = false) : sqR x = false := by unfold sqR; rw [h]; rfl
theorem sqR_f2 {x : Rat} (h : sqI (x.den : Int) = false) : sqR x = false := by unfold sqR; rw [h]; cases sqI x.num <;> rfl
theorem dQ_zero : dQ 0 0 = .a (([.b false] ++ [.s 0 []]) ++ ([.b false] ++ [.s 0 []])) := by
  have h : cI 0 = [.b false] ++ [.s 0 []] := by
    have := dI_zero
    unfold dI at this
    injection this
  unfold dQ cQ
  rw [h]
theorem Sz.fdiv {k : Nat} {x y : Int} (h : Sz k x) : Sz k (x.fdiv y) := h.of_le (by
  have h0 : ∀ a b : Nat, a / b ≤ a := fun a b => Nat.div_le_self a b
  rcases Int.lt_trichotomy y 0 with hy | hy | hy
  · rw [← Int.neg_fdiv_neg, Int.fdiv_eq_ediv_of_nonneg _ (by omega)]
    have h2 : (-x / -y).natAbs ≤ (-x).natAbs := ediv_abs_le _ _
    omega
  · subst hy; simp
  · rw [Int.fdiv_eq_ediv_of_nonneg _ (by omega)]
    exact ediv_abs_le x y)
section
variable {P : Program} {ops : Array Oper} {T : TF} {B : BF}
theorem sem_max {dst : Option Nat} {x y : Operand} {t1 t2 : TypeId} {ty : TypeId} {pos : String} {af : Array Edge} {g : Option (Nat × Bool)} {k : IntKind} {m n : Int}
    (hx : opd T x = some (.v (.c (.i k m)))) (hy : opd T y = some (.v (.c (.i k n)))) (hg : gd ops ⟨dst, .call ⟨.builtin .max, #[x, y], #[t1, t2]⟩, ty, pos, af, g⟩ T = some true) :
    Sem P ops ⟨dst, .call ⟨.builtin .max, #[x, y], #[t1, t2]⟩, ty, pos, af, g⟩ T B (.r (.v (.c (.i k (max m n))))) :=
  sem_pure hg (nop rfl) (fun V β a w hs => by
    have e1 : a.eval x = .int k m := RdC.int_eq (opd_reads hs (x := x) (by simp [Op.operands, Call.operands]) hx)
    have e2 : a.eval y = .int k n := RdC.int_eq (opd_reads hs (x := y) (by simp [Op.operands, Call.operands]) hy)
    refine ⟨.int k (max m n), ?_, .i _ _⟩
    simp [execOp, resolve, invoke, builtin, Builtin.max_, Builtin.max2, e1, e2]
    split <;> omega)
theorem sem_min {dst : Option Nat} {x y : Operand} {t1 t2 : TypeId} {ty : TypeId} {pos : String} {af : Array Edge} {g : Option (Nat × Bool)} {k : IntKind} {m n : Int}
    (hx : opd T x = some (.v (.c (.i k m)))) (hy : opd T y = some (.v (.c (.i k n)))) (hg : gd ops ⟨dst, .call ⟨.builtin .min, #[x, y], #[t1, t2]⟩, ty, pos, af, g⟩ T = some true) :
    Sem P ops ⟨dst, .call ⟨.builtin .min, #[x, y], #[t1, t2]⟩, ty, pos, af, g⟩ T B (.r (.v (.c (.i k (min m n))))) :=
  sem_pure hg (nop rfl) (fun V β a w hs => by
    have e1 : a.eval x = .int k m := RdC.int_eq (opd_reads hs (x := x) (by simp [Op.operands, Call.operands]) hx)
    have e2 : a.eval y = .int k n := RdC.int_eq (opd_reads hs (x := y) (by simp [Op.operands, Call.operands]) hy)
    refine ⟨.int k (min m n), ?_, .i _ _⟩
    simp [execOp, resolve, invoke, builtin, Builtin.min_, Builtin.min2, e1, e2]
    split <;> omega)
end
theorem sem_castb {P : Program} {ops : Array Oper} {o : Oper} {T : TF} {B : BF} {b c : Bool} (h : Sem P ops o T B (.r (.v (.c (.b b))))) (e : b = c) : Sem P ops o T B (.r (.v (.c (.b c)))) := by subst e; exact h
theorem ari_i64_mul {a b : Int} (h0 : -9223372036854775808 ≤ a * b) (h1 : a * b ≤ 9223372036854775807) : iari .mul .i64 a b = some (a * b) := congrArg some (nw64 h0 h1)
section
variable {P : Program} {f : FuncId} {ds rs : List D0} {x y z u v x' y' z' u' v' : Rat}
theorem rcasti {b c : Int} (h : Ok P f ds [.c (.i .i64 b)]) (e : b = c) : Ok P f ds [.c (.i .i64 c)] := by subst e; exact h
end
theorem cmpR_le {x y : Rat} : cmpR x y ≤ 0 ↔ x ≤ y := by
  unfold cmpR
  split
  · rename_i h; exact ⟨fun _ => by grind, fun _ => by omega⟩
  · split
    · rename_i h; exact ⟨fun h2 => by omega, fun h2 => by grind⟩
    · rename_i h1 h2; exact ⟨fun _ => by grind, fun _ => by omega⟩
theorem Rz.num {n : Int} (h0 : -9223372036854775808 ≤ n) (h1 : n ≤ 9223372036854775807) : Rz 3 (n : Rat) := Rz.int (Sz.small (by decide) h0 h1) (by decide)
def U32s (xs : List Int) : Prop := ∀ x ∈ xs, 0 ≤ x ∧ x ≤ 4294967295
theorem u32_getD {xs : List Int} (h : U32s xs) (i : Nat) : 0 ≤ xs.getD i 0 ∧ xs.getD i 0 ≤ 4294967295 := by
  by_cases hi : i < xs.length
  · have : xs.getD i 0 = xs[i] := by simp [List.getD, hi]
    rw [this]; exact h _ (List.getElem_mem hi)
  · have : xs.getD i 0 = 0 := by rw [List.getD, List.getElem?_eq_none (by omega)]; rfl
    rw [this]; omega
def vI (neg : Bool) (xs : List Int) : Bool := xs.all (fun x => decide (x < 1000000000)) && ((trm xs).length == xs.length) && (!neg || decide (0 < xs.length))
theorem vI_bad {neg : Bool} {xs : List Int} {k : Nat} (hk : k < xs.length) (h : xs.getD k 0 ≥ 1000000000) : vI neg xs = false := by
  have h1 : xs.all (fun x => decide (x < 1000000000)) = false := by
    rw [Bool.eq_false_iff]
    intro hall
    have h2 := List.all_eq_true.1 hall xs[k] (List.getElem_mem hk)
    have h3 : xs.getD k 0 = xs[k] := by simp [List.getD, hk]
    simp only [decide_eq_true_eq] at h2
    omega
  unfold vI
  rw [h1]; rfl
theorem lim_of_all {xs : List Int} (hb : U32s xs) (h : ∀ k, k < xs.length → xs.getD k 0 < 1000000000) : Lim xs := by
  intro x hx
  obtain ⟨i, hi, rfl⟩ := List.getElem_of_mem hx
  have h1 := h i hi
  have h3 : xs.getD i 0 = xs[i] := by simp [List.getD, hi]
  have := hb xs[i] (List.getElem_mem hi)
  omega
theorem all_of_lim {xs : List Int} (h : Lim xs) : xs.all (fun x => decide (x < 1000000000)) = true := List.all_eq_true.2 fun x hx => by have := h x hx; simp; omega
theorem vI_lim {neg : Bool} {xs : List Int} (h : Lim xs) : vI neg xs = (((trm xs).length == xs.length) && (!neg || decide (0 < xs.length))) := by
  unfold vI; rw [all_of_lim h]; rfl
theorem vI_ref {neg : Bool} {xs : List Int} (h : Lim xs) : vI neg xs = ((((lim (val xs).natAbs).length : Int) == (xs.length : Int)) && (!neg || decide ((xs.length : Int) > 0))) := by
  rw [vI_lim h, lim_trm h]
  congr 1
  · rw [Bool.eq_iff_iff, beq_iff_eq, beq_iff_eq]; omega
  · simp
theorem iGCD_ok {x y : Int} (hx : Sz 1000000 x) (hy : Sz 1000000 y) : Ok Tryz.prog 88 [dI x, dI y] [dI (Int.gcd x y : Int)] := by
  refine Ok.of (by kernel_rfl) Tryz.func88 rfl rfl ?_
  rw [show Tryz.f88.ntmps = 61 from rfl, show Tryz.f88.results.toList = [.cell 4 29] from rfl]
  refine dw_seq <| dw_region (by kernel_rfl) <| dl_new (sem_box_a rfl rfl) rfl <| dl_new (sem_box_a rfl rfl) rfl <| dl_new (sem_alloc zc29 rfl) rfl <| dl_end <| dw_seq <| dw_draw 8 [] follows_mixed (by kernel_rfl) rfl rfl ?_
  refine dq_r (sem_field fd29_1 rfl rfl) <| dq_r (sem_load1 ty27 rfl rfl rfl rfl) <| dq_r (sem_call rfl rfl (iSigned_cL) rfl) <| dq_r (sem_field fd29_1 rfl rfl) <| dq_r (sem_load1 ty27 rfl rfl rfl rfl) <| dq_r (sem_call rfl rfl (iSigned_cL) rfl) <| dq_new (sem_alloc zc29 rfl) rfl <| dq_new (sem_alloc zc29 rfl) rfl ?_
  refine dq_end <| dl_start2 <| dl_st (sem_store_a ty29 rfl rfl rfl rfl rfl rfl) <| dl_st (sem_store_a ty29 rfl rfl rfl rfl rfl rfl) <| dl_end <| dw_seq <| dw_block <| dw_loop (ι := {p : Int × Int // GInv x y p.1 p.2}) (fun i => ⟨61, [(4, .p 4 0), (5, .p 5 0), (6, .p 6 0)], [(4, 29, ([.b false] ++ [.s 0 []])), (5, 29, cI i.1.1), (6, 29, cI i.1.2)]⟩) (fun i => i.1.2.toNat) ⟨(sg false (x.natAbs : Int), sg false (y.natAbs : Int)), GInv.start hx hy⟩ (sub_of ⟨rfl, rfl, rfl, trivial⟩ ⟨rfl, rfl, rfl, trivial⟩ rfl) ?_
  rintro ⟨⟨a, c⟩, hg⟩
  replace hg : GInv x y a c := hg
  have ha := hg.sa
  have hcc := hg.sc
  show Dw _ _ ⟨61, [(4, .p 4 0), (5, .p 5 0), (6, .p 6 0)], [(4, 29, ([.b false] ++ [.s 0 []])), (5, 29, cI a), (6, 29, cI c)]⟩ _
  refine dw_seq <| dw_seq <| dw_region (by kernel_rfl) <| dl_r (sem_field fd29_1 rfl rfl) <| dl_r (sem_load1 ty27 rfl rfl rfl rfl) <| dl_r (sem_len sl27 rfl rfl) <| dl_r (sem_cmp rfl rfl rfl rfl) <| dl_end ?_
  refine dw_cond rfl (fun hc1 => ?_) (fun hc1 => ?_)
  · have hne := lenL_pos hc1
    refine dw_skip <| dw_block <| dw_seq <| dw_region (by kernel_rfl) <| dl_r (sem_load (us := cI a) ty29 rfl rfl rfl rfl rfl) <| dl_r (sem_call rfl rfl (iWord_ok) rfl) <| dl_r (sem_move rfl rfl) <| dl_r (sem_extract rfl rfl rfl) ?_
    refine dl_r (sem_extract rfl rfl rfl) <| dl_r (sem_assign rfl rfl) <| dl_r (sem_assign rfl rfl) <| dl_end <| dw_seq <| dw_region (by kernel_rfl) <| dl_r (sem_load (us := cI c) ty29 rfl rfl rfl rfl rfl) <| dl_r (sem_call rfl rfl (iWord_ok) rfl) ?_
    refine dl_r (sem_move rfl rfl) <| dl_r (sem_extract rfl rfl rfl) <| dl_r (sem_extract rfl rfl rfl) <| dl_r (sem_assign rfl rfl) <| dl_r (sem_assign rfl rfl) <| dl_end <| dw_seq <| dw_seq ?_
    refine dw_region (by kernel_rfl) <| dl_r (sem_move rfl rfl) ?_
    refine dl_rb (sem_move rfl rfl) (fun c2 hb2 => ?_)
    cases c2
    · refine dl_skip (sem_skip rfl) <| dl_r (sem_pick rfl rfl rfl rfl) <| dl_end <| dw_false rfl <| dw_skip <| dw_seq <| dw_region (by kernel_rfl) <| dl_r (sem_field fd29_1 rfl rfl) ?_
      refine dl_r (sem_load1 ty27 rfl rfl rfl rfl) <| dl_r (sem_field fd29_1 rfl rfl) <| dl_r (sem_load1 ty27 rfl rfl rfl rfl) <| dl_r (sem_call rfl rfl (iDivide_ok (by assumption) (by assumption) (by assumption)) rfl) <| dl_r (sem_move rfl rfl) <| dl_r (sem_extract rfl rfl rfl) <| dl_r (sem_extract rfl rfl rfl) <| dl_r (sem_assign rfl rfl) ?_
      refine dl_r (sem_assign rfl rfl) <| dl_end <| dw_draw 3 [] follows_mixed (by kernel_rfl) rfl rfl <| dq_r (sem_load (us := cI c) ty29 rfl rfl rfl rfl rfl) <| dq_r (sem_move rfl rfl) <| dq_r (sem_call rfl rfl (iSigned_ok) rfl) <| dq_end <| dl_start0 ?_
      refine dl_st (sem_store_a ty29 rfl rfl rfl rfl rfl rfl) <| dl_st (sem_store_a ty29 rfl rfl rfl rfl rfl rfl) <| dl_end ?_
      exact ⟨⟨(c, sg false ((a.natAbs : Int) % c.natAbs)), hg.step hne⟩, sub_of ⟨rfl, rfl, rfl, trivial⟩ ⟨rfl, rfl, rfl, trivial⟩ rfl, hg.less hne⟩
    · refine dl_r (sem_move rfl rfl) <| dl_r (sem_pick rfl rfl rfl rfl) <| dl_end ?_
      refine dw_cond rfl (fun hc3 => ?_) (fun hc3 => ?_)
      · refine dw_seq <| dw_block <| dw_loop (ι := {p : Int × Int // GInv2 x y p.1 p.2}) (fun i => ⟨61, [(4, .p 4 0), (7, .v (.c (.i .u64 i.1.1))), (9, .v (.c (.i .u64 i.1.2)))], [(4, 29, ([.b false] ++ [.s 0 []]))]⟩) (fun i => i.1.2.toNat) ⟨(if a.natAbs < 1000000000000000000 then (a.natAbs : Int) else 0, if c.natAbs < 1000000000000000000 then (c.natAbs : Int) else 0), hg.word hb2 hc3⟩ (sub_of ⟨rfl, rfl, rfl, trivial⟩ ⟨rfl, trivial⟩ rfl) ?_
        rintro ⟨⟨u, v⟩, hw⟩
        replace hw : GInv2 x y u v := hw
        show Dw _ _ ⟨61, [(4, .p 4 0), (7, .v (.c (.i .u64 u))), (9, .v (.c (.i .u64 v)))], [(4, 29, ([.b false] ++ [.s 0 []]))]⟩ _
        refine dw_seq <| dw_seq <| dw_region (by kernel_rfl) <| dl_r (sem_move rfl rfl) <| dl_r (sem_cmp rfl rfl rfl rfl) <| dl_end ?_
        refine dw_cond rfl (fun hc4 => ?_) (fun hc4 => ?_)
        · have hv : v > 0 := by simpa using hc4
          refine dw_skip <| dw_block <| dw_draw 6 [] follows_mixed (by kernel_rfl) rfl rfl <| dq_r (sem_move rfl rfl) <| dq_r (sem_move rfl rfl) <| dq_r (sem_move rfl rfl) <| dq_r (sem_rem rfl rfl (by omega) rfl) <| dq_r (sem_assign rfl rfl) ?_
          refine dq_r (sem_assign rfl rfl) <| dq_end <| dl_start0 <| dl_end ?_
          exact ⟨⟨(v, u.tmod v), hw.step hv⟩, sub_of ⟨rfl, rfl, rfl, trivial⟩ ⟨rfl, trivial⟩ rfl, hw.less hv⟩
        · refine dw_exit <| dw_seq <| dw_region (by kernel_rfl) <| dl_r (sem_move rfl rfl) <| dl_r (sem_call rfl rfl (iSplit_ok hw.u0 hw.u1) rfl) <| dl_r (sem_call rfl rfl (iSigned_ok) rfl) <| dl_st (sem_store_a ty29 rfl rfl rfl rfl rfl rfl) <| dl_end ?_
          refine dw_ret ?_
          rw [hw.done (by simpa using hc4)]
          exact ⟨.inr rfl, (resL_cell (us := cI (sg false u)) ty29 rfl rfl rfl rfl resL_nil)⟩
      · refine dw_skip <| dw_seq <| dw_region (by kernel_rfl) <| dl_r (sem_field fd29_1 rfl rfl) <| dl_r (sem_load1 ty27 rfl rfl rfl rfl) <| dl_r (sem_field fd29_1 rfl rfl) <| dl_r (sem_load1 ty27 rfl rfl rfl rfl) <| dl_r (sem_call rfl rfl (iDivide_ok (by assumption) (by assumption) (by assumption)) rfl) ?_
        refine dl_r (sem_move rfl rfl) <| dl_r (sem_extract rfl rfl rfl) <| dl_r (sem_extract rfl rfl rfl) <| dl_r (sem_assign rfl rfl) <| dl_r (sem_assign rfl rfl) <| dl_end <| dw_draw 3 [] follows_mixed (by kernel_rfl) rfl rfl <| dq_r (sem_load (us := cI c) ty29 rfl rfl rfl rfl rfl) ?_
        refine dq_r (sem_move rfl rfl) <| dq_r (sem_call rfl rfl (iSigned_ok) rfl) <| dq_end <| dl_start0 <| dl_st (sem_store_a ty29 rfl rfl rfl rfl rfl rfl) <| dl_st (sem_store_a ty29 rfl rfl rfl rfl rfl rfl) <| dl_end ?_
        exact ⟨⟨(c, sg false ((a.natAbs : Int) % c.natAbs)), hg.step hne⟩, sub_of ⟨rfl, rfl, rfl, trivial⟩ ⟨rfl, rfl, rfl, trivial⟩ rfl, hg.less hne⟩
  · refine dw_exit <| dw_seq <| dw_region (by kernel_rfl) <| dl_r (sem_field fd29_1 rfl rfl) <| dl_r (sem_load1 ty27 rfl rfl rfl rfl) <| dl_r (sem_copy rfl (by assumption) rfl) <| dl_r (sem_call rfl rfl (iSigned_cL) rfl) <| dl_st (sem_store_a ty29 rfl rfl rfl rfl rfl rfl) ?_
    refine dl_end <| dw_ret ?_
    rw [hg.done (lenL_zero hc1)]
    exact ⟨.inr rfl, (resL_cell (us := cI (sg false (a.natAbs : Int))) ty29 rfl rfl rfl rfl resL_nil)⟩
theorem iDivMod_ok {x y : Int} (hx : Sz 1000000 x) (hy : Sz 1000000 y) (h0 : y ≠ 0) : Ok Tryz.prog 86 [dI x, dI y] [dI (x.fdiv y), dI (x.fmod y), .c (.i .i64 0)] := by
  have hq : Sz 1000000 (q0 x y) := hx.q0
  have hr : Sz 1000000 (r0 x y) := hy.r0 h0
  have h1 : Sz 1000000 (1 : Int) := Sz.small (by omega) (by omega) (by omega)
  refine Ok.of (by kernel_rfl) Tryz.func86 rfl rfl ?_
  rw [show Tryz.f86.ntmps = 55 from rfl, show Tryz.f86.results.toList = [.cell 4 29, .cell 5 29, .tmp 6] from rfl]
  refine dw_seq <| dw_region (by kernel_rfl) <| dl_new (sem_box_a rfl rfl) rfl <| dl_new (sem_box_a rfl rfl) rfl <| dl_new (sem_alloc zc29 rfl) rfl <| dl_new (sem_alloc zc29 rfl) rfl <| dl_r (sem_assign rfl rfl) <| dl_end ?_
  refine dw_seq <| dw_seq <| dw_region (by kernel_rfl) <| dl_r (sem_field fd29_1 rfl rfl) <| dl_r (sem_load1 ty27 rfl rfl rfl rfl) <| dl_r (sem_len sl27 rfl rfl) <| dl_r (sem_cmp rfl rfl rfl rfl) <| dl_end ?_
  refine dw_cond rfl (fun hc1 => ?_) (fun hc1 => ?_)
  · exact absurd hc1 (by simp [lim_eq_nil, h0])
  · refine dw_skip <| dw_seq <| dw_region (by kernel_rfl) <| dl_r (sem_field fd29_1 rfl rfl) <| dl_r (sem_load1 ty27 rfl rfl rfl rfl) <| dl_r (sem_field fd29_1 rfl rfl) <| dl_r (sem_load1 ty27 rfl rfl rfl rfl) <| dl_r (sem_call rfl rfl (iDivide_ok (by assumption) (by assumption) (by assumption)) rfl) ?_
    refine dl_r (sem_move rfl rfl) <| dl_r (sem_extract rfl rfl rfl) <| dl_r (sem_extract rfl rfl rfl) <| dl_r (sem_assign rfl rfl) <| dl_r (sem_assign rfl rfl) <| dl_end <| dw_seq <| dw_draw 13 [] follows_mixed (by kernel_rfl) rfl rfl ?_
    refine dq_r (sem_field fd29_0 rfl rfl) <| dq_r (sem_load1 ty4 rfl rfl rfl rfl) <| dq_r (sem_field fd29_0 rfl rfl) <| dq_r (sem_load1 ty4 rfl rfl rfl rfl) <| dq_r (sem_bneq rfl rfl ty_bool rfl) <| dq_r (sem_move rfl rfl) <| dq_r (sem_call rfl rfl (iSigned_ok) rfl) <| dq_r (sem_field fd29_0 rfl rfl) ?_
    refine dq_r (sem_load1 ty4 rfl rfl rfl rfl) <| dq_r (sem_move rfl rfl) <| dq_r (sem_call rfl rfl (iSigned_ok) rfl) <| dq_new (sem_alloc zc29 rfl) rfl <| dq_new (sem_alloc zc29 rfl) rfl <| dq_end <| dl_start2 <| dl_st (sem_store_a ty29 rfl rfl rfl rfl rfl rfl) ?_
    refine dl_st (sem_store_a ty29 rfl rfl rfl rfl rfl rfl) <| dl_end <| dw_seq <| dw_seq <| dw_region (by kernel_rfl) <| dl_r (sem_field fd29_1 rfl rfl) <| dl_r (sem_load1 ty27 rfl rfl rfl rfl) <| dl_r (sem_len sl27 rfl rfl) ?_
    refine dl_r (sem_cmp rfl rfl rfl rfl) ?_
    refine dl_rb (sem_move rfl rfl) (fun c2 hb2 => ?_)
    cases c2
    · refine dl_skip (sem_skip rfl) <| dl_skip (sem_skip rfl) <| dl_skip (sem_skip rfl) <| dl_skip (sem_skip rfl) <| dl_skip (sem_skip rfl) <| dl_r (sem_pick rfl rfl rfl rfl) <| dl_end <| dw_false rfl ?_
      refine dw_skip <| dw_seq <| dw_draw 5 [4, 5] follows_mixed (by kernel_rfl) rfl rfl <| dq_r (sem_load (us := cI (sg (!((decide (x < 0)) == (decide (y < 0)))) ((x.natAbs : Int) / y.natAbs))) ty29 rfl rfl rfl rfl rfl) <| dq_r (sem_load (us := cI (sg (decide (x < 0)) ((x.natAbs : Int) % y.natAbs))) ty29 rfl rfl rfl rfl rfl) <| dq_st (sem_store_a ty29 rfl rfl rfl rfl rfl rfl) rfl rfl rfl rfl <| dq_st (sem_store_a ty29 rfl rfl rfl rfl rfl rfl) rfl rfl rfl rfl <| dq_r (sem_assign rfl rfl) ?_
      refine dq_end <| dl_start2 <| dl_end <| dw_ret ?_
      obtain ⟨e1, e2⟩ := dm_plain (x := x) h0 (.inl (lenL_zero hb2))
      rw [e1, e2]
      exact ⟨.inr rfl, (resL_cell (us := cI (sg (!((decide (x < 0)) == (decide (y < 0)))) ((x.natAbs : Int) / y.natAbs))) ty29 rfl rfl rfl rfl (resL_cell (us := cI (sg (decide (x < 0)) ((x.natAbs : Int) % y.natAbs))) ty29 rfl rfl rfl rfl (resL_tmp rfl resL_nil)))⟩
    · refine dl_r (sem_field fd29_0 rfl rfl) <| dl_r (sem_load1 ty4 rfl rfl rfl rfl) <| dl_r (sem_field fd29_0 rfl rfl) <| dl_r (sem_load1 ty4 rfl rfl rfl rfl) <| dl_r (sem_bneq rfl rfl ty_bool rfl) <| dl_r (sem_pick rfl rfl rfl rfl) <| dl_end ?_
      refine dw_cond rfl (fun hc3 => ?_) (fun hc3 => ?_)
      · -- region 6
        refine dw_draw 6 [] follows_mixed (by kernel_rfl) rfl rfl <| dq_r (sem_load (us := cI (sg (!((decide (x < 0)) == (decide (y < 0)))) ((x.natAbs : Int) / y.natAbs))) ty29 rfl rfl rfl rfl rfl) <| dq_r (sem_call rfl rfl (iFrom_ok (by omega) (by omega)) rfl) <| dq_r (sem_call rfl rfl (iSub_ok (by assumption) (by assumption)) rfl) <| dq_r (sem_load (us := cI (sg (decide (x < 0)) ((x.natAbs : Int) % y.natAbs))) ty29 rfl rfl rfl rfl rfl) <| dq_r (sem_load (us := cI y) ty29 rfl rfl rfl rfl rfl) <| dq_r (sem_call rfl rfl (iAdd_ok (by assumption) (by assumption)) rfl) <| dq_end ?_
        refine dl_start0 <| dl_st (sem_store_a ty29 rfl rfl rfl rfl rfl rfl) <| dl_st (sem_store_a ty29 rfl rfl rfl rfl rfl rfl) <| dl_end <| dw_seq <| dw_draw 5 [4, 5] follows_mixed (by kernel_rfl) rfl rfl <| dq_r (sem_load (us := cI ((sg (!((decide (x < 0)) == (decide (y < 0)))) ((x.natAbs : Int) / y.natAbs)) - 1)) ty29 rfl rfl rfl rfl rfl) <| dq_r (sem_load (us := cI ((sg (decide (x < 0)) ((x.natAbs : Int) % y.natAbs)) + y)) ty29 rfl rfl rfl rfl rfl) ?_
        refine dq_st (sem_store_a ty29 rfl rfl rfl rfl rfl rfl) rfl rfl rfl rfl <| dq_st (sem_store_a ty29 rfl rfl rfl rfl rfl rfl) rfl rfl rfl rfl <| dq_r (sem_assign rfl rfl) <| dq_end <| dl_start2 <| dl_end <| dw_ret ?_
        obtain ⟨e1, e2⟩ := dm_shift (x := x) h0 (lenL_pos hb2) (sgn_ne hc3)
        rw [e1, e2]
        exact ⟨.inr rfl, (resL_cell (us := cI ((sg (!((decide (x < 0)) == (decide (y < 0)))) ((x.natAbs : Int) / y.natAbs)) - 1)) ty29 rfl rfl rfl rfl (resL_cell (us := cI ((sg (decide (x < 0)) ((x.natAbs : Int) % y.natAbs)) + y)) ty29 rfl rfl rfl rfl (resL_tmp rfl resL_nil)))⟩
      · refine dw_skip <| dw_seq <| dw_draw 5 [4, 5] follows_mixed (by kernel_rfl) rfl rfl <| dq_r (sem_load (us := cI (sg (!((decide (x < 0)) == (decide (y < 0)))) ((x.natAbs : Int) / y.natAbs))) ty29 rfl rfl rfl rfl rfl) <| dq_r (sem_load (us := cI (sg (decide (x < 0)) ((x.natAbs : Int) % y.natAbs))) ty29 rfl rfl rfl rfl rfl) <| dq_st (sem_store_a ty29 rfl rfl rfl rfl rfl rfl) rfl rfl rfl rfl <| dq_st (sem_store_a ty29 rfl rfl rfl rfl rfl rfl) rfl rfl rfl rfl <| dq_r (sem_assign rfl rfl) ?_
        refine dq_end <| dl_start2 <| dl_end <| dw_ret ?_
        obtain ⟨e1, e2⟩ := dm_plain (x := x) h0 (.inr (sgn_eq hc3))
        rw [e1, e2]
        exact ⟨.inr rfl, (resL_cell (us := cI (sg (!((decide (x < 0)) == (decide (y < 0)))) ((x.natAbs : Int) / y.natAbs))) ty29 rfl rfl rfl rfl (resL_cell (us := cI (sg (decide (x < 0)) ((x.natAbs : Int) % y.natAbs))) ty29 rfl rfl rfl rfl (resL_tmp rfl resL_nil)))⟩
end Go.Proofs.YthhhlpdbainlaaaGreat
