/- Package swarfref01: plus, minus. -/
import Derived.Test.YthhhlpdbainlaaaGreatTaF
namespace Go.Proofs.YthhhlpdbainlaaaGreat
open Go Go.RowKit
theorem rPlus_ok {xs ys : List Int} (hLxs : Lim xs) (hLys : Lim ys) (hn : xs.length ≤ 1000000) (hm : ys.length ≤ 1000000) : Ok Tryz.prog 126 [.c (cM xs), .c (cM ys)] [.c (cL (val xs + val ys))] := by
  refine Ok.of (by kernel_rfl) Tryz.func126 rfl rfl ?_
  rw [show Tryz.f126.ntmps = 55 from rfl, show Tryz.f126.results.toList = [.tmp 4] from rfl]
  refine dw_seq <| dw_region (by kernel_rfl) <| dl_r (sem_assign rfl rfl) <| dl_end <| dw_seq <| dw_seq <| dw_region (by kernel_rfl) <| dl_r (sem_move rfl rfl) ?_
  refine dl_r (sem_len sl27 rfl rfl) <| dl_r (sem_move rfl rfl) <| dl_r (sem_len sl27 rfl rfl) <| dl_r (sem_cmp rfl rfl rfl rfl) <| dl_end ?_
  refine dw_cond rfl (fun hc1 => ?_) (fun hc1 => ?_)
  · have hlt : xs.length < ys.length := by simp only [decide_eq_true_eq] at hc1; omega
    refine dw_region (by kernel_rfl) <| dl_r (sem_move rfl rfl) <| dl_r (sem_move rfl rfl) <| dl_r (sem_assign rfl rfl) <| dl_r (sem_assign rfl rfl) <| dl_end <| dw_seq <| dw_region (by kernel_rfl) ?_
    refine dl_r (sem_move rfl rfl) <| dl_r (sem_len sl27 rfl rfl) ?_
    refine dl_r (sem_ari (r := (ys.length : Int) + 1) rfl rfl (ari_i64_add (by (first | omega | (simp; omega))) (by (first | omega | (simp; omega)))) rfl) ?_
    refine dl_mk (sem_make (n := ys.length + 1) el27 rfl rfl (by (first | omega | (simp; omega))) (by (first | omega | (simp; omega))) rfl) rfl ?_
    refine dl_r (sem_assign rfl rfl) <| dl_end <| dw_seq <| dw_region (by kernel_rfl) <| dl_r (sem_assign rfl rfl) <| dl_end <| dw_seq <| dw_seq ?_
    refine dw_region (by kernel_rfl) <| dl_r (sem_assign rfl rfl) <| dl_end <| dw_block <| dw_loop (ι := {t : Nat × Int × List Int // PInv ys xs t.1 t.2.1 t.2.2}) (fun i => ⟨55, [(0, .v (.c (cM ys))), (1, .v (.c (cM xs))), (5, .o 18 (ys.length + 1) (ys.length + 1)), (6, .v (.c (.i .u32 i.1.2.1))), (7, .v (.c (.i .i64 (i.1.1 : Int))))], [(18, 134, (i.1.2.2 ++ List.replicate (ys.length + 1 - i.1.1) 0).map (CellD.i .u32))]⟩) (fun i => ys.length - i.1.1) ⟨(0, 0, []), ⟨Nat.zero_le _, Int.le_refl 0, by decide, Lim.nil, rfl, by simp [val]⟩⟩ (sub_of ⟨rfl, rfl, rfl, rfl, rfl, trivial⟩ ⟨by rw [show (List.replicate (ys.length + 1) (CellD.i .u32 0)) = (([] : List Int) ++ List.replicate (ys.length + 1 - 0) 0).map (CellD.i .u32) from by simp]; rfl, trivial⟩ rfl) ?_
    rintro ⟨⟨k, c, zs⟩, hI⟩
    replace hI : PInv ys xs k c zs := hI
    have g1 := lim_getD hLys k
    have g2 := lim_getD hLxs k
    have g3 := hI.c0
    have g4 := hI.c1
    have g5 := hI.le
    have g6 := hI.len
    show Dw _ _ ⟨55, [(0, .v (.c (cM ys))), (1, .v (.c (cM xs))), (5, .o 18 (ys.length + 1) (ys.length + 1)), (6, .v (.c (.i .u32 c))), (7, .v (.c (.i .i64 (k : Int))))], [(18, 134, (zs ++ List.replicate (ys.length + 1 - k) 0).map (CellD.i .u32))]⟩ _
    refine dw_seq <| dw_seq <| dw_region (by kernel_rfl) <| dl_r (sem_move rfl rfl) <| dl_r (sem_move rfl rfl) <| dl_r (sem_len sl27 rfl rfl) <| dl_r (sem_cmp rfl rfl rfl rfl) <| dl_end ?_
    refine dw_cond rfl (fun hc2 => ?_) (fun hc2 => ?_)
    · have hk : k < ys.length := by simp only [decide_eq_true_eq] at hc2; omega
      refine dw_skip <| dw_seq <| dw_block <| dw_seq <| dw_region (by kernel_rfl) <| dl_r (sem_move rfl rfl) <| dl_r (sem_move rfl rfl) <| dl_r (sem_move rfl rfl) ?_
      refine dl_r (sem_index sl27 rfl rfl (by (first | omega | (simp; omega))) (M_len _) rfl rfl) ?_
      refine dl_r (sem_loadq1 ty134 rfl (M_get (i := k) (by (first | omega | (simp; omega)))) rfl) ?_
      refine dl_r (sem_ari (r := c + (ys.getD k 0)) rfl rfl (ari_u32_add (by (first | omega | (simp; omega))) (by (first | omega | (simp; omega)))) rfl) ?_
      refine dl_r (sem_assign rfl rfl) <| dl_end <| dw_seq <| dw_seq <| dw_region (by kernel_rfl) <| dl_r (sem_move rfl rfl) <| dl_r (sem_move rfl rfl) <| dl_r (sem_len sl27 rfl rfl) ?_
      refine dl_r (sem_cmp rfl rfl rfl rfl) <| dl_end ?_
      refine dw_cond rfl (fun hc3 => ?_) (fun hc3 => ?_)
      · have hkq : k < xs.length := by simp only [decide_eq_true_eq] at hc3; omega
        have hS : c + ys.getD k 0 + xs.getD k 0 = c + ys.getD k 0 + xs.getD k 0 := rfl
        have hb : c + ys.getD k 0 + xs.getD k 0 ≤ 4294967295 := by omega
        refine dw_region (by kernel_rfl) <| dl_r (sem_move rfl rfl) <| dl_r (sem_move rfl rfl) <| dl_r (sem_move rfl rfl) ?_
        refine dl_r (sem_index sl27 rfl rfl (by (first | omega | (simp; omega))) (M_len _) rfl rfl) ?_
        refine dl_r (sem_loadq1 ty134 rfl (M_get (i := k) (by (first | omega | (simp; omega)))) rfl) ?_
        refine dl_r (sem_ari (r := (c + (ys.getD k 0)) + (xs.getD k 0)) rfl rfl (ari_u32_add (by (first | omega | (simp; omega))) (by (first | omega | (simp; omega)))) rfl) ?_
        refine dl_r (sem_assign rfl rfl) <| dl_end <| dw_seq <| dw_region (by kernel_rfl) <| dl_r (sem_move rfl rfl) <| dl_r (sem_move rfl rfl) <| dl_r (sem_move rfl rfl) <| dl_r (sem_rem' (r := (c + ys.getD k 0 + xs.getD k 0) % 1000000000) rfl rfl (by omega) (Int.tmod_eq_emod_of_nonneg (by omega)) rfl) ?_
        refine dl_r (sem_index_o sl27 rfl rfl (by (first | omega | (simp; omega))) rfl) ?_
        refine dl_st (sem_store (us := ((zs ++ List.replicate (ys.length + 1 - k) 0).set k ((c + ys.getD k 0 + xs.getD k 0) % 1000000000)).map (CellD.i .u32)) ty134 rfl rfl rfl rfl (by simp; omega) (O_set (by (first | omega | (simp; omega)))) rfl) ?_
        refine dl_end <| dw_region (by kernel_rfl) <| dl_r (sem_move rfl rfl) <| dl_r (sem_quo' (r := (c + ys.getD k 0 + xs.getD k 0) / 1000000000) rfl rfl (by omega) (by rw [Int.tdiv_eq_ediv_of_nonneg (by omega)]; exact nwu32 (by omega) (by omega)) rfl) <| dl_r (sem_assign rfl rfl) <| dl_end <| dw_region (by kernel_rfl) <| dl_r (sem_move rfl rfl) ?_
        refine dl_r (sem_ari (r := (k : Int) + 1) rfl rfl (ari_i64_add (by (first | omega | (simp; omega))) (by (first | omega | (simp; omega)))) rfl) ?_
        refine dl_r (sem_assign rfl rfl) <| dl_end ?_
        exact ⟨⟨(k + 1, (c + ys.getD k 0 + xs.getD k 0) / 1000000000, zs ++ [(c + ys.getD k 0 + xs.getD k 0) % 1000000000]), hI.step hLys hLxs hk hS⟩, sub_of ⟨rfl, rfl, rfl, rfl, by rw [show ((k + 1 : Nat) : Int) = (k : Int) + 1 from by omega]; rfl, trivial⟩ ⟨by rw [show ys.length + 1 - (k + 1) = ys.length - k from by omega, ← set_end (m := ys.length - k) (d := (c + ys.getD k 0 + xs.getD k 0) % 1000000000) g6, show ys.length - k + 1 = ys.length + 1 - k from by omega]; rfl, trivial⟩ rfl, by show ys.length - (k + 1) < ys.length - k; omega⟩
      · have hkq : ¬ k < xs.length := by simp only [decide_eq_false_iff_not] at hc3; omega
        have hq0 : xs.getD k 0 = 0 := by rw [List.getD, List.getElem?_eq_none (by omega)]; rfl
        have hS : c + ys.getD k 0 = c + ys.getD k 0 + xs.getD k 0 := by omega
        refine dw_skip <| dw_seq <| dw_region (by kernel_rfl) <| dl_r (sem_move rfl rfl) <| dl_r (sem_move rfl rfl) <| dl_r (sem_move rfl rfl) <| dl_r (sem_rem' (r := (c + ys.getD k 0) % 1000000000) rfl rfl (by omega) (Int.tmod_eq_emod_of_nonneg (by omega)) rfl) ?_
        refine dl_r (sem_index_o sl27 rfl rfl (by (first | omega | (simp; omega))) rfl) ?_
        refine dl_st (sem_store (us := ((zs ++ List.replicate (ys.length + 1 - k) 0).set k ((c + ys.getD k 0) % 1000000000)).map (CellD.i .u32)) ty134 rfl rfl rfl rfl (by simp; omega) (O_set (by (first | omega | (simp; omega)))) rfl) ?_
        refine dl_end <| dw_region (by kernel_rfl) <| dl_r (sem_move rfl rfl) <| dl_r (sem_quo' (r := (c + ys.getD k 0) / 1000000000) rfl rfl (by omega) (by rw [Int.tdiv_eq_ediv_of_nonneg (by omega)]; exact nwu32 (by omega) (by omega)) rfl) <| dl_r (sem_assign rfl rfl) <| dl_end <| dw_region (by kernel_rfl) <| dl_r (sem_move rfl rfl) ?_
        refine dl_r (sem_ari (r := (k : Int) + 1) rfl rfl (ari_i64_add (by (first | omega | (simp; omega))) (by (first | omega | (simp; omega)))) rfl) ?_
        refine dl_r (sem_assign rfl rfl) <| dl_end ?_
        exact ⟨⟨(k + 1, (c + ys.getD k 0) / 1000000000, zs ++ [(c + ys.getD k 0) % 1000000000]), hI.step hLys hLxs hk hS⟩, sub_of ⟨rfl, rfl, rfl, rfl, by rw [show ((k + 1 : Nat) : Int) = (k : Int) + 1 from by omega]; rfl, trivial⟩ ⟨by rw [show ys.length + 1 - (k + 1) = ys.length - k from by omega, ← set_end (m := ys.length - k) (d := (c + ys.getD k 0) % 1000000000) g6, show ys.length - k + 1 = ys.length + 1 - k from by omega]; rfl, trivial⟩ rfl, by show ys.length - (k + 1) < ys.length - k; omega⟩
    · have hk : k = ys.length := by simp only [decide_eq_false_iff_not] at hc2; omega
      have hfin : (val xs + val ys : Int) = val ((zs ++ List.replicate (ys.length + 1 - k) 0).set ys.length c) := by rw [show ys.length + 1 - k = 0 + 1 from by omega, set_end (by omega)]; simp only [List.replicate_zero, List.append_nil]; rw [hI.done hk (by omega)]; omega
      have hLf : Lim ((zs ++ List.replicate (ys.length + 1 - k) 0).set ys.length c) := (hI.L.append (Lim.zeros _)).set g3 (by omega)
      refine dw_exit <| dw_seq <| dw_region (by kernel_rfl) <| dl_r (sem_move rfl rfl) <| dl_r (sem_move rfl rfl) <| dl_r (sem_len sl27 rfl rfl) <| dl_r (sem_move rfl rfl) ?_
      refine dl_r (sem_index_o sl27 rfl rfl (by (first | omega | (simp; omega))) rfl) ?_
      refine dl_st (sem_store (us := ((zs ++ List.replicate (ys.length + 1 - k) 0).set ys.length c).map (CellD.i .u32)) ty134 rfl rfl rfl rfl (by simp; omega) (O_set (by (first | omega | (simp; omega)))) rfl) ?_
      refine dl_end <| dw_seq ?_
      refine dw_relM (t := 5) (zs := (zs ++ List.replicate (ys.length + 1 - k) 0).set ys.length c) (ys := (zs ++ List.replicate (ys.length + 1 - k) 0).set ys.length c) rfl rfl (by first | omega | (simp; omega) | simp) (by omega) (by omega) (List.take_of_length_le (by first | omega | (simp; omega) | simp)) ?_
      refine dw_region (by kernel_rfl) <| dl_r (sem_move rfl rfl) <| dl_r (sem_call rfl rfl (rTrim_ok hLf (by simp; omega)) rfl) <| dl_r (sem_assign rfl rfl) <| dl_end <| dw_ret ?_
      rw [hfin]
      exact ⟨.inr rfl, (resL_tmp rfl resL_nil)⟩
  · have hlt : ys.length ≤ xs.length := by simp only [decide_eq_false_iff_not] at hc1; omega
    refine dw_skip <| dw_seq <| dw_region (by kernel_rfl) <| dl_r (sem_move rfl rfl) <| dl_r (sem_len sl27 rfl rfl) ?_
    refine dl_r (sem_ari (r := (xs.length : Int) + 1) rfl rfl (ari_i64_add (by (first | omega | (simp; omega))) (by (first | omega | (simp; omega)))) rfl) ?_
    refine dl_mk (sem_make (n := xs.length + 1) el27 rfl rfl (by (first | omega | (simp; omega))) (by (first | omega | (simp; omega))) rfl) rfl ?_
    refine dl_r (sem_assign rfl rfl) <| dl_end <| dw_seq <| dw_region (by kernel_rfl) <| dl_r (sem_assign rfl rfl) <| dl_end <| dw_seq <| dw_seq ?_
    refine dw_region (by kernel_rfl) <| dl_r (sem_assign rfl rfl) <| dl_end <| dw_block <| dw_loop (ι := {t : Nat × Int × List Int // PInv xs ys t.1 t.2.1 t.2.2}) (fun i => ⟨55, [(0, .v (.c (cM xs))), (1, .v (.c (cM ys))), (5, .o 18 (xs.length + 1) (xs.length + 1)), (6, .v (.c (.i .u32 i.1.2.1))), (7, .v (.c (.i .i64 (i.1.1 : Int))))], [(18, 134, (i.1.2.2 ++ List.replicate (xs.length + 1 - i.1.1) 0).map (CellD.i .u32))]⟩) (fun i => xs.length - i.1.1) ⟨(0, 0, []), ⟨Nat.zero_le _, Int.le_refl 0, by decide, Lim.nil, rfl, by simp [val]⟩⟩ (sub_of ⟨rfl, rfl, rfl, rfl, rfl, trivial⟩ ⟨by rw [show (List.replicate (xs.length + 1) (CellD.i .u32 0)) = (([] : List Int) ++ List.replicate (xs.length + 1 - 0) 0).map (CellD.i .u32) from by simp]; rfl, trivial⟩ rfl) ?_
    rintro ⟨⟨k, c, zs⟩, hI⟩
    replace hI : PInv xs ys k c zs := hI
    have g1 := lim_getD hLxs k
    have g2 := lim_getD hLys k
    have g3 := hI.c0
    have g4 := hI.c1
    have g5 := hI.le
    have g6 := hI.len
    show Dw _ _ ⟨55, [(0, .v (.c (cM xs))), (1, .v (.c (cM ys))), (5, .o 18 (xs.length + 1) (xs.length + 1)), (6, .v (.c (.i .u32 c))), (7, .v (.c (.i .i64 (k : Int))))], [(18, 134, (zs ++ List.replicate (xs.length + 1 - k) 0).map (CellD.i .u32))]⟩ _
    refine dw_seq <| dw_seq <| dw_region (by kernel_rfl) <| dl_r (sem_move rfl rfl) <| dl_r (sem_move rfl rfl) <| dl_r (sem_len sl27 rfl rfl) <| dl_r (sem_cmp rfl rfl rfl rfl) <| dl_end ?_
    refine dw_cond rfl (fun hc4 => ?_) (fun hc4 => ?_)
    · have hk : k < xs.length := by simp only [decide_eq_true_eq] at hc4; omega
      refine dw_skip <| dw_seq <| dw_block <| dw_seq <| dw_region (by kernel_rfl) <| dl_r (sem_move rfl rfl) <| dl_r (sem_move rfl rfl) <| dl_r (sem_move rfl rfl) ?_
      refine dl_r (sem_index sl27 rfl rfl (by (first | omega | (simp; omega))) (M_len _) rfl rfl) ?_
      refine dl_r (sem_loadq1 ty134 rfl (M_get (i := k) (by (first | omega | (simp; omega)))) rfl) ?_
      refine dl_r (sem_ari (r := c + (xs.getD k 0)) rfl rfl (ari_u32_add (by (first | omega | (simp; omega))) (by (first | omega | (simp; omega)))) rfl) ?_
      refine dl_r (sem_assign rfl rfl) <| dl_end <| dw_seq <| dw_seq <| dw_region (by kernel_rfl) <| dl_r (sem_move rfl rfl) <| dl_r (sem_move rfl rfl) <| dl_r (sem_len sl27 rfl rfl) ?_
      refine dl_r (sem_cmp rfl rfl rfl rfl) <| dl_end ?_
      refine dw_cond rfl (fun hc5 => ?_) (fun hc5 => ?_)
      · have hkq : k < ys.length := by simp only [decide_eq_true_eq] at hc5; omega
        have hS : c + xs.getD k 0 + ys.getD k 0 = c + xs.getD k 0 + ys.getD k 0 := rfl
        have hb : c + xs.getD k 0 + ys.getD k 0 ≤ 4294967295 := by omega
        refine dw_region (by kernel_rfl) <| dl_r (sem_move rfl rfl) <| dl_r (sem_move rfl rfl) <| dl_r (sem_move rfl rfl) ?_
        refine dl_r (sem_index sl27 rfl rfl (by (first | omega | (simp; omega))) (M_len _) rfl rfl) ?_
        refine dl_r (sem_loadq1 ty134 rfl (M_get (i := k) (by (first | omega | (simp; omega)))) rfl) ?_
        refine dl_r (sem_ari (r := (c + (xs.getD k 0)) + (ys.getD k 0)) rfl rfl (ari_u32_add (by (first | omega | (simp; omega))) (by (first | omega | (simp; omega)))) rfl) ?_
        refine dl_r (sem_assign rfl rfl) <| dl_end <| dw_seq <| dw_region (by kernel_rfl) <| dl_r (sem_move rfl rfl) <| dl_r (sem_move rfl rfl) <| dl_r (sem_move rfl rfl) <| dl_r (sem_rem' (r := (c + xs.getD k 0 + ys.getD k 0) % 1000000000) rfl rfl (by omega) (Int.tmod_eq_emod_of_nonneg (by omega)) rfl) ?_
        refine dl_r (sem_index_o sl27 rfl rfl (by (first | omega | (simp; omega))) rfl) ?_
        refine dl_st (sem_store (us := ((zs ++ List.replicate (xs.length + 1 - k) 0).set k ((c + xs.getD k 0 + ys.getD k 0) % 1000000000)).map (CellD.i .u32)) ty134 rfl rfl rfl rfl (by simp; omega) (O_set (by (first | omega | (simp; omega)))) rfl) ?_
        refine dl_end <| dw_region (by kernel_rfl) <| dl_r (sem_move rfl rfl) <| dl_r (sem_quo' (r := (c + xs.getD k 0 + ys.getD k 0) / 1000000000) rfl rfl (by omega) (by rw [Int.tdiv_eq_ediv_of_nonneg (by omega)]; exact nwu32 (by omega) (by omega)) rfl) <| dl_r (sem_assign rfl rfl) <| dl_end <| dw_region (by kernel_rfl) <| dl_r (sem_move rfl rfl) ?_
        refine dl_r (sem_ari (r := (k : Int) + 1) rfl rfl (ari_i64_add (by (first | omega | (simp; omega))) (by (first | omega | (simp; omega)))) rfl) ?_
        refine dl_r (sem_assign rfl rfl) <| dl_end ?_
        exact ⟨⟨(k + 1, (c + xs.getD k 0 + ys.getD k 0) / 1000000000, zs ++ [(c + xs.getD k 0 + ys.getD k 0) % 1000000000]), hI.step hLxs hLys hk hS⟩, sub_of ⟨rfl, rfl, rfl, rfl, by rw [show ((k + 1 : Nat) : Int) = (k : Int) + 1 from by omega]; rfl, trivial⟩ ⟨by rw [show xs.length + 1 - (k + 1) = xs.length - k from by omega, ← set_end (m := xs.length - k) (d := (c + xs.getD k 0 + ys.getD k 0) % 1000000000) g6, show xs.length - k + 1 = xs.length + 1 - k from by omega]; rfl, trivial⟩ rfl, by show xs.length - (k + 1) < xs.length - k; omega⟩
      · have hkq : ¬ k < ys.length := by simp only [decide_eq_false_iff_not] at hc5; omega
        have hq0 : ys.getD k 0 = 0 := by rw [List.getD, List.getElem?_eq_none (by omega)]; rfl
        have hS : c + xs.getD k 0 = c + xs.getD k 0 + ys.getD k 0 := by omega
        refine dw_skip <| dw_seq <| dw_region (by kernel_rfl) <| dl_r (sem_move rfl rfl) <| dl_r (sem_move rfl rfl) <| dl_r (sem_move rfl rfl) <| dl_r (sem_rem' (r := (c + xs.getD k 0) % 1000000000) rfl rfl (by omega) (Int.tmod_eq_emod_of_nonneg (by omega)) rfl) ?_
        refine dl_r (sem_index_o sl27 rfl rfl (by (first | omega | (simp; omega))) rfl) ?_
        refine dl_st (sem_store (us := ((zs ++ List.replicate (xs.length + 1 - k) 0).set k ((c + xs.getD k 0) % 1000000000)).map (CellD.i .u32)) ty134 rfl rfl rfl rfl (by simp; omega) (O_set (by (first | omega | (simp; omega)))) rfl) ?_
        refine dl_end <| dw_region (by kernel_rfl) <| dl_r (sem_move rfl rfl) <| dl_r (sem_quo' (r := (c + xs.getD k 0) / 1000000000) rfl rfl (by omega) (by rw [Int.tdiv_eq_ediv_of_nonneg (by omega)]; exact nwu32 (by omega) (by omega)) rfl) <| dl_r (sem_assign rfl rfl) <| dl_end <| dw_region (by kernel_rfl) <| dl_r (sem_move rfl rfl) ?_
        refine dl_r (sem_ari (r := (k : Int) + 1) rfl rfl (ari_i64_add (by (first | omega | (simp; omega))) (by (first | omega | (simp; omega)))) rfl) ?_
        refine dl_r (sem_assign rfl rfl) <| dl_end ?_
        exact ⟨⟨(k + 1, (c + xs.getD k 0) / 1000000000, zs ++ [(c + xs.getD k 0) % 1000000000]), hI.step hLxs hLys hk hS⟩, sub_of ⟨rfl, rfl, rfl, rfl, by rw [show ((k + 1 : Nat) : Int) = (k : Int) + 1 from by omega]; rfl, trivial⟩ ⟨by rw [show xs.length + 1 - (k + 1) = xs.length - k from by omega, ← set_end (m := xs.length - k) (d := (c + xs.getD k 0) % 1000000000) g6, show xs.length - k + 1 = xs.length + 1 - k from by omega]; rfl, trivial⟩ rfl, by show xs.length - (k + 1) < xs.length - k; omega⟩
    · have hk : k = xs.length := by simp only [decide_eq_false_iff_not] at hc4; omega
      have hfin : (val xs + val ys : Int) = val ((zs ++ List.replicate (xs.length + 1 - k) 0).set xs.length c) := by rw [show xs.length + 1 - k = 0 + 1 from by omega, set_end (by omega)]; simp only [List.replicate_zero, List.append_nil]; rw [hI.done hk (by omega)]
      have hLf : Lim ((zs ++ List.replicate (xs.length + 1 - k) 0).set xs.length c) := (hI.L.append (Lim.zeros _)).set g3 (by omega)
      refine dw_exit <| dw_seq <| dw_region (by kernel_rfl) <| dl_r (sem_move rfl rfl) <| dl_r (sem_move rfl rfl) <| dl_r (sem_len sl27 rfl rfl) <| dl_r (sem_move rfl rfl) ?_
      refine dl_r (sem_index_o sl27 rfl rfl (by (first | omega | (simp; omega))) rfl) ?_
      refine dl_st (sem_store (us := ((zs ++ List.replicate (xs.length + 1 - k) 0).set xs.length c).map (CellD.i .u32)) ty134 rfl rfl rfl rfl (by simp; omega) (O_set (by (first | omega | (simp; omega)))) rfl) ?_
      refine dl_end <| dw_seq ?_
      refine dw_relM (t := 5) (zs := (zs ++ List.replicate (xs.length + 1 - k) 0).set xs.length c) (ys := (zs ++ List.replicate (xs.length + 1 - k) 0).set xs.length c) rfl rfl (by first | omega | (simp; omega) | simp) (by omega) (by omega) (List.take_of_length_le (by first | omega | (simp; omega) | simp)) ?_
      refine dw_region (by kernel_rfl) <| dl_r (sem_move rfl rfl) <| dl_r (sem_call rfl rfl (rTrim_ok hLf (by simp; omega)) rfl) <| dl_r (sem_assign rfl rfl) <| dl_end <| dw_ret ?_
      rw [hfin]
      exact ⟨.inr rfl, (resL_tmp rfl resL_nil)⟩
theorem rMinus_ok {xs ys : List Int} (hLxs : Lim xs) (hLys : Lim ys) (hn : xs.length ≤ 1000000) (hlen : ys.length ≤ xs.length) (hle : val ys ≤ val xs) : Ok Tryz.prog 128 [.c (cM xs), .c (cM ys)] [.c (cL (val xs - val ys))] := by
  refine Ok.of (by kernel_rfl) Tryz.func128 rfl rfl ?_
  rw [show Tryz.f128.ntmps = 45 from rfl, show Tryz.f128.results.toList = [.tmp 4] from rfl]
  refine dw_seq <| dw_region (by kernel_rfl) <| dl_r (sem_assign rfl rfl) <| dl_end <| dw_seq <| dw_region (by kernel_rfl) <| dl_r (sem_move rfl rfl) <| dl_r (sem_len sl27 rfl rfl) ?_
  refine dl_mk (sem_make (n := xs.length) el27 rfl rfl (by (first | omega | (simp; omega))) (by (first | omega | (simp; omega))) rfl) rfl ?_
  refine dl_r (sem_assign rfl rfl) <| dl_end <| dw_seq <| dw_region (by kernel_rfl) <| dl_r (sem_assign rfl rfl) <| dl_end <| dw_seq <| dw_seq ?_
  refine dw_region (by kernel_rfl) <| dl_r (sem_assign rfl rfl) <| dl_end <| dw_block <| dw_loop (ι := {t : Nat × Int × List Int // SInv xs ys t.1 t.2.1 t.2.2}) (fun i => ⟨45, [(0, .v (.c (cM xs))), (1, .v (.c (cM ys))), (5, .o 11 xs.length xs.length), (6, .v (.c (.i .u32 i.1.2.1))), (7, .v (.c (.i .i64 (i.1.1 : Int))))], [(11, 134, (i.1.2.2 ++ List.replicate (xs.length - i.1.1) 0).map (CellD.i .u32))]⟩) (fun i => xs.length - i.1.1) ⟨(0, 0, []), ⟨Nat.zero_le _, Int.le_refl 0, by decide, Lim.nil, rfl, by simp [val]⟩⟩ (sub_of ⟨rfl, rfl, rfl, rfl, rfl, trivial⟩ ⟨by rw [show (List.replicate xs.length (CellD.i .u32 0)) = (([] : List Int) ++ List.replicate (xs.length - 0) 0).map (CellD.i .u32) from by simp]; rfl, trivial⟩ rfl) ?_
  rintro ⟨⟨k, c, zs⟩, hI⟩
  replace hI : SInv xs ys k c zs := hI
  have g1 := lim_getD hLxs k
  have g2 := lim_getD hLys k
  have g3 := hI.c0
  have g4 := hI.c1
  have g5 := hI.le
  have g6 := hI.len
  show Dw _ _ ⟨45, [(0, .v (.c (cM xs))), (1, .v (.c (cM ys))), (5, .o 11 xs.length xs.length), (6, .v (.c (.i .u32 c))), (7, .v (.c (.i .i64 (k : Int))))], [(11, 134, (zs ++ List.replicate (xs.length - k) 0).map (CellD.i .u32))]⟩ _
  refine dw_seq <| dw_seq <| dw_region (by kernel_rfl) <| dl_r (sem_move rfl rfl) <| dl_r (sem_move rfl rfl) <| dl_r (sem_len sl27 rfl rfl) <| dl_r (sem_cmp rfl rfl rfl rfl) <| dl_end ?_
  refine dw_cond rfl (fun hc1 => ?_) (fun hc1 => ?_)
  · have hk : k < xs.length := by simp only [decide_eq_true_eq] at hc1; omega
    refine dw_skip <| dw_seq <| dw_block <| dw_seq <| dw_region (by kernel_rfl) <| dl_r (sem_move rfl rfl) <| dl_r (sem_move rfl rfl) ?_
    refine dl_r (sem_index sl27 rfl rfl (by (first | omega | (simp; omega))) (M_len _) rfl rfl) ?_
    refine dl_r (sem_loadq1 ty134 rfl (M_get (i := k) (by (first | omega | (simp; omega)))) rfl) ?_
    refine dl_r (sem_ari (r := (xs.getD k 0) + 1000000000) rfl rfl (ari_u32_add (by (first | omega | (simp; omega))) (by (first | omega | (simp; omega)))) rfl) ?_
    refine dl_r (sem_move rfl rfl) ?_
    refine dl_r (sem_ari (r := ((xs.getD k 0) + 1000000000) - c) rfl rfl (ari_u32_sub (by (first | omega | (simp; omega))) (by (first | omega | (simp; omega)))) rfl) ?_
    refine dl_r (sem_assign rfl rfl) <| dl_end <| dw_seq <| dw_seq <| dw_region (by kernel_rfl) <| dl_r (sem_move rfl rfl) <| dl_r (sem_move rfl rfl) <| dl_r (sem_len sl27 rfl rfl) ?_
    refine dl_r (sem_cmp rfl rfl rfl rfl) <| dl_end ?_
    refine dw_cond rfl (fun hc2 => ?_) (fun hc2 => ?_)
    · have hkq : k < ys.length := by simp only [decide_eq_true_eq] at hc2; omega
      refine dw_region (by kernel_rfl) <| dl_r (sem_move rfl rfl) <| dl_r (sem_move rfl rfl) <| dl_r (sem_move rfl rfl) ?_
      refine dl_r (sem_index sl27 rfl rfl (by (first | omega | (simp; omega))) (M_len _) rfl rfl) ?_
      refine dl_r (sem_loadq1 ty134 rfl (M_get (i := k) (by (first | omega | (simp; omega)))) rfl) ?_
      refine dl_r (sem_ari (r := (((xs.getD k 0) + 1000000000) - c) - (ys.getD k 0)) rfl rfl (ari_u32_sub (by (first | omega | (simp; omega))) (by (first | omega | (simp; omega)))) rfl) ?_
      refine dl_r (sem_assign rfl rfl) <| dl_end <| dw_seq <| dw_region (by kernel_rfl) <| dl_r (sem_assign rfl rfl) <| dl_end <| dw_seq <| dw_seq ?_
      refine dw_region (by kernel_rfl) <| dl_r (sem_move rfl rfl) <| dl_r (sem_cmp rfl rfl rfl rfl) <| dl_end ?_
      refine dw_cond rfl (fun hc3 => ?_) (fun hc3 => ?_)
      · simp only [decide_eq_true_eq] at hc3
        have hd1 : 0 ≤ xs.getD k 0 + 1000000000 - c - ys.getD k 0 - 1000000000 := by omega
        have hd2 : xs.getD k 0 + 1000000000 - c - ys.getD k 0 - 1000000000 < 1000000000 := by omega
        have hd3 : (0 : Int) ≤ 0 := by omega
        have hd4 : (0 : Int) ≤ 1 := by omega
        have hdS : xs.getD k 0 + 1000000000 - c - ys.getD k 0 - 1000000000 - 1000000000 * 0 = xs.getD k 0 - c - ys.getD k 0 := by omega
        refine dw_region (by kernel_rfl) <| dl_r (sem_move rfl rfl) ?_
        refine dl_r (sem_ari (r := ((((xs.getD k 0) + 1000000000) - c) - (ys.getD k 0)) - 1000000000) rfl rfl (ari_u32_sub (by (first | omega | (simp; omega))) (by (first | omega | (simp; omega)))) rfl) ?_
        refine dl_r (sem_assign rfl rfl) <| dl_r (sem_assign rfl rfl) <| dl_end <| dw_region (by kernel_rfl) <| dl_r (sem_move rfl rfl) <| dl_r (sem_move rfl rfl) <| dl_r (sem_move rfl rfl) ?_
        refine dl_r (sem_index_o sl27 rfl rfl (by (first | omega | (simp; omega))) rfl) ?_
        refine dl_st (sem_store (us := ((zs ++ List.replicate (xs.length - k) 0).set k (((((xs.getD k 0) + 1000000000) - c) - (ys.getD k 0)) - 1000000000)).map (CellD.i .u32)) ty134 rfl rfl rfl rfl (by simp; omega) (O_set (by (first | omega | (simp; omega)))) rfl) ?_
        refine dl_end <| dw_region (by kernel_rfl) <| dl_r (sem_move rfl rfl) ?_
        refine dl_r (sem_ari (r := (k : Int) + 1) rfl rfl (ari_i64_add (by (first | omega | (simp; omega))) (by (first | omega | (simp; omega)))) rfl) ?_
        refine dl_r (sem_assign rfl rfl) <| dl_end ?_
        exact ⟨⟨(k + 1, 0, zs ++ [xs.getD k 0 + 1000000000 - c - ys.getD k 0 - 1000000000]), hI.step hk hd1 hd2 hd3 hd4 hdS⟩, sub_of ⟨rfl, rfl, rfl, rfl, by rw [show ((k + 1 : Nat) : Int) = (k : Int) + 1 from by omega]; rfl, trivial⟩ ⟨by rw [show xs.length - (k + 1) = xs.length - k - 1 from by omega, ← set_end (m := xs.length - k - 1) (d := xs.getD k 0 + 1000000000 - c - ys.getD k 0 - 1000000000) g6, show xs.length - k - 1 + 1 = xs.length - k from by omega]; rfl, trivial⟩ rfl, by show xs.length - (k + 1) < xs.length - k; omega⟩
      · simp only [decide_eq_false_iff_not] at hc3
        have hd1 : 0 ≤ xs.getD k 0 + 1000000000 - c - ys.getD k 0 := by omega
        have hd2 : xs.getD k 0 + 1000000000 - c - ys.getD k 0 < 1000000000 := by omega
        have hd3 : (0 : Int) ≤ 1 := by omega
        have hd4 : (1 : Int) ≤ 1 := by omega
        have hdS : xs.getD k 0 + 1000000000 - c - ys.getD k 0 - 1000000000 * 1 = xs.getD k 0 - c - ys.getD k 0 := by omega
        refine dw_skip <| dw_region (by kernel_rfl) <| dl_r (sem_move rfl rfl) <| dl_r (sem_move rfl rfl) <| dl_r (sem_move rfl rfl) ?_
        refine dl_r (sem_index_o sl27 rfl rfl (by (first | omega | (simp; omega))) rfl) ?_
        refine dl_st (sem_store (us := ((zs ++ List.replicate (xs.length - k) 0).set k ((((xs.getD k 0) + 1000000000) - c) - (ys.getD k 0))).map (CellD.i .u32)) ty134 rfl rfl rfl rfl (by simp; omega) (O_set (by (first | omega | (simp; omega)))) rfl) ?_
        refine dl_end <| dw_region (by kernel_rfl) <| dl_r (sem_move rfl rfl) ?_
        refine dl_r (sem_ari (r := (k : Int) + 1) rfl rfl (ari_i64_add (by (first | omega | (simp; omega))) (by (first | omega | (simp; omega)))) rfl) ?_
        refine dl_r (sem_assign rfl rfl) <| dl_end ?_
        exact ⟨⟨(k + 1, 1, zs ++ [xs.getD k 0 + 1000000000 - c - ys.getD k 0]), hI.step hk hd1 hd2 hd3 hd4 hdS⟩, sub_of ⟨rfl, rfl, rfl, rfl, by rw [show ((k + 1 : Nat) : Int) = (k : Int) + 1 from by omega]; rfl, trivial⟩ ⟨by rw [show xs.length - (k + 1) = xs.length - k - 1 from by omega, ← set_end (m := xs.length - k - 1) (d := xs.getD k 0 + 1000000000 - c - ys.getD k 0) g6, show xs.length - k - 1 + 1 = xs.length - k from by omega]; rfl, trivial⟩ rfl, by show xs.length - (k + 1) < xs.length - k; omega⟩
    · have hkq : ¬ k < ys.length := by simp only [decide_eq_false_iff_not] at hc2; omega
      have hq0 : ys.getD k 0 = 0 := by rw [List.getD, List.getElem?_eq_none (by omega)]; rfl
      refine dw_skip <| dw_seq <| dw_region (by kernel_rfl) <| dl_r (sem_assign rfl rfl) <| dl_end <| dw_seq <| dw_seq <| dw_region (by kernel_rfl) ?_
      refine dl_r (sem_move rfl rfl) <| dl_r (sem_cmp rfl rfl rfl rfl) <| dl_end ?_
      refine dw_cond rfl (fun hc4 => ?_) (fun hc4 => ?_)
      · simp only [decide_eq_true_eq] at hc4
        have hd1 : 0 ≤ xs.getD k 0 + 1000000000 - c - 1000000000 := by omega
        have hd2 : xs.getD k 0 + 1000000000 - c - 1000000000 < 1000000000 := by omega
        have hd3 : (0 : Int) ≤ 0 := by omega
        have hd4 : (0 : Int) ≤ 1 := by omega
        have hdS : xs.getD k 0 + 1000000000 - c - 1000000000 - 1000000000 * 0 = xs.getD k 0 - c - ys.getD k 0 := by omega
        refine dw_region (by kernel_rfl) <| dl_r (sem_move rfl rfl) ?_
        refine dl_r (sem_ari (r := (((xs.getD k 0) + 1000000000) - c) - 1000000000) rfl rfl (ari_u32_sub (by (first | omega | (simp; omega))) (by (first | omega | (simp; omega)))) rfl) ?_
        refine dl_r (sem_assign rfl rfl) <| dl_r (sem_assign rfl rfl) <| dl_end <| dw_region (by kernel_rfl) <| dl_r (sem_move rfl rfl) <| dl_r (sem_move rfl rfl) <| dl_r (sem_move rfl rfl) ?_
        refine dl_r (sem_index_o sl27 rfl rfl (by (first | omega | (simp; omega))) rfl) ?_
        refine dl_st (sem_store (us := ((zs ++ List.replicate (xs.length - k) 0).set k ((((xs.getD k 0) + 1000000000) - c) - 1000000000)).map (CellD.i .u32)) ty134 rfl rfl rfl rfl (by simp; omega) (O_set (by (first | omega | (simp; omega)))) rfl) ?_
        refine dl_end <| dw_region (by kernel_rfl) <| dl_r (sem_move rfl rfl) ?_
        refine dl_r (sem_ari (r := (k : Int) + 1) rfl rfl (ari_i64_add (by (first | omega | (simp; omega))) (by (first | omega | (simp; omega)))) rfl) ?_
        refine dl_r (sem_assign rfl rfl) <| dl_end ?_
        exact ⟨⟨(k + 1, 0, zs ++ [xs.getD k 0 + 1000000000 - c - 1000000000]), hI.step hk hd1 hd2 hd3 hd4 hdS⟩, sub_of ⟨rfl, rfl, rfl, rfl, by rw [show ((k + 1 : Nat) : Int) = (k : Int) + 1 from by omega]; rfl, trivial⟩ ⟨by rw [show xs.length - (k + 1) = xs.length - k - 1 from by omega, ← set_end (m := xs.length - k - 1) (d := xs.getD k 0 + 1000000000 - c - 1000000000) g6, show xs.length - k - 1 + 1 = xs.length - k from by omega]; rfl, trivial⟩ rfl, by show xs.length - (k + 1) < xs.length - k; omega⟩
      · simp only [decide_eq_false_iff_not] at hc4
        have hd1 : 0 ≤ xs.getD k 0 + 1000000000 - c := by omega
        have hd2 : xs.getD k 0 + 1000000000 - c < 1000000000 := by omega
        have hd3 : (0 : Int) ≤ 1 := by omega
        have hd4 : (1 : Int) ≤ 1 := by omega
        have hdS : xs.getD k 0 + 1000000000 - c - 1000000000 * 1 = xs.getD k 0 - c - ys.getD k 0 := by omega
        refine dw_skip <| dw_region (by kernel_rfl) <| dl_r (sem_move rfl rfl) <| dl_r (sem_move rfl rfl) <| dl_r (sem_move rfl rfl) ?_
        refine dl_r (sem_index_o sl27 rfl rfl (by (first | omega | (simp; omega))) rfl) ?_
        refine dl_st (sem_store (us := ((zs ++ List.replicate (xs.length - k) 0).set k (((xs.getD k 0) + 1000000000) - c)).map (CellD.i .u32)) ty134 rfl rfl rfl rfl (by simp; omega) (O_set (by (first | omega | (simp; omega)))) rfl) ?_
        refine dl_end <| dw_region (by kernel_rfl) <| dl_r (sem_move rfl rfl) ?_
        refine dl_r (sem_ari (r := (k : Int) + 1) rfl rfl (ari_i64_add (by (first | omega | (simp; omega))) (by (first | omega | (simp; omega)))) rfl) ?_
        refine dl_r (sem_assign rfl rfl) <| dl_end ?_
        exact ⟨⟨(k + 1, 1, zs ++ [xs.getD k 0 + 1000000000 - c]), hI.step hk hd1 hd2 hd3 hd4 hdS⟩, sub_of ⟨rfl, rfl, rfl, rfl, by rw [show ((k + 1 : Nat) : Int) = (k : Int) + 1 from by omega]; rfl, trivial⟩ ⟨by rw [show xs.length - (k + 1) = xs.length - k - 1 from by omega, ← set_end (m := xs.length - k - 1) (d := xs.getD k 0 + 1000000000 - c) g6, show xs.length - k - 1 + 1 = xs.length - k from by omega]; rfl, trivial⟩ rfl, by show xs.length - (k + 1) < xs.length - k; omega⟩
  · have hk : k = xs.length := by simp only [decide_eq_false_iff_not] at hc1; omega
    have hfin : val xs - val ys = val (zs ++ List.replicate (xs.length - k) 0) := by rw [show xs.length - k = 0 from by omega]; simp only [List.replicate_zero, List.append_nil]; rw [hI.done hk hlen hle]
    have hLf : Lim (zs ++ List.replicate (xs.length - k) 0) := hI.L.append (Lim.zeros _)
    refine dw_exit <| dw_seq ?_
    refine dw_relM (t := 5) (zs := zs ++ List.replicate (xs.length - k) 0) (ys := zs ++ List.replicate (xs.length - k) 0) rfl rfl (by first | omega | (simp; omega) | simp) (by omega) (by omega) (List.take_of_length_le (by first | omega | (simp; omega) | simp)) ?_
    refine dw_region (by kernel_rfl) <| dl_r (sem_move rfl rfl) <| dl_r (sem_call rfl rfl (rTrim_ok hLf (by simp; omega)) rfl) <| dl_r (sem_assign rfl rfl) <| dl_end <| dw_ret ?_
    rw [hfin]
    exact ⟨.inr rfl, (resL_tmp rfl resL_nil)⟩
theorem rTimes_ok {xs ys : List Int} (hLxs : Lim xs) (hLys : Lim ys) (hn : xs.length ≤ 1000000) (hm : ys.length ≤ 1000000) : Ok Tryz.prog 125 [.c (cM xs), .c (cM ys)] [.c (cL (val xs * val ys))] := by
  refine Ok.of (by kernel_rfl) Tryz.func125 rfl rfl ?_
  rw [show Tryz.f125.ntmps = 68 from rfl, show Tryz.f125.results.toList = [.tmp 4] from rfl]
  refine dw_seq <| dw_region (by kernel_rfl) <| dl_r (sem_assign rfl rfl) <| dl_end <| dw_seq <| dw_region (by kernel_rfl) <| dl_r (sem_move rfl rfl) <| dl_r (sem_len sl27 rfl rfl) ?_
  refine dl_r (sem_move rfl rfl) <| dl_r (sem_len sl27 rfl rfl) ?_
  refine dl_r (sem_ari (r := (xs.length : Int) + (ys.length : Int)) rfl rfl (ari_i64_add (by (first | omega | (simp; omega))) (by (first | omega | (simp; omega)))) rfl) ?_
  refine dl_mk (sem_make (n := xs.length + ys.length) el27 rfl rfl (by (first | omega | (simp; omega))) (by (first | omega | (simp; omega))) rfl) rfl ?_
  refine dl_r (sem_assign rfl rfl) <| dl_end <| dw_seq <| dw_seq <| dw_region (by kernel_rfl) <| dl_r (sem_assign rfl rfl) <| dl_end <| dw_block ?_
  refine dw_loop (ι := {t : Nat × List Int // TInv xs ys t.1 0 0 t.2}) (fun i => ⟨68, [(0, .v (.c (cM xs))), (1, .v (.c (cM ys))), (5, .o 14 (xs.length + ys.length) (xs.length + ys.length)), (6, .v (.c (.i .i64 (i.1.1 : Int))))], [(14, 134, i.1.2.map (CellD.i .u32))]⟩) (fun i => xs.length - i.1.1) ⟨(0, List.replicate (xs.length + ys.length) 0), TInv.start⟩ (sub_of ⟨rfl, rfl, rfl, rfl, trivial⟩ ⟨by rw [show (List.replicate (xs.length + ys.length) (CellD.i .u32 0)) = (List.replicate (xs.length + ys.length) 0).map (CellD.i .u32) from by simp]; rfl, trivial⟩ rfl) ?_
  rintro ⟨⟨j, zs⟩, hI⟩
  replace hI : TInv xs ys j 0 0 zs := hI
  have g5 := hI.ik
  have g6 := hI.len
  show Dw _ _ ⟨68, [(0, .v (.c (cM xs))), (1, .v (.c (cM ys))), (5, .o 14 (xs.length + ys.length) (xs.length + ys.length)), (6, .v (.c (.i .i64 (j : Int))))], [(14, 134, zs.map (CellD.i .u32))]⟩ _
  refine dw_seq <| dw_seq <| dw_region (by kernel_rfl) <| dl_r (sem_move rfl rfl) <| dl_r (sem_move rfl rfl) <| dl_r (sem_len sl27 rfl rfl) <| dl_r (sem_cmp rfl rfl rfl rfl) <| dl_end ?_
  refine dw_cond rfl (fun hc1 => ?_) (fun hc1 => ?_)
  · have hj : j < xs.length := by simp only [decide_eq_true_eq] at hc1; omega
    refine dw_skip <| dw_seq <| dw_block <| dw_seq <| dw_region (by kernel_rfl) <| dl_r (sem_assign rfl rfl) <| dl_end <| dw_seq ?_
    refine dw_seq <| dw_region (by kernel_rfl) <| dl_r (sem_assign rfl rfl) <| dl_end <| dw_block <| dw_loop (ι := {t : Nat × Int × List Int // TInv xs ys j t.1 t.2.1 t.2.2}) (fun i => ⟨68, [(0, .v (.c (cM xs))), (1, .v (.c (cM ys))), (5, .o 14 (xs.length + ys.length) (xs.length + ys.length)), (6, .v (.c (.i .i64 (j : Int)))), (7, .v (.c (.i .u64 i.1.2.1))), (8, .v (.c (.i .i64 (i.1.1 : Int))))], [(14, 134, i.1.2.2.map (CellD.i .u32))]⟩) (fun i => ys.length - i.1.1) ⟨(0, 0, zs), hI⟩ (sub_of ⟨rfl, rfl, rfl, rfl, rfl, rfl, trivial⟩ ⟨rfl, trivial⟩ rfl) ?_
    clear hI g6
    rintro ⟨⟨k, c, zs⟩, hI⟩
    replace hI : TInv xs ys j k c zs := hI
    have g1 := lim_getD hLxs j
    have g2 := lim_getD hLys k
    have g8 := lim_getD hI.L (j + k)
    have g3 := hI.c0
    have g4 := hI.c1
    have g5 := hI.ik
    have g7 := hI.kk
    have g6 := hI.len
    show Dw _ _ ⟨68, [(0, .v (.c (cM xs))), (1, .v (.c (cM ys))), (5, .o 14 (xs.length + ys.length) (xs.length + ys.length)), (6, .v (.c (.i .i64 (j : Int)))), (7, .v (.c (.i .u64 c))), (8, .v (.c (.i .i64 (k : Int))))], [(14, 134, zs.map (CellD.i .u32))]⟩ _
    refine dw_seq <| dw_seq <| dw_region (by kernel_rfl) <| dl_r (sem_move rfl rfl) <| dl_r (sem_move rfl rfl) <| dl_r (sem_len sl27 rfl rfl) <| dl_r (sem_cmp rfl rfl rfl rfl) <| dl_end ?_
    refine dw_cond rfl (fun hc2 => ?_) (fun hc2 => ?_)
    · have hk : k < ys.length := by simp only [decide_eq_true_eq] at hc2; omega
      have hm0 : 0 ≤ xs.getD j 0 * ys.getD k 0 := Int.mul_nonneg g1.1 g2.1
      have hm1 : xs.getD j 0 * ys.getD k 0 ≤ 999999999 * 999999999 := Int.mul_le_mul (by omega) (by omega) g2.1 (by omega)
      refine dw_skip <| dw_seq <| dw_block <| dw_seq <| dw_draw 22 [] follows_mixed (by kernel_rfl) rfl rfl <| dq_r (sem_move rfl rfl) <| dq_r (sem_move rfl rfl) <| dq_r (sem_move rfl rfl) ?_
      refine dq_r (sem_move rfl rfl) <| dq_r (sem_ari (r := (j : Int) + (k : Int)) rfl rfl (ari_i64_add (by omega) (by omega)) rfl) ?_
      refine dq_r (sem_index_o sl27 rfl rfl (by (first | omega | (simp; omega))) rfl) ?_
      refine dq_r (sem_load1 ty134 rfl rfl (O_get (i := j + k) (by (first | omega | (simp; omega)))) rfl) ?_
      refine dq_r (sem_conv' (r := zs.getD (j + k) 0) und134 und84 rfl (nwu64 (by (first | omega | (simp; omega))) (by (first | omega | (simp; omega)))) rfl) ?_
      refine dq_r (sem_ari (r := c + (zs.getD (j + k) 0)) rfl rfl (ari_u64_add (by (first | omega | (simp; omega))) (by (first | omega | (simp; omega)))) rfl) ?_
      refine dq_r (sem_move rfl rfl) <| dq_r (sem_move rfl rfl) ?_
      refine dq_r (sem_index sl27 rfl rfl (by (first | omega | (simp; omega))) (M_len _) rfl rfl) ?_
      refine dq_r (sem_loadq1 ty134 rfl (M_get (i := j) (by (first | omega | (simp; omega)))) rfl) ?_
      refine dq_r (sem_conv' (r := xs.getD j 0) und134 und84 rfl (nwu64 (by (first | omega | (simp; omega))) (by (first | omega | (simp; omega)))) rfl) ?_
      refine dq_r (sem_move rfl rfl) <| dq_r (sem_move rfl rfl) ?_
      refine dq_r (sem_index sl27 rfl rfl (by (first | omega | (simp; omega))) (M_len _) rfl rfl) ?_
      refine dq_r (sem_loadq1 ty134 rfl (M_get (i := k) (by (first | omega | (simp; omega)))) rfl) ?_
      refine dq_r (sem_conv' (r := ys.getD k 0) und134 und84 rfl (nwu64 (by (first | omega | (simp; omega))) (by (first | omega | (simp; omega)))) rfl) ?_
      refine dq_r (sem_ari (r := (xs.getD j 0) * (ys.getD k 0)) rfl rfl (ari_u64_mul (by (first | omega | (simp; omega))) (by (first | omega | (simp; omega)))) rfl) ?_
      refine dq_r (sem_ari (r := (c + (zs.getD (j + k) 0)) + ((xs.getD j 0) * (ys.getD k 0))) rfl rfl (ari_u64_add (by (first | omega | (simp; omega))) (by (first | omega | (simp; omega)))) rfl) ?_
      refine dq_r (sem_assign rfl rfl) <| dq_end <| dl_start0 <| dl_end <| dw_seq <| dw_region (by kernel_rfl) <| dl_r (sem_move rfl rfl) <| dl_r (sem_move rfl rfl) ?_
      refine dl_r (sem_move rfl rfl) <| dl_r (sem_ari (r := (j : Int) + (k : Int)) rfl rfl (ari_i64_add (by omega) (by omega)) rfl) <| dl_r (sem_move rfl rfl) <| dl_r (sem_rem' (r := (c + zs.getD (j + k) 0 + xs.getD j 0 * ys.getD k 0) % 1000000000) rfl rfl (by omega) (Int.tmod_eq_emod_of_nonneg (by omega)) rfl) <| dl_r (sem_conv' (r := (c + zs.getD (j + k) 0 + xs.getD j 0 * ys.getD k 0) % 1000000000) und84 und134 rfl (nwu32 (by omega) (by omega)) rfl) ?_
      refine dl_r (sem_index_o sl27 rfl rfl (by (first | omega | (simp; omega))) rfl) ?_
      refine dl_st (sem_store (us := (zs.set (j + k) ((c + zs.getD (j + k) 0 + xs.getD j 0 * ys.getD k 0) % 1000000000)).map (CellD.i .u32)) ty134 rfl rfl rfl rfl (by simp; omega) (O_set (by (first | omega | (simp; omega)))) rfl) ?_
      refine dl_end <| dw_region (by kernel_rfl) <| dl_r (sem_move rfl rfl) <| dl_r (sem_quo' (r := (c + zs.getD (j + k) 0 + xs.getD j 0 * ys.getD k 0) / 1000000000) rfl rfl (by omega) (by rw [Int.tdiv_eq_ediv_of_nonneg (by omega)]; exact nwu64 (by omega) (by omega)) rfl) <| dl_r (sem_assign rfl rfl) <| dl_end <| dw_region (by kernel_rfl) <| dl_r (sem_move rfl rfl) ?_
      refine dl_r (sem_ari (r := (k : Int) + 1) rfl rfl (ari_i64_add (by (first | omega | (simp; omega))) (by (first | omega | (simp; omega)))) rfl) ?_
      refine dl_r (sem_assign rfl rfl) <| dl_end ?_
      exact ⟨⟨(k + 1, (c + zs.getD (j + k) 0 + xs.getD j 0 * ys.getD k 0) / 1000000000, zs.set (j + k) ((c + zs.getD (j + k) 0 + xs.getD j 0 * ys.getD k 0) % 1000000000)), hI.step hLxs hLys hj hk rfl⟩, sub_of ⟨rfl, rfl, rfl, rfl, rfl, by rw [show ((k + 1 : Nat) : Int) = (k : Int) + 1 from by omega]; rfl, trivial⟩ ⟨rfl, trivial⟩ rfl, by show ys.length - (k + 1) < ys.length - k; omega⟩
    · have hk : k = ys.length := by simp only [decide_eq_false_iff_not] at hc2; omega
      refine dw_exit <| dw_region (by kernel_rfl) <| dl_r (sem_move rfl rfl) <| dl_r (sem_move rfl rfl) <| dl_r (sem_move rfl rfl) <| dl_r (sem_len sl27 rfl rfl) ?_
      refine dl_r (sem_ari (r := (j : Int) + (ys.length : Int)) rfl rfl (ari_i64_add (by (first | omega | (simp; omega))) (by (first | omega | (simp; omega)))) rfl) ?_
      refine dl_r (sem_move rfl rfl) <| dl_r (sem_conv' (r := c) und84 und134 rfl (nwu32 (by omega) (by omega)) rfl) ?_
      refine dl_r (sem_index_o sl27 rfl rfl (by (first | omega | (simp; omega))) rfl) ?_
      refine dl_st (sem_store (us := (zs.set (j + ys.length) c).map (CellD.i .u32)) ty134 rfl rfl rfl rfl (by simp; omega) (O_set (by (first | omega | (simp; omega)))) rfl) ?_
      refine dl_end <| dw_region (by kernel_rfl) <| dl_r (sem_move rfl rfl) ?_
      refine dl_r (sem_ari (r := (j : Int) + 1) rfl rfl (ari_i64_add (by (first | omega | (simp; omega))) (by (first | omega | (simp; omega)))) rfl) ?_
      refine dl_r (sem_assign rfl rfl) <| dl_end ?_
      exact ⟨⟨(j + 1, zs.set (j + ys.length) c), hI.row hj hk⟩, sub_of ⟨rfl, rfl, rfl, by rw [show ((j + 1 : Nat) : Int) = (j : Int) + 1 from by omega]; rfl, trivial⟩ ⟨rfl, trivial⟩ rfl, by show xs.length - (j + 1) < xs.length - j; omega⟩
  · have hj : j = xs.length := by simp only [decide_eq_false_iff_not] at hc1; omega
    have hfin : val xs * val ys = val zs := (hI.done hj).symm
    have hLf : Lim zs := hI.L
    refine dw_exit <| dw_seq ?_
    refine dw_relM (t := 5) (zs := zs) (ys := zs) rfl rfl (by first | omega | (simp; omega) | simp) (by omega) (by omega) (List.take_of_length_le (by first | omega | (simp; omega) | simp)) ?_
    refine dw_region (by kernel_rfl) <| dl_r (sem_move rfl rfl) <| dl_r (sem_call rfl rfl (rTrim_ok hLf (by omega)) rfl) <| dl_r (sem_assign rfl rfl) <| dl_end <| dw_ret ?_
    rw [hfin]
    exact ⟨.inr rfl, (resL_tmp rfl resL_nil)⟩
theorem rBy_ok {xs : List Int} {m : Int} (hLxs : Lim xs) (hn : xs.length ≤ 1000000) (h0 : 0 ≤ m) (h1 : m < 1000000000) : Ok Tryz.prog 156 [.c (cM xs), .c (.i .u32 m)] [.c (cL (val xs * m))] := by
  have hv1 : val [m] = m := by simp [val]
  refine Ok.of (by kernel_rfl) Tryz.func156 rfl rfl ?_
  rw [show Tryz.f156.ntmps = 10 from rfl, show Tryz.f156.results.toList = [.tmp 4] from rfl]
  refine dw_seq <| dw_region (by kernel_rfl) <| dl_r (sem_assign rfl rfl) <| dl_end <| dw_seq <| dw_region (by kernel_rfl) <| dl_r (sem_move rfl rfl) <| dl_r (sem_move rfl rfl) ?_
  refine dl_r (sem_slit_M el27 rfl rfl) <| dl_r (sem_call rfl rfl (rTrim_ok (Lim.nil.cons h0 h1) (Nat.le_of_ble_eq_true rfl)) rfl) <| dl_r (sem_call rfl rfl (rTimes_ok hLxs (lim_lim _) hn (lim_len (x := val [m]) (k := 1000000) (by rw [hv1]; exact Sz.small (by omega) (by omega) (by omega)))) rfl) <| dl_r (sem_assign rfl rfl) <| dl_end <| dw_ret ?_
  rw [show val xs * m = val xs * val (lim (val [m]).natAbs) from by rw [val_lim, show (((val [m]).natAbs : Nat) : Int) = m from by simp [val]; omega]]
  exact ⟨.inr rfl, (resL_tmp rfl resL_nil)⟩
theorem rCompare_ok {xs ys : List Int} (hLxs : Lim xs) (hLys : Lim ys) (nX : Nrm xs) (nY : Nrm ys) (hn : xs.length ≤ 1000000) (_hm : ys.length ≤ 1000000) : Ok Tryz.prog 127 [.c (cM xs), .c (cM ys)] [.c (.i .i64 (cmpI (val xs) (val ys)))] := by
  refine Ok.of (by kernel_rfl) Tryz.func127 rfl rfl ?_
  rw [show Tryz.f127.ntmps = 41 from rfl, show Tryz.f127.results.toList = [.tmp 4] from rfl]
  refine dw_seq <| dw_region (by kernel_rfl) <| dl_r (sem_assign rfl rfl) <| dl_end <| dw_seq <| dw_seq <| dw_region (by kernel_rfl) <| dl_r (sem_move rfl rfl) ?_
  refine dl_r (sem_len sl27 rfl rfl) <| dl_r (sem_move rfl rfl) <| dl_r (sem_len sl27 rfl rfl) <| dl_r (sem_cmp rfl rfl rfl rfl) <| dl_end ?_
  refine dw_cond rfl (fun hc1 => ?_) (fun hc1 => ?_)
  · have hne : xs.length ≠ ys.length := by simp only [bne_iff_ne, ne_eq] at hc1; omega
    refine dw_seq <| dw_seq <| dw_region (by kernel_rfl) <| dl_r (sem_move rfl rfl) <| dl_r (sem_len sl27 rfl rfl) <| dl_r (sem_move rfl rfl) <| dl_r (sem_len sl27 rfl rfl) <| dl_r (sem_cmp rfl rfl rfl rfl) ?_
    refine dl_end ?_
    refine dw_cond rfl (fun hc2 => ?_) (fun hc2 => ?_)
    · have hfin : cmpI (val xs) (val ys) = -1 := cmp_lt (cmp_len nY hLxs hLys (by simp only [decide_eq_true_eq] at hc2; omega))
      refine dw_seq <| dw_region (by kernel_rfl) <| dl_r (sem_assign rfl rfl) <| dl_end <| dw_ret ?_
      rw [hfin]
      exact ⟨.inr rfl, (resL_tmp rfl resL_nil)⟩
    · have hfin : cmpI (val xs) (val ys) = 1 := cmp_gt (cmp_len nX hLys hLxs (by simp only [decide_eq_false_iff_not] at hc2; omega))
      refine dw_skip <| dw_seq <| dw_region (by kernel_rfl) <| dl_r (sem_assign rfl rfl) <| dl_end <| dw_ret ?_
      rw [hfin]
      exact ⟨.inr rfl, (resL_tmp rfl resL_nil)⟩
  · have heq : xs.length = ys.length := by simp only [bne_eq_false_iff_eq] at hc1; omega
    refine dw_skip <| dw_seq <| dw_seq <| dw_region (by kernel_rfl) <| dl_r (sem_move rfl rfl) <| dl_r (sem_len sl27 rfl rfl) ?_
    refine dl_r (sem_ari (r := (xs.length : Int) - 1) rfl rfl (ari_i64_sub (by (first | omega | (simp; omega))) (by (first | omega | (simp; omega)))) rfl) ?_
    refine dl_r (sem_assign rfl rfl) <| dl_end <| dw_block <| dw_loop (ι := {j : Nat // j ≤ xs.length ∧ xs.drop j = ys.drop j}) (fun i => ⟨41, [(0, .v (.c (cM xs))), (1, .v (.c (cM ys))), (5, .v (.c (.i .i64 ((i.1 : Int) - 1))))], []⟩) (fun i => i.1) ⟨xs.length, Nat.le_refl _, by rw [List.drop_eq_nil_of_le (Nat.le_refl _), List.drop_eq_nil_of_le (by omega)]⟩ (sub_of ⟨rfl, rfl, rfl, trivial⟩ trivial rfl) ?_
    rintro ⟨j, hj, hD⟩
    show Dw _ _ ⟨41, [(0, .v (.c (cM xs))), (1, .v (.c (cM ys))), (5, .v (.c (.i .i64 ((j : Int) - 1))))], []⟩ _
    refine dw_seq <| dw_seq <| dw_region (by kernel_rfl) <| dl_r (sem_move rfl rfl) <| dl_r (sem_cmp rfl rfl rfl rfl) <| dl_end ?_
    refine dw_cond rfl (fun hc3 => ?_) (fun hc3 => ?_)
    · obtain ⟨q, rfl⟩ : ∃ q, j = q + 1 := ⟨j - 1, by simp only [decide_eq_true_eq] at hc3; omega⟩
      have e1 := getD_some (xs := xs) (i := q) (by omega)
      have e2 := getD_some (xs := ys) (i := q) (by omega)
      refine Dw.weak (σ' := ⟨41, [(0, .v (.c (cM xs))), (1, .v (.c (cM ys))), (5, .v (.c (.i .i64 (q : Int))))], []⟩) (sub_of ⟨rfl, rfl, by rw [show (q : Int) = ((q + 1 : Nat) : Int) - 1 from by omega]; rfl, trivial⟩ trivial rfl) <| dw_skip <| dw_seq <| dw_block <| dw_seq <| dw_seq <| dw_draw 9 [] follows_mixed (by kernel_rfl) rfl rfl <| dq_r (sem_move rfl rfl) ?_
      refine dq_r (sem_move rfl rfl) ?_
      refine dq_r (sem_index sl27 rfl rfl (by (first | omega | (simp; omega))) (M_len _) rfl rfl) ?_
      refine dq_r (sem_loadq1 ty134 rfl (M_get (i := q) (by (first | omega | (simp; omega)))) rfl) ?_
      refine dq_r (sem_move rfl rfl) <| dq_r (sem_move rfl rfl) ?_
      refine dq_r (sem_index sl27 rfl rfl (by (first | omega | (simp; omega))) (M_len _) rfl rfl) ?_
      refine dq_r (sem_loadq1 ty134 rfl (M_get (i := q) (by (first | omega | (simp; omega)))) rfl) ?_
      refine dq_r (sem_cmp rfl rfl rfl rfl) <| dq_end <| dl_start0 <| dl_end ?_
      refine dw_cond rfl (fun hc4 => ?_) (fun hc4 => ?_)
      · have hfin : cmpI (val xs) (val ys) = -1 := cmp_lt (cmp_at hLxs hLys e1 e2 hD (by simpa using hc4))
        refine dw_seq <| dw_region (by kernel_rfl) <| dl_r (sem_assign rfl rfl) <| dl_end <| dw_ret ?_
        rw [hfin]
        exact ⟨.inr rfl, (resL_tmp rfl resL_nil)⟩
      · have hlt : ¬ xs.getD q 0 < ys.getD q 0 := by simpa using hc4
        refine dw_skip <| dw_seq <| dw_draw 9 [] follows_mixed (by kernel_rfl) rfl rfl <| dq_r (sem_move rfl rfl) <| dq_r (sem_move rfl rfl) ?_
        refine dq_r (sem_index sl27 rfl rfl (by (first | omega | (simp; omega))) (M_len _) rfl rfl) ?_
        refine dq_r (sem_loadq1 ty134 rfl (M_get (i := q) (by (first | omega | (simp; omega)))) rfl) ?_
        refine dq_r (sem_move rfl rfl) <| dq_r (sem_move rfl rfl) ?_
        refine dq_r (sem_index sl27 rfl rfl (by (first | omega | (simp; omega))) (M_len _) rfl rfl) ?_
        refine dq_r (sem_loadq1 ty134 rfl (M_get (i := q) (by (first | omega | (simp; omega)))) rfl) ?_
        refine dq_r (sem_cmp rfl rfl rfl rfl) <| dq_end <| dl_start0 <| dl_end ?_
        refine dw_cond rfl (fun hc5 => ?_) (fun hc5 => ?_)
        · have hfin : cmpI (val xs) (val ys) = 1 := cmp_gt (cmp_at hLys hLxs e2 e1 hD.symm (by simpa using hc5))
          refine dw_seq <| dw_region (by kernel_rfl) <| dl_r (sem_assign rfl rfl) <| dl_end <| dw_ret ?_
          rw [hfin]
          exact ⟨.inr rfl, (resL_tmp rfl resL_nil)⟩
        · have hgt : ¬ xs.getD q 0 > ys.getD q 0 := by simpa using hc5
          refine dw_skip <| dw_region (by kernel_rfl) <| dl_r (sem_move rfl rfl) ?_
          refine dl_r (sem_ari (r := (q : Int) - 1) rfl rfl (ari_i64_sub (by (first | omega | (simp; omega))) (by (first | omega | (simp; omega)))) rfl) ?_
          refine dl_r (sem_assign rfl rfl) <| dl_end ?_
          exact ⟨⟨q, by omega, drop_step (by omega) (by omega) hD (by omega)⟩, sub_of ⟨rfl, rfl, rfl, trivial⟩ trivial rfl, by show q < q + 1; omega⟩
    · have hz : j = 0 := by simp only [decide_eq_false_iff_not] at hc3; omega
      have hfin : cmpI (val xs) (val ys) = 0 := by subst hz; simp only [List.drop_zero] at hD; rw [hD]; exact cmp_eq rfl
      refine dw_exit <| dw_seq <| dw_region (by kernel_rfl) <| dl_r (sem_assign rfl rfl) <| dl_end <| dw_ret ?_
      rw [hfin]
      exact ⟨.inr rfl, (resL_tmp rfl resL_nil)⟩
theorem rShort_ok {xs : List Int} (hLxs : Lim xs) (hn : xs.length ≤ 1000000) (hb : val xs ≤ 18446744073709551615) : Ok Tryz.prog 114 [.c (cM xs)] [.c (.i .u64 (val xs))] := by
  refine Ok.of (by kernel_rfl) Tryz.func114 rfl rfl ?_
  rw [show Tryz.f114.ntmps = 21 from rfl, show Tryz.f114.results.toList = [.tmp 2] from rfl]
  refine dw_seq <| dw_region (by kernel_rfl) <| dl_r (sem_assign rfl rfl) <| dl_end <| dw_seq <| dw_region (by kernel_rfl) <| dl_r (sem_assign rfl rfl) <| dl_end ?_
  refine dw_seq <| dw_seq <| dw_region (by kernel_rfl) <| dl_r (sem_move rfl rfl) <| dl_r (sem_len sl27 rfl rfl) ?_
  refine dl_r (sem_ari (r := (xs.length : Int) - 1) rfl rfl (ari_i64_sub (by (first | omega | (simp; omega))) (by (first | omega | (simp; omega)))) rfl) ?_
  refine dl_r (sem_assign rfl rfl) <| dl_end <| dw_block <| dw_loop (ι := {t : Nat × Int // ShInv xs t.1 t.2}) (fun i => ⟨21, [(0, .v (.c (cM xs))), (3, .v (.c (.i .u64 i.1.2))), (4, .v (.c (.i .i64 ((i.1.1 : Int) - 1))))], []⟩) (fun i => i.1.1) ⟨(xs.length, 0), ⟨Nat.le_refl _, Int.le_refl 0, by rw [List.take_length]; simp⟩⟩ (sub_of ⟨rfl, rfl, rfl, trivial⟩ trivial rfl) ?_
  rintro ⟨⟨j, r⟩, hI⟩
  replace hI : ShInv xs j r := hI
  have g5 := hI.le
  have g3 := hI.r0
  show Dw _ _ ⟨21, [(0, .v (.c (cM xs))), (3, .v (.c (.i .u64 r))), (4, .v (.c (.i .i64 ((j : Int) - 1))))], []⟩ _
  refine dw_seq <| dw_seq <| dw_region (by kernel_rfl) <| dl_r (sem_move rfl rfl) <| dl_r (sem_cmp rfl rfl rfl rfl) <| dl_end ?_
  refine dw_cond rfl (fun hc1 => ?_) (fun hc1 => ?_)
  · obtain ⟨q, rfl⟩ : ∃ q, j = q + 1 := ⟨j - 1, by simp only [decide_eq_true_eq] at hc1; omega⟩
    have hS := hI.step hLxs
    have hB := hS.bound hLxs
    have g1 := lim_getD hLxs q
    refine Dw.weak (σ' := ⟨21, [(0, .v (.c (cM xs))), (3, .v (.c (.i .u64 r))), (4, .v (.c (.i .i64 (q : Int))))], []⟩) (sub_of ⟨rfl, rfl, by rw [show (q : Int) = ((q + 1 : Nat) : Int) - 1 from by omega]; rfl, trivial⟩ trivial rfl) <| dw_skip <| dw_seq <| dw_block <| dw_region (by kernel_rfl) <| dl_r (sem_move rfl rfl) ?_
    refine dl_r (sem_ari (r := r * 1000000000) rfl rfl (ari_u64_mul (by (first | omega | (simp; omega))) (by (first | omega | (simp; omega)))) rfl) ?_
    refine dl_r (sem_move rfl rfl) <| dl_r (sem_move rfl rfl) ?_
    refine dl_r (sem_index sl27 rfl rfl (by (first | omega | (simp; omega))) (M_len _) rfl rfl) ?_
    refine dl_r (sem_loadq1 ty134 rfl (M_get (i := q) (by (first | omega | (simp; omega)))) rfl) ?_
    refine dl_r (sem_conv' (r := xs.getD q 0) und134 und84 rfl (nwu64 (by (first | omega | (simp; omega))) (by (first | omega | (simp; omega)))) rfl) ?_
    refine dl_r (sem_ari (r := (r * 1000000000) + (xs.getD q 0)) rfl rfl (ari_u64_add (by (first | omega | (simp; omega))) (by (first | omega | (simp; omega)))) rfl) ?_
    refine dl_r (sem_assign rfl rfl) <| dl_end <| dw_region (by kernel_rfl) <| dl_r (sem_move rfl rfl) ?_
    refine dl_r (sem_ari (r := (q : Int) - 1) rfl rfl (ari_i64_sub (by (first | omega | (simp; omega))) (by (first | omega | (simp; omega)))) rfl) ?_
    refine dl_r (sem_assign rfl rfl) <| dl_end ?_
    exact ⟨⟨(q, r * 1000000000 + xs.getD q 0), hS⟩, sub_of ⟨rfl, rfl, rfl, trivial⟩ trivial rfl, by show q < q + 1; omega⟩
  · have hz : j = 0 := by simp only [decide_eq_false_iff_not] at hc1; omega
    have hfin : val xs = r := by subst hz; have := hI.v; simp [val, pw_zero] at this; omega
    refine dw_exit <| dw_seq <| dw_region (by kernel_rfl) <| dl_r (sem_move rfl rfl) <| dl_r (sem_assign rfl rfl) <| dl_end <| dw_ret ?_
    rw [hfin]
    exact ⟨.inr rfl, (resL_tmp rfl resL_nil)⟩
theorem rSigned_ok {neg : Bool} {xs : List Int} (hL : Lim xs) (hn : xs.length ≤ 10000000) : Ok Tryz.prog 74 [.c (.b neg), .c (cM xs)] [dI (sg neg (val xs))] := by
  refine Ok.of (by kernel_rfl) Tryz.func74 rfl rfl ?_
  rw [show Tryz.f74.ntmps = 15 from rfl, show Tryz.f74.results.toList = [.cell 4 29] from rfl]
  refine dw_seq <| dw_region (by kernel_rfl) <| dl_new (sem_alloc zc29 rfl) rfl <| dl_end <| dw_seq <| dw_region (by kernel_rfl) <| dl_r (sem_move rfl rfl) <| dl_r (sem_call rfl rfl (rTrim_ok hL (by omega)) rfl) ?_
  refine dl_r (sem_assign rfl rfl) <| dl_end <| dw_seq <| dw_region (by kernel_rfl) <| dl_r (sem_move rfl rfl) ?_
  refine dl_rb (sem_move rfl rfl) (fun c1 hb1 => ?_)
  cases c1
  · have hfin : dI (sg neg (val xs)) = .a ([.b false] ++ [cL (val xs)]) := by rw [hb1, sg_false]; unfold dI cI; rw [show decide (val xs < 0) = false from by have := val_nonneg hL; simp; omega]; rfl
    refine dl_skip (sem_skip rfl) <| dl_skip (sem_skip rfl) <| dl_skip (sem_skip rfl) <| dl_r (sem_pick rfl rfl rfl rfl) <| dl_r (sem_move rfl rfl) <| dl_r (sem_build (us := ([.b false] ++ [cL (val xs)])) fs29 zc29 rfl rfl rfl) <| dl_st (sem_store_a ty29 rfl rfl rfl rfl rfl rfl) <| dl_end ?_
    refine dw_ret ?_
    rw [hfin]
    exact ⟨.inr rfl, (resL_cell (us := ([.b false] ++ [cL (val xs)])) ty29 rfl rfl rfl rfl resL_nil)⟩
  · have hfin : dI (sg neg (val xs)) = .a ([.b (decide (((lim (val xs).natAbs).length : Int) > 0))] ++ [cL (val xs)]) := by rw [hb1]; exact sg_data (val_nonneg hL)
    refine dl_r (sem_move rfl rfl) <| dl_r (sem_len sl27 rfl rfl) <| dl_r (sem_cmp rfl rfl rfl rfl) <| dl_r (sem_pick rfl rfl rfl rfl) <| dl_r (sem_move rfl rfl) <| dl_r (sem_build (us := ([.b (decide ((((lim (val xs).natAbs).length : Int)) > 0))] ++ [cL (val xs)])) fs29 zc29 rfl rfl rfl) <| dl_st (sem_store_a ty29 rfl rfl rfl rfl rfl rfl) <| dl_end ?_
    refine dw_ret ?_
    rw [hfin]
    exact ⟨.inr rfl, (resL_cell (us := ([.b (decide ((((lim (val xs).natAbs).length : Int)) > 0))] ++ [cL (val xs)])) ty29 rfl rfl rfl rfl resL_nil)⟩
theorem lim_step {r : Int} (h : 0 < r) : lim r.toNat = (r % 1000000000) :: lim (r / 1000000000).toNat := by
  rw [lim_pos (by omega)]
  congr 1
  · omega
  · congr 1; omega
set_option maxHeartbeats 1000000 in
set_option maxRecDepth 10000 in
theorem rlimbs_any (u : Int) (w : World) (h0 : 0 ≤ u) (h1 : u ≤ 18446744073709551615) :
    Calls Tryz.prog 75 #[.int .u64 u] w fun e w' => ∃ v, e = .returned v ∧ w'.ownsRow w.heap.size 134 1 v (lim u.toNat).length ((lim u.toNat).map (Value.int .u32)) ∧ Below w.heap.size w w' := by
  obtain ⟨i0, hi0, hz0, hz1, hz2⟩ := info_parts info_u32
  have hlen : (lim u.toNat).length ≤ 3 := by
    refine (nrm_lim _).len (lim_lim _) ?_
    rw [val_lim]
    have h3 : pw 3 = 1000000000000000000000000000 := by decide
    omega
  go_enter Tryz.func75, Tryz.ntmps75
  go_wp2_with fail
  go_loopw [0, 3] (fun n v wr => ∃ (r : Int) (k : Nat) (zs : List Int), n = .int .u64 r ∧ 0 ≤ r ∧ r ≤ u ∧ wr.ownsRow w.heap.size 134 1 v k (zs.map (Value.int .u32)) ∧ Below w.heap.size w wr ∧ Hid (zs.length = k ∧ lim u.toNat = zs ++ lim r.toNat))
    (fun n _ _ => (intOf n).toNat)
  case atStart => exact ⟨u, 0, [], rfl, h0, Int.le_refl _, own_nil _ _ _ _, Below.refl _ _, rfl, rfl⟩
  case round =>
    obtain ⟨r, k, zs, rfl, hr0, hru, hown, hbel, H⟩ := hrel
    have hz := hbel.size
    by_cases hr : 0 < r
    · have Hs : Hid ((zs ++ [r % 1000000000]).length = k + 1 ∧ lim u.toNat = (zs ++ [r % 1000000000]) ++ lim (r / 1000000000).toNat) := by
        obtain ⟨l1, l2⟩ := H.out
        refine ⟨by simp [l1], ?_⟩
        rw [l2, lim_step hr]; simp
      have hk : k ≤ 3 := by
        obtain ⟨l1, l2⟩ := H.out
        rw [l2] at hlen
        simp at hlen; omega
      clear H
      have e1 : r.tmod 1000000000 = r % 1000000000 := Int.tmod_eq_emod_of_nonneg hr0
      have e2 : IntKind.u32.wrap (r % 1000000000) = r % 1000000000 := nwu32 (by omega) (by omega)
      have e3 : r.tdiv 1000000000 = r / 1000000000 := Int.tdiv_eq_ediv_of_nonneg hr0
      have e4 : IntKind.u64.wrap (r / 1000000000) = r / 1000000000 := nwu64 (by omega) (by omega)
      go_wp2_with (at_builtin; go_must (refine wpList_append_own _ rfl _ _ 27 rfl w.heap.size 134 i0 (.int .u32 0) 1 4 Tryz.underlying27 hi0 hz0 hz1 hz2 rfl (by decide) _ _ _ rfl (hown.alloc _) ⟨wr.heap.size, 0, none⟩ 1 1 [.int .u32 _] rfl rfl (cell_one_new _ _ _) (by simp [Value.oneCell']) (by unfold maxLen; omega) (by omega) (by simp; omega) ?_); intro v' w1 hown' hgrow' _)
      go_roundw
      case rel => exact ⟨r / 1000000000, k + 1, _, by first | rfl | (simp [e3, e4]), by omega, by omega, by simpa using hown', below_append hown hbel hz hgrow', Hs⟩
      case measure => simp [intOf] <;> omega
    · obtain rfl : r = 0 := by omega
      have Hs : Hid (zs.length = k ∧ lim u.toNat = zs) := by
        obtain ⟨l1, l2⟩ := H.out
        refine ⟨l1, ?_⟩
        rw [l2]; simp [lim_zero]
      clear H
      go_wp2
      go_ret
      obtain ⟨l1, l2⟩ := Hs.out
      exact ⟨_, rfl, by rw [l2, l1]; exact hown, hbel⟩
theorem rLimbs_ok {u : Int} (h0 : 0 ≤ u) (h1 : u ≤ 18446744073709551615) : Ok Tryz.prog 75 [.c (.i .u64 u)] [.c (cL u)] := ⟨by kernel_rfl, fun av vs w hav h => by
  obtain ⟨vs⟩ := vs
  match vs, h.1, h with
  | [v], _, h =>
    obtain rfl := RdC.int_eq h.uncons.1
    refine (rlimbs_any u w h0 h1).mono ?_
    rintro e w' ⟨v, rfl, g1, g2⟩
    obtain ⟨A, c, rfl⟩ := own_form g1
    refine ⟨_, rfl, ?_, g2⟩
    have hn : u.natAbs = u.toNat := by omega
    have hsl := Ow.sl ⟨g1, lim_lim _⟩
    have := rdc_of_rdi (av := av) hsl.1 hsl.2.1 hsl.2.2.1 (fun b off e hV => by have := Ow.fresh (k := w.heap.size) (⟨g1, lim_lim _⟩ : Ow w' w.heap.size _ _ _) (Nat.le_refl _) b off e; have := hav b hV; omega)
    show RdC av w' _ (cL u)
    unfold cL
    rw [hn]; exact this⟩
structure DInv (us : List Int) (V : Int) (N j : Nat) (R : Int) (zs : List Int) : Prop where
  le : j ≤ us.length
  R0 : 0 ≤ R
  RV : R < V
  L : Lim zs
  len : zs.length = N
  hN : us.length ≤ N
  v : val (us.drop j) = val ((zs.take us.length).drop j) * V + R
theorem drop_getD {xs : List Int} {i : Nat} (h : i < xs.length) : val (xs.drop i) = xs.getD i 0 + 1000000000 * val (xs.drop (i + 1)) := by
  rw [List.drop_eq_getElem_cons h, val_cons]
  simp [List.getD, h]
theorem DInv.start {us : List Int} {V : Int} {N : Nat} (hV : 0 < V) (hN : us.length ≤ N) : DInv us V N us.length 0 (List.replicate N 0) :=
  ⟨Nat.le_refl _, Int.le_refl _, hV, Lim.zeros _, by simp, hN, by rw [List.drop_eq_nil_of_le (Nat.le_refl _), List.drop_eq_nil_of_le (by simp; omega)]; simp [val]⟩
theorem DInv.step {us zs : List Int} {V R q R' : Int} {N i : Nat} (h : DInv us V N (i + 1) R zs) (_hL : Lim us) (hq0 : 0 ≤ q) (hq1 : q < 1000000000) (hR0 : 0 ≤ R') (hRV : R' < V) (he : us.getD i 0 + 1000000000 * R = q * V + R') : DInv us V N i R' (zs.set i q) := by
  have hi : i < us.length := h.le
  have hlen := h.len
  have hN := h.hN
  refine ⟨by omega, hR0, hRV, h.L.set hq0 hq1, by simp [hlen], hN, ?_⟩
  have e1 : ((zs.set i q).take us.length) = (zs.take us.length).set i q := by rw [List.take_set]
  have hi2 : i < ((zs.take us.length).set i q).length := by simp; omega
  rw [drop_getD hi, h.v, e1, drop_getD hi2]
  have e2 : ((zs.take us.length).set i q).getD i 0 = q := by
    have : i < (zs.take us.length).length := by rw [List.length_take]; omega
    rw [List.getD, List.getElem?_set_self this]; rfl
  have e3 : ((zs.take us.length).set i q).drop (i + 1) = (zs.take us.length).drop (i + 1) := by rw [List.drop_set_of_lt (by omega)]
  rw [e2, e3]
  generalize val ((zs.take us.length).drop (i + 1)) = Q at *
  have : (q + 1000000000 * Q) * V = q * V + 1000000000 * (Q * V) := by rw [Int.add_mul, Int.mul_assoc]
  rw [this]
  omega
theorem DInv.done {us zs : List Int} {V R : Int} {N : Nat} (h : DInv us V N 0 R zs) : val us / V = val (zs.take us.length) ∧ val us % V = R := by
  have hv := h.v
  simp only [List.drop_zero] at hv
  have h0 := h.R0
  have h1 := h.RV
  exact (Int.ediv_emod_unique (show 0 < V by omega)).2 ⟨by rw [hv, Int.mul_comm V]; omega, h0, h1⟩
theorem quo_bound {R V d : Int} (hR : 0 ≤ R) (hV : R < V) (hd : 0 ≤ d) (hd1 : d < 1000000000) : 0 ≤ (d + 1000000000 * R) / V ∧ (d + 1000000000 * R) / V ≤ 999999999 := by
  refine ⟨Int.ediv_nonneg (by omega) (by omega), ?_⟩
  have : (d + 1000000000 * R) / V < 1000000000 := Int.ediv_lt_of_lt_mul (by omega) (by omega)
  omega
theorem est_ge {T V hi top : Int} {n : Nat} (hV : top * pw n ≤ V) (htop : 0 < top) (hT : T < (hi + 1) * pw n) (hT0 : 0 ≤ T) (hVp : 0 < V) : T / V ≤ hi / top := by
  have h1 : T / V * V ≤ T := Int.ediv_mul_le _ (by omega)
  have h0 : 0 ≤ T / V := Int.ediv_nonneg hT0 (by omega)
  generalize T / V = q at *
  have h2 : q * (top * pw n) ≤ q * V := Int.mul_le_mul_of_nonneg_left hV h0
  have hp := pw_pos n
  have h3 : q * top * pw n < (hi + 1) * pw n := by rw [Int.mul_assoc]; omega
  have h4 : q * top < hi + 1 := Int.lt_of_mul_lt_mul_right h3 (by omega)
  exact (Int.le_ediv_iff_mul_le htop).2 (by omega)
structure HInv (rs : List Int) (n : Nat) (H : Int) : Prop where
  h0 : 0 ≤ H
  h1 : H ≤ 999999999999999999
  h : val rs < (H + 1) * pw (n - 1)
theorem top_two {rs : List Int} {n : Nat} (hL : Lim rs) (hn : 1 ≤ n) (hl : rs.length = n + 1) : HInv rs n (rs.getD n 0 * 1000000000 + rs.getD (n - 1) 0) := by
  have g1 := lim_getD hL n
  have g2 := lim_getD hL (n - 1)
  refine ⟨by omega, by omega, ?_⟩
  obtain ⟨k, rfl⟩ : ∃ k, n = k + 1 := ⟨n - 1, by omega⟩
  rw [Nat.add_sub_cancel] at *
  have e1 := take_getD (xs := rs) (k := k + 1) (by omega)
  have e2 := take_getD (xs := rs) (k := k) (by omega)
  rw [val_take_all (by omega), e2] at e1
  have h1 := val_lt (hL.take k)
  rw [List.length_take, Nat.min_eq_left (by omega)] at h1
  rw [e1, pw_succ]
  generalize pw k = b at *
  generalize rs.getD (k + 1) 0 = x at *
  generalize rs.getD k 0 = y at *
  have : (x * 1000000000 + y + 1) * b = 1000000000 * b * x + b * y + b := by grind
  omega
theorem top_one {rs : List Int} {n : Nat} (hL : Lim rs) (hn : 1 ≤ n) (hl : rs.length = n) : HInv rs n (rs.getD (n - 1) 0) := by
  have g2 := lim_getD hL (n - 1)
  refine ⟨by omega, by omega, ?_⟩
  obtain ⟨k, rfl⟩ : ∃ k, n = k + 1 := ⟨n - 1, by omega⟩
  rw [Nat.add_sub_cancel] at *
  have e2 := take_getD (xs := rs) (k := k) (by omega)
  rw [val_take_all (by omega)] at e2
  have h1 := val_lt (hL.take k)
  rw [List.length_take, Nat.min_eq_left (by omega)] at h1
  rw [e2]
  generalize pw k = b at *
  generalize rs.getD k 0 = y at *
  have : (y + 1) * b = b * y + b := by grind
  omega
theorem top_none {rs : List Int} {n : Nat} (hL : Lim rs) (hl : rs.length < n) : HInv rs n 0 := by
  refine ⟨by omega, by omega, ?_⟩
  have h1 := val_lt hL
  have := pw_le (n := rs.length) (m := n - 1) (by omega)
  omega
theorem top_limb {vs : List Int} (hL : Lim vs) (hN : Nrm vs) (hne : vs ≠ []) : 0 < vs.getD (vs.length - 1) 0 ∧ vs.getD (vs.length - 1) 0 * pw (vs.length - 1) ≤ val vs := by
  obtain ⟨ys, y, e, hy⟩ := hN.last hne
  have hl : vs.length = ys.length + 1 := by rw [e]; simp
  have hk : vs.length - 1 < vs.length := by omega
  have e1 := take_getD hk
  rw [show vs.length - 1 + 1 = vs.length from by omega, val_take_all (Nat.le_refl _)] at e1
  have h1 := val_nonneg (hL.take (vs.length - 1))
  have h2 := lim_getD hL (vs.length - 1)
  have e3 : vs.getD (vs.length - 1) 0 = y := by rw [e]; simp [List.getD]
  refine ⟨by rw [e3] at h2 ⊢; omega, ?_⟩
  rw [Int.mul_comm]; omega
theorem len_of_lt {n : Nat} {r : Int} (h0 : 0 ≤ r) (h : r < pw n) : (lim r.natAbs).length ≤ n := by
  refine (nrm_lim _).len (lim_lim _) ?_
  rw [val_lim]; omega
theorem scaled {x y s : Int} (hs : 0 < s) : (x * s) / (y * s) = x / y ∧ (x * s) % (y * s) = x % y * s := by
  refine ⟨Int.mul_ediv_mul_of_pos_left x y hs, ?_⟩
  rw [Int.mul_comm x, Int.mul_comm y, Int.mul_emod_mul_of_pos _ _ hs, Int.mul_comm]
theorem nat_sz {a : Int} {k : Nat} (h : Sz k a) : Sz k (a.natAbs : Int) := h.of_le (by omega)
theorem rCompare_c {a b : Int} (ha : Sz 1000000 a) (hb : Sz 1000000 b) : Ok Tryz.prog 127 [.c (cL a), .c (cL b)] [.c (.i .i64 (cmpI a.natAbs b.natAbs))] := by
  have := rCompare_ok (lim_lim a.natAbs) (lim_lim b.natAbs) (nrm_lim _) (nrm_lim _) (lim_len ha) (lim_len hb)
  rw [val_lim, val_lim] at this
  exact this
theorem rPlus_c {a b : Int} (ha : Sz 1000000 a) (hb : Sz 1000000 b) : Ok Tryz.prog 126 [.c (cL a), .c (cL b)] [.c (cL ((a.natAbs : Int) + b.natAbs))] := by
  have := rPlus_ok (lim_lim a.natAbs) (lim_lim b.natAbs) (lim_len ha) (lim_len hb)
  rw [val_lim, val_lim] at this
  exact this
theorem rMinus_c {a b : Int} (ha : Sz 1000000 a) (h : b.natAbs ≤ a.natAbs) : Ok Tryz.prog 128 [.c (cL a), .c (cL b)] [.c (cL ((a.natAbs : Int) - b.natAbs))] := by
  have := rMinus_ok (lim_lim a.natAbs) (lim_lim b.natAbs) (lim_len ha) ((nrm_lim _).len (lim_lim _) (by have := val_lt (lim_lim a.natAbs); rw [val_lim] at this ⊢; omega)) (by rw [val_lim, val_lim]; omega)
  rw [val_lim, val_lim] at this
  exact this
theorem rTimes_c {a b : Int} (ha : Sz 1000000 a) (hb : Sz 1000000 b) : Ok Tryz.prog 125 [.c (cL a), .c (cL b)] [.c (cL ((a.natAbs : Int) * b.natAbs))] := by
  have := rTimes_ok (lim_lim a.natAbs) (lim_lim b.natAbs) (lim_len ha) (lim_len hb)
  rw [val_lim, val_lim] at this
  exact this
theorem rBy_c {a m : Int} (ha : Sz 1000000 a) (h0 : 0 ≤ m) (h1 : m < 1000000000) : Ok Tryz.prog 156 [.c (cL a), .c (.i .u32 m)] [.c (cL ((a.natAbs : Int) * m))] := by
  have := rBy_ok (lim_lim a.natAbs) (lim_len ha) h0 h1
  rw [val_lim] at this
  exact this
theorem rSigned_c {neg : Bool} {a : Int} (ha : Sz 1000000 a) : Ok Tryz.prog 74 [.c (.b neg), .c (cL a)] [dI (sg neg (a.natAbs : Int))] := by
  have := rSigned_ok (neg := neg) (lim_lim a.natAbs) (by have := lim_len ha; omega)
  rw [val_lim] at this
  exact this
theorem rTrim_cM {d : Int} {r : Int} (hr : 0 ≤ r) (h0 : 0 ≤ d) (h1 : d < 1000000000) (hl : (lim r.natAbs).length ≤ 1000000) : Ok Tryz.prog 116 [.c (cM (d :: lim r.natAbs))] [.c (cL (d + 1000000000 * r))] := by
  have := rTrim_ok (Lim.cons h0 h1 (lim_lim r.natAbs)) (by simp; omega)
  rw [val_cons, val_lim] at this
  rw [show ((r.natAbs : Nat) : Int) = r from by omega] at this
  exact this
theorem rShort_c {a : Int} (ha : a.natAbs ≤ 18446744073709551615) : Ok Tryz.prog 114 [.c (cL a)] [.c (.i .u64 (a.natAbs : Int))] := by
  have := rShort_ok (lim_lim a.natAbs) (by have h3 : pw 3 = 1000000000000000000000000000 := by decide
                                           have := (nrm_lim a.natAbs).len (lim_lim _) (k := 3) (by rw [val_lim]; omega)
                                           omega) (by rw [val_lim]; omega)
  rw [val_lim] at this
  exact this
end Go.Proofs.YthhhlpdbainlaaaGreat
