/- Package filter: the small functions. -/
import Derived.Test.YthlnndkgpgfbnaaGreatRsI
namespace Go.Proofs.YthlnndkgpgfbnaaGreat
open Go Go.RowKit
theorem fProper_ok {x y : Int} : Ok Tryz.prog 117 [.c (.i .i64 x), .c (.i .i64 y)] [.a ([.i .i64 (if okI x y then x else 0)] ++ [.i .i64 (if okI x y then y else 0)]), .c (.b (okI x y))] := by
  refine Ok.of (by kernel_rfl) Tryz.func117 rfl rfl ?_
  rw [show Tryz.f117.ntmps = 16 from rfl, show Tryz.f117.results.toList = [.cell 4 103, .tmp 5] from rfl]
  refine dw_seq <| dw_region (by kernel_rfl) <| dl_new (sem_alloc zc103 rfl) rfl <| dl_r (sem_assign rfl rfl) <| dl_end <| dw_seq <| dw_seq <| dw_region (by kernel_rfl) ?_
  refine dl_r (sem_move rfl rfl) <| dl_r (sem_cmp rfl rfl rfl rfl) ?_
  refine dl_rb (sem_move rfl rfl) (fun c1 hb1 => ?_)
  cases c1
  · refine dl_r (sem_move rfl rfl) <| dl_r (sem_cmp rfl rfl rfl rfl) <| dl_r (sem_pick rfl rfl rfl rfl) <| dl_end ?_
    refine dw_cond rfl (fun hc2 => ?_) (fun hc2 => ?_)
    · refine dw_seq <| dw_region (by kernel_rfl) <| dl_r (sem_build (us := ([.i .i64 0] ++ [.i .i64 0])) fs103 zc103 rfl rfl rfl) <| dl_st (sem_store_a ty103 rfl rfl rfl rfl rfl rfl) <| dl_r (sem_assign rfl rfl) <| dl_end <| dw_ret ?_
      rw [ok_hi (dec_t hc2), if_neg (by decide), if_neg (by decide)]
      exact ⟨.inr rfl, (resL_cell (us := ([.i .i64 0] ++ [.i .i64 0])) ty103 rfl rfl rfl rfl (resL_tmp rfl resL_nil))⟩
    · refine dw_skip <| dw_seq <| dw_region (by kernel_rfl) <| dl_r (sem_move rfl rfl) <| dl_r (sem_move rfl rfl) <| dl_r (sem_build (us := ([.i .i64 x] ++ [.i .i64 y])) fs103 zc103 rfl rfl rfl) <| dl_st (sem_store_a ty103 rfl rfl rfl rfl rfl rfl) <| dl_r (sem_assign rfl rfl) ?_
      refine dl_end <| dw_ret ?_
      rw [ok_in (dec_f hb1) (dec_f hc2), if_pos rfl, if_pos rfl]
      exact ⟨.inr rfl, (resL_cell (us := ([.i .i64 x] ++ [.i .i64 y])) ty103 rfl rfl rfl rfl (resL_tmp rfl resL_nil))⟩
  · refine dl_skip (sem_skip rfl) <| dl_skip (sem_skip rfl) <| dl_r (sem_pick rfl rfl rfl rfl) <| dl_end <| dw_true rfl <| dw_seq <| dw_region (by kernel_rfl) <| dl_r (sem_build (us := ([.i .i64 0] ++ [.i .i64 0])) fs103 zc103 rfl rfl rfl) ?_
    refine dl_st (sem_store_a ty103 rfl rfl rfl rfl rfl rfl) <| dl_r (sem_assign rfl rfl) <| dl_end <| dw_ret ?_
    rw [ok_lo (dec_t hb1), if_neg (by decide), if_neg (by decide)]
    exact ⟨.inr rfl, (resL_cell (us := ([.i .i64 0] ++ [.i .i64 0])) ty103 rfl rfl rfl rfl (resL_tmp rfl resL_nil))⟩
def comb (s t c : Int) : Int := if t = 0 ∨ s = t then s else if s = 0 then t else s * c
def plainS (a b m : Rat) : Int := comb (cmpR a 0) (cmpR b 0 * cmpR m 0) (cmpR (a * a) (b * b * m))
def quadA (A B C D M N : Rat) : Rat := A * A + B * B * M - N * (C * C + D * D * M)
def quadB (A B C D N : Rat) : Rat := A * B - N * (C * D)
def signQ (A B C D M N : Rat) : Int := if M < 0 ∨ N < 0 then 0 else comb (plainS A B M) (plainS C D M * cmpR N 0) (plainS (quadA A B C D M N) (quadB A B C D N + quadB A B C D N) M)
theorem comb_s0 {s t c : Int} (h : (s == 0) = true) : comb s t c = t := by
  have h : s = 0 := by simpa using h
  subst h
  unfold comb
  by_cases ht : t = 0
  · rw [if_pos (.inl ht), ht]
  · rw [if_neg (by omega), if_pos rfl]
theorem comb_t0 {s t c : Int} (h : (t == 0) = true) : comb s t c = s := by
  have h : t = 0 := by simpa using h
  unfold comb; rw [if_pos (.inl h)]
theorem comb_eq {s t c : Int} (h : (s == t) = true) : comb s t c = s := by
  have h : s = t := by simpa using h
  unfold comb; rw [if_pos (.inr h)]
theorem comb_ne {s t c : Int} (h1 : (s == 0) = false) (h2 : (t == 0) = false) (h3 : (s == t) = false) : comb s t c = s * c := by
  have h1 : s ≠ 0 := by simpa using h1
  have h2 : t ≠ 0 := by simpa using h2
  have h3 : s ≠ t := by simpa using h3
  unfold comb; rw [if_neg (by omega), if_neg h1]
theorem cmpR_bd (x y : Rat) : -1 ≤ cmpR x y ∧ cmpR x y ≤ 1 := by
  unfold cmpR
  split
  · omega
  · split <;> omega
theorem prod_bd {s t : Int} (h : -1 ≤ s ∧ s ≤ 1) (h' : -1 ≤ t ∧ t ≤ 1) : -1 ≤ s * t ∧ s * t ≤ 1 := by
  have hs : s = -1 ∨ s = 0 ∨ s = 1 := by omega
  rcases hs with rfl | rfl | rfl <;> omega
theorem comb_bd {s t c : Int} (h : -1 ≤ s ∧ s ≤ 1) (h' : -1 ≤ t ∧ t ≤ 1) (h2 : -1 ≤ c ∧ c ≤ 1) : -1 ≤ comb s t c ∧ comb s t c ≤ 1 := by
  unfold comb
  split
  · exact h
  · split
    · exact h'
    · exact prod_bd h h2
theorem plainS_bd (a b m : Rat) : -1 ≤ plainS a b m ∧ plainS a b m ≤ 1 := comb_bd (cmpR_bd _ _) (prod_bd (cmpR_bd _ _) (cmpR_bd _ _)) (cmpR_bd _ _)
theorem r_lt {x : Rat} (h : decide (cmpR x 0 < 0) = true) : x < 0 := cmpR_lt0.1 (by simpa using h)
theorem r_nlt {x : Rat} (h : decide (cmpR x 0 < 0) = false) : ¬ x < 0 := fun e => by have := cmpR_lt0.2 e; simp at h; omega
theorem signQ_n {A B C D M N : Rat} (h : M < 0 ∨ N < 0) : signQ A B C D M N = 0 := by unfold signQ; rw [if_pos h]
theorem signQ_p {A B C D M N : Rat} (h : ¬ M < 0) (h' : ¬ N < 0) : signQ A B C D M N = comb (plainS A B M) (plainS C D M * cmpR N 0) (plainS (quadA A B C D M N) (quadB A B C D N + quadB A B C D N) M) := by
  unfold signQ; rw [if_neg (fun e => e.elim h h')]
theorem xPlainL_ok {a b m : Rat} (ha : Rz 20000 a) (hb : Rz 20000 b) (hm : Rz 20000 m) : Ok Tryz.prog 61 [dR a, dR b, dR m] [.c (.i .i64 (plainS a b m))] := by
  have ka : Rz 60000 a := ha.mono (by decide)
  have kb : Rz 60000 b := hb.mono (by decide)
  have hp := prod_bd (cmpR_bd b 0) (cmpR_bd m 0)
  have hp2 := prod_bd (cmpR_bd a 0) (cmpR_bd (a * a) (b * b * m))
  refine Ok.of (by kernel_rfl) Tryz.func61 rfl rfl ?_
  rw [show Tryz.f61.ntmps = 40 from rfl, show Tryz.f61.results.toList = [.tmp 6] from rfl]
  refine dw_seq <| dw_region (by kernel_rfl) <| dl_new (sem_box_a rfl rfl) rfl <| dl_new (sem_box_a rfl rfl) rfl <| dl_new (sem_box_a rfl rfl) rfl <| dl_r (sem_assign rfl rfl) <| dl_end <| dw_seq ?_
  refine dw_draw 9 [] follows_mixed (by kernel_rfl) rfl rfl <| dq_r (sem_load (us := cR a) ty26 rfl rfl rfl rfl rfl) <| dq_r (sem_call rfl rfl (pSignL_ok) rfl) <| dq_r (sem_load (us := cR b) ty26 rfl rfl rfl rfl rfl) <| dq_r (sem_call rfl rfl (pSignL_ok) rfl) <| dq_r (sem_load (us := cR m) ty26 rfl rfl rfl rfl rfl) <| dq_r (sem_call rfl rfl (pSignL_ok) rfl) <| dq_r (sem_ari (r := (cmpR b 0) * (cmpR m 0)) rfl rfl (ari_i64_mul (by omega) (by omega)) rfl) ?_
  refine dq_r (sem_assign rfl rfl) <| dq_r (sem_assign rfl rfl) <| dq_end <| dl_start0 <| dl_end <| dw_seq <| dw_block <| dw_seq ?_
  refine dw_region (by kernel_rfl) <| dl_r (sem_move rfl rfl) <| dl_r (sem_cmp rfl rfl rfl rfl) ?_
  refine dl_rb (sem_move rfl rfl) (fun c1 hb1 => ?_)
  cases c1
  · refine dl_r (sem_move rfl rfl) <| dl_r (sem_move rfl rfl) <| dl_r (sem_cmp rfl rfl rfl rfl) <| dl_r (sem_pick rfl rfl rfl rfl) <| dl_r (sem_assign rfl rfl) <| dl_end ?_
    refine dw_cond rfl (fun hc2 => ?_) (fun hc2 => ?_)
    · refine dw_seq <| dw_region (by kernel_rfl) <| dl_r (sem_move rfl rfl) <| dl_r (sem_assign rfl rfl) <| dl_end <| dw_ret ?_
      unfold plainS
      rw [comb_eq hc2]
      exact ⟨.inr rfl, (resL_tmp rfl resL_nil)⟩
    · refine dw_seq <| dw_region (by kernel_rfl) <| dl_r (sem_move rfl rfl) <| dl_r (sem_cmp rfl rfl rfl rfl) <| dl_r (sem_assign rfl rfl) <| dl_end ?_
      refine dw_cond rfl (fun hc3 => ?_) (fun hc3 => ?_)
      · refine dw_seq <| dw_region (by kernel_rfl) <| dl_r (sem_move rfl rfl) <| dl_r (sem_assign rfl rfl) <| dl_end <| dw_ret ?_
        unfold plainS
        rw [comb_s0 hc3]
        exact ⟨.inr rfl, (resL_tmp rfl resL_nil)⟩
      · refine dw_skip <| dw_seq <| dw_draw 12 [] follows_mixed (by kernel_rfl) rfl rfl <| dq_r (sem_move rfl rfl) <| dq_r (sem_load (us := cR a) ty26 rfl rfl rfl rfl rfl) <| dq_r (sem_load (us := cR a) ty26 rfl rfl rfl rfl rfl) ?_
        refine dq_r (sem_call rfl rfl (pMulL_ok (by first | assumption | exact Rz.mono ha (by decide)) (by first | assumption | exact Rz.mono ha (by decide))) rfl) ?_
        refine dq_r (sem_load (us := cR b) ty26 rfl rfl rfl rfl rfl) <| dq_r (sem_load (us := cR b) ty26 rfl rfl rfl rfl rfl) ?_
        refine dq_r (sem_call rfl rfl (pMulL_ok (by first | assumption | exact Rz.mono hb (by decide)) (by first | assumption | exact Rz.mono hb (by decide))) rfl) ?_
        refine dq_r (sem_load (us := cR m) ty26 rfl rfl rfl rfl rfl) ?_
        refine dq_r (sem_call rfl rfl (pMulL_ok (by first | assumption | exact Rz.mono (Rz.mul hb hb) (by decide)) (by first | assumption | exact Rz.mono hm (by decide))) rfl) ?_
        refine dq_r (sem_call rfl rfl (pCmpL_ok (by first | assumption | exact Rz.mono (Rz.mul ha ha) (by decide)) (by first | assumption | exact Rz.mono (Rz.mul (Rz.mul hb hb) hm) (by decide))) rfl) ?_
        refine dq_r (sem_ari (r := (cmpR a 0) * (cmpR (a * a) ((b * b) * m))) rfl rfl (ari_i64_mul (by omega) (by omega)) rfl) <| dq_r (sem_assign rfl rfl) <| dq_end <| dl_start0 <| dl_end <| dw_ret ?_
        unfold plainS
        rw [comb_ne hc3 hb1 hc2]
        exact ⟨.inr rfl, (resL_tmp rfl resL_nil)⟩
  · refine dl_skip (sem_skip rfl) <| dl_skip (sem_skip rfl) <| dl_skip (sem_skip rfl) <| dl_r (sem_pick rfl rfl rfl rfl) <| dl_r (sem_assign rfl rfl) <| dl_end <| dw_true rfl <| dw_seq ?_
    refine dw_region (by kernel_rfl) <| dl_r (sem_move rfl rfl) <| dl_r (sem_assign rfl rfl) <| dl_end <| dw_ret ?_
    unfold plainS
    rw [comb_t0 hb1]
    exact ⟨.inr rfl, (resL_tmp rfl resL_nil)⟩
theorem yTwoL_ok {a b m : Rat} (ha : Rz 20000 a) (hb : Rz 20000 b) (hm : Rz 20000 m) : Ok Tryz.prog 41 [dR a, dR b, dR m] [.c (.i .i64 (plainS a b m))] := by
  have ka : Rz 60000 a := ha.mono (by decide)
  have kb : Rz 60000 b := hb.mono (by decide)
  have hp := prod_bd (cmpR_bd b 0) (cmpR_bd m 0)
  have hp2 := prod_bd (cmpR_bd a 0) (cmpR_bd (a * a) (b * b * m))
  refine Ok.of (by kernel_rfl) Tryz.func41 rfl rfl ?_
  rw [show Tryz.f41.ntmps = 42 from rfl, show Tryz.f41.results.toList = [.tmp 6] from rfl]
  refine dw_seq <| dw_region (by kernel_rfl) <| dl_new (sem_box_a rfl rfl) rfl <| dl_new (sem_box_a rfl rfl) rfl <| dl_new (sem_box_a rfl rfl) rfl <| dl_r (sem_assign rfl rfl) <| dl_end <| dw_seq ?_
  refine dw_draw 9 [] follows_mixed (by kernel_rfl) rfl rfl <| dq_r (sem_load (us := cR a) ty26 rfl rfl rfl rfl rfl) <| dq_r (sem_call rfl rfl (sSignL_ok) rfl) <| dq_r (sem_load (us := cR b) ty26 rfl rfl rfl rfl rfl) <| dq_r (sem_call rfl rfl (sSignL_ok) rfl) <| dq_r (sem_load (us := cR m) ty26 rfl rfl rfl rfl rfl) <| dq_r (sem_call rfl rfl (sSignL_ok) rfl) <| dq_r (sem_ari (r := (cmpR b 0) * (cmpR m 0)) rfl rfl (ari_i64_mul (by omega) (by omega)) rfl) ?_
  refine dq_r (sem_assign rfl rfl) <| dq_r (sem_assign rfl rfl) <| dq_end <| dl_start0 <| dl_end <| dw_seq <| dw_seq <| dw_region (by kernel_rfl) ?_
  refine dl_r (sem_move rfl rfl) <| dl_r (sem_cmp rfl rfl rfl rfl) ?_
  refine dl_rb (sem_move rfl rfl) (fun c1 hb1 => ?_)
  cases c1
  · refine dl_r (sem_move rfl rfl) <| dl_r (sem_cmp rfl rfl rfl rfl) <| dl_r (sem_pick rfl rfl rfl rfl) ?_
    refine dl_rb (sem_move rfl rfl) (fun c2 hb2 => ?_)
    cases c2
    · refine dl_r (sem_move rfl rfl) <| dl_r (sem_move rfl rfl) <| dl_r (sem_cmp rfl rfl rfl rfl) <| dl_r (sem_pick rfl rfl rfl rfl) <| dl_end ?_
      refine dw_cond rfl (fun hc3 => ?_) (fun hc3 => ?_)
      · refine dw_seq <| dw_seq <| dw_region (by kernel_rfl) <| dl_r (sem_move rfl rfl) <| dl_r (sem_cmp rfl rfl rfl rfl) <| dl_end ?_
        refine dw_cond rfl (fun hc4 => ?_) (fun hc4 => ?_)
        · exact absurd hc4 (by rw [hb1]; decide)
        · refine dw_skip <| dw_seq <| dw_region (by kernel_rfl) <| dl_r (sem_move rfl rfl) <| dl_r (sem_assign rfl rfl) <| dl_end <| dw_ret ?_
          unfold plainS
          rw [comb_eq hc3]
          exact ⟨.inr rfl, (resL_tmp rfl resL_nil)⟩
      · refine dw_skip <| dw_seq <| dw_draw 12 [] follows_mixed (by kernel_rfl) rfl rfl <| dq_r (sem_move rfl rfl) <| dq_r (sem_load (us := cR a) ty26 rfl rfl rfl rfl rfl) <| dq_r (sem_load (us := cR a) ty26 rfl rfl rfl rfl rfl) ?_
        refine dq_r (sem_call rfl rfl (sMulL_ok (by first | assumption | exact Rz.mono ha (by decide)) (by first | assumption | exact Rz.mono ha (by decide))) rfl) ?_
        refine dq_r (sem_load (us := cR b) ty26 rfl rfl rfl rfl rfl) <| dq_r (sem_load (us := cR b) ty26 rfl rfl rfl rfl rfl) ?_
        refine dq_r (sem_call rfl rfl (sMulL_ok (by first | assumption | exact Rz.mono hb (by decide)) (by first | assumption | exact Rz.mono hb (by decide))) rfl) ?_
        refine dq_r (sem_load (us := cR m) ty26 rfl rfl rfl rfl rfl) ?_
        refine dq_r (sem_call rfl rfl (sMulL_ok (by first | assumption | exact Rz.mono (Rz.mul hb hb) (by decide)) (by first | assumption | exact Rz.mono hm (by decide))) rfl) ?_
        refine dq_r (sem_call rfl rfl (sCmpL_ok (by first | assumption | exact Rz.mono (Rz.mul ha ha) (by decide)) (by first | assumption | exact Rz.mono (Rz.mul (Rz.mul hb hb) hm) (by decide))) rfl) ?_
        refine dq_r (sem_ari (r := (cmpR a 0) * (cmpR (a * a) ((b * b) * m))) rfl rfl (ari_i64_mul (by omega) (by omega)) rfl) <| dq_r (sem_assign rfl rfl) <| dq_end <| dl_start0 <| dl_end <| dw_ret ?_
        unfold plainS
        rw [comb_ne hb1 hb2 hc3]
        exact ⟨.inr rfl, (resL_tmp rfl resL_nil)⟩
    · refine dl_skip (sem_skip rfl) <| dl_skip (sem_skip rfl) <| dl_skip (sem_skip rfl) <| dl_r (sem_pick rfl rfl rfl rfl) <| dl_end <| dw_true rfl <| dw_seq <| dw_seq ?_
      refine dw_region (by kernel_rfl) <| dl_r (sem_move rfl rfl) <| dl_r (sem_cmp rfl rfl rfl rfl) <| dl_end ?_
      refine dw_cond rfl (fun hc5 => ?_) (fun hc5 => ?_)
      · exact absurd hc5 (by rw [hb1]; decide)
      · refine dw_skip <| dw_seq <| dw_region (by kernel_rfl) <| dl_r (sem_move rfl rfl) <| dl_r (sem_assign rfl rfl) <| dl_end <| dw_ret ?_
        unfold plainS
        rw [comb_t0 hb2]
        exact ⟨.inr rfl, (resL_tmp rfl resL_nil)⟩
  · refine dl_skip (sem_skip rfl) <| dl_skip (sem_skip rfl) <| dl_r (sem_pick rfl rfl rfl rfl) <| dl_r (sem_move rfl rfl) <| dl_skip (sem_skip rfl) <| dl_skip (sem_skip rfl) <| dl_skip (sem_skip rfl) <| dl_r (sem_pick rfl rfl rfl rfl) ?_
    refine dl_end <| dw_true rfl <| dw_seq <| dw_seq <| dw_region (by kernel_rfl) <| dl_r (sem_move rfl rfl) <| dl_r (sem_cmp rfl rfl rfl rfl) <| dl_end ?_
    refine dw_cond rfl (fun hc6 => ?_) (fun hc6 => ?_)
    · refine dw_seq <| dw_region (by kernel_rfl) <| dl_r (sem_move rfl rfl) <| dl_r (sem_assign rfl rfl) <| dl_end <| dw_ret ?_
      unfold plainS
      rw [comb_s0 hb1]
      exact ⟨.inr rfl, (resL_tmp rfl resL_nil)⟩
    · exact absurd hb1 (by rw [hc6]; decide)
theorem ySignL_ok {A B C D M N : Rat} (hA : Rz 1600 A) (hB : Rz 1600 B) (hC : Rz 1600 C) (hD : Rz 1600 D) (hM : Rz 1600 M) (hN : Rz 1600 N) : Ok Tryz.prog 34 [.a (cR A ++ cR B ++ cR C ++ cR D ++ cR M ++ cR N)] [.c (.i .i64 (signQ A B C D M N))] := by
  have z1 := prod_bd (plainS_bd C D M) (cmpR_bd N 0)
  have z2 := prod_bd (plainS_bd A B M) (plainS_bd (A * A + B * B * M - N * (C * C + D * D * M)) ((A * B - N * (C * D)) + (A * B - N * (C * D))) M)
  refine Ok.of (by kernel_rfl) Tryz.func34 rfl rfl ?_
  rw [show Tryz.f34.ntmps = 107 from rfl, show Tryz.f34.results.toList = [.tmp 2] from rfl]
  refine dw_seq <| dw_region (by kernel_rfl) <| dl_new (sem_box_a rfl rfl) rfl <| dl_r (sem_assign rfl rfl) <| dl_end <| dw_seq <| dw_seq <| dw_region (by kernel_rfl) ?_
  refine dl_r (sem_field fd53_4 rfl rfl) <| dl_r (sem_load (us := cR M) ty26 rfl rfl rfl rfl rfl) <| dl_r (sem_call rfl rfl (sSignL_ok) rfl) <| dl_r (sem_cmp rfl rfl rfl rfl) ?_
  refine dl_rb (sem_move rfl rfl) (fun c1 hb1 => ?_)
  cases c1
  · have n1 := r_nlt hb1
    refine dl_r (sem_field fd53_5 rfl rfl) <| dl_r (sem_load (us := cR N) ty26 rfl rfl rfl rfl rfl) <| dl_r (sem_call rfl rfl (sSignL_ok) rfl) <| dl_r (sem_cmp rfl rfl rfl rfl) <| dl_r (sem_pick rfl rfl rfl rfl) <| dl_end ?_
    refine dw_cond rfl (fun hc2 => ?_) (fun hc2 => ?_)
    · refine dw_seq <| dw_region (by kernel_rfl) <| dl_r (sem_assign rfl rfl) <| dl_end <| dw_ret ?_
      rw [signQ_n (.inr (r_lt hc2))]
      exact ⟨.inr rfl, (resL_tmp rfl resL_nil)⟩
    · have n2 := r_nlt hc2
      refine dw_skip <| dw_seq <| dw_draw 20 [] follows_mixed (by kernel_rfl) rfl rfl <| dq_r (sem_field fd53_0 rfl rfl) <| dq_r (sem_load (us := cR A) ty26 rfl rfl rfl rfl rfl) <| dq_r (sem_field fd53_1 rfl rfl) <| dq_r (sem_load (us := cR B) ty26 rfl rfl rfl rfl rfl) <| dq_r (sem_field fd53_4 rfl rfl) ?_
      refine dq_r (sem_load (us := cR M) ty26 rfl rfl rfl rfl rfl) ?_
      refine dq_r (sem_call rfl rfl (yTwoL_ok (by first | assumption | exact Rz.mono hA (by decide)) (by first | assumption | exact Rz.mono hB (by decide)) (by first | assumption | exact Rz.mono hM (by decide))) rfl) ?_
      refine dq_r (sem_field fd53_2 rfl rfl) <| dq_r (sem_load (us := cR C) ty26 rfl rfl rfl rfl rfl) <| dq_r (sem_field fd53_3 rfl rfl) <| dq_r (sem_load (us := cR D) ty26 rfl rfl rfl rfl rfl) <| dq_r (sem_field fd53_4 rfl rfl) <| dq_r (sem_load (us := cR M) ty26 rfl rfl rfl rfl rfl) ?_
      refine dq_r (sem_call rfl rfl (yTwoL_ok (by first | assumption | exact Rz.mono hC (by decide)) (by first | assumption | exact Rz.mono hD (by decide)) (by first | assumption | exact Rz.mono hM (by decide))) rfl) ?_
      refine dq_r (sem_field fd53_5 rfl rfl) <| dq_r (sem_load (us := cR N) ty26 rfl rfl rfl rfl rfl) <| dq_r (sem_call rfl rfl (sSignL_ok) rfl) <| dq_r (sem_ari (r := (plainS C D M) * (cmpR N 0)) rfl rfl (ari_i64_mul (by omega) (by omega)) rfl) <| dq_r (sem_assign rfl rfl) <| dq_r (sem_assign rfl rfl) <| dq_end <| dl_start0 ?_
      refine dl_end <| dw_seq <| dw_seq <| dw_region (by kernel_rfl) <| dl_r (sem_move rfl rfl) <| dl_r (sem_cmp rfl rfl rfl rfl) ?_
      refine dl_rb (sem_move rfl rfl) (fun c3 hb3 => ?_)
      cases c3
      · refine dl_r (sem_move rfl rfl) <| dl_r (sem_cmp rfl rfl rfl rfl) <| dl_r (sem_pick rfl rfl rfl rfl) ?_
        refine dl_rb (sem_move rfl rfl) (fun c4 hb4 => ?_)
        cases c4
        · refine dl_r (sem_move rfl rfl) <| dl_r (sem_move rfl rfl) <| dl_r (sem_cmp rfl rfl rfl rfl) <| dl_r (sem_pick rfl rfl rfl rfl) <| dl_end ?_
          refine dw_cond rfl (fun hc5 => ?_) (fun hc5 => ?_)
          · refine dw_seq <| dw_seq <| dw_region (by kernel_rfl) <| dl_r (sem_move rfl rfl) <| dl_r (sem_cmp rfl rfl rfl rfl) <| dl_end ?_
            refine dw_cond rfl (fun hc6 => ?_) (fun hc6 => ?_)
            · exact absurd hc6 (by rw [hb3]; decide)
            · refine dw_skip <| dw_seq <| dw_region (by kernel_rfl) <| dl_r (sem_move rfl rfl) <| dl_r (sem_assign rfl rfl) <| dl_end <| dw_ret ?_
              rw [signQ_p n1 n2, comb_eq hc5]
              exact ⟨.inr rfl, (resL_tmp rfl resL_nil)⟩
          · refine dw_skip <| dw_seq <| dw_draw 18 [] follows_mixed (by kernel_rfl) rfl rfl <| dq_r (sem_field fd53_5 rfl rfl) <| dq_r (sem_load (us := cR N) ty26 rfl rfl rfl rfl rfl) <| dq_r (sem_field fd53_2 rfl rfl) <| dq_r (sem_load (us := cR C) ty26 rfl rfl rfl rfl rfl) <| dq_r (sem_field fd53_2 rfl rfl) ?_
            refine dq_r (sem_load (us := cR C) ty26 rfl rfl rfl rfl rfl) ?_
            refine dq_r (sem_call rfl rfl (sMulL_ok (by first | assumption | exact Rz.mono hC (by decide)) (by first | assumption | exact Rz.mono hC (by decide))) rfl) ?_
            refine dq_r (sem_field fd53_3 rfl rfl) <| dq_r (sem_load (us := cR D) ty26 rfl rfl rfl rfl rfl) <| dq_r (sem_field fd53_3 rfl rfl) <| dq_r (sem_load (us := cR D) ty26 rfl rfl rfl rfl rfl) ?_
            refine dq_r (sem_call rfl rfl (sMulL_ok (by first | assumption | exact Rz.mono hD (by decide)) (by first | assumption | exact Rz.mono hD (by decide))) rfl) ?_
            refine dq_r (sem_field fd53_4 rfl rfl) <| dq_r (sem_load (us := cR M) ty26 rfl rfl rfl rfl rfl) ?_
            refine dq_r (sem_call rfl rfl (sMulL_ok (by first | assumption | exact Rz.mono (Rz.mul hD hD) (by decide)) (by first | assumption | exact Rz.mono hM (by decide))) rfl) ?_
            refine dq_r (sem_call rfl rfl (sAddL_ok (by first | assumption | exact Rz.mono (Rz.mul hC hC) (by decide)) (by first | assumption | exact Rz.mono (Rz.mul (Rz.mul hD hD) hM) (by decide))) rfl) ?_
            refine dq_r (sem_call rfl rfl (sMulL_ok (by first | assumption | exact Rz.mono hN (by decide)) (by first | assumption | exact Rz.mono (Rz.add (Rz.mul hC hC) (Rz.mul (Rz.mul hD hD) hM)) (by decide))) rfl) ?_
            refine dq_new (sem_alloc zc26 rfl) rfl <| dq_end <| dl_start1 <| dl_st (sem_store_a ty26 rfl rfl rfl rfl rfl rfl) <| dl_end <| dw_seq <| dw_draw 17 [] follows_mixed (by kernel_rfl) rfl rfl <| dq_r (sem_field fd53_0 rfl rfl) ?_
            refine dq_r (sem_load (us := cR A) ty26 rfl rfl rfl rfl rfl) <| dq_r (sem_field fd53_0 rfl rfl) <| dq_r (sem_load (us := cR A) ty26 rfl rfl rfl rfl rfl) ?_
            refine dq_r (sem_call rfl rfl (sMulL_ok (by first | assumption | exact Rz.mono hA (by decide)) (by first | assumption | exact Rz.mono hA (by decide))) rfl) ?_
            refine dq_r (sem_field fd53_1 rfl rfl) <| dq_r (sem_load (us := cR B) ty26 rfl rfl rfl rfl rfl) <| dq_r (sem_field fd53_1 rfl rfl) <| dq_r (sem_load (us := cR B) ty26 rfl rfl rfl rfl rfl) ?_
            refine dq_r (sem_call rfl rfl (sMulL_ok (by first | assumption | exact Rz.mono hB (by decide)) (by first | assumption | exact Rz.mono hB (by decide))) rfl) ?_
            refine dq_r (sem_field fd53_4 rfl rfl) <| dq_r (sem_load (us := cR M) ty26 rfl rfl rfl rfl rfl) ?_
            refine dq_r (sem_call rfl rfl (sMulL_ok (by first | assumption | exact Rz.mono (Rz.mul hB hB) (by decide)) (by first | assumption | exact Rz.mono hM (by decide))) rfl) ?_
            refine dq_r (sem_call rfl rfl (sAddL_ok (by first | assumption | exact Rz.mono (Rz.mul hA hA) (by decide)) (by first | assumption | exact Rz.mono (Rz.mul (Rz.mul hB hB) hM) (by decide))) rfl) ?_
            refine dq_r (sem_load (us := cR (N * ((C * C) + ((D * D) * M)))) ty26 rfl rfl rfl rfl rfl) ?_
            refine dq_r (sem_call rfl rfl (sSubL_ok (by first | assumption | exact Rz.mono (Rz.add (Rz.mul hA hA) (Rz.mul (Rz.mul hB hB) hM)) (by decide)) (by first | assumption | exact Rz.mono (Rz.mul hN (Rz.add (Rz.mul hC hC) (Rz.mul (Rz.mul hD hD) hM))) (by decide))) rfl) ?_
            refine dq_new (sem_alloc zc26 rfl) rfl <| dq_end <| dl_start1 <| dl_st (sem_store_a ty26 rfl rfl rfl rfl rfl rfl) <| dl_end <| dw_seq <| dw_draw 15 [] follows_mixed (by kernel_rfl) rfl rfl <| dq_r (sem_field fd53_0 rfl rfl) ?_
            refine dq_r (sem_load (us := cR A) ty26 rfl rfl rfl rfl rfl) <| dq_r (sem_field fd53_1 rfl rfl) <| dq_r (sem_load (us := cR B) ty26 rfl rfl rfl rfl rfl) ?_
            refine dq_r (sem_call rfl rfl (sMulL_ok (by first | assumption | exact Rz.mono hA (by decide)) (by first | assumption | exact Rz.mono hB (by decide))) rfl) ?_
            refine dq_r (sem_field fd53_5 rfl rfl) <| dq_r (sem_load (us := cR N) ty26 rfl rfl rfl rfl rfl) <| dq_r (sem_field fd53_2 rfl rfl) <| dq_r (sem_load (us := cR C) ty26 rfl rfl rfl rfl rfl) <| dq_r (sem_field fd53_3 rfl rfl) <| dq_r (sem_load (us := cR D) ty26 rfl rfl rfl rfl rfl) ?_
            refine dq_r (sem_call rfl rfl (sMulL_ok (by first | assumption | exact Rz.mono hC (by decide)) (by first | assumption | exact Rz.mono hD (by decide))) rfl) ?_
            refine dq_r (sem_call rfl rfl (sMulL_ok (by first | assumption | exact Rz.mono hN (by decide)) (by first | assumption | exact Rz.mono (Rz.mul hC hD) (by decide))) rfl) ?_
            refine dq_r (sem_call rfl rfl (sSubL_ok (by first | assumption | exact Rz.mono (Rz.mul hA hB) (by decide)) (by first | assumption | exact Rz.mono (Rz.mul hN (Rz.mul hC hD)) (by decide))) rfl) ?_
            refine dq_new (sem_alloc zc26 rfl) rfl <| dq_end <| dl_start1 <| dl_st (sem_store_a ty26 rfl rfl rfl rfl rfl rfl) <| dl_end <| dw_seq <| dw_draw 10 [] follows_mixed (by kernel_rfl) rfl rfl <| dq_r (sem_move rfl rfl) ?_
            refine dq_r (sem_load (us := cR (((A * A) + ((B * B) * M)) - (N * ((C * C) + ((D * D) * M))))) ty26 rfl rfl rfl rfl rfl) <| dq_r (sem_load (us := cR ((A * B) - (N * (C * D)))) ty26 rfl rfl rfl rfl rfl) <| dq_r (sem_load (us := cR ((A * B) - (N * (C * D)))) ty26 rfl rfl rfl rfl rfl) ?_
            refine dq_r (sem_call rfl rfl (sAddL_ok (by first | assumption | exact Rz.mono (Rz.sub (Rz.mul hA hB) (Rz.mul hN (Rz.mul hC hD))) (by decide)) (by first | assumption | exact Rz.mono (Rz.sub (Rz.mul hA hB) (Rz.mul hN (Rz.mul hC hD))) (by decide))) rfl) ?_
            refine dq_r (sem_field fd53_4 rfl rfl) <| dq_r (sem_load (us := cR M) ty26 rfl rfl rfl rfl rfl) ?_
            refine dq_r (sem_call rfl rfl (yTwoL_ok (by first | assumption | exact Rz.mono (Rz.sub (Rz.add (Rz.mul hA hA) (Rz.mul (Rz.mul hB hB) hM)) (Rz.mul hN (Rz.add (Rz.mul hC hC) (Rz.mul (Rz.mul hD hD) hM)))) (by decide)) (by first | assumption | exact Rz.mono (Rz.add (Rz.sub (Rz.mul hA hB) (Rz.mul hN (Rz.mul hC hD))) (Rz.sub (Rz.mul hA hB) (Rz.mul hN (Rz.mul hC hD)))) (by decide)) (by first | assumption | exact Rz.mono hM (by decide))) rfl) ?_
            refine dq_r (sem_ari (r := (plainS A B M) * (plainS (((A * A) + ((B * B) * M)) - (N * ((C * C) + ((D * D) * M)))) (((A * B) - (N * (C * D))) + ((A * B) - (N * (C * D)))) M)) rfl rfl (ari_i64_mul (by omega) (by omega)) rfl) <| dq_r (sem_assign rfl rfl) <| dq_end <| dl_start0 <| dl_end <| dw_ret ?_
            rw [signQ_p n1 n2, comb_ne hb3 hb4 hc5]
            exact ⟨.inr rfl, (resL_tmp rfl resL_nil)⟩
        · refine dl_skip (sem_skip rfl) <| dl_skip (sem_skip rfl) <| dl_skip (sem_skip rfl) <| dl_r (sem_pick rfl rfl rfl rfl) <| dl_end <| dw_true rfl <| dw_seq <| dw_seq ?_
          refine dw_region (by kernel_rfl) <| dl_r (sem_move rfl rfl) <| dl_r (sem_cmp rfl rfl rfl rfl) <| dl_end ?_
          refine dw_cond rfl (fun hc7 => ?_) (fun hc7 => ?_)
          · exact absurd hc7 (by rw [hb3]; decide)
          · refine dw_skip <| dw_seq <| dw_region (by kernel_rfl) <| dl_r (sem_move rfl rfl) <| dl_r (sem_assign rfl rfl) <| dl_end <| dw_ret ?_
            rw [signQ_p n1 n2, comb_t0 hb4]
            exact ⟨.inr rfl, (resL_tmp rfl resL_nil)⟩
      · refine dl_skip (sem_skip rfl) <| dl_skip (sem_skip rfl) <| dl_r (sem_pick rfl rfl rfl rfl) <| dl_r (sem_move rfl rfl) <| dl_skip (sem_skip rfl) <| dl_skip (sem_skip rfl) <| dl_skip (sem_skip rfl) <| dl_r (sem_pick rfl rfl rfl rfl) ?_
        refine dl_end <| dw_true rfl <| dw_seq <| dw_seq <| dw_region (by kernel_rfl) <| dl_r (sem_move rfl rfl) <| dl_r (sem_cmp rfl rfl rfl rfl) <| dl_end ?_
        refine dw_cond rfl (fun hc8 => ?_) (fun hc8 => ?_)
        · refine dw_seq <| dw_region (by kernel_rfl) <| dl_r (sem_move rfl rfl) <| dl_r (sem_assign rfl rfl) <| dl_end <| dw_ret ?_
          rw [signQ_p n1 n2, comb_s0 hb3]
          exact ⟨.inr rfl, (resL_tmp rfl resL_nil)⟩
        · exact absurd hb3 (by rw [hc8]; decide)
  · refine dl_skip (sem_skip rfl) <| dl_skip (sem_skip rfl) <| dl_skip (sem_skip rfl) <| dl_skip (sem_skip rfl) <| dl_r (sem_pick rfl rfl rfl rfl) <| dl_end <| dw_true rfl <| dw_seq ?_
    refine dw_region (by kernel_rfl) <| dl_r (sem_assign rfl rfl) <| dl_end <| dw_ret ?_
    rw [signQ_n (.inl (r_lt hb1))]
    exact ⟨.inr rfl, (resL_tmp rfl resL_nil)⟩
theorem ySubL_ok {a b c d e f : Rat} (ha : Rz 60000 a) (_hb : Rz 60000 b) (hd : Rz 60000 d) (he : Rz 60000 e) : Ok Tryz.prog 35 [.a (cR a ++ cR b ++ cR c), .a (cR d ++ cR e ++ cR f)] [.a (cR (a - d) ++ cR b ++ cR (-e) ++ cR 0 ++ cR c ++ cR f)] := by
  refine Ok.of (by kernel_rfl) Tryz.func35 rfl rfl ?_
  rw [show Tryz.f35.ntmps = 21 from rfl, show Tryz.f35.results.toList = [.cell 4 53] from rfl]
  refine dw_seq <| dw_region (by kernel_rfl) <| dl_new (sem_box_a rfl rfl) rfl <| dl_new (sem_box_a rfl rfl) rfl <| dl_new (sem_alloc zc53 rfl) rfl <| dl_end <| dw_seq <| dw_draw 16 [] follows_mixed (by kernel_rfl) rfl rfl ?_
  refine dq_r (sem_field fd28_0 rfl rfl) <| dq_r (sem_load (us := cR a) ty26 rfl rfl rfl rfl rfl) <| dq_r (sem_field fd28_0 rfl rfl) <| dq_r (sem_load (us := cR d) ty26 rfl rfl rfl rfl rfl) ?_
  refine dq_r (sem_call rfl rfl (sSubL_ok (by first | assumption | exact Rz.mono ha (by decide)) (by first | assumption | exact Rz.mono hd (by decide))) rfl) ?_
  refine dq_r (sem_field fd28_1 rfl rfl) <| dq_r (sem_load (us := cR b) ty26 rfl rfl rfl rfl rfl) <| dq_r (sem_field fd28_1 rfl rfl) <| dq_r (sem_load (us := cR e) ty26 rfl rfl rfl rfl rfl) ?_
  refine dq_r (sem_call rfl rfl (sNegL_ok (by first | assumption | exact Rz.mono he (by decide))) rfl) ?_
  refine dq_r (sem_call rfl rfl ((show Ok Tryz.prog 42 [.c (.i .i64 0)] [dR 0] from sFromL_ok (by omega) (by omega))) rfl) <| dq_r (sem_field fd28_2 rfl rfl) <| dq_r (sem_load (us := cR c) ty26 rfl rfl rfl rfl rfl) <| dq_r (sem_field fd28_2 rfl rfl) <| dq_r (sem_load (us := cR f) ty26 rfl rfl rfl rfl rfl) <| dq_r (sem_build (us := (cR (a - d) ++ cR b ++ cR (-e) ++ cR 0 ++ cR c ++ cR f)) fs53 zc53 rfl rfl rfl) <| dq_end <| dl_start0 ?_
  refine dl_st (sem_store_a ty53 rfl rfl rfl rfl rfl rfl) <| dl_end <| dw_ret ?_
  exact ⟨.inr rfl, (resL_cell (us := (cR (a - d) ++ cR b ++ cR (-e) ++ cR 0 ++ cR c ++ cR f)) ty53 rfl rfl rfl rfl resL_nil)⟩
theorem yCmpL_ok {a b c d e f : Rat} (ha : Rz 600 a) (hb : Rz 600 b) (hc : Rz 600 c) (hd : Rz 600 d) (he : Rz 600 e) (hf : Rz 600 f) : Ok Tryz.prog 8 [.a (cR a ++ cR b ++ cR c), .a (cR d ++ cR e ++ cR f)] [.c (.i .i64 (signQ (a - d) b (-e) 0 c f))] := by
  have ka : Rz 60000 a := ha.mono (by decide)
  have ma : Rz 1600 a := ha.mono (by decide)
  have kb : Rz 60000 b := hb.mono (by decide)
  have mb : Rz 1600 b := hb.mono (by decide)
  have kc : Rz 60000 c := hc.mono (by decide)
  have mc : Rz 1600 c := hc.mono (by decide)
  have kd : Rz 60000 d := hd.mono (by decide)
  have md : Rz 1600 d := hd.mono (by decide)
  have ke : Rz 60000 e := he.mono (by decide)
  have me : Rz 1600 e := he.mono (by decide)
  have kf : Rz 60000 f := hf.mono (by decide)
  have mf : Rz 1600 f := hf.mono (by decide)
  have m1 : Rz 1600 (a - d) := (ha.sub hd).mono (by decide)
  have m2 : Rz 1600 (-e) := me.neg
  have m0 : Rz 1600 (0 : Rat) := Rz.int (n := 0) (Sz.small (by decide) (by decide) (by decide)) (by decide)
  refine Ok.of (by kernel_rfl) Tryz.func8 rfl rfl ?_
  rw [show Tryz.f8.ntmps = 9 from rfl, show Tryz.f8.results.toList = [.tmp 4] from rfl]
  refine dw_seq <| dw_region (by kernel_rfl) <| dl_new (sem_box_a rfl rfl) rfl <| dl_new (sem_box_a rfl rfl) rfl <| dl_r (sem_assign rfl rfl) <| dl_end <| dw_seq <| dw_region (by kernel_rfl) ?_
  refine dl_r (sem_load (us := (cR a ++ cR b ++ cR c)) ty28 rfl rfl rfl rfl rfl) <| dl_r (sem_load (us := (cR d ++ cR e ++ cR f)) ty28 rfl rfl rfl rfl rfl) <| dl_r (sem_call rfl rfl (ySubL_ok (by assumption) (by assumption) (by assumption) (by assumption)) rfl) <| dl_r (sem_call rfl rfl (ySignL_ok (by assumption) (by assumption) (by assumption) (by assumption) (by assumption) (by assumption)) rfl) <| dl_r (sem_assign rfl rfl) <| dl_end <| dw_ret ?_
  exact ⟨.inr rfl, (resL_tmp rfl resL_nil)⟩
theorem yCmp_ok {a b c d e f : Rat} (ha : Rz 3 a) (hb : Rz 3 b) (hc : Rz 3 c) (hd : Rz 3 d) (he : Rz 3 e) (hf : Rz 3 f) : Ok Tryz.prog 8 [.a (cR a ++ cR b ++ cR c), .a (cR d ++ cR e ++ cR f)] [.c (.i .i64 (signQ (a - d) b (-e) 0 c f))] := yCmpL_ok (ha.mono (by decide)) (hb.mono (by decide)) (hc.mono (by decide)) (hd.mono (by decide)) (he.mono (by decide)) (hf.mono (by decide))
theorem xCopiedL_ok {a : Rat} (ha : Rz 60000 a) : Ok Tryz.prog 100 [dR a] [dR a] := by
  refine Ok.of (by kernel_rfl) Tryz.func100 rfl rfl ?_
  rw [show Tryz.f100.ntmps = 6 from rfl, show Tryz.f100.results.toList = [.cell 2 26] from rfl]
  refine dw_seq <| dw_region (by kernel_rfl) <| dl_new (sem_box_a rfl rfl) rfl <| dl_new (sem_alloc zc26 rfl) rfl <| dl_end <| dw_seq <| dw_region (by kernel_rfl) <| dl_r (sem_load (us := cR a) ty26 rfl rfl rfl rfl rfl) ?_
  refine dl_r (sem_call rfl rfl (pNegL_ok (by first | assumption | exact Rz.mono ha (by decide))) rfl) ?_
  refine dl_r (sem_call rfl rfl (pNegL_ok (by first | assumption | exact Rz.mono (Rz.neg ha) (by decide))) rfl) ?_
  refine dl_st (sem_store_a ty26 rfl rfl rfl rfl rfl rfl) <| dl_end <| dw_ret ?_
  have hfin : dR a = dR (-(-a)) := by rw [Rat.neg_neg]
  rw [hfin]
  exact ⟨.inr rfl, (resL_cell (us := cR (-(-a))) ty26 rfl rfl rfl rfl resL_nil)⟩
theorem xSubL_ok {a b c d e f : Rat} (ha : Rz 60000 a) (hb : Rz 60000 b) (hc : Rz 60000 c) (hd : Rz 60000 d) (he : Rz 60000 e) (hf : Rz 60000 f) : Ok Tryz.prog 67 [.a (cR a ++ cR b ++ cR c), .a (cR d ++ cR e ++ cR f)] [.a (cR (a - d) ++ cR b ++ cR (-e) ++ cR 0 ++ cR c ++ cR f)] := by
  refine Ok.of (by kernel_rfl) Tryz.func67 rfl rfl ?_
  rw [show Tryz.f67.ntmps = 24 from rfl, show Tryz.f67.results.toList = [.cell 4 53] from rfl]
  refine dw_seq <| dw_region (by kernel_rfl) <| dl_new (sem_box_a rfl rfl) rfl <| dl_new (sem_box_a rfl rfl) rfl <| dl_new (sem_alloc zc53 rfl) rfl <| dl_end <| dw_seq <| dw_draw 19 [] follows_mixed (by kernel_rfl) rfl rfl ?_
  refine dq_r (sem_field fd28_0 rfl rfl) <| dq_r (sem_load (us := cR a) ty26 rfl rfl rfl rfl rfl) <| dq_r (sem_field fd28_0 rfl rfl) <| dq_r (sem_load (us := cR d) ty26 rfl rfl rfl rfl rfl) ?_
  refine dq_r (sem_call rfl rfl (pSubL_ok (by first | assumption | exact Rz.mono ha (by decide)) (by first | assumption | exact Rz.mono hd (by decide))) rfl) ?_
  refine dq_r (sem_field fd28_1 rfl rfl) <| dq_r (sem_load (us := cR b) ty26 rfl rfl rfl rfl rfl) ?_
  refine dq_r (sem_call rfl rfl (xCopiedL_ok (by first | assumption | exact Rz.mono hb (by decide))) rfl) ?_
  refine dq_r (sem_field fd28_1 rfl rfl) <| dq_r (sem_load (us := cR e) ty26 rfl rfl rfl rfl rfl) ?_
  refine dq_r (sem_call rfl rfl (pNegL_ok (by first | assumption | exact Rz.mono he (by decide))) rfl) ?_
  refine dq_r (sem_call rfl rfl ((show Ok Tryz.prog 29 [.c (.i .i64 0)] [dR 0] from pFromL_ok (by omega) (by omega))) rfl) <| dq_r (sem_field fd28_2 rfl rfl) <| dq_r (sem_load (us := cR c) ty26 rfl rfl rfl rfl rfl) ?_
  refine dq_r (sem_call rfl rfl (xCopiedL_ok (by first | assumption | exact Rz.mono hc (by decide))) rfl) ?_
  refine dq_r (sem_field fd28_2 rfl rfl) <| dq_r (sem_load (us := cR f) ty26 rfl rfl rfl rfl rfl) ?_
  refine dq_r (sem_call rfl rfl (xCopiedL_ok (by first | assumption | exact Rz.mono hf (by decide))) rfl) ?_
  refine dq_r (sem_build (us := (cR (a - d) ++ cR b ++ cR (-e) ++ cR 0 ++ cR c ++ cR f)) fs53 zc53 rfl rfl rfl) <| dq_end <| dl_start0 <| dl_st (sem_store_a ty53 rfl rfl rfl rfl rfl rfl) <| dl_end <| dw_ret ?_
  exact ⟨.inr rfl, (resL_cell (us := (cR (a - d) ++ cR b ++ cR (-e) ++ cR 0 ++ cR c ++ cR f)) ty53 rfl rfl rfl rfl resL_nil)⟩
theorem Rz.zero {k : Nat} (hk : 1 ≤ k) : Rz k (0 : Rat) := ⟨⟨by have := pw_pos k; rw [Rat.zero_num]; omega, by have := pw_pos k; rw [Rat.zero_num]; omega⟩, by rw [Rat.zero_den]; exact Sz.one hk⟩
def Cau (x : Nat → Rat) : Prop := ∀ e : Rat, 0 < e → ∃ K : Nat, ∀ i j, K ≤ i → K ≤ j → x i - x j ≤ e
def Psv (x : Nat → Rat) : Prop := ∃ e : Rat, 0 < e ∧ ∃ K : Nat, ∀ k, K ≤ k → e ≤ x k
def Nul (x : Nat → Rat) : Prop := ∀ e : Rat, 0 < e → ∃ K : Nat, ∀ k, K ≤ k → -e ≤ x k ∧ x k ≤ e
structure Re where
  s : Nat → Rat
  c : Cau s
theorem Re.ext {x y : Re} (h : ∀ k, x.s k = y.s k) : x = y := by
  cases x; cases y
  have : _ = _ := funext h
  subst this; rfl
theorem q_half {e : Rat} (h : 0 < e) : 0 < e / 2 := by grind
theorem q_div {e B : Rat} (h : 0 < e) (h2 : 0 < B) : 0 < e / B ∧ B * (e / B) = e := by
  refine ⟨?_, by grind⟩
  rw [Rat.div_def]
  exact Rat.mul_pos h (Rat.inv_pos.2 h2)
theorem Re.bnd (x : Re) : ∃ B : Rat, 0 < B ∧ ∃ K : Nat, ∀ k, K ≤ k → -B ≤ x.s k ∧ x.s k ≤ B := by
  obtain ⟨K, h⟩ := x.c 1 (by decide)
  by_cases hs : 0 ≤ x.s K
  · exact ⟨x.s K + 1, by grind, K, fun k hk => by have h1 := h k K hk (Nat.le_refl _); have h2 := h K k (Nat.le_refl _) hk; constructor <;> grind⟩
  · exact ⟨1 - x.s K, by grind, K, fun k hk => by have h1 := h k K hk (Nat.le_refl _); have h2 := h K k (Nat.le_refl _) hk; constructor <;> grind⟩
theorem cau_const (q : Rat) : Cau (fun _ => q) := fun e he => ⟨0, fun i j _ _ => by grind⟩
theorem cau_add {x y : Nat → Rat} (hx : Cau x) (hy : Cau y) : Cau (fun k => x k + y k) := fun e he => by
  obtain ⟨K, h⟩ := hx (e / 2) (q_half he)
  obtain ⟨L, g⟩ := hy (e / 2) (q_half he)
  exact ⟨max K L, fun i j hi hj => by have h1 := h i j (by omega) (by omega); have h2 := g i j (by omega) (by omega); grind⟩
theorem cau_neg {x : Nat → Rat} (hx : Cau x) : Cau (fun k => -x k) := fun e he => by
  obtain ⟨K, h⟩ := hx e he
  exact ⟨K, fun i j hi hj => by have h1 := h j i hj hi; grind⟩
theorem q_prod {a b e f : Rat} (h1 : -e ≤ a) (h2 : a ≤ e) (h3 : -f ≤ b) (h4 : b ≤ f) : a * b ≤ e * f ∧ -(e * f) ≤ a * b := by
  have p1 : 0 ≤ (e - a) * (f + b) := Rat.mul_nonneg (by grind) (by grind)
  have p2 : 0 ≤ (e + a) * (f - b) := Rat.mul_nonneg (by grind) (by grind)
  have p3 : 0 ≤ (e - a) * (f - b) := Rat.mul_nonneg (by grind) (by grind)
  have p4 : 0 ≤ (e + a) * (f + b) := Rat.mul_nonneg (by grind) (by grind)
  constructor <;> grind
theorem cau_mul (x y : Re) : Cau (fun k => x.s k * y.s k) := fun e he => by
  obtain ⟨B, hB, K, hb⟩ := x.bnd
  obtain ⟨D, hD, L, hd⟩ := y.bnd
  obtain ⟨d1, e1⟩ := q_div (q_half he) hB
  obtain ⟨d2, e2⟩ := q_div (q_half he) hD
  obtain ⟨K', h⟩ := x.c _ d2
  obtain ⟨L', g⟩ := y.c _ d1
  refine ⟨max (max K L) (max K' L'), fun i j hi hj => ?_⟩
  have b1 := hb i (by omega)
  have b2 := hd j (by omega)
  have h1 := h i j (by omega) (by omega)
  have h2 := h j i (by omega) (by omega)
  have g1 := g i j (by omega) (by omega)
  have g2 := g j i (by omega) (by omega)
  have p1 := (q_prod b1.1 b1.2 (a := x.s i) (b := y.s i - y.s j) (f := e / 2 / B) (by grind) (by grind)).1
  have p2 := (q_prod b2.1 b2.2 (a := y.s j) (b := x.s i - x.s j) (f := e / 2 / D) (by grind) (by grind)).1
  rw [e1] at p1
  rw [e2] at p2
  grind
def Re.of (q : Rat) : Re := ⟨fun _ => q, cau_const q⟩
instance : Add Re := ⟨fun x y => ⟨fun k => x.s k + y.s k, cau_add x.c y.c⟩⟩
instance : Neg Re := ⟨fun x => ⟨fun k => -x.s k, cau_neg x.c⟩⟩
instance : _root_.Sub Re := ⟨fun x y => x + -y⟩
instance : Mul Re := ⟨fun x y => ⟨fun k => x.s k * y.s k, cau_mul x y⟩⟩
theorem re_add (x y : Re) (k : Nat) : (x + y).s k = x.s k + y.s k := rfl
theorem re_neg (x : Re) (k : Nat) : (-x).s k = -x.s k := rfl
theorem re_sub (x y : Re) (k : Nat) : (x - y).s k = x.s k + -y.s k := rfl
theorem re_mul (x y : Re) (k : Nat) : (x * y).s k = x.s k * y.s k := rfl
theorem re_of (q : Rat) (k : Nat) : (Re.of q).s k = q := rfl
theorem psv_nul_psv (x : Re) : Psv x.s ∨ Nul x.s ∨ Psv (-x).s := by
  by_cases hn : Nul x.s
  · exact .inr (.inl hn)
  · unfold Nul at hn
    obtain ⟨e, hn⟩ := Classical.not_forall.1 hn
    obtain ⟨he, hn⟩ := Classical.not_imp.1 hn
    obtain ⟨K, h⟩ := x.c (e / 2) (q_half he)
    have hn2 := not_exists.1 hn K
    obtain ⟨k, hn3⟩ := Classical.not_forall.1 hn2
    obtain ⟨hk, hn4⟩ := Classical.not_imp.1 hn3
    by_cases h1 : e < x.s k
    · exact .inl ⟨e / 2, q_half he, K, fun j hj => by have := h k j hk hj; grind⟩
    · have h2 : x.s k < -e := by
        apply Classical.byContradiction
        intro h3
        exact hn4 ⟨by grind, by grind⟩
      exact .inr (.inr ⟨e / 2, q_half he, K, fun j hj => by rw [re_neg]; have := h j k hj hk; grind⟩)
section
variable {x y z : Re}
theorem psv_not (h : Psv x.s) : ¬ Psv (-x).s := fun g => by
  obtain ⟨e, he, K, h⟩ := h
  obtain ⟨f, hf, L, g⟩ := g
  have h1 := h (max K L) (by omega)
  have h2 := g (max K L) (by omega)
  rw [re_neg] at h2
  grind
theorem psv_not_nul (h : Psv x.s) : ¬ Nul x.s := fun g => by
  obtain ⟨e, he, K, h⟩ := h
  obtain ⟨L, g⟩ := g (e / 2) (q_half he)
  have h1 := h (max K L) (by omega)
  have h2 := g (max K L) (by omega)
  grind
theorem nul_neg (h : Nul x.s) : Nul (-x).s := fun e he => by
  obtain ⟨K, h⟩ := h e he
  exact ⟨K, fun k hk => by rw [re_neg]; have := h k hk; constructor <;> grind⟩
theorem nul_add (h : Nul x.s) (g : Nul y.s) : Nul (x + y).s := fun e he => by
  obtain ⟨K, h⟩ := h (e / 2) (q_half he)
  obtain ⟨L, g⟩ := g (e / 2) (q_half he)
  exact ⟨max K L, fun k hk => by rw [re_add]; have := h k (by omega); have := g k (by omega); constructor <;> grind⟩
theorem psv_add_nul (h : Psv x.s) (g : Nul y.s) : Psv (x + y).s := by
  obtain ⟨e, he, K, h⟩ := h
  obtain ⟨L, g⟩ := g (e / 2) (q_half he)
  exact ⟨e / 2, q_half he, max K L, fun k hk => by rw [re_add]; have := h k (by omega); have := g k (by omega); grind⟩
theorem psv_add (h : Psv x.s) (g : Psv y.s) : Psv (x + y).s := by
  obtain ⟨e, he, K, h⟩ := h
  obtain ⟨f, hf, L, g⟩ := g
  exact ⟨e, he, max K L, fun k hk => by rw [re_add]; have := h k (by omega); have := g k (by omega); grind⟩
theorem psv_mul (h : Psv x.s) (g : Psv y.s) : Psv (x * y).s := by
  obtain ⟨e, he, K, h⟩ := h
  obtain ⟨f, hf, L, g⟩ := g
  refine ⟨e * f, Rat.mul_pos he hf, max K L, fun k hk => ?_⟩
  rw [re_mul]
  have h1 := h k (by omega)
  have h2 := g k (by omega)
  have p1 : 0 ≤ (x.s k - e) * f := Rat.mul_nonneg (by grind) (by grind)
  have p2 : 0 ≤ x.s k * (y.s k - f) := Rat.mul_nonneg (by grind) (by grind)
  grind
theorem nul_mul (x : Re) (g : Nul y.s) : Nul (x * y).s := fun e he => by
  obtain ⟨B, hB, K, hb⟩ := x.bnd
  obtain ⟨d1, e1⟩ := q_div he hB
  obtain ⟨L, g⟩ := g _ d1
  refine ⟨max K L, fun k hk => ?_⟩
  rw [re_mul]
  have h1 := hb k (by omega)
  have h2 := g k (by omega)
  have p := q_prod h1.1 h1.2 h2.1 h2.2
  rw [e1] at p
  exact ⟨p.2, p.1⟩
theorem re_negneg (x : Re) : - -x = x := Re.ext fun k => by rw [re_neg, re_neg]; grind
theorem re_mulc (x y : Re) : x * y = y * x := Re.ext fun k => by rw [re_mul, re_mul]; grind
theorem re_negmul (x y : Re) : -(x * y) = -x * y := Re.ext fun k => by rw [re_neg, re_mul, re_mul, re_neg]; grind
theorem re_mulneg (x y : Re) : -(x * y) = x * -y := Re.ext fun k => by rw [re_neg, re_mul, re_mul, re_neg]; grind
theorem re_negadd (x y : Re) : -(x + y) = -x + -y := Re.ext fun k => by rw [re_neg, re_add, re_add, re_neg, re_neg]; grind
noncomputable def sgR (x : Re) : Int := open Classical in if Psv x.s then 1 else if Psv (-x).s then -1 else 0
theorem sgR_p : sgR x = 1 ↔ Psv x.s := by
  unfold sgR
  split
  · rename_i h; simp [h]
  · rename_i h; split <;> simp [h]
theorem sgR_n : sgR x = -1 ↔ Psv (-x).s := by
  unfold sgR
  split
  · rename_i h; simp [psv_not h]
  · rename_i h
    split
    · rename_i h2; simp [h2]
    · rename_i h2; simp [h2]
theorem sgR_z : sgR x = 0 ↔ Nul x.s := by
  unfold sgR
  split
  · rename_i h; simp [psv_not_nul h]
  · rename_i h
    split
    · rename_i h2
      have h3 := psv_not_nul h2
      simp
      exact fun g => h3 (nul_neg g)
    · rename_i h2
      simp
      exact ((psv_nul_psv x).resolve_left h).resolve_right h2
theorem sgR_cases (x : Re) : sgR x = 1 ∨ sgR x = 0 ∨ sgR x = -1 := by
  rcases psv_nul_psv x with h | h | h
  · exact .inl (sgR_p.2 h)
  · exact .inr (.inl (sgR_z.2 h))
  · exact .inr (.inr (sgR_n.2 h))
theorem sgR_neg (x : Re) : sgR (-x) = -sgR x := by
  rcases psv_nul_psv x with h | h | h
  · rw [sgR_p.2 h, sgR_n, re_negneg]; exact h
  · rw [sgR_z.2 h, sgR_z.2 (nul_neg h)]; rfl
  · rw [sgR_n.2 h, sgR_p.2 h]; rfl
theorem sgR_mul (x y : Re) : sgR (x * y) = sgR x * sgR y := by
  rcases psv_nul_psv x with h | h | h <;> rcases psv_nul_psv y with g | g | g
  · rw [sgR_p.2 h, sgR_p.2 g, sgR_p.2 (psv_mul h g)]; rfl
  · rw [sgR_p.2 h, sgR_z.2 g, sgR_z.2 (nul_mul x g)]; rfl
  · rw [sgR_p.2 h, sgR_n.2 g, Int.one_mul, sgR_n, re_mulneg]; exact psv_mul h g
  · rw [sgR_z.2 h, Int.zero_mul, sgR_z, re_mulc]; exact nul_mul y h
  · rw [sgR_z.2 h, Int.zero_mul, sgR_z, re_mulc]; exact nul_mul y h
  · rw [sgR_z.2 h, Int.zero_mul, sgR_z, re_mulc]; exact nul_mul y h
  · rw [sgR_n.2 h, sgR_p.2 g, Int.mul_one, sgR_n, re_negmul]; exact psv_mul h g
  · rw [sgR_n.2 h, sgR_z.2 g, sgR_z.2 (nul_mul x g)]; rfl
  · rw [sgR_n.2 h, sgR_n.2 g]
    have e : x * y = -x * -y := Re.ext fun k => by rw [re_mul, re_mul, re_neg, re_neg]; grind
    rw [e, sgR_p.2 (psv_mul h g)]; rfl
theorem sgR_addz (x : Re) (h : sgR y = 0) : sgR (x + y) = sgR x := by
  have g := sgR_z.1 h
  rcases psv_nul_psv x with h | h | h
  · rw [sgR_p.2 h, sgR_p.2 (psv_add_nul h g)]
  · rw [sgR_z.2 h, sgR_z.2 (nul_add h g)]
  · rw [sgR_n.2 h, sgR_n, re_negadd]; exact psv_add_nul h (nul_neg g)
theorem re_addc (x y : Re) : x + y = y + x := Re.ext fun k => by rw [re_add, re_add]; grind
theorem sgR_zadd (h : sgR x = 0) (y : Re) : sgR (x + y) = sgR y := by rw [re_addc]; exact sgR_addz y h
theorem sgR_adds (h : sgR x = sgR y) : sgR (x + y) = sgR x := by
  rcases sgR_cases x with g | g | g
  · rw [g, sgR_p]; exact psv_add (sgR_p.1 g) (sgR_p.1 (h.symm.trans g))
  · rw [sgR_addz x (h.symm.trans g)]
  · rw [g, sgR_n, re_negadd]; exact psv_add (sgR_n.1 g) (sgR_n.1 (h.symm.trans g))
theorem sgR_nn (h : 0 ≤ sgR x) (g : 0 ≤ sgR y) : 0 ≤ sgR (x + y) := by
  rcases sgR_cases x with a | a | a
  · rcases sgR_cases y with b | b | b
    · rw [sgR_adds (a.trans b.symm)]; exact h
    · rw [sgR_addz x b]; exact h
    · omega
  · rw [sgR_zadd a]; exact g
  · omega
theorem sgR_pn (h : 0 < sgR x) (g : 0 ≤ sgR y) : 0 < sgR (x + y) := by
  rcases sgR_cases y with b | b | b
  · rcases sgR_cases x with a | a | a
    · rw [sgR_adds (a.trans b.symm)]; exact h
    · omega
    · omega
  · rw [sgR_addz x b]; exact h
  · omega
theorem sgR_same (h : sgR (x - y) = 0) : sgR x = sgR y := by
  have e : x = (x - y) + y := Re.ext fun k => by rw [re_add, re_sub]; grind
  rw [e]
  exact sgR_zadd h y
theorem sgR_of (q : Rat) : sgR (Re.of q) = cmpR q 0 := by
  unfold cmpR
  split
  · rename_i h
    exact sgR_n.2 ⟨-q, by grind, 0, fun k _ => by rw [re_neg, re_of]; grind⟩
  · split
    · rename_i h; exact sgR_p.2 ⟨q, h, 0, fun k _ => by rw [re_of]; grind⟩
    · exact sgR_z.2 fun e he => ⟨0, fun k _ => by rw [re_of]; constructor <;> grind⟩
end
theorem sgR_comb {X Y r n : Re} (hr : 0 ≤ sgR r) (hn : sgR (r * r - n) = 0) : sgR (X + Y * r) = comb (sgR X) (sgR Y * sgR n) (sgR (X * X - Y * Y * n)) := by
  have hrn : sgR r = sgR n := by
    have h1 := sgR_same hn
    rw [sgR_mul] at h1
    rcases sgR_cases r with h | h | h
    · rw [← h1, h]; rfl
    · rw [← h1, h]; rfl
    · omega
  have ht : sgR (Y * r) = sgR Y * sgR n := by rw [sgR_mul, hrn]
  rw [← ht]
  unfold comb
  split
  · rename_i h
    rcases h with h | h
    · exact sgR_addz X h
    · exact sgR_adds h
  · rename_i h
    split
    · rename_i h2; exact sgR_zadd h2 _
    · rename_i h2
      have hopp : sgR (Y * r) = -sgR X := by
        have a := sgR_cases X
        have b := sgR_cases (Y * r)
        omega
      have hm : sgR (X + -(Y * r)) = sgR X := sgR_adds (by rw [sgR_neg, hopp]; omega)
      have e1 : sgR ((X + Y * r) * (X + -(Y * r))) = sgR (X * X - Y * Y * n) := by
        refine sgR_same ?_
        have e : (X + Y * r) * (X + -(Y * r)) - (X * X - Y * Y * n) = -(Y * Y) * (r * r - n) := Re.ext fun k => by
          simp only [re_sub, re_mul, re_add, re_neg]; grind
        rw [e, sgR_mul, hn, Int.mul_zero]
      rw [sgR_mul, hm] at e1
      rw [← e1]
      have a := sgR_cases X
      have b := sgR_cases (X + Y * r)
      rcases a with a | a | a <;> rcases b with b | b | b <;> simp [a, b] at * <;> omega
def rtD (m : Rat) (k : Nat) : Rat := (((m.den : Int) * ((k : Int) + 1) : Int) : Rat)
def rtI (m : Rat) (k : Nat) : Int := isqI (m.num * (m.den : Int) * (((k : Int) + 1) * ((k : Int) + 1)))
def rtS (m : Rat) (k : Nat) : Rat := ((rtI m k : Int) : Rat) / rtD m k
theorem q_cancel {x y d : Rat} (hd : 0 < d) (h : x * d ≤ y * d) : x ≤ y := by
  apply Classical.byContradiction
  intro hn
  have h1 : 0 < (x - y) * d := Rat.mul_pos (by grind) hd
  grind
theorem r_num (m : Rat) : m * ((m.den : Int) : Rat) = ((m.num : Int) : Rat) := by
  have h := Rat.num_divInt_den m
  rw [Rat.divInt_eq_div] at h
  have hd : (0 : Rat) < ((m.den : Int) : Rat) := Rat.intCast_pos.2 (by have := m.den_pos; omega)
  generalize ((m.den : Int) : Rat) = q at *
  generalize ((m.num : Int) : Rat) = p at *
  grind
theorem rtD_pos (m : Rat) (k : Nat) : 0 < rtD m k := by
  unfold rtD
  have h1 := den_pos m
  have h2 : (0 : Int) < (m.den : Int) * ((k : Int) + 1) := Int.mul_pos h1 (by omega)
  exact Rat.intCast_pos.2 h2
theorem rtS_mul (m : Rat) (k : Nat) : rtS m k * rtD m k = ((rtI m k : Int) : Rat) := by
  have := rtD_pos m k
  unfold rtS; grind
theorem rtD_sq (m : Rat) (k : Nat) : m * (rtD m k * rtD m k) = ((m.num * (m.den : Int) * (((k : Int) + 1) * ((k : Int) + 1)) : Int) : Rat) := by
  have h := r_num m
  unfold rtD
  simp only [Rat.intCast_mul, Rat.intCast_add, Rat.intCast_one, Rat.intCast_natCast] at *
  grind
theorem rtI_nn (m : Rat) (k : Nat) : 0 ≤ rtI m k := isqI_nonneg _
theorem num_nn {m : Rat} (h : 0 ≤ m) (k : Nat) : 0 ≤ m.num * (m.den : Int) * (((k : Int) + 1) * ((k : Int) + 1)) :=
  Int.mul_nonneg (Int.mul_nonneg (Rat.num_nonneg.2 h) (by have := den_pos m; omega)) (Int.mul_nonneg (by omega) (by omega))
theorem rtS_nn (m : Rat) (k : Nat) : 0 ≤ rtS m k := by
  refine q_cancel (rtD_pos m k) ?_
  rw [rtS_mul]
  have : (0 : Rat) ≤ ((rtI m k : Int) : Rat) := Rat.intCast_nonneg.2 (rtI_nn m k)
  grind
theorem rtS_le {m : Rat} (h : 0 ≤ m) (k : Nat) : rtS m k * rtS m k ≤ m := by
  have hd := rtD_pos m k
  refine q_cancel (Rat.mul_pos hd hd) ?_
  rw [rtD_sq]
  have e : rtS m k * rtS m k * (rtD m k * rtD m k) = ((rtI m k * rtI m k : Int) : Rat) := by
    rw [Rat.intCast_mul, ← rtS_mul]; grind
  rw [e]
  exact Rat.intCast_le_intCast.2 (isqI_le (num_nn h k))
theorem rtS_lt {m : Rat} (h : 0 ≤ m) (k : Nat) : m < (rtS m k + 1 / rtD m k) * (rtS m k + 1 / rtD m k) := by
  have hd := rtD_pos m k
  have e : (rtS m k + 1 / rtD m k) * (rtS m k + 1 / rtD m k) * (rtD m k * rtD m k) = (((rtI m k + 1) * (rtI m k + 1) : Int) : Rat) := by
    rw [Rat.intCast_mul, Rat.intCast_add, ← rtS_mul]
    have : 1 / rtD m k * rtD m k = 1 := by grind
    grind
  have h1 := Rat.intCast_lt_intCast.2 (isqI_lt (num_nn h k))
  rw [← rtD_sq] at h1
  have h2 : m * (rtD m k * rtD m k) < (rtS m k + 1 / rtD m k) * (rtS m k + 1 / rtD m k) * (rtD m k * rtD m k) := by rw [e]; exact h1
  apply Classical.byContradiction
  intro hn
  have h3 : 0 ≤ (m - (rtS m k + 1 / rtD m k) * (rtS m k + 1 / rtD m k)) * (rtD m k * rtD m k) := Rat.mul_nonneg (by grind) (by have := Rat.mul_pos hd hd; grind)
  grind
theorem rtD_small (m : Rat) {e : Rat} (he : 0 < e) {k : Nat} (hk : e.den ≤ k) : 0 < 1 / rtD m k ∧ 1 / rtD m k ≤ e := by
  have hd := rtD_pos m k
  have hc : 1 / rtD m k * rtD m k = 1 := by grind
  refine ⟨?_, ?_⟩
  · have := (q_div (e := 1) (by decide) hd).1; exact this
  · refine q_cancel hd ?_
    rw [hc]
    have h1 := r_num e
    have h2 : 0 < e.num := Rat.intCast_pos.1 (by rw [← h1]; exact Rat.mul_pos he (Rat.intCast_pos.2 (by have := e.den_pos; omega)))
    have h3 : (1 : Rat) ≤ ((e.num : Int) : Rat) := by
      have : ((1 : Int) : Rat) ≤ ((e.num : Int) : Rat) := Rat.intCast_le_intCast.2 (by omega)
      simpa using this
    have h4 : ((e.den : Int) : Rat) ≤ rtD m k := by
      unfold rtD
      refine Rat.intCast_le_intCast.2 ?_
      have := den_pos m
      have h5 : 1 * ((k : Int) + 1) ≤ (m.den : Int) * ((k : Int) + 1) := Int.mul_le_mul_of_nonneg_right (by omega) (by omega)
      omega
    have h6 : 0 ≤ e * (rtD m k - ((e.den : Int) : Rat)) := Rat.mul_nonneg (by grind) (by grind)
    simp only [Rat.intCast_natCast] at *
    grind
theorem cau_rt {m : Rat} (h : 0 ≤ m) : Cau (rtS m) := fun e he => by
  refine ⟨e.den, fun i j _ hj => ?_⟩
  obtain ⟨hp, hs⟩ := rtD_small m he hj
  have h1 := rtS_le h i
  have h2 := rtS_lt h j
  have h3 := rtS_nn m i
  have h4 := rtS_nn m j
  apply Classical.byContradiction
  intro hn
  have h5 : 0 ≤ (rtS m i - (rtS m j + 1 / rtD m j)) * (rtS m i + (rtS m j + 1 / rtD m j)) := Rat.mul_nonneg (by grind) (by grind)
  grind
def Re.rt (m : Rat) : Re := ⟨fun k => if 0 ≤ m then rtS m k else 0, by
  by_cases h : 0 ≤ m
  · simp only [h, if_true]; exact cau_rt h
  · simp only [h, if_false]; exact cau_const 0⟩
theorem sgR_pt {x : Re} (h : ∀ k, 0 ≤ x.s k) : 0 ≤ sgR x := by
  rcases sgR_cases x with a | a | a
  · omega
  · omega
  · obtain ⟨e, he, K, g⟩ := sgR_n.1 a
    have h1 := g K (Nat.le_refl _)
    rw [re_neg] at h1
    have h2 := h K
    exfalso; grind
theorem rt_nn (m : Rat) : 0 ≤ sgR (Re.rt m) := sgR_pt fun k => by
  show 0 ≤ (if 0 ≤ m then rtS m k else 0)
  split
  · exact rtS_nn m k
  · exact Rat.le_refl
theorem rt_sq {m : Rat} (h : 0 ≤ m) : sgR (Re.rt m * Re.rt m - Re.of m) = 0 := sgR_z.2 fun e he => by
  obtain ⟨d1, d2⟩ := q_div he (show 0 < 2 * m + 3 by grind)
  refine ⟨(e / (2 * m + 3)).den, fun k hk => ?_⟩
  rw [re_sub, re_mul, re_of]
  show -e ≤ (if 0 ≤ m then rtS m k else 0) * (if 0 ≤ m then rtS m k else 0) + -m ∧ (if 0 ≤ m then rtS m k else 0) * (if 0 ≤ m then rtS m k else 0) + -m ≤ e
  rw [if_pos h]
  obtain ⟨hp, hs⟩ := rtD_small m d1 hk
  obtain ⟨hp1, hs1⟩ := rtD_small m (e := 1) (by decide) (k := k) (by
    have : (1 : Rat).den = 1 := rfl
    rw [this]
    have := (e / (2 * m + 3)).den_pos
    omega)
  have h1 := rtS_le h k
  have h2 := rtS_lt h k
  have h3 := rtS_nn m k
  refine ⟨?_, by grind⟩
  have h4 : rtS m k ≤ m + 1 := by
    apply Classical.byContradiction
    intro hn
    have h5 : 0 ≤ (rtS m k - (m + 1)) * (rtS m k + (m + 1)) := Rat.mul_nonneg (by grind) (by grind)
    have h6 : 0 ≤ m * m := Rat.mul_nonneg h h
    grind
  generalize 1 / rtD m k = d at *
  have h7 : 0 ≤ d * ((m + 1) - rtS m k) := Rat.mul_nonneg (by grind) (by grind)
  have h8 : 0 ≤ d * (1 - d) := Rat.mul_nonneg (by grind) (by grind)
  have h9 : 0 ≤ (2 * m + 3) * (e / (2 * m + 3) - d) := Rat.mul_nonneg (by grind) (by grind)
  grind
theorem cmpR_sub (x y : Rat) : cmpR (x - y) 0 = cmpR x y := by
  unfold cmpR
  have e1 : (x - y < 0) = (x < y) := by apply propext; constructor <;> intro h <;> grind
  have e2 : (0 < x - y) = (y < x) := by apply propext; constructor <;> intro h <;> grind
  simp only [e1, e2]
theorem of_mul (x y : Rat) : Re.of x * Re.of y = Re.of (x * y) := rfl
theorem of_neg (x : Rat) : -Re.of x = Re.of (-x) := rfl
theorem of_sub (x y : Rat) : Re.of x - Re.of y = Re.of (x - y) := Re.ext fun k => by rw [re_sub, re_of, re_of, re_of]; grind
def val3 (a b m : Rat) : Re := Re.of a + Re.of b * Re.rt m
theorem plainS_sg {a b m : Rat} (h : 0 ≤ m) : plainS a b m = sgR (val3 a b m) := by
  unfold val3
  rw [sgR_comb (n := Re.of m) (rt_nn m) (rt_sq h), sgR_of, sgR_of, sgR_of, of_mul, of_mul, of_mul, of_sub, sgR_of, cmpR_sub]
  rfl
def val6 (A B C D M N : Rat) : Re := val3 A B M + val3 C D M * Re.rt N
theorem signQ_sg {A B C D M N : Rat} (hM : 0 ≤ M) (hN : 0 ≤ N) : signQ A B C D M N = sgR (val6 A B C D M N) := by
  unfold val6
  rw [sgR_comb (n := Re.of N) (rt_nn N) (rt_sq hN), ← plainS_sg hM, ← plainS_sg hM, sgR_of, signQ_p (by grind) (by grind)]
  have e : sgR (val3 A B M * val3 A B M - val3 C D M * val3 C D M * Re.of N) = sgR (val3 (quadA A B C D M N) (quadB A B C D N + quadB A B C D N) M) := by
    refine sgR_same ?_
    have e : (val3 A B M * val3 A B M - val3 C D M * val3 C D M * Re.of N) - val3 (quadA A B C D M N) (quadB A B C D N + quadB A B C D N) M = (Re.of (B * B - D * D * N)) * (Re.rt M * Re.rt M - Re.of M) := Re.ext fun k => by
      unfold val3 quadA quadB
      simp only [re_sub, re_mul, re_add, re_of]; grind
    rw [e, sgR_mul, rt_sq hM, Int.mul_zero]
  rw [e, ← plainS_sg hM]
theorem signQ_val {a b c d e f : Rat} (hc : 0 ≤ c) (hf : 0 ≤ f) : signQ (a - d) b (-e) 0 c f = sgR (val3 a b c - val3 d e f) := by
  rw [signQ_sg hc hf]
  refine congrArg sgR (Re.ext fun k => ?_)
  unfold val6 val3
  simp only [re_sub, re_mul, re_add, re_of]; grind
section
variable {P : Program} {ops : Array Oper} {T : TF} {B : BF}
theorem sem_shr {dst : Option Nat} {xt yt : TypeId} {x y : Operand} {ty : TypeId} {pos : String} {af : Array Edge} {g : Option (Nat × Bool)} {k yk : IntKind} {m n r : Int}
    (hx : opd T x = some (.v (.c (.i k m)))) (hy : opd T y = some (.v (.c (.i yk n)))) (h0 : ¬ n < 0) (hr : m.fdiv (2 ^ (min n.toNat k.bits)) = r) (hg : gd ops ⟨dst, .binOp .shr xt x y yt, ty, pos, af, g⟩ T = some true) :
    Sem P ops ⟨dst, .binOp .shr xt x y yt, ty, pos, af, g⟩ T B (.r (.v (.c (.i k r)))) :=
  sem_pure hg (nop rfl) (fun V β a w hs => by
      have e1 : a.eval x = .int k m := RdC.int_eq (opd_reads hs (x := x) (by simp [Op.operands]) hx)
      have e2 : a.eval y = .int yk n := RdC.int_eq (opd_reads hs (x := y) (by simp [Op.operands]) hy)
      subst hr
      exact ⟨.int k (m.fdiv (2 ^ (min n.toNat k.bits))), by simp [execOp, e1, e2, eqGuard, binOp, Op.shift, h0], .i _ _⟩)
theorem sem_shl {dst : Option Nat} {xt yt : TypeId} {x y : Operand} {ty : TypeId} {pos : String} {af : Array Edge} {g : Option (Nat × Bool)} {k yk : IntKind} {m n r : Int}
    (hx : opd T x = some (.v (.c (.i k m)))) (hy : opd T y = some (.v (.c (.i yk n)))) (h0 : ¬ n < 0) (hr : k.wrap (m * 2 ^ (min n.toNat k.bits)) = r) (hg : gd ops ⟨dst, .binOp .shl xt x y yt, ty, pos, af, g⟩ T = some true) :
    Sem P ops ⟨dst, .binOp .shl xt x y yt, ty, pos, af, g⟩ T B (.r (.v (.c (.i k r)))) :=
  sem_pure hg (nop rfl) (fun V β a w hs => by
      have e1 : a.eval x = .int k m := RdC.int_eq (opd_reads hs (x := x) (by simp [Op.operands]) hx)
      have e2 : a.eval y = .int yk n := RdC.int_eq (opd_reads hs (x := y) (by simp [Op.operands]) hy)
      subst hr
      exact ⟨.int k (k.wrap (m * 2 ^ (min n.toNat k.bits))), by simp [execOp, e1, e2, eqGuard, binOp, Op.shift, h0], .i _ _⟩)
end
def sqLo (x : Int) : Int := isqI (max x 0 * 65536)
def sqHi (y : Int) : Int := if sqI (y * 65536) then isqI (y * 65536) else isqI (y * 65536) + 1
theorem isq_bd {n : Int} (h0 : 0 ≤ n) (h1 : n ≤ 2305843009213693952) : 0 ≤ isqI (n * 65536) ∧ isqI (n * 65536) ≤ 549755813888 := by
  refine ⟨isqI_nonneg _, ?_⟩
  have h2 := isqI_le (x := n * 65536) (by omega)
  by_cases h : isqI (n * 65536) ≤ 549755813888
  · exact h
  · have := sq_le (a := 549755813889) (b := isqI (n * 65536)) (by decide) (by omega)
    omega
theorem fit_small {x : Int} (h0 : -4611686018427387904 ≤ x) (h1 : x ≤ 4611686018427387904) : fitB x = true := fit_iff.2 ⟨by omega, by omega⟩
theorem ok_small {lo hi : Int} (h0 : -2305843009213693952 ≤ lo) (h1 : hi ≤ 2305843009213693952) : okI lo hi = true := ok_in (by omega) (by omega)
theorem fFromRatL_ok {a : Rat} (ha : Rz 40000 a) : Ok Tryz.prog 92 [dR a] [.a ([.i .i64 (if frOk a then frLo a else 0)] ++ [.i .i64 (if frOk a then frHi a else 0)]), .c (.b (frOk a))] := by
  have hz : Rz 60000 (a * ((65536 : Int) : Rat)) := (Rz.mul ha (Rz.int (Sz.small (k := 3) (by decide) (by decide) (by decide)) (by decide))).mono (by decide)
  have ha3 : Rz 60000 a := ha.mono (by decide)
  have h65 : Rz 60000 ((65536 : Int) : Rat) := (Rz.int (Sz.small (k := 3) (by decide) (by decide) (by decide)) (by decide)).mono (by decide)
  have hzn : Rz 60000 (-(a * ((65536 : Int) : Rat))) := hz.neg
  have hs1 : Sz 1000000 (frLo a) := (Sz.fdiv hz.n).mono (by decide)
  have hs2 : Sz 1000000 ((-(a * ((65536 : Int) : Rat))).num.fdiv ((-(a * ((65536 : Int) : Rat))).den : Int)) := (Sz.fdiv hzn.n).mono (by decide)
  have hs3 : Sz 1000000 (frHi a) := hs2.neg
  have hf1 : Ok Tryz.prog 105 [dR (a * ((65536 : Int) : Rat))] [dI (frLo a)] := pFloorL_ok hz
  have hf3 : Ok Tryz.prog 71 [dI ((-(a * ((65536 : Int) : Rat))).num.fdiv ((-(a * ((65536 : Int) : Rat))).den : Int))] [dI (frHi a)] := iNeg_ok hs2
  refine Ok.of (by kernel_rfl) Tryz.func92 rfl rfl ?_
  rw [show Tryz.f92.ntmps = 38 from rfl, show Tryz.f92.results.toList = [.cell 2 103, .tmp 3] from rfl]
  refine dw_seq <| dw_region (by kernel_rfl) <| dl_new (sem_box_a rfl rfl) rfl <| dl_new (sem_alloc zc103 rfl) rfl <| dl_r (sem_assign rfl rfl) <| dl_end <| dw_seq <| dw_draw 4 [] follows_mixed (by kernel_rfl) rfl rfl ?_
  refine dq_r (sem_load (us := cR a) ty26 rfl rfl rfl rfl rfl) <| dq_r (sem_call rfl rfl (pFromL_ok (by omega) (by omega)) rfl) ?_
  refine dq_r (sem_call rfl rfl (pMulL_ok (by first | assumption | exact Rz.mono (by assumption) (by decide)) (by first | assumption | exact Rz.mono (Rz.int (Sz.small (k := 3) (by decide) (by decide) (by decide)) (by decide)) (by decide))) rfl) ?_
  refine dq_new (sem_alloc zc26 rfl) rfl <| dq_end <| dl_start1 <| dl_st (sem_store_a ty26 rfl rfl rfl rfl rfl rfl) <| dl_end <| dw_seq <| dw_region (by kernel_rfl) <| dl_r (sem_load (us := cR (a * (((65536 : Int) : Rat)))) ty26 rfl rfl rfl rfl rfl) ?_
  refine dl_r (sem_call rfl rfl (hf1) rfl) ?_
  refine dl_r (sem_call rfl rfl (iInt64_ok (by first | assumption | exact Sz.mono (by assumption) (by decide))) rfl) ?_
  refine dl_r (sem_move rfl rfl) <| dl_r (sem_extract rfl rfl rfl) <| dl_r (sem_extract rfl rfl rfl) <| dl_r (sem_assign rfl rfl) <| dl_r (sem_assign rfl rfl) <| dl_end <| dw_seq <| dw_region (by kernel_rfl) ?_
  refine dl_r (sem_load (us := cR (a * (((65536 : Int) : Rat)))) ty26 rfl rfl rfl rfl rfl) ?_
  refine dl_r (sem_call rfl rfl (pNegL_ok (by first | assumption | exact Rz.mono (Rz.mul (by assumption) (Rz.int (Sz.small (k := 3) (by decide) (by decide) (by decide)) (by decide))) (by decide))) rfl) ?_
  refine dl_r (sem_call rfl rfl (pFloorL_ok hzn) rfl) <| dl_r (sem_call rfl rfl (hf3) rfl) ?_
  refine dl_r (sem_call rfl rfl (iInt64_ok (by first | assumption | exact Sz.mono (by assumption) (by decide))) rfl) ?_
  refine dl_r (sem_move rfl rfl) <| dl_r (sem_extract rfl rfl rfl) <| dl_r (sem_extract rfl rfl rfl) <| dl_r (sem_assign rfl rfl) <| dl_r (sem_assign rfl rfl) <| dl_end <| dw_seq <| dw_seq ?_
  refine dw_region (by kernel_rfl) <| dl_r (sem_move rfl rfl) <| dl_r (sem_not rfl rfl) ?_
  refine dl_rb (sem_move rfl rfl) (fun c1 hb1 => ?_)
  cases c1
  · refine dl_r (sem_move rfl rfl) <| dl_r (sem_not rfl rfl) <| dl_r (sem_pick rfl rfl rfl rfl) <| dl_end ?_
    refine dw_cond rfl (fun hc2 => ?_) (fun hc2 => ?_)
    · refine dw_seq <| dw_region (by kernel_rfl) <| dl_r (sem_build (us := ([.i .i64 0] ++ [.i .i64 0])) fs103 zc103 rfl rfl rfl) <| dl_st (sem_store_a ty103 rfl rfl rfl rfl rfl rfl) <| dl_r (sem_assign rfl rfl) <| dl_end <| dw_ret ?_
      rw [show frOk a = false from by unfold frOk; rw [not_t hc2, Bool.false_and, Bool.and_false], if_neg (by decide), if_neg (by decide)]
      exact ⟨.inr rfl, (resL_cell (us := ([.i .i64 0] ++ [.i .i64 0])) ty103 rfl rfl rfl rfl (resL_tmp rfl resL_nil))⟩
    · have e1 := not_f hb1
      have e2 := not_f hc2
      refine Dw.weak (σ' := ⟨38, [(2, .p 2 0), (5, .v (.c (.i .i64 (frLo a)))), (7, .v (.c (.i .i64 (frHi a))))], [(2, 103, ([.i .i64 0] ++ [.i .i64 0]))]⟩) (sub_of ⟨rfl, by rw [if_pos e1]; rfl, by rw [if_pos e2]; rfl, trivial⟩ ⟨rfl, trivial⟩ rfl) <| dw_skip <| dw_seq <| dw_region (by kernel_rfl) <| dl_r (sem_move rfl rfl) <| dl_r (sem_move rfl rfl) <| dl_r (sem_call rfl rfl (fProper_ok) rfl) <| dl_r (sem_extract rfl rfl rfl) ?_
      refine dl_r (sem_extract rfl rfl rfl) <| dl_st (sem_store_a ty103 rfl rfl rfl rfl rfl rfl) <| dl_r (sem_assign rfl rfl) <| dl_end <| dw_ret ?_
      rw [show frOk a = okI (frLo a) (frHi a) from by unfold frOk; rw [e1, e2]; rfl]
      exact ⟨.inr rfl, (resL_cell (us := ([.i .i64 (if okI (frLo a) (frHi a) then (frLo a) else 0)] ++ [.i .i64 (if okI (frLo a) (frHi a) then (frHi a) else 0)])) ty103 rfl rfl rfl rfl (resL_tmp rfl resL_nil))⟩
  · refine dl_skip (sem_skip rfl) <| dl_skip (sem_skip rfl) <| dl_r (sem_pick rfl rfl rfl rfl) <| dl_end <| dw_true rfl <| dw_seq <| dw_region (by kernel_rfl) <| dl_r (sem_build (us := ([.i .i64 0] ++ [.i .i64 0])) fs103 zc103 rfl rfl rfl) ?_
    refine dl_st (sem_store_a ty103 rfl rfl rfl rfl rfl rfl) <| dl_r (sem_assign rfl rfl) <| dl_end <| dw_ret ?_
    rw [show frOk a = false from by unfold frOk; rw [not_t hb1]; rfl, if_neg (by decide), if_neg (by decide)]
    exact ⟨.inr rfl, (resL_cell (us := ([.i .i64 0] ++ [.i .i64 0])) ty103 rfl rfl rfl rfl (resL_tmp rfl resL_nil))⟩
theorem fRoot_ok {n : Int} (h0 : 0 ≤ n) (h1 : n ≤ 2305843009213693952) : Ok Tryz.prog 116 [.c (.i .i64 n)] [.c (.i .i64 (isqI (n * 65536))), .c (.b (sqI (n * 65536)))] := by
  have z1 : Sz 1000000 n := Sz.small (by decide) (by omega) (by omega)
  have z2 : Sz 1000000 (65536 : Int) := Sz.small (by decide) (by decide) (by decide)
  have z4 : Sz 3 (n * 65536) := ⟨by have : pw 3 = 1000000000000000000000000000 := by decide
                                    omega, by have : pw 3 = 1000000000000000000000000000 := by decide
                                              omega⟩
  have z5 : Sz 999999 (n * 65536) := z4.mono (by decide)
  have z6 : Sz 1000000 (isqI (n * 65536)) := z4.isq.mono (by decide)
  have hb := isq_bd h0 h1
  have e0 : (if fitB (isqI (n * 65536)) then isqI (n * 65536) else 0) = isqI (n * 65536) := by rw [fit_small (by omega) (by omega), if_pos rfl]
  refine Ok.of (by kernel_rfl) Tryz.func116 rfl rfl ?_
  rw [show Tryz.f116.ntmps = 30 from rfl, show Tryz.f116.results.toList = [.tmp 2, .tmp 3] from rfl]
  refine dw_seq <| dw_region (by kernel_rfl) <| dl_r (sem_assign rfl rfl) <| dl_r (sem_assign rfl rfl) <| dl_end <| dw_seq <| dw_region (by kernel_rfl) <| dl_r (sem_move rfl rfl) ?_
  refine dl_r (sem_call rfl rfl (iFrom_ok (by omega) (by omega)) rfl) <| dl_r (sem_call rfl rfl (iFrom_ok (by omega) (by omega)) rfl) ?_
  refine dl_r (sem_call rfl rfl (iMul_ok (by first | assumption | exact Sz.mono (by assumption) (by decide)) (by first | assumption | exact Sz.mono (Sz.small (k := 3) (by decide) (by decide) (by decide)) (by decide))) rfl) ?_
  refine dl_new (sem_alloc zc24 rfl) rfl <| dl_st (sem_store_a ty24 rfl rfl rfl rfl rfl rfl) <| dl_end <| dw_seq <| dw_region (by kernel_rfl) <| dl_r (sem_load (us := cI (n * 65536)) ty24 rfl rfl rfl rfl rfl) ?_
  refine dl_r (sem_call rfl rfl (iSqrt_ok (by first | assumption | exact Sz.mono (Sz.mul (by assumption) (Sz.small (k := 3) (by decide) (by decide) (by decide))) (by decide))) rfl) ?_
  refine dl_r (sem_move rfl rfl) <| dl_r (sem_extract rfl rfl rfl) <| dl_r (sem_extract rfl rfl rfl) <| dl_new (sem_alloc zc24 rfl) rfl <| dl_st (sem_store_a ty24 rfl rfl rfl rfl rfl rfl) <| dl_r (sem_assign rfl rfl) <| dl_end <| dw_seq ?_
  refine dw_region (by kernel_rfl) <| dl_r (sem_load (us := cI (isqI (n * 65536))) ty24 rfl rfl rfl rfl rfl) <| dl_r (sem_call rfl rfl ((show Ok Tryz.prog 118 [dI (isqI (n * 65536))] [.c (.i .i64 (isqI (n * 65536))), .c (.b (fitB (isqI (n * 65536))))] from by have := iInt64_ok z6; rw [e0] at this; exact this)) rfl) <| dl_r (sem_move rfl rfl) <| dl_r (sem_extract rfl rfl rfl) <| dl_r (sem_extract rfl rfl rfl) <| dl_r (sem_assign rfl rfl) <| dl_r (sem_assign rfl rfl) ?_
  refine dl_end <| dw_seq <| dw_draw 9 [] follows_mixed (by kernel_rfl) rfl rfl <| dq_r (sem_move rfl rfl) <| dq_r (sem_load (us := cI (isqI (n * 65536))) ty24 rfl rfl rfl rfl rfl) <| dq_r (sem_load (us := cI (isqI (n * 65536))) ty24 rfl rfl rfl rfl rfl) ?_
  refine dq_r (sem_call rfl rfl (iMul_ok (by first | assumption | exact Sz.mono (Sz.isq (Sz.mul (by assumption) (Sz.small (k := 3) (by decide) (by decide) (by decide)))) (by decide)) (by first | assumption | exact Sz.mono (Sz.isq (Sz.mul (by assumption) (Sz.small (k := 3) (by decide) (by decide) (by decide)))) (by decide))) rfl) ?_
  refine dq_r (sem_load (us := cI (n * 65536)) ty24 rfl rfl rfl rfl rfl) <| dq_r (sem_call rfl rfl (iCmp_ok) rfl) <| dq_r (sem_cmp rfl rfl rfl rfl) <| dq_r (sem_assign rfl rfl) <| dq_r (sem_assign rfl rfl) <| dq_end <| dl_start0 <| dl_end ?_
  refine dw_ret ?_
  rw [sqI_cmp]
  exact ⟨.inr rfl, (resL_tmp rfl (resL_tmp rfl resL_nil))⟩
theorem fSqrt_ok {x y : Int} (h0 : -2305843009213693952 ≤ x) (h1 : x ≤ 2305843009213693952) (h2 : -2305843009213693952 ≤ y) (h3 : y ≤ 2305843009213693952) (hn : ¬ y < 0) : Ok Tryz.prog 91 [.a ([.i .i64 x] ++ [.i .i64 y])] [.a ([.i .i64 (sqLo x)] ++ [.i .i64 (sqHi y)]), .c (.b true)] := by
  have b1 := isq_bd (n := max x 0) (by omega) (by omega)
  have b2 := isq_bd (n := y) (by omega) h3
  refine Ok.of (by kernel_rfl) Tryz.func91 rfl rfl ?_
  rw [show Tryz.f91.ntmps = 34 from rfl, show Tryz.f91.results.toList = [.cell 2 103, .tmp 3] from rfl]
  refine dw_seq <| dw_region (by kernel_rfl) <| dl_new (sem_box_a rfl rfl) rfl <| dl_new (sem_alloc zc103 rfl) rfl <| dl_r (sem_assign rfl rfl) <| dl_end <| dw_seq <| dw_seq ?_
  refine dw_region (by kernel_rfl) <| dl_r (sem_field fd103_1 rfl rfl) <| dl_r (sem_load1 ty2 rfl rfl rfl rfl) <| dl_r (sem_cmp rfl rfl rfl rfl) <| dl_end ?_
  refine dw_cond rfl (fun hc1 => ?_) (fun hc1 => ?_)
  · exact absurd (dec_t hc1) hn
  · refine dw_skip <| dw_seq <| dw_region (by kernel_rfl) <| dl_r (sem_field fd103_0 rfl rfl) <| dl_r (sem_load1 ty2 rfl rfl rfl rfl) <| dl_r (sem_max rfl rfl rfl) <| dl_r (sem_call rfl rfl (fRoot_ok (by omega) (by omega)) rfl) <| dl_r (sem_move rfl rfl) ?_
    refine dl_r (sem_extract rfl rfl rfl) <| dl_r (sem_extract rfl rfl rfl) <| dl_r (sem_assign rfl rfl) <| dl_r (sem_assign rfl rfl) <| dl_end <| dw_seq <| dw_region (by kernel_rfl) <| dl_r (sem_field fd103_1 rfl rfl) ?_
    refine dl_r (sem_load1 ty2 rfl rfl rfl rfl) <| dl_r (sem_call rfl rfl (fRoot_ok (by omega) (by omega)) rfl) <| dl_r (sem_move rfl rfl) <| dl_r (sem_extract rfl rfl rfl) <| dl_r (sem_extract rfl rfl rfl) <| dl_r (sem_assign rfl rfl) <| dl_r (sem_assign rfl rfl) <| dl_end ?_
    refine dw_seq <| dw_seq <| dw_region (by kernel_rfl) <| dl_r (sem_move rfl rfl) <| dl_r (sem_not rfl rfl) <| dl_end ?_
    refine dw_cond rfl (fun hc2 => ?_) (fun hc2 => ?_)
    · -- region 6
      refine dw_region (by kernel_rfl) <| dl_r (sem_move rfl rfl) <| dl_r (sem_ari (r := (isqI (y * 65536)) + 1) rfl rfl (ari_i64_add (by omega) (by omega)) rfl) <| dl_r (sem_assign rfl rfl) <| dl_end <| dw_seq <| dw_region (by kernel_rfl) <| dl_r (sem_move rfl rfl) ?_
      refine dl_r (sem_move rfl rfl) <| dl_r (sem_call rfl rfl ((show Ok Tryz.prog 117 [.c (.i .i64 (isqI ((max x 0) * 65536))), .c (.i .i64 ((isqI (y * 65536)) + 1))] [.a ([.i .i64 (isqI ((max x 0) * 65536))] ++ [.i .i64 ((isqI (y * 65536)) + 1)]), .c (.b true)] from by have := fProper_ok (x := isqI ((max x 0) * 65536)) (y := (isqI (y * 65536)) + 1); rw [ok_small (by omega) (by omega), if_pos rfl, if_pos rfl] at this; exact this)) rfl) <| dl_r (sem_extract rfl rfl rfl) <| dl_r (sem_extract rfl rfl rfl) <| dl_st (sem_store_a ty103 rfl rfl rfl rfl rfl rfl) <| dl_r (sem_assign rfl rfl) <| dl_end <| dw_ret ?_
      unfold sqLo sqHi
      rw [not_t hc2, if_neg (by decide)]
      exact ⟨.inr rfl, (resL_cell (us := ([.i .i64 (isqI ((max x 0) * 65536))] ++ [.i .i64 ((isqI (y * 65536)) + 1)])) ty103 rfl rfl rfl rfl (resL_tmp rfl resL_nil))⟩
    · refine dw_skip <| dw_seq <| dw_region (by kernel_rfl) <| dl_r (sem_move rfl rfl) <| dl_r (sem_move rfl rfl) <| dl_r (sem_call rfl rfl ((show Ok Tryz.prog 117 [.c (.i .i64 (isqI ((max x 0) * 65536))), .c (.i .i64 (isqI (y * 65536)))] [.a ([.i .i64 (isqI ((max x 0) * 65536))] ++ [.i .i64 (isqI (y * 65536))]), .c (.b true)] from by have := fProper_ok (x := isqI ((max x 0) * 65536)) (y := isqI (y * 65536)); rw [ok_small (by omega) (by omega), if_pos rfl, if_pos rfl] at this; exact this)) rfl) <| dl_r (sem_extract rfl rfl rfl) <| dl_r (sem_extract rfl rfl rfl) ?_
      refine dl_st (sem_store_a ty103 rfl rfl rfl rfl rfl rfl) <| dl_r (sem_assign rfl rfl) <| dl_end <| dw_ret ?_
      unfold sqLo sqHi
      rw [not_f hc2, if_pos rfl]
      exact ⟨.inr rfl, (resL_cell (us := ([.i .i64 (isqI ((max x 0) * 65536))] ++ [.i .i64 (isqI (y * 65536))])) ty103 rfl rfl rfl rfl (resL_tmp rfl resL_nil))⟩
theorem fAdd_ok {x y u v : Int} (h0 : -2305843009213693952 ≤ x) (h1 : x ≤ 2305843009213693952) (h2 : -2305843009213693952 ≤ y) (h3 : y ≤ 2305843009213693952) (h4 : -2305843009213693952 ≤ u) (h5 : u ≤ 2305843009213693952) (h6 : -2305843009213693952 ≤ v) (h7 : v ≤ 2305843009213693952) : Ok Tryz.prog 94 [.a ([.i .i64 x] ++ [.i .i64 y]), .a ([.i .i64 u] ++ [.i .i64 v])] [.a ([.i .i64 (if okI (x + u) (y + v) then x + u else 0)] ++ [.i .i64 (if okI (x + u) (y + v) then y + v else 0)]), .c (.b (okI (x + u) (y + v)))] := by
  refine Ok.of (by kernel_rfl) Tryz.func94 rfl rfl ?_
  rw [show Tryz.f94.ntmps = 19 from rfl, show Tryz.f94.results.toList = [.cell 4 103, .tmp 5] from rfl]
  refine dw_seq <| dw_region (by kernel_rfl) <| dl_new (sem_box_a rfl rfl) rfl <| dl_new (sem_box_a rfl rfl) rfl <| dl_new (sem_alloc zc103 rfl) rfl <| dl_r (sem_assign rfl rfl) <| dl_end <| dw_seq ?_
  refine dw_region (by kernel_rfl) <| dl_r (sem_field fd103_0 rfl rfl) <| dl_r (sem_load1 ty2 rfl rfl rfl rfl) <| dl_r (sem_field fd103_0 rfl rfl) <| dl_r (sem_load1 ty2 rfl rfl rfl rfl) <| dl_r (sem_ari (r := x + u) rfl rfl (ari_i64_add (by omega) (by omega)) rfl) <| dl_r (sem_field fd103_1 rfl rfl) <| dl_r (sem_load1 ty2 rfl rfl rfl rfl) ?_
  refine dl_r (sem_field fd103_1 rfl rfl) <| dl_r (sem_load1 ty2 rfl rfl rfl rfl) <| dl_r (sem_ari (r := y + v) rfl rfl (ari_i64_add (by omega) (by omega)) rfl) <| dl_r (sem_call rfl rfl (fProper_ok) rfl) <| dl_r (sem_extract rfl rfl rfl) <| dl_r (sem_extract rfl rfl rfl) <| dl_st (sem_store_a ty103 rfl rfl rfl rfl rfl rfl) <| dl_r (sem_assign rfl rfl) ?_
  refine dl_end <| dw_ret ?_
  exact ⟨.inr rfl, (resL_cell (us := ([.i .i64 (if okI (x + u) (y + v) then (x + u) else 0)] ++ [.i .i64 (if okI (x + u) (y + v) then (y + v) else 0)])) ty103 rfl rfl rfl rfl (resL_tmp rfl resL_nil))⟩
theorem fAbs_ok {x : Int} (h0 : -9223372036854775808 ≤ x) (h1 : x ≤ 9223372036854775807) : Ok Tryz.prog 129 [.c (.i .i64 x)] [.c (.i .u64 (x.natAbs : Int))] := by
  refine Ok.of (by kernel_rfl) Tryz.func129 rfl rfl ?_
  rw [show Tryz.f129.ntmps = 10 from rfl, show Tryz.f129.results.toList = [.tmp 2] from rfl]
  refine dw_seq <| dw_region (by kernel_rfl) <| dl_r (sem_assign rfl rfl) <| dl_end <| dw_seq <| dw_seq <| dw_region (by kernel_rfl) <| dl_r (sem_move rfl rfl) ?_
  refine dl_r (sem_cmp rfl rfl rfl rfl) <| dl_end ?_
  refine dw_cond rfl (fun hc1 => ?_) (fun hc1 => ?_)
  · have hn := dec_t hc1
    have e : (x.natAbs : Int) = -x := by omega
    refine dw_seq <| dw_region (by kernel_rfl) <| dl_r (sem_move rfl rfl) <| dl_r (sem_conv' (r := x + 18446744073709551616) und2 und69 rfl (wu64_neg hn h0) rfl) <| dl_r (sem_neg' (r := -x) rfl (wu64_neg2 hn h0) rfl) <| dl_r (sem_assign rfl rfl) <| dl_end <| dw_ret ?_
    rw [e]
    exact ⟨.inr rfl, (resL_tmp rfl resL_nil)⟩
  · have hn := dec_f hc1
    have e : (x.natAbs : Int) = x := by omega
    refine dw_skip <| dw_seq <| dw_region (by kernel_rfl) <| dl_r (sem_move rfl rfl) <| dl_r (sem_conv' (r := x) und2 und69 rfl (nwu64 (by omega) (by omega)) rfl) <| dl_r (sem_assign rfl rfl) <| dl_end <| dw_ret ?_
    rw [e]
    exact ⟨.inr rfl, (resL_tmp rfl resL_nil)⟩
section
variable {P : Program} {ops : Array Oper} {T : TF} {B : BF}
theorem sem_and {dst : Option Nat} {xt yt : TypeId} {x y : Operand} {ty : TypeId} {pos : String} {af : Array Edge} {g : Option (Nat × Bool)} {k : IntKind} {m n r : Int}
    (hx : opd T x = some (.v (.c (.i k m)))) (hy : opd T y = some (.v (.c (.i k n)))) (hr : k.wrap ((BitVec.ofInt k.bits m &&& BitVec.ofInt k.bits n).toNat : Int) = r) (hg : gd ops ⟨dst, .binOp .and xt x y yt, ty, pos, af, g⟩ T = some true) :
    Sem P ops ⟨dst, .binOp .and xt x y yt, ty, pos, af, g⟩ T B (.r (.v (.c (.i k r)))) :=
  sem_pure hg (nop rfl) (fun V β a w hs => by
      have e1 : a.eval x = .int k m := RdC.int_eq (opd_reads hs (x := x) (by simp [Op.operands]) hx)
      have e2 : a.eval y = .int k n := RdC.int_eq (opd_reads hs (x := y) (by simp [Op.operands]) hy)
      subst hr
      exact ⟨.int k (k.wrap ((BitVec.ofInt k.bits m &&& BitVec.ofInt k.bits n).toNat : Int)), by simp [execOp, e1, e2, eqGuard, binOp, Op.intBits], .i _ _⟩)
theorem sem_or {dst : Option Nat} {xt yt : TypeId} {x y : Operand} {ty : TypeId} {pos : String} {af : Array Edge} {g : Option (Nat × Bool)} {k : IntKind} {m n r : Int}
    (hx : opd T x = some (.v (.c (.i k m)))) (hy : opd T y = some (.v (.c (.i k n)))) (hr : k.wrap ((BitVec.ofInt k.bits m ||| BitVec.ofInt k.bits n).toNat : Int) = r) (hg : gd ops ⟨dst, .binOp .or xt x y yt, ty, pos, af, g⟩ T = some true) :
    Sem P ops ⟨dst, .binOp .or xt x y yt, ty, pos, af, g⟩ T B (.r (.v (.c (.i k r)))) :=
  sem_pure hg (nop rfl) (fun V β a w hs => by
      have e1 : a.eval x = .int k m := RdC.int_eq (opd_reads hs (x := x) (by simp [Op.operands]) hx)
      have e2 : a.eval y = .int k n := RdC.int_eq (opd_reads hs (x := y) (by simp [Op.operands]) hy)
      subst hr
      exact ⟨.int k (k.wrap ((BitVec.ofInt k.bits m ||| BitVec.ofInt k.bits n).toNat : Int)), by simp [execOp, e1, e2, eqGuard, binOp, Op.intBits], .i _ _⟩)
end
theorem bv_nat (n : Nat) (h : n < 18446744073709551616) : (BitVec.ofInt 64 (n : Int)).toNat = n := by
  rw [BitVec.toNat_ofInt]; omega
theorem and32 {x : Int} (h0 : 0 ≤ x) (h1 : x ≤ 18446744073709551615) : IntKind.u64.wrap ((BitVec.ofInt IntKind.u64.bits x &&& BitVec.ofInt IntKind.u64.bits 4294967295).toNat : Int) = x % 4294967296 := by
  obtain ⟨n, rfl⟩ := Int.eq_ofNat_of_zero_le h0
  have e : (BitVec.ofInt IntKind.u64.bits (n : Int) &&& BitVec.ofInt IntKind.u64.bits 4294967295).toNat = n % 4294967296 := by
    show (BitVec.ofInt 64 (n : Int) &&& BitVec.ofInt 64 ((4294967295 : Nat) : Int)).toNat = _
    rw [BitVec.toNat_and, bv_nat n (by omega), bv_nat _ (by decide)]
    exact Nat.and_two_pow_sub_one_eq_mod n 32
  rw [e, nwu64 (by omega) (by omega)]; omega
theorem and16 {x : Int} (h0 : 0 ≤ x) (h1 : x ≤ 18446744073709551615) : IntKind.u64.wrap ((BitVec.ofInt IntKind.u64.bits x &&& BitVec.ofInt IntKind.u64.bits 65535).toNat : Int) = x % 65536 := by
  obtain ⟨n, rfl⟩ := Int.eq_ofNat_of_zero_le h0
  have e : (BitVec.ofInt IntKind.u64.bits (n : Int) &&& BitVec.ofInt IntKind.u64.bits 65535).toNat = n % 65536 := by
    show (BitVec.ofInt 64 (n : Int) &&& BitVec.ofInt 64 ((65535 : Nat) : Int)).toNat = _
    rw [BitVec.toNat_and, bv_nat n (by omega), bv_nat _ (by decide)]
    exact Nat.and_two_pow_sub_one_eq_mod n 16
  rw [e, nwu64 (by omega) (by omega)]; omega
theorem or48 {h l : Int} (h0 : 0 ≤ h) (h1 : h < 65536) (l0 : 0 ≤ l) (l1 : l < 281474976710656) : IntKind.u64.wrap ((BitVec.ofInt IntKind.u64.bits (h * 281474976710656) ||| BitVec.ofInt IntKind.u64.bits l).toNat : Int) = h * 281474976710656 + l := by
  obtain ⟨n, rfl⟩ := Int.eq_ofNat_of_zero_le h0
  obtain ⟨m, rfl⟩ := Int.eq_ofNat_of_zero_le l0
  have e : (BitVec.ofInt IntKind.u64.bits ((n : Int) * 281474976710656) ||| BitVec.ofInt IntKind.u64.bits (m : Int)).toNat = n * 281474976710656 + m := by
    show (BitVec.ofInt 64 ((n : Int) * ((281474976710656 : Nat) : Int)) ||| BitVec.ofInt 64 (m : Int)).toNat = _
    rw [← Int.natCast_mul, BitVec.toNat_or, bv_nat _ (by omega), bv_nat _ (by omega)]
    have := Nat.two_pow_add_eq_or_of_lt (i := 48) (b := m) (by omega) n
    rw [show n * 281474976710656 = 2 ^ 48 * n from by omega]
    exact this.symm
  rw [e, nwu64 (by omega) (by omega)]; omega
theorem shr32 {x : Int} : x.fdiv (2 ^ (min (32 : Int).toNat IntKind.u64.bits)) = x / 4294967296 := by
  rw [show (2 : Int) ^ (min (32 : Int).toNat IntKind.u64.bits) = 4294967296 from rfl]; exact Int.fdiv_eq_ediv_of_nonneg _ (by decide)
theorem shr16 {x : Int} : x.fdiv (2 ^ (min (16 : Int).toNat IntKind.u64.bits)) = x / 65536 := by
  rw [show (2 : Int) ^ (min (16 : Int).toNat IntKind.u64.bits) = 65536 from rfl]; exact Int.fdiv_eq_ediv_of_nonneg _ (by decide)
theorem shl48 {x : Int} (h0 : 0 ≤ x) (h1 : x < 65536) : IntKind.u64.wrap (x * 2 ^ (min (48 : Int).toNat IntKind.u64.bits)) = x * 281474976710656 := by
  rw [show (2 : Int) ^ (min (48 : Int).toNat IntKind.u64.bits) = 281474976710656 from rfl, nwu64 (by omega) (by omega)]
theorem wmod {x : Int} : IntKind.u64.wrap x = x % 18446744073709551616 := by unfold IntKind.wrap; simp [IntKind.bits, IntKind.signed]
theorem mul64 {x y : Int} (_h0 : 0 ≤ x) (_h1 : x ≤ 18446744073709551615) (_h2 : 0 ≤ y) (_h3 : y ≤ 18446744073709551615) :
    (x / 4294967296) * (y / 4294967296) + ((x / 4294967296) * (y % 4294967296) + (x % 4294967296) * (y % 4294967296) / 4294967296) / 4294967296 + (((x / 4294967296) * (y % 4294967296) + (x % 4294967296) * (y % 4294967296) / 4294967296) % 4294967296 + (x % 4294967296) * (y / 4294967296)) / 4294967296 = x * y / 18446744073709551616 := by
  obtain ⟨a, ha⟩ : ∃ a, x / 4294967296 = a := ⟨_, rfl⟩
  obtain ⟨b, hb⟩ : ∃ b, x % 4294967296 = b := ⟨_, rfl⟩
  obtain ⟨c, hc⟩ : ∃ c, y / 4294967296 = c := ⟨_, rfl⟩
  obtain ⟨d, hd⟩ : ∃ d, y % 4294967296 = d := ⟨_, rfl⟩
  rw [ha, hb, hc, hd]
  have ex : x = 4294967296 * a + b := by omega
  have ey : y = 4294967296 * c + d := by omega
  have e : x * y = 18446744073709551616 * (a * c) + 4294967296 * (a * d) + 4294967296 * (b * c) + b * d := by rw [ex, ey]; grind
  rw [e]
  omega
theorem bMul64_ok {x y : Int} (h0 : 0 ≤ x) (h1 : x ≤ 18446744073709551615) (h2 : 0 ≤ y) (h3 : y ≤ 18446744073709551615) : Ok Tryz.prog 128 [.c (.i .u64 x), .c (.i .u64 y)] [.c (.i .u64 (x * y / 18446744073709551616)), .c (.i .u64 (x * y % 18446744073709551616))] := by
  obtain ⟨a, ha⟩ : ∃ a, x / 4294967296 = a := ⟨_, rfl⟩
  obtain ⟨b, hb⟩ : ∃ b, x % 4294967296 = b := ⟨_, rfl⟩
  obtain ⟨c, hc⟩ : ∃ c, y / 4294967296 = c := ⟨_, rfl⟩
  obtain ⟨d, hd⟩ : ∃ d, y % 4294967296 = d := ⟨_, rfl⟩
  have hm := mul64 h0 h1 h2 h3
  rw [ha, hb, hc, hd] at hm
  have pb : ∀ u v : Int, 0 ≤ u → u ≤ 4294967295 → 0 ≤ v → v ≤ 4294967295 → 0 ≤ u * v ∧ u * v ≤ 18446744065119617025 := fun u v u0 u1 v0 v1 => ⟨Int.mul_nonneg u0 v0, Int.mul_le_mul (c := (4294967295 : Int)) u1 v1 v0 (by decide)⟩
  have q1 := pb b d (by omega) (by omega) (by omega) (by omega)
  have q2 := pb a d (by omega) (by omega) (by omega) (by omega)
  have q3 := pb b c (by omega) (by omega) (by omega) (by omega)
  have q4 := pb a c (by omega) (by omega) (by omega) (by omega)
  refine Ok.of (by kernel_rfl) Tryz.func128 rfl rfl ?_
  rw [show Tryz.f128.ntmps = 51 from rfl, show Tryz.f128.results.toList = [.tmp 4, .tmp 5] from rfl]
  refine dw_seq <| dw_region (by kernel_rfl) <| dl_r (sem_assign rfl rfl) <| dl_r (sem_assign rfl rfl) <| dl_end <| dw_seq <| dw_region (by kernel_rfl) <| dl_r (sem_move rfl rfl) ?_
  refine dl_r (sem_and (r := b) rfl rfl (by rw [← hb]; exact and32 h0 h1) rfl) <| dl_r (sem_assign rfl rfl) <| dl_end <| dw_seq <| dw_region (by kernel_rfl) <| dl_r (sem_move rfl rfl) <| dl_r (sem_shr (r := a) rfl rfl (by decide) (by rw [← ha]; exact shr32) rfl) <| dl_r (sem_assign rfl rfl) ?_
  refine dl_end <| dw_seq <| dw_region (by kernel_rfl) <| dl_r (sem_move rfl rfl) <| dl_r (sem_and (r := d) rfl rfl (by rw [← hd]; exact and32 h2 h3) rfl) <| dl_r (sem_assign rfl rfl) <| dl_end <| dw_seq ?_
  refine dw_region (by kernel_rfl) <| dl_r (sem_move rfl rfl) <| dl_r (sem_shr (r := c) rfl rfl (by decide) (by rw [← hc]; exact shr32) rfl) <| dl_r (sem_assign rfl rfl) <| dl_end <| dw_seq <| dw_region (by kernel_rfl) <| dl_r (sem_move rfl rfl) ?_
  refine dl_r (sem_move rfl rfl) <| dl_r (sem_ari (r := b * d) rfl rfl (ari_u64_mul (by omega) (by omega)) rfl) <| dl_r (sem_assign rfl rfl) <| dl_end <| dw_seq <| dw_region (by kernel_rfl) <| dl_r (sem_move rfl rfl) <| dl_r (sem_move rfl rfl) ?_
  refine dl_r (sem_ari (r := a * d) rfl rfl (ari_u64_mul (by omega) (by omega)) rfl) <| dl_r (sem_move rfl rfl) <| dl_r (sem_shr (r := b * d / 4294967296) rfl rfl (by decide) (shr32) rfl) <| dl_r (sem_ari (r := (a * d) + (b * d / 4294967296)) rfl rfl (ari_u64_add (by omega) (by omega)) rfl) <| dl_r (sem_assign rfl rfl) <| dl_end <| dw_seq <| dw_region (by kernel_rfl) ?_
  refine dl_r (sem_move rfl rfl) <| dl_r (sem_and (r := (a * d + b * d / 4294967296) % 4294967296) rfl rfl (and32 (by omega) (by omega)) rfl) <| dl_r (sem_assign rfl rfl) <| dl_end <| dw_seq <| dw_region (by kernel_rfl) <| dl_r (sem_move rfl rfl) <| dl_r (sem_shr (r := (a * d + b * d / 4294967296) / 4294967296) rfl rfl (by decide) (shr32) rfl) ?_
  refine dl_r (sem_assign rfl rfl) <| dl_end <| dw_seq <| dw_region (by kernel_rfl) <| dl_r (sem_move rfl rfl) <| dl_r (sem_move rfl rfl) <| dl_r (sem_move rfl rfl) <| dl_r (sem_ari (r := b * c) rfl rfl (ari_u64_mul (by omega) (by omega)) rfl) ?_
  refine dl_r (sem_ari (r := ((a * d + b * d / 4294967296) % 4294967296) + (b * c)) rfl rfl (ari_u64_add (by omega) (by omega)) rfl) <| dl_r (sem_assign rfl rfl) <| dl_end <| dw_seq <| dw_region (by kernel_rfl) <| dl_r (sem_move rfl rfl) <| dl_r (sem_move rfl rfl) <| dl_r (sem_ari (r := a * c) rfl rfl (ari_u64_mul (by omega) (by omega)) rfl) ?_
  refine dl_r (sem_move rfl rfl) <| dl_r (sem_ari (r := (a * c) + ((a * d + b * d / 4294967296) / 4294967296)) rfl rfl (ari_u64_add (by omega) (by omega)) rfl) <| dl_r (sem_move rfl rfl) <| dl_r (sem_shr (r := ((a * d + b * d / 4294967296) % 4294967296 + b * c) / 4294967296) rfl rfl (by decide) (shr32) rfl) <| dl_r (sem_ari (r := ((a * c) + ((a * d + b * d / 4294967296) / 4294967296)) + (((a * d + b * d / 4294967296) % 4294967296 + b * c) / 4294967296)) rfl rfl (ari_u64_add (by omega) (by omega)) rfl) <| dl_r (sem_assign rfl rfl) <| dl_end <| dw_seq ?_
  refine dw_region (by kernel_rfl) <| dl_r (sem_move rfl rfl) <| dl_r (sem_move rfl rfl) <| dl_r (sem_ari (r := x * y % 18446744073709551616) rfl rfl (congrArg some wmod) rfl) <| dl_r (sem_assign rfl rfl) <| dl_end <| dw_ret ?_
  rw [← hm]
  exact ⟨.inr rfl, (resL_tmp rfl (resL_tmp rfl resL_nil))⟩
def scP (x y : Int) : Int := (x.natAbs : Int) * (y.natAbs : Int)
def scUp (p : Int) : Int := if p % 65536 = 0 then p / 65536 else p / 65536 + 1
def scLo (x y : Int) : Int := if (!(decide (x < 0) == decide (y < 0))) = true then -(scUp (scP x y)) else scP x y / 65536
def scHi (x y : Int) : Int := if (!(decide (x < 0) == decide (y < 0))) = true then -(scP x y / 65536) else scUp (scP x y)
def scBig (x y : Int) : Bool := decide (scP x y / 65536 > 2305843009213693952)
def scOk (x y : Int) : Bool := !scBig x y && (decide (scLo x y ≥ -2305843009213693952) && decide (scHi x y ≤ 2305843009213693952))
theorem scUp_t {p : Int} (h : (p % 18446744073709551616 % 65536 != 0) = true) : scUp p = p / 65536 + 1 := by
  have h : p % 18446744073709551616 % 65536 ≠ 0 := by simpa using h
  unfold scUp; rw [if_neg (by omega)]
theorem scUp_f {p : Int} (h : (p % 18446744073709551616 % 65536 != 0) = false) : scUp p = p / 65536 := by
  have h : p % 18446744073709551616 % 65536 = 0 := by simpa using h
  unfold scUp; rw [if_pos (by omega)]
theorem nz_t {a : Int} (h : (a != 0) = true) : a ≠ 0 := by simpa using h
theorem nz_f {a : Int} (h : (a != 0) = false) : a = 0 := by simpa using h
end Go.Proofs.YthlnndkgpgfbnaaGreat
