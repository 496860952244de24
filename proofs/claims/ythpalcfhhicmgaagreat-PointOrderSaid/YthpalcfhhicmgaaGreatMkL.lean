/- Plain: the interval of a root. -/
import Derived.Test.YthpalcfhhicmgaaGreatMkK
import Derived.Test.YthpalcfhhicmgaaGreatProg
namespace Go.Proofs.YthpalcfhhicmgaaGreat
open Go Go.RowKit
theorem frHi_nonneg {c : Rat} (h : ¬ c < 0) : 0 ≤ frHi c := by
  unfold frHi
  have h0 : 0 ≤ c := Rat.not_lt.1 h
  have h1 : 0 ≤ c * ((65536 : Int) : Rat) := Rat.mul_nonneg h0 (by decide)
  have h2 : 0 ≤ (c * ((65536 : Int) : Rat)).num := Rat.num_nonneg.2 h1
  have h3 := den_pos (-(c * ((65536 : Int) : Rat)))
  rw [Int.fdiv_eq_ediv_of_nonneg _ (by omega), Rat.neg_num]
  have h4 : (-(c * ((65536 : Int) : Rat)).num) / ((-(c * ((65536 : Int) : Rat))).den : Int) ≤ 0 := by
    have h5 := Int.ediv_le_ediv h3 (show -(c * ((65536 : Int) : Rat)).num ≤ 0 by omega)
    rw [Int.zero_ediv] at h5; exact h5
  omega
theorem ok_bd {lo hi : Int} (h : okI lo hi = true) : -2305843009213693952 ≤ lo ∧ hi ≤ 2305843009213693952 := by unfold okI at h; simpa using h
theorem fr_le (c : Rat) : frLo c ≤ frHi c := by
  unfold frLo frHi
  have h3 := den_pos (c * ((65536 : Int) : Rat))
  rw [Rat.neg_num, Rat.neg_den, Int.fdiv_eq_ediv_of_nonneg _ (by omega), Int.fdiv_eq_ediv_of_nonneg _ (by omega)]
  generalize (c * ((65536 : Int) : Rat)).num = n at *
  generalize ((c * ((65536 : Int) : Rat)).den : Int) = d at *
  have e1 := Int.mul_ediv_add_emod n d
  have e2 := Int.mul_ediv_add_emod (-n) d
  have m1 := Int.emod_nonneg n (show d ≠ 0 by omega)
  have m2 := Int.emod_nonneg (-n) (show d ≠ 0 by omega)
  have h4 : d * (n / d + (-n) / d) ≤ d * 0 := by rw [Int.mul_add]; omega
  have := Int.le_of_mul_le_mul_left h4 h3
  omega
theorem fr_bd {c : Rat} (h : frOk c = true) : -2305843009213693952 ≤ frLo c ∧ frLo c ≤ 2305843009213693952 ∧ -2305843009213693952 ≤ frHi c ∧ frHi c ≤ 2305843009213693952 := by
  unfold frOk at h
  simp only [Bool.and_eq_true] at h
  have h1 := ok_bd h.2.2
  have h2 := fr_le c
  omega
theorem sq_bd {x y : Int} (h1 : x ≤ 2305843009213693952) (h2 : 0 ≤ y) (h3 : y ≤ 2305843009213693952) : 0 ≤ sqLo x ∧ sqLo x ≤ 549755813889 ∧ 0 ≤ sqHi y ∧ sqHi y ≤ 549755813889 := by
  have b1 := isq_bd (n := max x 0) (by omega) (by omega)
  have b2 := isq_bd (n := y) h2 h3
  unfold sqLo sqHi
  refine ⟨b1.1, by omega, ?_, ?_⟩ <;> split <;> omega
theorem n_bd {x y u v : Int} (n : Nat) (h : okN x y u v n = true) : -2305843009213693952 ≤ loN x y u v n ∧ loN x y u v n ≤ 2305843009213693952 ∧ -2305843009213693952 ≤ hiN x y u v n ∧ hiN x y u v n ≤ 2305843009213693952 := by
  induction n with
  | zero => show _ ≤ (2305843009213693952 : Int) ∧ (2305843009213693952 : Int) ≤ _ ∧ _ ≤ (-2305843009213693952 : Int) ∧ (-2305843009213693952 : Int) ≤ _; omega
  | succ n ih =>
    have h' : (okN x y u v n && scOk (sel x y (n / 2)) (sel u v (n % 2))) = true := h
    rw [Bool.and_eq_true] at h'
    have i := ih h'.1
    have s1 := h'.2
    unfold scOk at s1
    simp only [Bool.and_eq_true, decide_eq_true_eq] at s1
    show _ ≤ min _ _ ∧ min _ _ ≤ _ ∧ _ ≤ max _ _ ∧ max _ _ ≤ _
    omega
def rtMo (b c : Rat) : Bool := okN (frLo b) (frHi b) (sqLo (frLo c)) (sqHi (frHi c)) 4
def rtMl (b c : Rat) : Int := loN (frLo b) (frHi b) (sqLo (frLo c)) (sqHi (frHi c)) 4
def rtMh (b c : Rat) : Int := hiN (frLo b) (frHi b) (sqLo (frLo c)) (sqHi (frHi c)) 4
def rtX (a b c : Rat) : Bool := frOk b && (frOk c && (!decide (cmpR c 0 < 0) && (rtMo b c && okI (frLo a + rtMl b c) (frHi a + rtMh b c))))
def rtOk (a b c : Rat) : Bool := frOk a && ((cmpR b 0 == 0) || rtX a b c)
def rtLo (a b c : Rat) : Int := if rtOk a b c then (if (cmpR b 0 == 0) = true then frLo a else frLo a + rtMl b c) else 0
def rtHi (a b c : Rat) : Int := if rtOk a b c then (if (cmpR b 0 == 0) = true then frHi a else frHi a + rtMh b c) else 0
theorem rt_no {a b c : Rat} (h : rtOk a b c = false) : rtLo a b c = 0 ∧ rtHi a b c = 0 := by
  unfold rtLo rtHi; rw [h]; exact ⟨rfl, rfl⟩
theorem rt_a {a b c : Rat} (h : frOk a = false) : rtOk a b c = false := by unfold rtOk; rw [h]; rfl
theorem rt_x {a b c : Rat} (h : (cmpR b 0 == 0) = false) (hx : rtX a b c = false) : rtOk a b c = false := by unfold rtOk; rw [h, hx]; cases frOk a <;> rfl
theorem rt_b {a b c : Rat} (h : frOk a = true) (h2 : (cmpR b 0 == 0) = true) : rtLo a b c = frLo a ∧ rtHi a b c = frHi a ∧ rtOk a b c = true := by
  have e : rtOk a b c = true := by unfold rtOk; rw [h, h2]; rfl
  unfold rtLo rtHi; rw [e, if_pos rfl, if_pos rfl, if_pos h2, if_pos h2]; exact ⟨rfl, rfl, rfl⟩
theorem rt_f {a b c : Rat} (h : frOk a = true) (h2 : (cmpR b 0 == 0) = false) (h3 : frOk b = true) (h4 : frOk c = true) (h5 : decide (cmpR c 0 < 0) = false) (h6 : rtMo b c = true) :
    rtLo a b c = (if okI (frLo a + rtMl b c) (frHi a + rtMh b c) then frLo a + rtMl b c else 0) ∧ rtHi a b c = (if okI (frLo a + rtMl b c) (frHi a + rtMh b c) then frHi a + rtMh b c else 0) ∧ rtOk a b c = okI (frLo a + rtMl b c) (frHi a + rtMh b c) := by
  have e : rtOk a b c = okI (frLo a + rtMl b c) (frHi a + rtMh b c) := by unfold rtOk rtX; rw [h, h2, h3, h4, h5, h6]; rfl
  unfold rtLo rtHi; rw [e, h2]; exact ⟨rfl, rfl, rfl⟩
end Go.Proofs.YthpalcfhhicmgaaGreat
/- filter.Root. -/
namespace Go.Proofs.YthpalcfhhicmgaaGreat
open Go Go.RowKit
theorem fRoot2_ok {a b c : Rat} (ha : Rz 200 a) (hb : Rz 200 b) (hc : Rz 200 c) : Ok Tryz.prog 135 [.a (cR a ++ cR b ++ cR c)] [.a ([.i .i64 (rtLo a b c)] ++ [.i .i64 (rtHi a b c)]), .c (.b (rtOk a b c))] := by
  refine Ok.of (by kernel_rfl) Tryz.func135 rfl rfl ?_
  rw [show Tryz.f135.ntmps = 72 from rfl, show Tryz.f135.results.toList = [.cell 2 136, .tmp 3] from rfl]
  refine dw_seq ?_
  -- region 0
  refine dw_region (by kernel_rfl) ?_
  refine dl_new (sem_box_a rfl rfl) rfl ?_
  refine dl_new (sem_alloc zc136 rfl) rfl ?_
  refine dl_r (sem_assign rfl rfl) ?_
  refine dl_end ?_
  refine dw_seq ?_
  -- region 1
  refine dw_region (by kernel_rfl) ?_
  refine dl_r (sem_field fd28_0 rfl rfl) ?_
  refine dl_r (sem_load (us := cR a) ty26 rfl rfl rfl rfl rfl) ?_
  refine dl_r (sem_call rfl rfl (fFromRat_ok (by first | assumption | exact Rz.mono ha (by decide))) rfl) ?_
  refine dl_r (sem_move rfl rfl) ?_
  refine dl_r (sem_extract rfl rfl rfl) ?_
  refine dl_r (sem_extract rfl rfl rfl) ?_
  refine dl_new (sem_alloc zc136 rfl) rfl ?_
  refine dl_st (sem_store_a ty136 rfl rfl rfl rfl rfl rfl) ?_
  refine dl_r (sem_assign rfl rfl) ?_
  refine dl_end ?_
  refine dw_seq ?_
  refine dw_seq ?_
  -- region 2
  refine dw_region (by kernel_rfl) ?_
  refine dl_r (sem_move rfl rfl) ?_
  refine dl_r (sem_not rfl rfl) ?_
  refine dl_rb (sem_move rfl rfl) (fun c1 hb1 => ?_)
  cases c1
  · have ea := not_f hb1
    refine dl_r (sem_field fd28_1 rfl rfl) ?_
    refine dl_r (sem_load (us := cR b) ty26 rfl rfl rfl rfl rfl) ?_
    refine dl_r (sem_call rfl rfl (pSign_ok) rfl) ?_
    refine dl_r (sem_cmp rfl rfl rfl rfl) ?_
    refine dl_r (sem_pick rfl rfl rfl rfl) ?_
    refine dl_end ?_
    refine dw_cond rfl (fun hc2 => ?_) (fun hc2 => ?_)
    · obtain ⟨w1, w2, w3⟩ := rt_b (c := c) ea hc2
      refine dw_seq ?_
      -- region 3
      refine dw_region (by kernel_rfl) ?_
      refine dl_r (sem_load (us := ([.i .i64 (if frOk a then frLo a else 0)] ++ [.i .i64 (if frOk a then frHi a else 0)])) ty136 rfl rfl rfl rfl rfl) ?_
      refine dl_r (sem_move rfl rfl) ?_
      refine dl_st (sem_store_a ty136 rfl rfl rfl rfl rfl rfl) ?_
      refine dl_r (sem_assign rfl rfl) ?_
      refine dl_end ?_
      refine dw_ret ?_
      have x1 : rtLo a b c = (if frOk a then frLo a else 0) := by rw [w1, ea]; rfl
      have x2 : rtHi a b c = (if frOk a then frHi a else 0) := by rw [w2, ea]; rfl
      have x3 : rtOk a b c = frOk a := by rw [w3, ea]
      rw [x1, x2, x3]
      exact ⟨.inr rfl, (resL_cell (us := ([.i .i64 (if frOk a then frLo a else 0)] ++ [.i .i64 (if frOk a then frHi a else 0)])) ty136 rfl rfl rfl rfl (resL_tmp rfl resL_nil))⟩
    · have hb0 := hc2
      refine dw_skip ?_
      refine dw_seq ?_
      -- region 4
      refine dw_region (by kernel_rfl) ?_
      refine dl_r (sem_field fd28_1 rfl rfl) ?_
      refine dl_r (sem_load (us := cR b) ty26 rfl rfl rfl rfl rfl) ?_
      refine dl_r (sem_call rfl rfl (fFromRat_ok (by first | assumption | exact Rz.mono hb (by decide))) rfl) ?_
      refine dl_r (sem_move rfl rfl) ?_
      refine dl_r (sem_extract rfl rfl rfl) ?_
      refine dl_r (sem_extract rfl rfl rfl) ?_
      refine dl_new (sem_alloc zc136 rfl) rfl ?_
      refine dl_st (sem_store_a ty136 rfl rfl rfl rfl rfl rfl) ?_
      refine dl_r (sem_assign rfl rfl) ?_
      refine dl_end ?_
      refine dw_seq ?_
      -- region 5
      refine dw_region (by kernel_rfl) ?_
      refine dl_r (sem_field fd28_2 rfl rfl) ?_
      refine dl_r (sem_load (us := cR c) ty26 rfl rfl rfl rfl rfl) ?_
      refine dl_r (sem_call rfl rfl (fFromRat_ok (by first | assumption | exact Rz.mono hc (by decide))) rfl) ?_
      refine dl_r (sem_move rfl rfl) ?_
      refine dl_r (sem_extract rfl rfl rfl) ?_
      refine dl_r (sem_extract rfl rfl rfl) ?_
      refine dl_new (sem_alloc zc136 rfl) rfl ?_
      refine dl_st (sem_store_a ty136 rfl rfl rfl rfl rfl rfl) ?_
      refine dl_r (sem_assign rfl rfl) ?_
      refine dl_end ?_
      refine dw_seq ?_
      refine dw_seq ?_
      -- region 6
      refine dw_region (by kernel_rfl) ?_
      refine dl_r (sem_move rfl rfl) ?_
      refine dl_r (sem_not rfl rfl) ?_
      refine dl_rb (sem_move rfl rfl) (fun c3 hb3 => ?_)
      cases c3
      · have eb := not_f hb3
        refine dl_r (sem_move rfl rfl) ?_
        refine dl_r (sem_not rfl rfl) ?_
        refine dl_r (sem_pick rfl rfl rfl rfl) ?_
        refine dl_rb (sem_move rfl rfl) (fun c4 hb4 => ?_)
        cases c4
        · have ec := not_f hb4
          refine dl_r (sem_field fd28_2 rfl rfl) ?_
          refine dl_r (sem_load (us := cR c) ty26 rfl rfl rfl rfl rfl) ?_
          refine dl_r (sem_call rfl rfl (pSign_ok) rfl) ?_
          refine dl_r (sem_cmp rfl rfl rfl rfl) ?_
          refine dl_r (sem_pick rfl rfl rfl rfl) ?_
          refine dl_end ?_
          refine dw_cond rfl (fun hc5 => ?_) (fun hc5 => ?_)
          · have hno : rtOk a b c = false := rt_x hb0 (by unfold rtX; rw [hc5, Bool.not_true, Bool.false_and, Bool.and_false, Bool.and_false])
            refine dw_seq ?_
            -- region 7
            refine dw_region (by kernel_rfl) ?_
            refine dl_r (sem_build (us := ([.i .i64 0] ++ [.i .i64 0])) fs136 zc136 rfl rfl rfl) ?_
            refine dl_st (sem_store_a ty136 rfl rfl rfl rfl rfl rfl) ?_
            refine dl_r (sem_assign rfl rfl) ?_
            refine dl_end ?_
            refine dw_ret ?_
            rw [(rt_no hno).1, (rt_no hno).2, hno]
            exact ⟨.inr rfl, (resL_cell (us := ([.i .i64 0] ++ [.i .i64 0])) ty136 rfl rfl rfl rfl (resL_tmp rfl resL_nil))⟩
          · have hcn := hc5
            have bA := fr_bd ea
            have bB := fr_bd eb
            have bC := fr_bd ec
            have hH := frHi_nonneg (c := c) (r_nlt hc5)
            have bS := sq_bd (x := frLo c) (y := frHi c) (by omega) hH (by omega)
            refine Dw.weak (σ' := ⟨72, [(1, .p 1 0), (2, .p 2 0), (4, .p 4 0), (6, .p 6 0), (7, .p 7 0)], [(1, 28, (cR a ++ cR b ++ cR c)), (2, 136, ([.i .i64 0] ++ [.i .i64 0])), (4, 136, ([.i .i64 (frLo a)] ++ [.i .i64 (frHi a)])), (6, 136, ([.i .i64 (frLo b)] ++ [.i .i64 (frHi b)])), (7, 136, ([.i .i64 (frLo c)] ++ [.i .i64 (frHi c)]))]⟩) (sub_of ⟨rfl, rfl, rfl, rfl, rfl, trivial⟩ ⟨rfl, rfl, by rw [if_pos ea, if_pos ea]; rfl, by rw [if_pos eb, if_pos eb]; rfl, by rw [if_pos ec, if_pos ec]; rfl, trivial⟩ rfl) ?_
            refine dw_skip ?_
            refine dw_seq ?_
            refine dw_seq ?_
            -- region 8
            refine dw_region (by kernel_rfl) ?_
            refine dl_r (sem_load (us := ([.i .i64 (frLo c)] ++ [.i .i64 (frHi c)])) ty136 rfl rfl rfl rfl rfl) ?_
            refine dl_r (sem_call rfl rfl (fSqrt_ok (by omega) (by omega) (by omega) (by omega) (by omega)) rfl) ?_
            refine dl_r (sem_move rfl rfl) ?_
            refine dl_r (sem_extract rfl rfl rfl) ?_
            refine dl_r (sem_extract rfl rfl rfl) ?_
            refine dl_st (sem_store_a ty136 rfl rfl rfl rfl rfl rfl) ?_
            refine dl_r (sem_assign rfl rfl) ?_
            refine dl_end ?_
            refine dw_seq ?_
            -- region 9
            refine dw_region (by kernel_rfl) ?_
            refine dl_r (sem_move rfl rfl) ?_
            refine dl_r (sem_not rfl rfl) ?_
            refine dl_end ?_
            refine dw_false rfl ?_
            refine dw_skip ?_
            refine dw_seq ?_
            refine dw_seq ?_
            -- region 11
            refine dw_region (by kernel_rfl) ?_
            refine dl_r (sem_load (us := ([.i .i64 (frLo b)] ++ [.i .i64 (frHi b)])) ty136 rfl rfl rfl rfl rfl) ?_
            refine dl_r (sem_load (us := ([.i .i64 (sqLo (frLo c))] ++ [.i .i64 (sqHi (frHi c))])) ty136 rfl rfl rfl rfl rfl) ?_
            refine dl_r (sem_call rfl rfl (fMul_ok (by omega) (by omega) (by omega) (by omega) (by omega) (by omega) (by omega) (by omega)) rfl) ?_
            refine dl_r (sem_move rfl rfl) ?_
            refine dl_r (sem_extract rfl rfl rfl) ?_
            refine dl_r (sem_extract rfl rfl rfl) ?_
            refine dl_st (sem_store_a ty136 rfl rfl rfl rfl rfl rfl) ?_
            refine dl_r (sem_assign rfl rfl) ?_
            refine dl_end ?_
            refine dw_seq ?_
            -- region 12
            refine dw_region (by kernel_rfl) ?_
            refine dl_r (sem_move rfl rfl) ?_
            refine dl_r (sem_not rfl rfl) ?_
            refine dl_end ?_
            refine dw_cond rfl (fun hc6 => ?_) (fun hc6 => ?_)
            · have hno : rtOk a b c = false := rt_x hb0 (by unfold rtX rtMo; rw [not_t hc6, Bool.false_and, Bool.and_false, Bool.and_false, Bool.and_false])
              refine dw_seq ?_
              -- region 13
              refine dw_region (by kernel_rfl) ?_
              refine dl_r (sem_build (us := ([.i .i64 0] ++ [.i .i64 0])) fs136 zc136 rfl rfl rfl) ?_
              refine dl_st (sem_store_a ty136 rfl rfl rfl rfl rfl rfl) ?_
              refine dl_r (sem_assign rfl rfl) ?_
              refine dl_end ?_
              refine dw_ret ?_
              rw [(rt_no hno).1, (rt_no hno).2, hno]
              exact ⟨.inr rfl, (resL_cell (us := ([.i .i64 0] ++ [.i .i64 0])) ty136 rfl rfl rfl rfl (resL_tmp rfl resL_nil))⟩
            · have hm : rtMo b c = true := not_f hc6
              have bM := n_bd 4 hm
              obtain ⟨w1, w2, w3⟩ := rt_f ea hb0 eb ec hcn hm
              refine Dw.weak (σ' := ⟨72, [(1, .p 1 0), (2, .p 2 0), (4, .p 4 0), (6, .p 6 0), (7, .p 7 0)], [(1, 28, (cR a ++ cR b ++ cR c)), (2, 136, ([.i .i64 0] ++ [.i .i64 0])), (4, 136, ([.i .i64 (frLo a)] ++ [.i .i64 (frHi a)])), (6, 136, ([.i .i64 (rtMl b c)] ++ [.i .i64 (rtMh b c)])), (7, 136, ([.i .i64 (sqLo (frLo c))] ++ [.i .i64 (sqHi (frHi c))]))]⟩) (sub_of ⟨rfl, rfl, rfl, rfl, rfl, trivial⟩ ⟨rfl, rfl, rfl, by rw [if_pos (not_f hc6), if_pos (not_f hc6)]; rfl, rfl, trivial⟩ rfl) ?_
              refine dw_skip ?_
              refine dw_seq ?_
              -- region 14
              refine dw_region (by kernel_rfl) ?_
              refine dl_r (sem_load (us := ([.i .i64 (frLo a)] ++ [.i .i64 (frHi a)])) ty136 rfl rfl rfl rfl rfl) ?_
              refine dl_r (sem_load (us := ([.i .i64 (rtMl b c)] ++ [.i .i64 (rtMh b c)])) ty136 rfl rfl rfl rfl rfl) ?_
              refine dl_r (sem_call rfl rfl (fAdd_ok (x := frLo a) (y := frHi a) (u := rtMl b c) (v := rtMh b c) (by omega) (by omega) (by omega) (by omega) bM.1 bM.2.1 bM.2.2.1 bM.2.2.2) rfl) ?_
              refine dl_r (sem_extract rfl rfl rfl) ?_
              refine dl_r (sem_extract rfl rfl rfl) ?_
              refine dl_st (sem_store_a ty136 rfl rfl rfl rfl rfl rfl) ?_
              refine dl_r (sem_assign rfl rfl) ?_
              refine dl_end ?_
              refine dw_ret ?_
              rw [w1, w2, w3]
              exact ⟨.inr rfl, (resL_cell (us := ([.i .i64 (if okI (frLo a + rtMl b c) (frHi a + rtMh b c) then frLo a + rtMl b c else 0)] ++ [.i .i64 (if okI (frLo a + rtMl b c) (frHi a + rtMh b c) then frHi a + rtMh b c else 0)])) ty136 rfl rfl rfl rfl (resL_tmp rfl resL_nil))⟩
        · have hno : rtOk a b c = false := rt_x hb0 (by unfold rtX; rw [not_t hb4, Bool.false_and, Bool.and_false])
          refine dl_skip (sem_skip rfl) ?_
          refine dl_skip (sem_skip rfl) ?_
          refine dl_skip (sem_skip rfl) ?_
          refine dl_skip (sem_skip rfl) ?_
          refine dl_r (sem_pick rfl rfl rfl rfl) ?_
          refine dl_end ?_
          refine dw_true rfl ?_
          refine dw_seq ?_
          -- region 7
          refine dw_region (by kernel_rfl) ?_
          refine dl_r (sem_build (us := ([.i .i64 0] ++ [.i .i64 0])) fs136 zc136 rfl rfl rfl) ?_
          refine dl_st (sem_store_a ty136 rfl rfl rfl rfl rfl rfl) ?_
          refine dl_r (sem_assign rfl rfl) ?_
          refine dl_end ?_
          refine dw_ret ?_
          rw [(rt_no hno).1, (rt_no hno).2, hno]
          exact ⟨.inr rfl, (resL_cell (us := ([.i .i64 0] ++ [.i .i64 0])) ty136 rfl rfl rfl rfl (resL_tmp rfl resL_nil))⟩
      · have hno : rtOk a b c = false := rt_x hb0 (by unfold rtX; rw [not_t hb3]; rfl)
        refine dl_skip (sem_skip rfl) ?_
        refine dl_skip (sem_skip rfl) ?_
        refine dl_r (sem_pick rfl rfl rfl rfl) ?_
        refine dl_r (sem_move rfl rfl) ?_
        refine dl_skip (sem_skip rfl) ?_
        refine dl_skip (sem_skip rfl) ?_
        refine dl_skip (sem_skip rfl) ?_
        refine dl_skip (sem_skip rfl) ?_
        refine dl_r (sem_pick rfl rfl rfl rfl) ?_
        refine dl_end ?_
        refine dw_true rfl ?_
        refine dw_seq ?_
        -- region 7
        refine dw_region (by kernel_rfl) ?_
        refine dl_r (sem_build (us := ([.i .i64 0] ++ [.i .i64 0])) fs136 zc136 rfl rfl rfl) ?_
        refine dl_st (sem_store_a ty136 rfl rfl rfl rfl rfl rfl) ?_
        refine dl_r (sem_assign rfl rfl) ?_
        refine dl_end ?_
        refine dw_ret ?_
        rw [(rt_no hno).1, (rt_no hno).2, hno]
        exact ⟨.inr rfl, (resL_cell (us := ([.i .i64 0] ++ [.i .i64 0])) ty136 rfl rfl rfl rfl (resL_tmp rfl resL_nil))⟩
  · refine dl_skip (sem_skip rfl) ?_
    refine dl_skip (sem_skip rfl) ?_
    refine dl_skip (sem_skip rfl) ?_
    refine dl_skip (sem_skip rfl) ?_
    refine dl_r (sem_pick rfl rfl rfl rfl) ?_
    refine dl_end ?_
    refine dw_true rfl ?_
    refine dw_seq ?_
    -- region 3
    refine dw_region (by kernel_rfl) ?_
    refine dl_r (sem_load (us := ([.i .i64 (if frOk a then frLo a else 0)] ++ [.i .i64 (if frOk a then frHi a else 0)])) ty136 rfl rfl rfl rfl rfl) ?_
    refine dl_r (sem_move rfl rfl) ?_
    refine dl_st (sem_store_a ty136 rfl rfl rfl rfl rfl rfl) ?_
    refine dl_r (sem_assign rfl rfl) ?_
    refine dl_end ?_
    refine dw_ret ?_
    have hno : rtOk a b c = false := rt_a (not_t hb1)
    have x1 : rtLo a b c = (if frOk a then frLo a else 0) := by rw [(rt_no hno).1, not_t hb1]; rfl
    have x2 : rtHi a b c = (if frOk a then frHi a else 0) := by rw [(rt_no hno).2, not_t hb1]; rfl
    have x3 : rtOk a b c = frOk a := by rw [hno, not_t hb1]
    rw [x1, x2, x3]
    exact ⟨.inr rfl, (resL_cell (us := ([.i .i64 (if frOk a then frLo a else 0)] ++ [.i .i64 (if frOk a then frHi a else 0)])) ty136 rfl rfl rfl rfl (resL_tmp rfl resL_nil))⟩
end Go.Proofs.YthpalcfhhicmgaaGreat
/- Plain: the order that two intervals show. -/
namespace Go.Proofs.YthpalcfhhicmgaaGreat
open Go Go.RowKit
def apS (o1 o2 : Bool) (l1 h1 l2 h2 : Int) : Int := if (o1 && o2) = true then (if decide (h1 < l2) = true then -1 else if decide (l1 > h2) = true then 1 else 0) else 0
def apK (o1 o2 : Bool) (l1 h1 l2 h2 : Int) : Bool := (o1 && o2) && (decide (h1 < l2) || decide (l1 > h2))
end Go.Proofs.YthpalcfhhicmgaaGreat
/- radical.apart. -/
namespace Go.Proofs.YthpalcfhhicmgaaGreat
open Go Go.RowKit
theorem xApart_ok {a b c d e f : Rat} (ha : Rz 200 a) (hb : Rz 200 b) (hc : Rz 200 c) (hd : Rz 200 d) (he : Rz 200 e) (hf : Rz 200 f) : Ok Tryz.prog 93 [.a (cR a ++ cR b ++ cR c), .a (cR d ++ cR e ++ cR f)] [.c (.i .i64 (apS (rtOk a b c) (rtOk d e f) (rtLo a b c) (rtHi a b c) (rtLo d e f) (rtHi d e f))), .c (.b (apK (rtOk a b c) (rtOk d e f) (rtLo a b c) (rtHi a b c) (rtLo d e f) (rtHi d e f)))] := by
  refine Ok.of (by kernel_rfl) Tryz.func93 rfl rfl ?_
  rw [show Tryz.f93.ntmps = 39 from rfl, show Tryz.f93.results.toList = [.tmp 4, .tmp 5] from rfl]
  refine dw_seq ?_
  -- region 0
  refine dw_region (by kernel_rfl) ?_
  refine dl_new (sem_box_a rfl rfl) rfl ?_
  refine dl_new (sem_box_a rfl rfl) rfl ?_
  refine dl_r (sem_assign rfl rfl) ?_
  refine dl_r (sem_assign rfl rfl) ?_
  refine dl_end ?_
  refine dw_seq ?_
  -- region 1
  refine dw_region (by kernel_rfl) ?_
  refine dl_r (sem_load (us := (cR a ++ cR b ++ cR c)) ty28 rfl rfl rfl rfl rfl) ?_
  refine dl_r (sem_call rfl rfl (fRoot2_ok (by assumption) (by assumption) (by assumption)) rfl) ?_
  refine dl_r (sem_move rfl rfl) ?_
  refine dl_r (sem_extract rfl rfl rfl) ?_
  refine dl_r (sem_extract rfl rfl rfl) ?_
  refine dl_new (sem_alloc zc136 rfl) rfl ?_
  refine dl_st (sem_store_a ty136 rfl rfl rfl rfl rfl rfl) ?_
  refine dl_r (sem_assign rfl rfl) ?_
  refine dl_end ?_
  refine dw_seq ?_
  -- region 2
  refine dw_region (by kernel_rfl) ?_
  refine dl_r (sem_load (us := (cR d ++ cR e ++ cR f)) ty28 rfl rfl rfl rfl rfl) ?_
  refine dl_r (sem_call rfl rfl (fRoot2_ok (by assumption) (by assumption) (by assumption)) rfl) ?_
  refine dl_r (sem_move rfl rfl) ?_
  refine dl_r (sem_extract rfl rfl rfl) ?_
  refine dl_r (sem_extract rfl rfl rfl) ?_
  refine dl_new (sem_alloc zc136 rfl) rfl ?_
  refine dl_st (sem_store_a ty136 rfl rfl rfl rfl rfl rfl) ?_
  refine dl_r (sem_assign rfl rfl) ?_
  refine dl_end ?_
  refine dw_seq ?_
  refine dw_block ?_
  refine dw_seq ?_
  -- region 3
  refine dw_region (by kernel_rfl) ?_
  refine dl_r (sem_move rfl rfl) ?_
  refine dl_r (sem_not rfl rfl) ?_
  refine dl_rb (sem_move rfl rfl) (fun c1 hb1 => ?_)
  cases c1
  · refine dl_r (sem_move rfl rfl) ?_
    refine dl_r (sem_not rfl rfl) ?_
    refine dl_r (sem_pick rfl rfl rfl rfl) ?_
    refine dl_r (sem_assign rfl rfl) ?_
    refine dl_end ?_
    refine dw_cond rfl (fun hc2 => ?_) (fun hc2 => ?_)
    · refine dw_seq ?_
      -- region 4
      refine dw_region (by kernel_rfl) ?_
      refine dl_r (sem_assign rfl rfl) ?_
      refine dl_r (sem_assign rfl rfl) ?_
      refine dl_end ?_
      refine dw_ret ?_
      rw [show apS (rtOk a b c) (rtOk d e f) (rtLo a b c) (rtHi a b c) (rtLo d e f) (rtHi d e f) = 0 from by unfold apS; rw [not_f hb1, not_t hc2]; rfl, show apK (rtOk a b c) (rtOk d e f) (rtLo a b c) (rtHi a b c) (rtLo d e f) (rtHi d e f) = false from by unfold apK; rw [not_f hb1, not_t hc2]; rfl]
      exact ⟨.inr rfl, (resL_tmp rfl (resL_tmp rfl resL_nil))⟩
    · refine dw_seq ?_
      -- region 5
      refine dw_region (by kernel_rfl) ?_
      refine dl_r (sem_field fd136_1 rfl rfl) ?_
      refine dl_r (sem_load1 ty2 rfl rfl rfl rfl) ?_
      refine dl_r (sem_field fd136_0 rfl rfl) ?_
      refine dl_r (sem_load1 ty2 rfl rfl rfl rfl) ?_
      refine dl_r (sem_cmp rfl rfl rfl rfl) ?_
      refine dl_r (sem_assign rfl rfl) ?_
      refine dl_end ?_
      refine dw_cond rfl (fun hc3 => ?_) (fun hc3 => ?_)
      · refine dw_seq ?_
        -- region 6
        refine dw_region (by kernel_rfl) ?_
        refine dl_r (sem_assign rfl rfl) ?_
        refine dl_r (sem_assign rfl rfl) ?_
        refine dl_end ?_
        refine dw_ret ?_
        rw [show apS (rtOk a b c) (rtOk d e f) (rtLo a b c) (rtHi a b c) (rtLo d e f) (rtHi d e f) = -1 from by unfold apS; rw [not_f hb1, not_f hc2, hc3]; rfl, show apK (rtOk a b c) (rtOk d e f) (rtLo a b c) (rtHi a b c) (rtLo d e f) (rtHi d e f) = true from by unfold apK; rw [not_f hb1, not_f hc2, hc3]; rfl]
        exact ⟨.inr rfl, (resL_tmp rfl (resL_tmp rfl resL_nil))⟩
      · refine dw_seq ?_
        -- region 7
        refine dw_region (by kernel_rfl) ?_
        refine dl_r (sem_field fd136_0 rfl rfl) ?_
        refine dl_r (sem_load1 ty2 rfl rfl rfl rfl) ?_
        refine dl_r (sem_field fd136_1 rfl rfl) ?_
        refine dl_r (sem_load1 ty2 rfl rfl rfl rfl) ?_
        refine dl_r (sem_cmp rfl rfl rfl rfl) ?_
        refine dl_r (sem_assign rfl rfl) ?_
        refine dl_end ?_
        refine dw_cond rfl (fun hc4 => ?_) (fun hc4 => ?_)
        · refine dw_seq ?_
          -- region 8
          refine dw_region (by kernel_rfl) ?_
          refine dl_r (sem_assign rfl rfl) ?_
          refine dl_r (sem_assign rfl rfl) ?_
          refine dl_end ?_
          refine dw_ret ?_
          rw [show apS (rtOk a b c) (rtOk d e f) (rtLo a b c) (rtHi a b c) (rtLo d e f) (rtHi d e f) = 1 from by unfold apS; rw [not_f hb1, not_f hc2, hc3, hc4]; rfl, show apK (rtOk a b c) (rtOk d e f) (rtLo a b c) (rtHi a b c) (rtLo d e f) (rtHi d e f) = true from by unfold apK; rw [not_f hb1, not_f hc2, hc3, hc4]; rfl]
          exact ⟨.inr rfl, (resL_tmp rfl (resL_tmp rfl resL_nil))⟩
        · refine dw_skip ?_
          refine dw_seq ?_
          -- region 9
          refine dw_region (by kernel_rfl) ?_
          refine dl_r (sem_assign rfl rfl) ?_
          refine dl_r (sem_assign rfl rfl) ?_
          refine dl_end ?_
          refine dw_ret ?_
          rw [show apS (rtOk a b c) (rtOk d e f) (rtLo a b c) (rtHi a b c) (rtLo d e f) (rtHi d e f) = 0 from by unfold apS; rw [not_f hb1, not_f hc2, hc3, hc4]; rfl, show apK (rtOk a b c) (rtOk d e f) (rtLo a b c) (rtHi a b c) (rtLo d e f) (rtHi d e f) = false from by unfold apK; rw [not_f hb1, not_f hc2, hc3, hc4]; rfl]
          exact ⟨.inr rfl, (resL_tmp rfl (resL_tmp rfl resL_nil))⟩
  · refine dl_skip (sem_skip rfl) ?_
    refine dl_skip (sem_skip rfl) ?_
    refine dl_r (sem_pick rfl rfl rfl rfl) ?_
    refine dl_r (sem_assign rfl rfl) ?_
    refine dl_end ?_
    refine dw_true rfl ?_
    refine dw_seq ?_
    -- region 4
    refine dw_region (by kernel_rfl) ?_
    refine dl_r (sem_assign rfl rfl) ?_
    refine dl_r (sem_assign rfl rfl) ?_
    refine dl_end ?_
    refine dw_ret ?_
    rw [show apS (rtOk a b c) (rtOk d e f) (rtLo a b c) (rtHi a b c) (rtLo d e f) (rtHi d e f) = 0 from by unfold apS; rw [not_t hb1]; rfl, show apK (rtOk a b c) (rtOk d e f) (rtLo a b c) (rtHi a b c) (rtLo d e f) (rtHi d e f) = false from by unfold apK; rw [not_t hb1]; rfl]
    exact ⟨.inr rfl, (resL_tmp rfl (resL_tmp rfl resL_nil))⟩
end Go.Proofs.YthpalcfhhicmgaaGreat
/- Data: calls that write a box of the caller through a pointer: the contract; radical's (*known).with. -/
namespace Go.Proofs.YthpalcfhhicmgaaGreat
open Go Go.RowKit
/-- Two boxes made behind a cell that was set. -/
theorem two_behind (w : World) (b : Nat) (v : Value) (U T : TypeId) (cs ds : Array Value) (u : Value) (hlt : b < w.heap.size) (hb : w.heap[b]? = some (.cells #[u] T (0, 0))) :
    (((w.setCell ⟨b, 0, none⟩ v).alloc (.cells cs U)).alloc (.cells ds U)).heap[w.heap.size + 1]? = some (.cells ds U (0, 0)) ∧
    (((w.setCell ⟨b, 0, none⟩ v).alloc (.cells cs U)).alloc (.cells ds U)).heap[b]? = some (.cells #[v] T (0, 0)) ∧ Mid b w (((w.setCell ⟨b, 0, none⟩ v).alloc (.cells cs U)).alloc (.cells ds U)) := by
  have hs : (w.setCell ⟨b, 0, none⟩ v).heap.size = w.heap.size := by simp
  refine ⟨?_, ?_, ?_⟩
  · have := heap_alloc_new ((w.setCell ⟨b, 0, none⟩ v).alloc (.cells cs U)) (.cells ds U)
    rw [heap_alloc_size, hs] at this
    exact this
  · rw [Below.heap_alloc _ _ _ (by rw [heap_alloc_size, hs]; omega), Below.heap_alloc _ _ _ (by rw [hs]; omega)]
    exact heap_setCell_same w b 0 #[u] T v hb
  · refine ⟨rfl, rfl, rfl, by rw [heap_alloc_size, heap_alloc_size, hs]; omega, fun c hc hne => ?_⟩
    rw [Below.heap_alloc _ _ _ (by rw [heap_alloc_size, hs]; omega), Below.heap_alloc _ _ _ (by rw [hs]; omega)]
    exact heap_setCell_other w ⟨b, 0, none⟩ c v hne
set_option maxRecDepth 10000 in
/-- with: the box holds ok and what came in. -/
theorem with_any (b : Nat) (ok c : Bool) (lo hi : Int) (w : World) (hb : w.heap[b]? = some (.cells #[.bool ok] 157 (0, 0))) :
    Calls Tryz.prog 163 #[.pointer (some ⟨b, 0, none⟩), .agg #[.int .i64 lo, .int .i64 hi], .bool c] w fun e w' =>
      e = .returned (.agg #[.int .i64 lo, .int .i64 hi]) ∧ w'.heap[b]? = some (.cells #[.bool (ok && c)] 157 (0, 0)) ∧ Mid b w w' := by
  have hlt : b < w.heap.size := (Array.getElem?_eq_some_iff.1 hb).1
  have e1 : ((w.alloc (.cells #[.int .i64 lo, .int .i64 hi] 136)).alloc (.cells #[.int .i64 0, .int .i64 0] 136)).heap[b]? = some (.cells #[.bool ok] 157 (0, 0)) := by
    rw [Below.heap_alloc _ _ _ (by simp; omega), Below.heap_alloc _ _ _ hlt]; exact hb
  have c1 : ((w.alloc (.cells #[.int .i64 lo, .int .i64 hi] 136)).alloc (.cells #[.int .i64 0, .int .i64 0] 136)).cell? ⟨b, 0, none⟩ = some (.bool ok) := (cells_of_box e1 0).trans rfl
  have f0 : w.frozen? ⟨b, 0, none⟩ = false := Bk.frozen (t := 157) (cs := #[.bool ok]) hb 0
  cases ok
  · go_enter Tryz.func163, Tryz.ntmps163
    go_wp2_with fail
    obtain ⟨h1, h2, h3⟩ := two_behind w b (.bool false) 136 157 #[.int .i64 lo, .int .i64 hi] #[.int .i64 lo, .int .i64 hi] _ hlt hb
    have k0 := (cells_of_box h1 0).trans rfl
    have k1 := (cells_of_box h1 1).trans rfl
    refine ⟨rfl, .agg #[.int .i64 lo, .int .i64 hi], ?_, rfl, h2, h3⟩
    simp [results, Tryz.results163, go_sem, k0, k1]
    try rfl
  · go_enter Tryz.func163, Tryz.ntmps163
    go_wp2_with fail
    obtain ⟨h1, h2, h3⟩ := two_behind w b (.bool c) 136 157 #[.int .i64 lo, .int .i64 hi] #[.int .i64 lo, .int .i64 hi] _ hlt hb
    have k0 := (cells_of_box h1 0).trans rfl
    have k1 := (cells_of_box h1 1).trans rfl
    refine ⟨rfl, .agg #[.int .i64 lo, .int .i64 hi], ?_, rfl, h2, h3⟩
    simp [results, Tryz.results163, go_sem, k0, k1]
    try rfl

/-- THE CONTRACT OF A CALL whose first argument points to a box of the caller: what the box holds before and behind. -/
structure OkP (P : Program) (f : FuncId) (U : TypeId) (cs0 cs1 : List CellD) (ds rs : List D0) : Prop where
  cal : callable P f = true
  run : ∀ (V : Nat → Prop) (b : Nat) (bs : Array Value) (vs : Array Value) (vl : List Value) (w : World), vs.toList = .pointer (some ⟨b, 0, none⟩) :: vl → (∀ c, V c → c < w.heap.size) → V b → w.heap[b]? = some (.cells bs U (0, 0)) → RdCs V w bs.toList cs0 → RdL V w vl ds →
    Calls P f vs w fun e w' => ∃ v, ∃ bs' : Array Value, e = .returned v ∧ w'.heap[b]? = some (.cells bs' U (0, 0)) ∧ Mid b w w' ∧ RdCs V w' bs'.toList cs1 ∧ RdR V w' v rs

section
variable {P : Program} {ops : Array Oper} {T : TF} {B : BF}
theorem sem_callp {dst : Option Nat} {fo x : Operand} {xs : List Operand} {args : Array Operand} {at_ : Array TypeId} {ty : TypeId} {pos : String} {af : Array Edge} {g : Option (Nat × Bool)} {f : FuncId} {k : Nat} {U : TypeId} {cs0 cs1 : List CellD} {ds rs : List D0}
    (hf : opd T fo = some (.v (.c (.f f)))) (hargs : args.toList = x :: xs) (hx : opd T x = some (.p k 0)) (ha : argsD T xs = some ds) (hb : B k = some (U, cs0)) (hok : OkP P f U cs0 cs1 ds rs) (hg : gd ops ⟨dst, .call ⟨.value fo, args, at_⟩, ty, pos, af, g⟩ T = some true) :
    Sem P ops ⟨dst, .call ⟨.value fo, args, at_⟩, ty, pos, af, g⟩ T B (.rs k U cs1 (resD rs)) := by
  refine ⟨by unfold resD; split <;> rfl, ⟨_, hb⟩, fun V β a w hs => ⟨gd_want hs hg, ?_⟩⟩
  have hin : ∀ y ∈ x :: xs, y ∈ (⟨dst, .call ⟨.value fo, args, at_⟩, ty, pos, af, g⟩ : Oper).op.operands := fun y hy => by
    have hx2 : y ∈ args := Array.mem_toList_iff.1 (by rw [hargs]; exact hy)
    simp [Op.operands, Call.operands, hx2]
  have h1 := RdC.func_eq (opd_reads hs (x := fo) (by simp [Op.operands, Call.operands]) hf)
  have h2 := argsD_reads hs xs ds (fun y hy => hin y (List.mem_cons_of_mem _ hy)) ha
  have h3 : a.eval x = .pointer (some ⟨β k, 0, none⟩) := opd_reads hs (hin x (List.mem_cons_self ..)) hx
  obtain ⟨hV, bs, e, hr⟩ := hs.box k U cs0 hb
  have hc := hok.cal
  unfold callable at hc
  cases hfn : P.funcs[f]? with
  | none => rw [hfn] at hc; cases hc
  | some fn =>
    rw [hfn] at hc
    simp only [Bool.and_eq_true, bne_iff_ne, ne_eq, Bool.not_eq_true'] at hc
    have hrun : (execOp a.eval ⟨dst, .call ⟨.value fo, args, at_⟩, ty, pos, af, g⟩).run P w = .ok (.enter f (args.map a.eval)) w := by
      have hb2 : fn.body ≠ none := by have := hc.2; cases hbb : fn.body with
        | none => rw [hbb] at this; cases this
        | some c => simp
      simp [execOp, resolve, h1, Deferred.ofValue, invoke, callFunc, program, Sem.run, hfn, hc.1, hb2]
    unfold Gives
    rw [hrun]
    refine (hok.run V (β k) bs (args.map a.eval) (xs.map a.eval) w (by rw [Array.toList_map, hargs, List.map_cons, h3]) hs.av hV e hr h2).mono ?_
    rintro e w' ⟨v, bs', rfl, hbl, hm, hr1, hr2⟩
    refine ⟨v, rfl, bs', hbl, hm, hr1, ?_⟩
    unfold RdR at hr2
    split at hr2
    · exact hr2
    · rename_i hne
      have e2 : resD rs = .t rs := by
        unfold resD
        split
        · rename_i d; exact absurd rfl (hne d)
        · rfl
      rw [e2]; exact hr2
/-- A pointer into a box is not nil. -/
theorem sem_nilCheck {dst : Option Nat} {x : Operand} {ty : TypeId} {pos : String} {af : Array Edge} {g : Option (Nat × Bool)} {k off : Nat}
    (hx : opd T x = some (.p k off)) (hg : gd ops ⟨dst, .nilCheck x, ty, pos, af, g⟩ T = some true) : Sem P ops ⟨dst, .nilCheck x, ty, pos, af, g⟩ T B (.r (.p k off)) :=
  sem_pure hg (fun l e => opd_ptr (ops := ops) (o := ⟨dst, .nilCheck x, ty, pos, af, g⟩) (by simp [Op.operands]) hx e)
    (fun V β a w hs => by
      have hp : a.eval x = .pointer (some ⟨β k, off, none⟩) := opd_reads hs (x := x) (by simp [Op.operands]) hx
      exact ⟨_, by simp [execOp, hp], rfl⟩)
end
/-- with. -/
theorem with_ok (ok c : Bool) (lo hi : Int) : OkP Tryz.prog 163 157 [.b ok] [.b (ok && c)] [.a [.i .i64 lo, .i .i64 hi], .c (.b c)] [.a [.i .i64 lo, .i .i64 hi]] :=
  ⟨by kernel_rfl, fun V b bs vs vl w hvs hV hb hbl hcs hds => by
    obtain ⟨vs⟩ := vs
    replace hvs : vs = _ := hvs
    subst hvs
    match vl, hds with
    | [], hds => have := hds.1; simp at this
    | v1 :: vl, hds =>
    obtain ⟨h1, hds⟩ := hds.uncons
    match vl, hds with
    | [], hds => have := hds.1; simp at this
    | v2 :: vl, hds =>
    obtain ⟨h2, hds⟩ := hds.uncons
    have hn : vl = [] := List.length_eq_zero_iff.1 hds.1
    subst hn
    have h2 := RdC.bool_eq h2
    subst h2
    obtain ⟨cs, rfl, h1⟩ := h1
    obtain ⟨cs⟩ := cs
    obtain ⟨bs⟩ := bs
    match cs, h1 with
    | [], h1 => have := h1.1; simp at this
    | x1 :: cs, h1 =>
    obtain ⟨g1, h1⟩ := h1.uncons
    match cs, h1 with
    | [], h1 => have := h1.1; simp at this
    | x2 :: cs, h1 =>
    obtain ⟨g2, h1⟩ := h1.uncons
    have hn : cs = [] := List.length_eq_zero_iff.1 h1.1
    subst hn
    have g1 := RdC.int_eq g1
    have g2 := RdC.int_eq g2
    subst g1 g2
    match bs, hcs with
    | [], hcs => have := hcs.1; simp at this
    | y1 :: bs, hcs =>
    obtain ⟨g3, hcs⟩ := hcs.uncons
    have hn : bs = [] := List.length_eq_zero_iff.1 hcs.1
    subst hn
    have g3 := RdC.bool_eq g3
    subst g3
    refine (with_any b ok c lo hi w hbl).mono ?_
    rintro e w' ⟨rfl, h3, h4⟩
    exact ⟨_, _, rfl, h3, h4, RdCs.cons (.b _) RdCs.nil, _, rfl, RdCs.cons (.i _ _) (RdCs.cons (.i _ _) RdCs.nil)⟩⟩
end Go.Proofs.YthpalcfhhicmgaaGreat
/- Plain: radical.quick: intervals through the sum. -/
namespace Go.Proofs.YthpalcfhhicmgaaGreat
open Go Go.RowKit
def Bd (x : Int) : Prop := -2305843009213693952 ≤ x ∧ x ≤ 2305843009213693952
theorem Bd.zero : Bd 0 := by unfold Bd; omega
def gL (e : Rat) : Int := if frOk e then frLo e else 0
def gH (e : Rat) : Int := if frOk e then frHi e else 0
theorem gl_bd (e : Rat) : Bd (gL e) := by
  unfold gL; split
  · rename_i h; have := fr_bd h; exact ⟨this.1, this.2.1⟩
  · exact Bd.zero
theorem gh_bd (e : Rat) : Bd (gH e) := by
  unfold gH; split
  · rename_i h; have := fr_bd h; exact ⟨this.2.2.1, this.2.2.2⟩
  · exact Bd.zero
theorem g_le (e : Rat) : gL e ≤ gH e := by
  unfold gL gH; split
  · exact fr_le e
  · exact Int.le_refl _
theorem gh_nneg {e : Rat} (h : ¬ e < 0) : ¬ gH e < 0 := by
  unfold gH; split
  · have := frHi_nonneg h; omega
  · omega
theorem ml_bd (e : Rat) : Bd (sqLo (gL e)) := by
  have := sq_bd (x := gL e) (y := 0) (gl_bd e).2 (by omega) (by omega)
  unfold Bd; omega
theorem mh_bd {e : Rat} (h : ¬ e < 0) : Bd (sqHi (gH e)) := by
  have := sq_bd (x := 0) (y := gH e) (by omega) (by have := gh_nneg h; omega) (gh_bd e).2
  unfold Bd; omega
theorem sc_le (x y : Int) : scLo x y ≤ scHi x y := by
  have h : scP x y / 65536 ≤ scUp (scP x y) := by unfold scUp; split <;> omega
  unfold scLo scHi; split <;> omega
theorem lh_le (x y u v : Int) : loN x y u v 4 ≤ hiN x y u v 4 := by
  exact Int.le_trans (Int.min_le_right _ _) (Int.le_trans (sc_le _ _) (Int.le_max_right _ _))
def pL (x y u v : Int) : Int := if okN x y u v 4 then loN x y u v 4 else 0
def pH (x y u v : Int) : Int := if okN x y u v 4 then hiN x y u v 4 else 0
theorem pl_bd (x y u v : Int) : Bd (pL x y u v) := by
  unfold pL; split
  · rename_i h; have := n_bd 4 h; exact ⟨this.1, this.2.1⟩
  · exact Bd.zero
theorem ph_bd (x y u v : Int) : Bd (pH x y u v) := by
  unfold pH; split
  · rename_i h; have := n_bd 4 h; exact ⟨this.2.2.1, this.2.2.2⟩
  · exact Bd.zero
theorem p_le (x y u v : Int) : pL x y u v ≤ pH x y u v := by
  unfold pL pH; split
  · exact lh_le x y u v
  · exact Int.le_refl _
def aL (x y u v : Int) : Int := if okI (x + u) (y + v) then x + u else 0
def aH (x y u v : Int) : Int := if okI (x + u) (y + v) then y + v else 0
theorem al_bd {x y u v : Int} (h : x ≤ y) (h2 : u ≤ v) : Bd (aL x y u v) := by
  unfold aL; split
  · rename_i h3; have := ok_bd h3; unfold Bd; omega
  · exact Bd.zero
theorem ah_bd {x y u v : Int} (h : x ≤ y) (h2 : u ≤ v) : Bd (aH x y u v) := by
  unfold aH; split
  · rename_i h3; have := ok_bd h3; unfold Bd; omega
  · exact Bd.zero
theorem a_le {x y u v : Int} (h : x ≤ y) (h2 : u ≤ v) : aL x y u v ≤ aH x y u v := by
  unfold aL aH; split <;> omega
theorem gFromRat_ok {e : Rat} (h : Rz 200 e) : Ok Tryz.prog 159 [dR e] [.a ([.i .i64 (gL e)] ++ [.i .i64 (gH e)]), .c (.b (frOk e))] := fFromRat_ok h
theorem gSqrt_ok {e : Rat} (h : ¬ e < 0) : Ok Tryz.prog 160 [.a ([.i .i64 (gL e)] ++ [.i .i64 (gH e)])] [.a ([.i .i64 (sqLo (gL e))] ++ [.i .i64 (sqHi (gH e))]), .c (.b true)] :=
  fSqrt_ok (gl_bd e).1 (gl_bd e).2 (gh_bd e).1 (gh_bd e).2 (gh_nneg h)
theorem gMul_ok {x y u v : Int} (h1 : Bd x) (h2 : Bd y) (h3 : Bd u) (h4 : Bd v) : Ok Tryz.prog 161 [.a ([.i .i64 x] ++ [.i .i64 y]), .a ([.i .i64 u] ++ [.i .i64 v])] [.a ([.i .i64 (pL x y u v)] ++ [.i .i64 (pH x y u v)]), .c (.b (okN x y u v 4))] :=
  fMul_ok h1.1 h1.2 h2.1 h2.2 h3.1 h3.2 h4.1 h4.2
theorem gAdd_ok {x y u v : Int} (h1 : Bd x) (h2 : Bd y) (h3 : Bd u) (h4 : Bd v) : Ok Tryz.prog 162 [.a ([.i .i64 x] ++ [.i .i64 y]), .a ([.i .i64 u] ++ [.i .i64 v])] [.a ([.i .i64 (aL x y u v)] ++ [.i .i64 (aH x y u v)]), .c (.b (okI (x + u) (y + v)))] :=
  fAdd_ok h1.1 h1.2 h2.1 h2.2 h3.1 h3.2 h4.1 h4.2
theorem gWith_ok {ok c : Bool} {x y : Int} : OkP Tryz.prog 163 157 [.b ok] [.b (ok && c)] [.a ([.i .i64 x] ++ [.i .i64 y]), .c (.b c)] [.a ([.i .i64 x] ++ [.i .i64 y])] := with_ok ok c x y
-- the parts
def qmL (M : Rat) : Int := sqLo (gL M)
def qmH (M : Rat) : Int := sqHi (gH M)
def qbL (B M : Rat) : Int := pL (gL B) (gH B) (sqLo (gL M)) (sqHi (gH M))
def qbH (B M : Rat) : Int := pH (gL B) (gH B) (sqLo (gL M)) (sqHi (gH M))
def qbK (B M : Rat) : Bool := okN (gL B) (gH B) (sqLo (gL M)) (sqHi (gH M)) 4
def qmnL (M N : Rat) : Int := pL (sqLo (gL M)) (sqHi (gH M)) (sqLo (gL N)) (sqHi (gH N))
def qmnH (M N : Rat) : Int := pH (sqLo (gL M)) (sqHi (gH M)) (sqLo (gL N)) (sqHi (gH N))
def qmnK (M N : Rat) : Bool := okN (sqLo (gL M)) (sqHi (gH M)) (sqLo (gL N)) (sqHi (gH N)) 4
def qdL (D M N : Rat) : Int := pL (gL D) (gH D) (qmnL M N) (qmnH M N)
def qdH (D M N : Rat) : Int := pH (gL D) (gH D) (qmnL M N) (qmnH M N)
def qdK (D M N : Rat) : Bool := okN (gL D) (gH D) (qmnL M N) (qmnH M N) 4
def qabL (A B M : Rat) : Int := aL (gL A) (gH A) (qbL B M) (qbH B M)
def qabH (A B M : Rat) : Int := aH (gL A) (gH A) (qbL B M) (qbH B M)
def qabK (A B M : Rat) : Bool := okI (gL A + qbL B M) (gH A + qbH B M)
def qcdL (C D M N : Rat) : Int := aL (qbL C N) (qbH C N) (qdL D M N) (qdH D M N)
def qcdH (C D M N : Rat) : Int := aH (qbL C N) (qbH C N) (qdL D M N) (qdH D M N)
def qcdK (C D M N : Rat) : Bool := okI (qbL C N + qdL D M N) (qbH C N + qdH D M N)
def qsL (A B C D M N : Rat) : Int := aL (qabL A B M) (qabH A B M) (qcdL C D M N) (qcdH C D M N)
def qsH (A B C D M N : Rat) : Int := aH (qabL A B M) (qabH A B M) (qcdL C D M N) (qcdH C D M N)
def qsK (A B C D M N : Rat) : Bool := okI (qabL A B M + qcdL C D M N) (qabH A B M + qcdH C D M N)
def qK1 (M N : Rat) : Bool := frOk M && frOk N
def qK2 (B C D M N : Rat) : Bool := qK1 M N && (frOk B && (qbK B M && (frOk C && (qbK C N && (frOk D && (qmnK M N && qdK D M N))))))
def qK3 (A B C D M N : Rat) : Bool := qK2 B C D M N && (frOk A && (qabK A B M && (qcdK C D M N && qsK A B C D M N)))
def qkK (A B C D M N : Rat) : Bool := qK3 A B C D M N && skI (qsL A B C D M N) (qsH A B C D M N)
def qkS (A B C D M N : Rat) : Int := if qK3 A B C D M N then sgI (qsL A B C D M N) (qsH A B C D M N) else 0
theorem qk_no {A B C D M N : Rat} (h : qK3 A B C D M N = false) : qkS A B C D M N = 0 ∧ qkK A B C D M N = false := by
  unfold qkS qkK; rw [h]; exact ⟨rfl, rfl⟩
theorem qk_yes {A B C D M N : Rat} (h : qK3 A B C D M N = true) : qkS A B C D M N = sgI (qsL A B C D M N) (qsH A B C D M N) ∧ qkK A B C D M N = skI (qsL A B C D M N) (qsH A B C D M N) := by
  unfold qkS qkK; rw [h]; exact ⟨rfl, rfl⟩
theorem qk_no2 {A B C D M N : Rat} (h : qK2 B C D M N = false) : qK3 A B C D M N = false := by unfold qK3; rw [h]; rfl
theorem qk_no1 {A B C D M N : Rat} (h : qK1 M N = false) : qK3 A B C D M N = false := qk_no2 (by unfold qK2; rw [h]; rfl)
theorem not_tf {b c : Bool} (h : (!b) = true) (e : c = b) : c = false := by rw [e]; simpa using h
theorem not_ff {b c : Bool} (h : (!b) = false) (e : c = b) : c = true := by rw [e]; simpa using h
-- those that the program's walk prints
def gbL (x y u v : Int) : Int := pL x y u v
end Go.Proofs.YthpalcfhhicmgaaGreat
/- radical.quick. -/
namespace Go.Proofs.YthpalcfhhicmgaaGreat
open Go Go.RowKit
theorem xQuick_ok {A B C D M N : Rat} (hA : Rz 200 A) (hB : Rz 200 B) (hC : Rz 200 C) (hD : Rz 200 D) (hM : Rz 200 M) (hN : Rz 200 N) (hm : ¬ M < 0) (hn : ¬ N < 0) : Ok Tryz.prog 136 [.a (cR A ++ cR B ++ cR C ++ cR D ++ cR M ++ cR N)] [.c (.i .i64 (qkS A B C D M N)), .c (.b (qkK A B C D M N))] := by
  refine Ok.of (by kernel_rfl) Tryz.func136 rfl rfl ?_
  rw [show Tryz.f136.ntmps = 126 from rfl, show Tryz.f136.results.toList = [.tmp 2, .tmp 3] from rfl]
  refine dw_seq ?_
  -- region 0
  refine dw_region (by kernel_rfl) ?_
  refine dl_new (sem_box_a rfl rfl) rfl ?_
  refine dl_r (sem_assign rfl rfl) ?_
  refine dl_r (sem_assign rfl rfl) ?_
  refine dl_end ?_
  refine dw_seq ?_
  -- region 1
  refine dw_region (by kernel_rfl) ?_
  refine dl_r (sem_build (us := ([.b true])) fs157 zc157 rfl rfl rfl) ?_
  refine dl_new (sem_box_a rfl rfl) rfl ?_
  refine dl_r (sem_assign rfl rfl) ?_
  refine dl_end ?_
  refine dw_seq ?_
  -- region 2
  refine dw_region (by kernel_rfl) ?_
  refine dl_r (sem_move rfl rfl) ?_
  refine dl_r (sem_move rfl rfl) ?_
  refine dl_r (sem_field fd114_4 rfl rfl) ?_
  refine dl_r (sem_load (us := cR M) ty26 rfl rfl rfl rfl rfl) ?_
  refine dl_r (sem_call rfl rfl (gFromRat_ok (by first | assumption | exact Rz.mono hM (by decide))) rfl) ?_
  refine dl_r (sem_extract rfl rfl rfl) ?_
  refine dl_r (sem_extract rfl rfl rfl) ?_
  refine dl_rs (sem_callp rfl rfl rfl rfl rfl (gWith_ok) rfl) ?_
  refine dl_r (sem_call rfl rfl (gSqrt_ok (by assumption)) rfl) ?_
  refine dl_r (sem_extract rfl rfl rfl) ?_
  refine dl_r (sem_extract rfl rfl rfl) ?_
  refine dl_rs (sem_callp rfl rfl rfl rfl rfl (gWith_ok) rfl) ?_
  refine dl_new (sem_alloc zc136 rfl) rfl ?_
  refine dl_st (sem_store_a ty136 rfl rfl rfl rfl rfl rfl) ?_
  refine dl_end ?_
  refine dw_seq ?_
  -- region 3
  refine dw_region (by kernel_rfl) ?_
  refine dl_r (sem_move rfl rfl) ?_
  refine dl_r (sem_move rfl rfl) ?_
  refine dl_r (sem_field fd114_5 rfl rfl) ?_
  refine dl_r (sem_load (us := cR N) ty26 rfl rfl rfl rfl rfl) ?_
  refine dl_r (sem_call rfl rfl (gFromRat_ok (by first | assumption | exact Rz.mono hN (by decide))) rfl) ?_
  refine dl_r (sem_extract rfl rfl rfl) ?_
  refine dl_r (sem_extract rfl rfl rfl) ?_
  refine dl_rs (sem_callp rfl rfl rfl rfl rfl (gWith_ok) rfl) ?_
  refine dl_r (sem_call rfl rfl (gSqrt_ok (by assumption)) rfl) ?_
  refine dl_r (sem_extract rfl rfl rfl) ?_
  refine dl_r (sem_extract rfl rfl rfl) ?_
  refine dl_rs (sem_callp rfl rfl rfl rfl rfl (gWith_ok) rfl) ?_
  refine dl_new (sem_alloc zc136 rfl) rfl ?_
  refine dl_st (sem_store_a ty136 rfl rfl rfl rfl rfl rfl) ?_
  refine dl_end ?_
  refine dw_seq ?_
  refine dw_seq ?_
  -- region 4
  refine dw_region (by kernel_rfl) ?_
  refine dl_r (sem_move rfl rfl) ?_
  refine dl_r (sem_nilCheck rfl rfl) ?_
  refine dl_r (sem_field fd157_0 rfl rfl) ?_
  refine dl_r (sem_load1 ty4 rfl rfl rfl rfl) ?_
  refine dl_r (sem_not rfl rfl) ?_
  refine dl_end ?_
  refine dw_cond rfl (fun hc1 => ?_) (fun hc1 => ?_)
  · refine dw_seq ?_
    -- region 5
    refine dw_region (by kernel_rfl) ?_
    refine dl_r (sem_assign rfl rfl) ?_
    refine dl_r (sem_assign rfl rfl) ?_
    refine dl_end ?_
    refine dw_ret ?_
    have hk : qK3 A B C D M N = false := qk_no1 (not_tf hc1 (by unfold qK1; simp only [Bool.true_and, Bool.and_true]; try rfl))
    rw [(qk_no hk).1, (qk_no hk).2]
    exact ⟨.inr rfl, (resL_tmp rfl (resL_tmp rfl resL_nil))⟩
  · refine dw_skip ?_
    refine dw_seq ?_
    -- region 6
    refine dw_draw 14 [12] follows_mixed (by kernel_rfl) rfl rfl ?_
    refine dq_r (sem_move rfl rfl) ?_
    refine dq_r (sem_move rfl rfl) ?_
    refine dq_r (sem_field fd114_1 rfl rfl) ?_
    refine dq_r (sem_load (us := cR B) ty26 rfl rfl rfl rfl rfl) ?_
    refine dq_r (sem_call rfl rfl (gFromRat_ok (by first | assumption | exact Rz.mono hB (by decide))) rfl) ?_
    refine dq_r (sem_extract rfl rfl rfl) ?_
    refine dq_r (sem_extract rfl rfl rfl) ?_
    refine dq_rs (sem_callp rfl rfl rfl rfl rfl (gWith_ok) rfl) rfl rfl rfl rfl rfl (by kernel_rfl) ?_
    refine dq_r (sem_load (us := ([.i .i64 (sqLo (gL M))] ++ [.i .i64 (sqHi (gH M))])) ty136 rfl rfl rfl rfl rfl) ?_
    refine dq_r (sem_call rfl rfl (gMul_ok (gl_bd _) (gh_bd _) (ml_bd _) (mh_bd (by assumption))) rfl) ?_
    refine dq_r (sem_extract rfl rfl rfl) ?_
    refine dq_r (sem_extract rfl rfl rfl) ?_
    refine dq_rs (sem_callp rfl rfl rfl rfl rfl (gWith_ok) rfl) rfl rfl rfl rfl rfl (by kernel_rfl) ?_
    refine dq_new (sem_alloc zc136 rfl) rfl ?_
    refine dq_end ?_
    refine dl_start3 ?_
    refine dl_st (sem_store_a ty136 rfl rfl rfl rfl rfl rfl) ?_
    refine dl_end ?_
    refine dw_seq ?_
    -- region 7
    refine dw_draw 14 [12] follows_mixed (by kernel_rfl) rfl rfl ?_
    refine dq_r (sem_move rfl rfl) ?_
    refine dq_r (sem_move rfl rfl) ?_
    refine dq_r (sem_field fd114_2 rfl rfl) ?_
    refine dq_r (sem_load (us := cR C) ty26 rfl rfl rfl rfl rfl) ?_
    refine dq_r (sem_call rfl rfl (gFromRat_ok (by first | assumption | exact Rz.mono hC (by decide))) rfl) ?_
    refine dq_r (sem_extract rfl rfl rfl) ?_
    refine dq_r (sem_extract rfl rfl rfl) ?_
    refine dq_rs (sem_callp rfl rfl rfl rfl rfl (gWith_ok) rfl) rfl rfl rfl rfl rfl (by kernel_rfl) ?_
    refine dq_r (sem_load (us := ([.i .i64 (sqLo (gL N))] ++ [.i .i64 (sqHi (gH N))])) ty136 rfl rfl rfl rfl rfl) ?_
    refine dq_r (sem_call rfl rfl (gMul_ok (gl_bd _) (gh_bd _) (ml_bd _) (mh_bd (by assumption))) rfl) ?_
    refine dq_r (sem_extract rfl rfl rfl) ?_
    refine dq_r (sem_extract rfl rfl rfl) ?_
    refine dq_rs (sem_callp rfl rfl rfl rfl rfl (gWith_ok) rfl) rfl rfl rfl rfl rfl (by kernel_rfl) ?_
    refine dq_new (sem_alloc zc136 rfl) rfl ?_
    refine dq_end ?_
    refine dl_start3 ?_
    refine dl_st (sem_store_a ty136 rfl rfl rfl rfl rfl rfl) ?_
    refine dl_end ?_
    refine dw_seq ?_
    -- region 8
    refine dw_draw 20 [12] follows_mixed (by kernel_rfl) rfl rfl ?_
    refine dq_r (sem_move rfl rfl) ?_
    refine dq_r (sem_move rfl rfl) ?_
    refine dq_r (sem_field fd114_3 rfl rfl) ?_
    refine dq_r (sem_load (us := cR D) ty26 rfl rfl rfl rfl rfl) ?_
    refine dq_r (sem_call rfl rfl (gFromRat_ok (by first | assumption | exact Rz.mono hD (by decide))) rfl) ?_
    refine dq_r (sem_extract rfl rfl rfl) ?_
    refine dq_r (sem_extract rfl rfl rfl) ?_
    refine dq_rs (sem_callp rfl rfl rfl rfl rfl (gWith_ok) rfl) rfl rfl rfl rfl rfl (by kernel_rfl) ?_
    refine dq_r (sem_move rfl rfl) ?_
    refine dq_r (sem_load (us := ([.i .i64 (sqLo (gL M))] ++ [.i .i64 (sqHi (gH M))])) ty136 rfl rfl rfl rfl rfl) ?_
    refine dq_r (sem_load (us := ([.i .i64 (sqLo (gL N))] ++ [.i .i64 (sqHi (gH N))])) ty136 rfl rfl rfl rfl rfl) ?_
    refine dq_r (sem_call rfl rfl (gMul_ok (ml_bd _) (mh_bd (by assumption)) (ml_bd _) (mh_bd (by assumption))) rfl) ?_
    refine dq_r (sem_extract rfl rfl rfl) ?_
    refine dq_r (sem_extract rfl rfl rfl) ?_
    refine dq_rs (sem_callp rfl rfl rfl rfl rfl (gWith_ok) rfl) rfl rfl rfl rfl rfl (by kernel_rfl) ?_
    refine dq_r (sem_call rfl rfl (gMul_ok (gl_bd _) (gh_bd _) (pl_bd _ _ _ _) (ph_bd _ _ _ _)) rfl) ?_
    refine dq_r (sem_extract rfl rfl rfl) ?_
    refine dq_r (sem_extract rfl rfl rfl) ?_
    refine dq_rs (sem_callp rfl rfl rfl rfl rfl (gWith_ok) rfl) rfl rfl rfl rfl rfl (by kernel_rfl) ?_
    refine dq_new (sem_alloc zc136 rfl) rfl ?_
    refine dq_end ?_
    refine dl_start4 ?_
    refine dl_st (sem_store_a ty136 rfl rfl rfl rfl rfl rfl) ?_
    refine dl_end ?_
    refine dw_seq ?_
    refine dw_seq ?_
    -- region 9
    refine dw_region (by kernel_rfl) ?_
    refine dl_r (sem_move rfl rfl) ?_
    refine dl_r (sem_nilCheck rfl rfl) ?_
    refine dl_r (sem_field fd157_0 rfl rfl) ?_
    refine dl_r (sem_load1 ty4 rfl rfl rfl rfl) ?_
    refine dl_r (sem_not rfl rfl) ?_
    refine dl_end ?_
    refine dw_cond rfl (fun hc2 => ?_) (fun hc2 => ?_)
    · refine dw_seq ?_
      -- region 10
      refine dw_region (by kernel_rfl) ?_
      refine dl_r (sem_assign rfl rfl) ?_
      refine dl_r (sem_assign rfl rfl) ?_
      refine dl_end ?_
      refine dw_ret ?_
      have hk : qK3 A B C D M N = false := qk_no2 (not_tf hc2 (by unfold qK2 qK1; simp only [Bool.true_and, Bool.and_true, Bool.and_assoc]; try rfl))
      rw [(qk_no hk).1, (qk_no hk).2]
      exact ⟨.inr rfl, (resL_tmp rfl (resL_tmp rfl resL_nil))⟩
    · refine dw_skip ?_
      refine dw_seq ?_
      -- region 11
      refine dw_draw 26 [12] follows_mixed (by kernel_rfl) rfl rfl ?_
      refine dq_r (sem_move rfl rfl) ?_
      refine dq_r (sem_move rfl rfl) ?_
      refine dq_r (sem_move rfl rfl) ?_
      refine dq_r (sem_field fd114_0 rfl rfl) ?_
      refine dq_r (sem_load (us := cR A) ty26 rfl rfl rfl rfl rfl) ?_
      refine dq_r (sem_call rfl rfl (gFromRat_ok (by first | assumption | exact Rz.mono hA (by decide))) rfl) ?_
      refine dq_r (sem_extract rfl rfl rfl) ?_
      refine dq_r (sem_extract rfl rfl rfl) ?_
      refine dq_rs (sem_callp rfl rfl rfl rfl rfl (gWith_ok) rfl) rfl rfl rfl rfl rfl (by kernel_rfl) ?_
      refine dq_r (sem_load (us := ([.i .i64 (pL (gL B) (gH B) (sqLo (gL M)) (sqHi (gH M)))] ++ [.i .i64 (pH (gL B) (gH B) (sqLo (gL M)) (sqHi (gH M)))])) ty136 rfl rfl rfl rfl rfl) ?_
      refine dq_r (sem_call rfl rfl (gAdd_ok (gl_bd _) (gh_bd _) (pl_bd _ _ _ _) (ph_bd _ _ _ _)) rfl) ?_
      refine dq_r (sem_extract rfl rfl rfl) ?_
      refine dq_r (sem_extract rfl rfl rfl) ?_
      refine dq_rs (sem_callp rfl rfl rfl rfl rfl (gWith_ok) rfl) rfl rfl rfl rfl rfl (by kernel_rfl) ?_
      refine dq_r (sem_move rfl rfl) ?_
      refine dq_r (sem_load (us := ([.i .i64 (pL (gL C) (gH C) (sqLo (gL N)) (sqHi (gH N)))] ++ [.i .i64 (pH (gL C) (gH C) (sqLo (gL N)) (sqHi (gH N)))])) ty136 rfl rfl rfl rfl rfl) ?_
      refine dq_r (sem_load (us := ([.i .i64 (pL (gL D) (gH D) (pL (sqLo (gL M)) (sqHi (gH M)) (sqLo (gL N)) (sqHi (gH N))) (pH (sqLo (gL M)) (sqHi (gH M)) (sqLo (gL N)) (sqHi (gH N))))] ++ [.i .i64 (pH (gL D) (gH D) (pL (sqLo (gL M)) (sqHi (gH M)) (sqLo (gL N)) (sqHi (gH N))) (pH (sqLo (gL M)) (sqHi (gH M)) (sqLo (gL N)) (sqHi (gH N))))])) ty136 rfl rfl rfl rfl rfl) ?_
      refine dq_r (sem_call rfl rfl (gAdd_ok (pl_bd _ _ _ _) (ph_bd _ _ _ _) (pl_bd _ _ _ _) (ph_bd _ _ _ _)) rfl) ?_
      refine dq_r (sem_extract rfl rfl rfl) ?_
      refine dq_r (sem_extract rfl rfl rfl) ?_
      refine dq_rs (sem_callp rfl rfl rfl rfl rfl (gWith_ok) rfl) rfl rfl rfl rfl rfl (by kernel_rfl) ?_
      refine dq_r (sem_call rfl rfl (gAdd_ok (al_bd (by first | exact g_le _ | exact p_le _ _ _ _) (by first | exact g_le _ | exact p_le _ _ _ _)) (ah_bd (by first | exact g_le _ | exact p_le _ _ _ _) (by first | exact g_le _ | exact p_le _ _ _ _)) (al_bd (by first | exact g_le _ | exact p_le _ _ _ _) (by first | exact g_le _ | exact p_le _ _ _ _)) (ah_bd (by first | exact g_le _ | exact p_le _ _ _ _) (by first | exact g_le _ | exact p_le _ _ _ _))) rfl) ?_
      refine dq_r (sem_extract rfl rfl rfl) ?_
      refine dq_r (sem_extract rfl rfl rfl) ?_
      refine dq_rs (sem_callp rfl rfl rfl rfl rfl (gWith_ok) rfl) rfl rfl rfl rfl rfl (by kernel_rfl) ?_
      refine dq_new (sem_alloc zc136 rfl) rfl ?_
      refine dq_end ?_
      refine dl_start5 ?_
      refine dl_st (sem_store_a ty136 rfl rfl rfl rfl rfl rfl) ?_
      refine dl_end ?_
      refine dw_seq ?_
      refine dw_seq ?_
      -- region 12
      refine dw_region (by kernel_rfl) ?_
      refine dl_r (sem_move rfl rfl) ?_
      refine dl_r (sem_nilCheck rfl rfl) ?_
      refine dl_r (sem_field fd157_0 rfl rfl) ?_
      refine dl_r (sem_load1 ty4 rfl rfl rfl rfl) ?_
      refine dl_r (sem_not rfl rfl) ?_
      refine dl_end ?_
      refine dw_cond rfl (fun hc3 => ?_) (fun hc3 => ?_)
      · refine dw_seq ?_
        -- region 13
        refine dw_region (by kernel_rfl) ?_
        refine dl_r (sem_assign rfl rfl) ?_
        refine dl_r (sem_assign rfl rfl) ?_
        refine dl_end ?_
        refine dw_ret ?_
        have hk : qK3 A B C D M N = false := not_tf hc3 (by unfold qK3 qK2 qK1; simp only [Bool.true_and, Bool.and_true, Bool.and_assoc]; try rfl)
        rw [(qk_no hk).1, (qk_no hk).2]
        exact ⟨.inr rfl, (resL_tmp rfl (resL_tmp rfl resL_nil))⟩
      · refine dw_skip ?_
        refine dw_seq ?_
        -- region 14
        refine dw_region (by kernel_rfl) ?_
        refine dl_r (sem_load (us := ([.i .i64 (aL (aL (gL A) (gH A) (pL (gL B) (gH B) (sqLo (gL M)) (sqHi (gH M))) (pH (gL B) (gH B) (sqLo (gL M)) (sqHi (gH M)))) (aH (gL A) (gH A) (pL (gL B) (gH B) (sqLo (gL M)) (sqHi (gH M))) (pH (gL B) (gH B) (sqLo (gL M)) (sqHi (gH M)))) (aL (pL (gL C) (gH C) (sqLo (gL N)) (sqHi (gH N))) (pH (gL C) (gH C) (sqLo (gL N)) (sqHi (gH N))) (pL (gL D) (gH D) (pL (sqLo (gL M)) (sqHi (gH M)) (sqLo (gL N)) (sqHi (gH N))) (pH (sqLo (gL M)) (sqHi (gH M)) (sqLo (gL N)) (sqHi (gH N)))) (pH (gL D) (gH D) (pL (sqLo (gL M)) (sqHi (gH M)) (sqLo (gL N)) (sqHi (gH N))) (pH (sqLo (gL M)) (sqHi (gH M)) (sqLo (gL N)) (sqHi (gH N))))) (aH (pL (gL C) (gH C) (sqLo (gL N)) (sqHi (gH N))) (pH (gL C) (gH C) (sqLo (gL N)) (sqHi (gH N))) (pL (gL D) (gH D) (pL (sqLo (gL M)) (sqHi (gH M)) (sqLo (gL N)) (sqHi (gH N))) (pH (sqLo (gL M)) (sqHi (gH M)) (sqLo (gL N)) (sqHi (gH N)))) (pH (gL D) (gH D) (pL (sqLo (gL M)) (sqHi (gH M)) (sqLo (gL N)) (sqHi (gH N))) (pH (sqLo (gL M)) (sqHi (gH M)) (sqLo (gL N)) (sqHi (gH N))))))] ++ [.i .i64 (aH (aL (gL A) (gH A) (pL (gL B) (gH B) (sqLo (gL M)) (sqHi (gH M))) (pH (gL B) (gH B) (sqLo (gL M)) (sqHi (gH M)))) (aH (gL A) (gH A) (pL (gL B) (gH B) (sqLo (gL M)) (sqHi (gH M))) (pH (gL B) (gH B) (sqLo (gL M)) (sqHi (gH M)))) (aL (pL (gL C) (gH C) (sqLo (gL N)) (sqHi (gH N))) (pH (gL C) (gH C) (sqLo (gL N)) (sqHi (gH N))) (pL (gL D) (gH D) (pL (sqLo (gL M)) (sqHi (gH M)) (sqLo (gL N)) (sqHi (gH N))) (pH (sqLo (gL M)) (sqHi (gH M)) (sqLo (gL N)) (sqHi (gH N)))) (pH (gL D) (gH D) (pL (sqLo (gL M)) (sqHi (gH M)) (sqLo (gL N)) (sqHi (gH N))) (pH (sqLo (gL M)) (sqHi (gH M)) (sqLo (gL N)) (sqHi (gH N))))) (aH (pL (gL C) (gH C) (sqLo (gL N)) (sqHi (gH N))) (pH (gL C) (gH C) (sqLo (gL N)) (sqHi (gH N))) (pL (gL D) (gH D) (pL (sqLo (gL M)) (sqHi (gH M)) (sqLo (gL N)) (sqHi (gH N))) (pH (sqLo (gL M)) (sqHi (gH M)) (sqLo (gL N)) (sqHi (gH N)))) (pH (gL D) (gH D) (pL (sqLo (gL M)) (sqHi (gH M)) (sqLo (gL N)) (sqHi (gH N))) (pH (sqLo (gL M)) (sqHi (gH M)) (sqLo (gL N)) (sqHi (gH N))))))])) ty136 rfl rfl rfl rfl rfl) ?_
        refine dl_r (sem_call rfl rfl (fSign_ok) rfl) ?_
        refine dl_r (sem_extract rfl rfl rfl) ?_
        refine dl_r (sem_extract rfl rfl rfl) ?_
        refine dl_r (sem_assign rfl rfl) ?_
        refine dl_r (sem_assign rfl rfl) ?_
        refine dl_end ?_
        refine dw_ret ?_
        have hk : qK3 A B C D M N = true := not_ff hc3 (by unfold qK3 qK2 qK1; simp only [Bool.true_and, Bool.and_true, Bool.and_assoc]; try rfl)
        rw [(qk_yes hk).1, (qk_yes hk).2]
        exact ⟨.inr rfl, (resL_tmp rfl (resL_tmp rfl resL_nil))⟩
end Go.Proofs.YthpalcfhhicmgaaGreat
/- Plain: the program's sign of a sum with two square roots, its order of two values. -/
namespace Go.Proofs.YthpalcfhhicmgaaGreat
open Go Go.RowKit
def sgnP (A B C D M N : Rat) : Int := if M < 0 ∨ N < 0 then 0 else if qkK A B C D M N = true then qkS A B C D M N else signQ A B C D M N
theorem sgnP_n {A B C D M N : Rat} (h : M < 0 ∨ N < 0) : sgnP A B C D M N = 0 := by unfold sgnP; rw [if_pos h]
theorem sgnP_q {A B C D M N : Rat} (h : ¬ M < 0) (h' : ¬ N < 0) (hq : qkK A B C D M N = true) : sgnP A B C D M N = qkS A B C D M N := by unfold sgnP; rw [if_neg (fun e => e.elim h h'), if_pos hq]
theorem sgnP_p {A B C D M N : Rat} (h : ¬ M < 0) (h' : ¬ N < 0) (hq : qkK A B C D M N = false) : sgnP A B C D M N = comb (plainS A B M) (plainS C D M * cmpR N 0) (plainS (A * A + M * (B * B) - N * (C * C + M * (D * D))) (A * B - N * (C * D) + (A * B - N * (C * D))) M) := by
  unfold sgnP; rw [if_neg (fun e => e.elim h h'), hq, if_neg (by decide), signQ_p h h']
  unfold quadA quadB
  rw [Rat.mul_comm M (B * B), Rat.mul_comm M (D * D)]
def cmpP (a b c d e f : Rat) : Int :=
  if (cmpR b 0 == 0) = true ∧ (cmpR e 0 == 0) = true then cmpR a d else
  if apK (rtOk a b c) (rtOk d e f) (rtLo a b c) (rtHi a b c) (rtLo d e f) (rtHi d e f) = true then apS (rtOk a b c) (rtOk d e f) (rtLo a b c) (rtHi a b c) (rtLo d e f) (rtHi d e f) else
  if (cmpR c f == 0) = true then plainS (a - d) (b - e) c else sgnP (a - d) b (-e) 0 c f
section
variable {a b c d e f : Rat}
theorem cmpP_r (h : (cmpR b 0 == 0) = true) (h2 : (cmpR e 0 == 0) = true) : cmpP a b c d e f = cmpR a d := by unfold cmpP; rw [if_pos ⟨h, h2⟩]
theorem cmpP_a (h : ¬ ((cmpR b 0 == 0) = true ∧ (cmpR e 0 == 0) = true)) (h2 : apK (rtOk a b c) (rtOk d e f) (rtLo a b c) (rtHi a b c) (rtLo d e f) (rtHi d e f) = true) :
    cmpP a b c d e f = apS (rtOk a b c) (rtOk d e f) (rtLo a b c) (rtHi a b c) (rtLo d e f) (rtHi d e f) := by unfold cmpP; rw [if_neg h, if_pos h2]
theorem cmpP_c (h : ¬ ((cmpR b 0 == 0) = true ∧ (cmpR e 0 == 0) = true)) (h2 : apK (rtOk a b c) (rtOk d e f) (rtLo a b c) (rtHi a b c) (rtLo d e f) (rtHi d e f) = false) (h3 : (cmpR c f == 0) = true) :
    cmpP a b c d e f = plainS (a - d) (b - e) c := by unfold cmpP; rw [if_neg h, h2, if_neg (by decide), if_pos h3]
theorem cmpP_s (h : ¬ ((cmpR b 0 == 0) = true ∧ (cmpR e 0 == 0) = true)) (h2 : apK (rtOk a b c) (rtOk d e f) (rtLo a b c) (rtHi a b c) (rtLo d e f) (rtHi d e f) = false) (h3 : (cmpR c f == 0) = false) :
    cmpP a b c d e f = sgnP (a - d) b (-e) 0 c f := by unfold cmpP; rw [if_neg h, h2, if_neg (by decide), h3, if_neg (by decide)]
theorem nb_l {b c : Bool} (h : b = false) : ¬ (b = true ∧ c = true) := fun e => by rw [h] at e; exact absurd e.1 (by decide)
theorem nb_r {b c : Bool} (h : c = false) : ¬ (b = true ∧ c = true) := fun e => by rw [h] at e; exact absurd e.2 (by decide)
end
end Go.Proofs.YthpalcfhhicmgaaGreat
/- radical.Sign. -/
namespace Go.Proofs.YthpalcfhhicmgaaGreat
open Go Go.RowKit
theorem xSignAdd_ok {a b : Rat} (ha : Rz 300 a) (hb : Rz 300 b) : Ok Tryz.prog 137 [dR a, dR b] [dR (a + b)] := by
  refine Ok.of (by kernel_rfl) Tryz.func137 rfl rfl ?_
  rw [show Tryz.f137.ntmps = 8 from rfl, show Tryz.f137.results.toList = [.cell 4 26] from rfl]
  refine dw_seq ?_
  -- region 0
  refine dw_region (by kernel_rfl) ?_
  refine dl_new (sem_box_a rfl rfl) rfl ?_
  refine dl_new (sem_box_a rfl rfl) rfl ?_
  refine dl_new (sem_alloc zc26 rfl) rfl ?_
  refine dl_end ?_
  refine dw_seq ?_
  -- region 1
  refine dw_region (by kernel_rfl) ?_
  refine dl_r (sem_load (us := cR a) ty26 rfl rfl rfl rfl rfl) ?_
  refine dl_r (sem_load (us := cR b) ty26 rfl rfl rfl rfl rfl) ?_
  refine dl_r (sem_call rfl rfl (pAdd_ok (by first | assumption | exact Rz.mono ha (by decide)) (by first | assumption | exact Rz.mono hb (by decide))) rfl) ?_
  refine dl_st (sem_store_a ty26 rfl rfl rfl rfl rfl rfl) ?_
  refine dl_end ?_
  refine dw_ret ?_
  -- path 
  exact ⟨.inr rfl, (resL_cell (us := cR (a + b)) ty26 rfl rfl rfl rfl resL_nil)⟩
theorem xSign_ok {A B C D M N : Rat} (hA : Rz 8 A) (hB : Rz 8 B) (hC : Rz 8 C) (hD : Rz 8 D) (hM : Rz 8 M) (hN : Rz 8 N) : Ok Tryz.prog 95 [.a (cR A ++ cR B ++ cR C ++ cR D ++ cR M ++ cR N)] [.c (.i .i64 (sgnP A B C D M N))] := by
  have z1 := prod_bd (plainS_bd C D M) (cmpR_bd N 0)
  have z2 := prod_bd (plainS_bd A B M) (plainS_bd (A * A + M * (B * B) - N * (C * C + M * (D * D))) ((A * B - N * (C * D)) + (A * B - N * (C * D))) M)
  have kA : Rz 200 A := hA.mono (by decide)
  have kB : Rz 200 B := hB.mono (by decide)
  have kC : Rz 200 C := hC.mono (by decide)
  have kD : Rz 200 D := hD.mono (by decide)
  have kM : Rz 200 M := hM.mono (by decide)
  have kN : Rz 200 N := hN.mono (by decide)
  refine Ok.of (by kernel_rfl) Tryz.func95 rfl rfl ?_
  rw [show Tryz.f95.ntmps = 127 from rfl, show Tryz.f95.results.toList = [.tmp 2] from rfl]
  refine dw_seq ?_
  -- region 0
  refine dw_region (by kernel_rfl) ?_
  refine dl_new (sem_box_a rfl rfl) rfl ?_
  refine dl_r (sem_assign rfl rfl) ?_
  refine dl_end ?_
  refine dw_seq ?_
  refine dw_seq ?_
  -- region 1
  refine dw_region (by kernel_rfl) ?_
  refine dl_r (sem_field fd114_4 rfl rfl) ?_
  refine dl_r (sem_load (us := cR M) ty26 rfl rfl rfl rfl rfl) ?_
  refine dl_r (sem_call rfl rfl (pSign_ok) rfl) ?_
  refine dl_r (sem_cmp rfl rfl rfl rfl) ?_
  refine dl_rb (sem_move rfl rfl) (fun c1 hb1 => ?_)
  cases c1
  · have n1 := r_nlt hb1
    refine dl_r (sem_field fd114_5 rfl rfl) ?_
    refine dl_r (sem_load (us := cR N) ty26 rfl rfl rfl rfl rfl) ?_
    refine dl_r (sem_call rfl rfl (pSign_ok) rfl) ?_
    refine dl_r (sem_cmp rfl rfl rfl rfl) ?_
    refine dl_r (sem_pick rfl rfl rfl rfl) ?_
    refine dl_end ?_
    refine dw_cond rfl (fun hc2 => ?_) (fun hc2 => ?_)
    · refine dw_seq ?_
      -- region 2
      refine dw_region (by kernel_rfl) ?_
      refine dl_r (sem_assign rfl rfl) ?_
      refine dl_end ?_
      refine dw_ret ?_
      -- path fT
      rw [sgnP_n (.inr (r_lt hc2))]
      exact ⟨.inr rfl, (resL_tmp rfl resL_nil)⟩
    · have n2 := r_nlt hc2
      refine dw_skip ?_
      refine dw_seq ?_
      refine dw_seq ?_
      -- region 3
      refine dw_region (by kernel_rfl) ?_
      refine dl_r (sem_load (us := (cR A ++ cR B ++ cR C ++ cR D ++ cR M ++ cR N)) ty114 rfl rfl rfl rfl rfl) ?_
      refine dl_r (sem_call rfl rfl (xQuick_ok (by assumption) (by assumption) (by assumption) (by assumption) (by assumption) (by assumption) (by assumption) (by assumption)) rfl) ?_
      refine dl_r (sem_move rfl rfl) ?_
      refine dl_r (sem_extract rfl rfl rfl) ?_
      refine dl_r (sem_extract rfl rfl rfl) ?_
      refine dl_r (sem_assign rfl rfl) ?_
      refine dl_r (sem_assign rfl rfl) ?_
      refine dl_end ?_
      refine dw_seq ?_
      -- region 4
      refine dw_region (by kernel_rfl) ?_
      refine dl_r (sem_move rfl rfl) ?_
      refine dl_end ?_
      refine dw_cond rfl (fun hc3 => ?_) (fun hc3 => ?_)
      · refine dw_seq ?_
        -- region 5
        refine dw_region (by kernel_rfl) ?_
        refine dl_r (sem_move rfl rfl) ?_
        refine dl_r (sem_assign rfl rfl) ?_
        refine dl_end ?_
        refine dw_ret ?_
        -- path fFT
        rw [sgnP_q n1 n2 hc3]
        exact ⟨.inr rfl, (resL_tmp rfl resL_nil)⟩
      · refine dw_skip ?_
        refine dw_seq ?_
        -- region 6
        refine dw_draw 20 [] follows_mixed (by kernel_rfl) rfl rfl ?_
        refine dq_r (sem_field fd114_0 rfl rfl) ?_
        refine dq_r (sem_load (us := cR A) ty26 rfl rfl rfl rfl rfl) ?_
        refine dq_r (sem_field fd114_1 rfl rfl) ?_
        refine dq_r (sem_load (us := cR B) ty26 rfl rfl rfl rfl rfl) ?_
        refine dq_r (sem_field fd114_4 rfl rfl) ?_
        refine dq_r (sem_load (us := cR M) ty26 rfl rfl rfl rfl rfl) ?_
        refine dq_r (sem_call rfl rfl (xPlain_ok (by first | assumption | exact Rz.mono hA (by decide)) (by first | assumption | exact Rz.mono hB (by decide)) (by first | assumption | exact Rz.mono hM (by decide))) rfl) ?_
        refine dq_r (sem_field fd114_2 rfl rfl) ?_
        refine dq_r (sem_load (us := cR C) ty26 rfl rfl rfl rfl rfl) ?_
        refine dq_r (sem_field fd114_3 rfl rfl) ?_
        refine dq_r (sem_load (us := cR D) ty26 rfl rfl rfl rfl rfl) ?_
        refine dq_r (sem_field fd114_4 rfl rfl) ?_
        refine dq_r (sem_load (us := cR M) ty26 rfl rfl rfl rfl rfl) ?_
        refine dq_r (sem_call rfl rfl (xPlain_ok (by first | assumption | exact Rz.mono hC (by decide)) (by first | assumption | exact Rz.mono hD (by decide)) (by first | assumption | exact Rz.mono hM (by decide))) rfl) ?_
        refine dq_r (sem_field fd114_5 rfl rfl) ?_
        refine dq_r (sem_load (us := cR N) ty26 rfl rfl rfl rfl rfl) ?_
        refine dq_r (sem_call rfl rfl (pSign_ok) rfl) ?_
        refine dq_r (sem_ari (r := (plainS C D M) * (cmpR N 0)) rfl rfl (ari_i64_mul (by omega) (by omega)) rfl) ?_
        refine dq_r (sem_assign rfl rfl) ?_
        refine dq_r (sem_assign rfl rfl) ?_
        refine dq_end ?_
        refine dl_start0 ?_
        refine dl_end ?_
        refine dw_seq ?_
        refine dw_block ?_
        refine dw_seq ?_
        -- region 7
        refine dw_region (by kernel_rfl) ?_
        refine dl_r (sem_move rfl rfl) ?_
        refine dl_r (sem_cmp rfl rfl rfl rfl) ?_
        refine dl_rb (sem_move rfl rfl) (fun c4 hb4 => ?_)
        cases c4
        · refine dl_r (sem_move rfl rfl) ?_
          refine dl_r (sem_move rfl rfl) ?_
          refine dl_r (sem_cmp rfl rfl rfl rfl) ?_
          refine dl_r (sem_pick rfl rfl rfl rfl) ?_
          refine dl_r (sem_assign rfl rfl) ?_
          refine dl_end ?_
          refine dw_cond rfl (fun hc5 => ?_) (fun hc5 => ?_)
          · refine dw_seq ?_
            -- region 8
            refine dw_region (by kernel_rfl) ?_
            refine dl_r (sem_move rfl rfl) ?_
            refine dl_r (sem_assign rfl rfl) ?_
            refine dl_end ?_
            refine dw_ret ?_
            -- path fFFfT
            rw [sgnP_p n1 n2 hc3, comb_eq hc5]
            exact ⟨.inr rfl, (resL_tmp rfl resL_nil)⟩
          · refine dw_seq ?_
            -- region 9
            refine dw_region (by kernel_rfl) ?_
            refine dl_r (sem_move rfl rfl) ?_
            refine dl_r (sem_cmp rfl rfl rfl rfl) ?_
            refine dl_r (sem_assign rfl rfl) ?_
            refine dl_end ?_
            refine dw_cond rfl (fun hc6 => ?_) (fun hc6 => ?_)
            · refine dw_seq ?_
              -- region 10
              refine dw_region (by kernel_rfl) ?_
              refine dl_r (sem_move rfl rfl) ?_
              refine dl_r (sem_assign rfl rfl) ?_
              refine dl_end ?_
              refine dw_ret ?_
              -- path fFFfFT
              rw [sgnP_p n1 n2 hc3, comb_s0 hc6]
              exact ⟨.inr rfl, (resL_tmp rfl resL_nil)⟩
            · refine dw_skip ?_
              refine dw_seq ?_
              -- region 11
              refine dw_region (by kernel_rfl) ?_
              refine dl_r (sem_assign rfl rfl) ?_
              refine dl_end ?_
              refine dw_seq ?_
              -- region 12
              refine dw_region (by kernel_rfl) ?_
              refine dl_r (sem_assign rfl rfl) ?_
              refine dl_end ?_
              refine dw_seq ?_
              -- region 13
              refine dw_draw 42 [] follows_mixed (by kernel_rfl) rfl rfl ?_
              refine dq_r (sem_move rfl rfl) ?_
              refine dq_r (sem_move rfl rfl) ?_
              refine dq_r (sem_field fd114_0 rfl rfl) ?_
              refine dq_r (sem_load (us := cR A) ty26 rfl rfl rfl rfl rfl) ?_
              refine dq_r (sem_field fd114_0 rfl rfl) ?_
              refine dq_r (sem_load (us := cR A) ty26 rfl rfl rfl rfl rfl) ?_
              refine dq_r (sem_call rfl rfl (pMul_ok (by first | assumption | exact Rz.mono hA (by decide)) (by first | assumption | exact Rz.mono hA (by decide))) rfl) ?_
              refine dq_r (sem_move rfl rfl) ?_
              refine dq_r (sem_field fd114_4 rfl rfl) ?_
              refine dq_r (sem_load (us := cR M) ty26 rfl rfl rfl rfl rfl) ?_
              refine dq_r (sem_move rfl rfl) ?_
              refine dq_r (sem_field fd114_1 rfl rfl) ?_
              refine dq_r (sem_load (us := cR B) ty26 rfl rfl rfl rfl rfl) ?_
              refine dq_r (sem_field fd114_1 rfl rfl) ?_
              refine dq_r (sem_load (us := cR B) ty26 rfl rfl rfl rfl rfl) ?_
              refine dq_r (sem_call rfl rfl (pMul_ok (by first | assumption | exact Rz.mono hB (by decide)) (by first | assumption | exact Rz.mono hB (by decide))) rfl) ?_
              refine dq_r (sem_call rfl rfl (pMul_ok (by first | assumption | exact Rz.mono hM (by decide)) (by first | assumption | exact Rz.mono (Rz.mul hB hB) (by decide))) rfl) ?_
              refine dq_r (sem_call rfl rfl (xSignAdd_ok (by first | assumption | exact Rz.mono (Rz.mul hA hA) (by decide)) (by first | assumption | exact Rz.mono (Rz.mul hM (Rz.mul hB hB)) (by decide))) rfl) ?_
              refine dq_r (sem_move rfl rfl) ?_
              refine dq_r (sem_field fd114_5 rfl rfl) ?_
              refine dq_r (sem_load (us := cR N) ty26 rfl rfl rfl rfl rfl) ?_
              refine dq_r (sem_move rfl rfl) ?_
              refine dq_r (sem_move rfl rfl) ?_
              refine dq_r (sem_field fd114_2 rfl rfl) ?_
              refine dq_r (sem_load (us := cR C) ty26 rfl rfl rfl rfl rfl) ?_
              refine dq_r (sem_field fd114_2 rfl rfl) ?_
              refine dq_r (sem_load (us := cR C) ty26 rfl rfl rfl rfl rfl) ?_
              refine dq_r (sem_call rfl rfl (pMul_ok (by first | assumption | exact Rz.mono hC (by decide)) (by first | assumption | exact Rz.mono hC (by decide))) rfl) ?_
              refine dq_r (sem_move rfl rfl) ?_
              refine dq_r (sem_field fd114_4 rfl rfl) ?_
              refine dq_r (sem_load (us := cR M) ty26 rfl rfl rfl rfl rfl) ?_
              refine dq_r (sem_move rfl rfl) ?_
              refine dq_r (sem_field fd114_3 rfl rfl) ?_
              refine dq_r (sem_load (us := cR D) ty26 rfl rfl rfl rfl rfl) ?_
              refine dq_r (sem_field fd114_3 rfl rfl) ?_
              refine dq_r (sem_load (us := cR D) ty26 rfl rfl rfl rfl rfl) ?_
              refine dq_r (sem_call rfl rfl (pMul_ok (by first | assumption | exact Rz.mono hD (by decide)) (by first | assumption | exact Rz.mono hD (by decide))) rfl) ?_
              refine dq_r (sem_call rfl rfl (pMul_ok (by first | assumption | exact Rz.mono hM (by decide)) (by first | assumption | exact Rz.mono (Rz.mul hD hD) (by decide))) rfl) ?_
              refine dq_r (sem_call rfl rfl (xSignAdd_ok (by first | assumption | exact Rz.mono (Rz.mul hC hC) (by decide)) (by first | assumption | exact Rz.mono (Rz.mul hM (Rz.mul hD hD)) (by decide))) rfl) ?_
              refine dq_r (sem_call rfl rfl (pMul_ok (by first | assumption | exact Rz.mono hN (by decide)) (by first | assumption | exact Rz.mono (Rz.add (Rz.mul hC hC) (Rz.mul hM (Rz.mul hD hD))) (by decide))) rfl) ?_
              refine dq_r (sem_call rfl rfl (pSub_ok (by first | assumption | exact Rz.mono (Rz.add (Rz.mul hA hA) (Rz.mul hM (Rz.mul hB hB))) (by decide)) (by first | assumption | exact Rz.mono (Rz.mul hN (Rz.add (Rz.mul hC hC) (Rz.mul hM (Rz.mul hD hD)))) (by decide))) rfl) ?_
              refine dq_new (sem_alloc zc26 rfl) rfl ?_
              refine dq_end ?_
              refine dl_start1 ?_
              refine dl_st (sem_store_a ty26 rfl rfl rfl rfl rfl rfl) ?_
              refine dl_end ?_
              refine dw_seq ?_
              -- region 14
              refine dw_draw 18 [] follows_mixed (by kernel_rfl) rfl rfl ?_
              refine dq_r (sem_move rfl rfl) ?_
              refine dq_r (sem_field fd114_0 rfl rfl) ?_
              refine dq_r (sem_load (us := cR A) ty26 rfl rfl rfl rfl rfl) ?_
              refine dq_r (sem_field fd114_1 rfl rfl) ?_
              refine dq_r (sem_load (us := cR B) ty26 rfl rfl rfl rfl rfl) ?_
              refine dq_r (sem_call rfl rfl (pMul_ok (by first | assumption | exact Rz.mono hA (by decide)) (by first | assumption | exact Rz.mono hB (by decide))) rfl) ?_
              refine dq_r (sem_move rfl rfl) ?_
              refine dq_r (sem_field fd114_5 rfl rfl) ?_
              refine dq_r (sem_load (us := cR N) ty26 rfl rfl rfl rfl rfl) ?_
              refine dq_r (sem_move rfl rfl) ?_
              refine dq_r (sem_field fd114_2 rfl rfl) ?_
              refine dq_r (sem_load (us := cR C) ty26 rfl rfl rfl rfl rfl) ?_
              refine dq_r (sem_field fd114_3 rfl rfl) ?_
              refine dq_r (sem_load (us := cR D) ty26 rfl rfl rfl rfl rfl) ?_
              refine dq_r (sem_call rfl rfl (pMul_ok (by first | assumption | exact Rz.mono hC (by decide)) (by first | assumption | exact Rz.mono hD (by decide))) rfl) ?_
              refine dq_r (sem_call rfl rfl (pMul_ok (by first | assumption | exact Rz.mono hN (by decide)) (by first | assumption | exact Rz.mono (Rz.mul hC hD) (by decide))) rfl) ?_
              refine dq_r (sem_call rfl rfl (pSub_ok (by first | assumption | exact Rz.mono (Rz.mul hA hB) (by decide)) (by first | assumption | exact Rz.mono (Rz.mul hN (Rz.mul hC hD)) (by decide))) rfl) ?_
              refine dq_new (sem_alloc zc26 rfl) rfl ?_
              refine dq_end ?_
              refine dl_start1 ?_
              refine dl_st (sem_store_a ty26 rfl rfl rfl rfl rfl rfl) ?_
              refine dl_end ?_
              refine dw_seq ?_
              -- region 15
              refine dw_draw 11 [] follows_mixed (by kernel_rfl) rfl rfl ?_
              refine dq_r (sem_move rfl rfl) ?_
              refine dq_r (sem_load (us := cR (((A * A) + (M * (B * B))) - (N * ((C * C) + (M * (D * D)))))) ty26 rfl rfl rfl rfl rfl) ?_
              refine dq_r (sem_move rfl rfl) ?_
              refine dq_r (sem_load (us := cR ((A * B) - (N * (C * D)))) ty26 rfl rfl rfl rfl rfl) ?_
              refine dq_r (sem_load (us := cR ((A * B) - (N * (C * D)))) ty26 rfl rfl rfl rfl rfl) ?_
              refine dq_r (sem_call rfl rfl (xSignAdd_ok (by first | assumption | exact Rz.mono (Rz.sub (Rz.mul hA hB) (Rz.mul hN (Rz.mul hC hD))) (by decide)) (by first | assumption | exact Rz.mono (Rz.sub (Rz.mul hA hB) (Rz.mul hN (Rz.mul hC hD))) (by decide))) rfl) ?_
              refine dq_r (sem_field fd114_4 rfl rfl) ?_
              refine dq_r (sem_load (us := cR M) ty26 rfl rfl rfl rfl rfl) ?_
              refine dq_r (sem_call rfl rfl (xPlain_ok (by first | assumption | exact Rz.mono (Rz.sub (Rz.add (Rz.mul hA hA) (Rz.mul hM (Rz.mul hB hB))) (Rz.mul hN (Rz.add (Rz.mul hC hC) (Rz.mul hM (Rz.mul hD hD))))) (by decide)) (by first | assumption | exact Rz.mono (Rz.add (Rz.sub (Rz.mul hA hB) (Rz.mul hN (Rz.mul hC hD))) (Rz.sub (Rz.mul hA hB) (Rz.mul hN (Rz.mul hC hD)))) (by decide)) (by first | assumption | exact Rz.mono hM (by decide))) rfl) ?_
              refine dq_r (sem_ari (r := (plainS A B M) * (plainS (((A * A) + (M * (B * B))) - (N * ((C * C) + (M * (D * D))))) (((A * B) - (N * (C * D))) + ((A * B) - (N * (C * D)))) M)) rfl rfl (ari_i64_mul (by omega) (by omega)) rfl) ?_
              refine dq_r (sem_assign rfl rfl) ?_
              refine dq_end ?_
              refine dl_start0 ?_
              refine dl_end ?_
              refine dw_ret ?_
              -- path fFFfFF
              rw [sgnP_p n1 n2 hc3, comb_ne hc6 hb4 hc5]
              exact ⟨.inr rfl, (resL_tmp rfl resL_nil)⟩
        · refine dl_skip (sem_skip rfl) ?_
          refine dl_skip (sem_skip rfl) ?_
          refine dl_skip (sem_skip rfl) ?_
          refine dl_r (sem_pick rfl rfl rfl rfl) ?_
          refine dl_r (sem_assign rfl rfl) ?_
          refine dl_end ?_
          refine dw_true rfl ?_
          refine dw_seq ?_
          -- region 8
          refine dw_region (by kernel_rfl) ?_
          refine dl_r (sem_move rfl rfl) ?_
          refine dl_r (sem_assign rfl rfl) ?_
          refine dl_end ?_
          refine dw_ret ?_
          -- path fFFt
          rw [sgnP_p n1 n2 hc3, comb_t0 hb4]
          exact ⟨.inr rfl, (resL_tmp rfl resL_nil)⟩
  · refine dl_skip (sem_skip rfl) ?_
    refine dl_skip (sem_skip rfl) ?_
    refine dl_skip (sem_skip rfl) ?_
    refine dl_skip (sem_skip rfl) ?_
    refine dl_r (sem_pick rfl rfl rfl rfl) ?_
    refine dl_end ?_
    refine dw_true rfl ?_
    refine dw_seq ?_
    -- region 2
    refine dw_region (by kernel_rfl) ?_
    refine dl_r (sem_assign rfl rfl) ?_
    refine dl_end ?_
    refine dw_ret ?_
    -- path t
    rw [sgnP_n (.inl (r_lt hb1))]
    exact ⟨.inr rfl, (resL_tmp rfl resL_nil)⟩
end Go.Proofs.YthpalcfhhicmgaaGreat
/- radical.Cmp. -/
namespace Go.Proofs.YthpalcfhhicmgaaGreat
open Go Go.RowKit
theorem xCmp_ok {a b c d e f : Rat} (ha : Rz 100 a) (hb : Rz 8 b) (hc : Rz 8 c) (hd : Rz 100 d) (he : Rz 8 e) (hf : Rz 8 f) (h1 : Rz 8 (a - d)) : Ok Tryz.prog 59 [.a (cR a ++ cR b ++ cR c), .a (cR d ++ cR e ++ cR f)] [.c (.i .i64 (cmpP a b c d e f))] := by
  have ka : Rz 300 a := ha.mono (by decide)
  have la : Rz 200 a := ha.mono (by decide)
  have kb : Rz 300 b := hb.mono (by decide)
  have lb : Rz 200 b := hb.mono (by decide)
  have kc : Rz 300 c := hc.mono (by decide)
  have lc : Rz 200 c := hc.mono (by decide)
  have kd : Rz 300 d := hd.mono (by decide)
  have ld : Rz 200 d := hd.mono (by decide)
  have ke : Rz 300 e := he.mono (by decide)
  have le : Rz 200 e := he.mono (by decide)
  have kf : Rz 300 f := hf.mono (by decide)
  have lf : Rz 200 f := hf.mono (by decide)
  have m2 : Rz 8 (-e) := he.neg
  have m0 : Rz 8 (0 : Rat) := Rz.int (n := 0) (Sz.small (by decide) (by decide) (by decide)) (by decide)
  have w1 : Rz 100 (a - d) := h1.mono (by decide)
  have w2 : Rz 100 (b - e) := (hb.sub he).mono (by decide)
  have w3 : Rz 100 c := hc.mono (by decide)
  refine Ok.of (by kernel_rfl) Tryz.func59 rfl rfl ?_
  rw [show Tryz.f59.ntmps = 53 from rfl, show Tryz.f59.results.toList = [.tmp 4] from rfl]
  refine dw_seq ?_
  -- region 0
  refine dw_region (by kernel_rfl) ?_
  refine dl_new (sem_box_a rfl rfl) rfl ?_
  refine dl_new (sem_box_a rfl rfl) rfl ?_
  refine dl_r (sem_assign rfl rfl) ?_
  refine dl_end ?_
  refine dw_seq ?_
  refine dw_seq ?_
  -- region 1
  refine dw_region (by kernel_rfl) ?_
  refine dl_r (sem_field fd28_1 rfl rfl) ?_
  refine dl_r (sem_load (us := cR b) ty26 rfl rfl rfl rfl rfl) ?_
  refine dl_r (sem_call rfl rfl (pSign_ok) rfl) ?_
  refine dl_r (sem_cmp rfl rfl rfl rfl) ?_
  refine dl_rb (sem_move rfl rfl) (fun c1 hb1 => ?_)
  cases c1
  · refine dl_skip (sem_skip rfl) ?_
    refine dl_skip (sem_skip rfl) ?_
    refine dl_skip (sem_skip rfl) ?_
    refine dl_skip (sem_skip rfl) ?_
    refine dl_r (sem_pick rfl rfl rfl rfl) ?_
    refine dl_end ?_
    refine dw_false rfl ?_
    refine dw_skip ?_
    refine dw_seq ?_
    refine dw_seq ?_
    -- region 3
    refine dw_region (by kernel_rfl) ?_
    refine dl_r (sem_load (us := (cR a ++ cR b ++ cR c)) ty28 rfl rfl rfl rfl rfl) ?_
    refine dl_r (sem_load (us := (cR d ++ cR e ++ cR f)) ty28 rfl rfl rfl rfl rfl) ?_
    refine dl_r (sem_call rfl rfl (xApart_ok (by assumption) (by assumption) (by assumption) (by assumption) (by assumption) (by assumption)) rfl) ?_
    refine dl_r (sem_move rfl rfl) ?_
    refine dl_r (sem_extract rfl rfl rfl) ?_
    refine dl_r (sem_extract rfl rfl rfl) ?_
    refine dl_r (sem_assign rfl rfl) ?_
    refine dl_r (sem_assign rfl rfl) ?_
    refine dl_end ?_
    refine dw_seq ?_
    -- region 4
    refine dw_region (by kernel_rfl) ?_
    refine dl_r (sem_move rfl rfl) ?_
    refine dl_end ?_
    refine dw_cond rfl (fun hc2 => ?_) (fun hc2 => ?_)
    · refine dw_seq ?_
      -- region 5
      refine dw_region (by kernel_rfl) ?_
      refine dl_r (sem_move rfl rfl) ?_
      refine dl_r (sem_assign rfl rfl) ?_
      refine dl_end ?_
      refine dw_ret ?_
      -- path fT
      rw [cmpP_a (nb_l hb1) hc2]
      exact ⟨.inr rfl, (resL_tmp rfl resL_nil)⟩
    · refine dw_skip ?_
      refine dw_seq ?_
      refine dw_seq ?_
      -- region 6
      refine dw_region (by kernel_rfl) ?_
      refine dl_r (sem_field fd28_2 rfl rfl) ?_
      refine dl_r (sem_load (us := cR c) ty26 rfl rfl rfl rfl rfl) ?_
      refine dl_r (sem_field fd28_2 rfl rfl) ?_
      refine dl_r (sem_load (us := cR f) ty26 rfl rfl rfl rfl rfl) ?_
      refine dl_r (sem_call rfl rfl (pCmp_ok (by first | assumption | exact Rz.mono hc (by decide)) (by first | assumption | exact Rz.mono hf (by decide))) rfl) ?_
      refine dl_r (sem_cmp rfl rfl rfl rfl) ?_
      refine dl_end ?_
      refine dw_cond rfl (fun hc3 => ?_) (fun hc3 => ?_)
      · refine dw_seq ?_
        -- region 7
        refine dw_draw 14 [] follows_mixed (by kernel_rfl) rfl rfl ?_
        refine dq_r (sem_field fd28_0 rfl rfl) ?_
        refine dq_r (sem_load (us := cR a) ty26 rfl rfl rfl rfl rfl) ?_
        refine dq_r (sem_field fd28_0 rfl rfl) ?_
        refine dq_r (sem_load (us := cR d) ty26 rfl rfl rfl rfl rfl) ?_
        refine dq_r (sem_call rfl rfl (pSub_ok (by first | assumption | exact Rz.mono ha (by decide)) (by first | assumption | exact Rz.mono hd (by decide))) rfl) ?_
        refine dq_r (sem_field fd28_1 rfl rfl) ?_
        refine dq_r (sem_load (us := cR b) ty26 rfl rfl rfl rfl rfl) ?_
        refine dq_r (sem_field fd28_1 rfl rfl) ?_
        refine dq_r (sem_load (us := cR e) ty26 rfl rfl rfl rfl rfl) ?_
        refine dq_r (sem_call rfl rfl (pSub_ok (by first | assumption | exact Rz.mono hb (by decide)) (by first | assumption | exact Rz.mono he (by decide))) rfl) ?_
        refine dq_r (sem_field fd28_2 rfl rfl) ?_
        refine dq_r (sem_load (us := cR c) ty26 rfl rfl rfl rfl rfl) ?_
        refine dq_r (sem_call rfl rfl (xPlain_ok w1 w2 w3) rfl) ?_
        refine dq_r (sem_assign rfl rfl) ?_
        refine dq_end ?_
        refine dl_start0 ?_
        refine dl_end ?_
        refine dw_ret ?_
        -- path fFT
        rw [cmpP_c (nb_l hb1) hc2 hc3]
        exact ⟨.inr rfl, (resL_tmp rfl resL_nil)⟩
      · refine dw_skip ?_
        refine dw_seq ?_
        -- region 8
        refine dw_region (by kernel_rfl) ?_
        refine dl_r (sem_load (us := (cR a ++ cR b ++ cR c)) ty28 rfl rfl rfl rfl rfl) ?_
        refine dl_r (sem_load (us := (cR d ++ cR e ++ cR f)) ty28 rfl rfl rfl rfl rfl) ?_
        refine dl_r (sem_call rfl rfl (xSub_ok (by assumption) (by assumption) (by assumption) (by assumption) (by assumption) (by assumption)) rfl) ?_
        refine dl_r (sem_call rfl rfl (xSign_ok (by assumption) (by assumption) (by assumption) (by assumption) (by assumption) (by assumption)) rfl) ?_
        refine dl_r (sem_assign rfl rfl) ?_
        refine dl_end ?_
        refine dw_ret ?_
        -- path fFF
        rw [cmpP_s (nb_l hb1) hc2 hc3]
        exact ⟨.inr rfl, (resL_tmp rfl resL_nil)⟩
  · refine dl_r (sem_field fd28_1 rfl rfl) ?_
    refine dl_r (sem_load (us := cR e) ty26 rfl rfl rfl rfl rfl) ?_
    refine dl_r (sem_call rfl rfl (pSign_ok) rfl) ?_
    refine dl_r (sem_cmp rfl rfl rfl rfl) ?_
    refine dl_r (sem_pick rfl rfl rfl rfl) ?_
    refine dl_end ?_
    refine dw_cond rfl (fun hc4 => ?_) (fun hc4 => ?_)
    · refine dw_seq ?_
      -- region 2
      refine dw_region (by kernel_rfl) ?_
      refine dl_r (sem_field fd28_0 rfl rfl) ?_
      refine dl_r (sem_load (us := cR a) ty26 rfl rfl rfl rfl rfl) ?_
      refine dl_r (sem_field fd28_0 rfl rfl) ?_
      refine dl_r (sem_load (us := cR d) ty26 rfl rfl rfl rfl rfl) ?_
      refine dl_r (sem_call rfl rfl (pCmp_ok (by first | assumption | exact Rz.mono ha (by decide)) (by first | assumption | exact Rz.mono hd (by decide))) rfl) ?_
      refine dl_r (sem_assign rfl rfl) ?_
      refine dl_end ?_
      refine dw_ret ?_
      -- path tT
      rw [cmpP_r hb1 hc4]
      exact ⟨.inr rfl, (resL_tmp rfl resL_nil)⟩
    · refine dw_skip ?_
      refine dw_seq ?_
      refine dw_seq ?_
      -- region 3
      refine dw_region (by kernel_rfl) ?_
      refine dl_r (sem_load (us := (cR a ++ cR b ++ cR c)) ty28 rfl rfl rfl rfl rfl) ?_
      refine dl_r (sem_load (us := (cR d ++ cR e ++ cR f)) ty28 rfl rfl rfl rfl rfl) ?_
      refine dl_r (sem_call rfl rfl (xApart_ok (by assumption) (by assumption) (by assumption) (by assumption) (by assumption) (by assumption)) rfl) ?_
      refine dl_r (sem_move rfl rfl) ?_
      refine dl_r (sem_extract rfl rfl rfl) ?_
      refine dl_r (sem_extract rfl rfl rfl) ?_
      refine dl_r (sem_assign rfl rfl) ?_
      refine dl_r (sem_assign rfl rfl) ?_
      refine dl_end ?_
      refine dw_seq ?_
      -- region 4
      refine dw_region (by kernel_rfl) ?_
      refine dl_r (sem_move rfl rfl) ?_
      refine dl_end ?_
      refine dw_cond rfl (fun hc5 => ?_) (fun hc5 => ?_)
      · refine dw_seq ?_
        -- region 5
        refine dw_region (by kernel_rfl) ?_
        refine dl_r (sem_move rfl rfl) ?_
        refine dl_r (sem_assign rfl rfl) ?_
        refine dl_end ?_
        refine dw_ret ?_
        -- path tFT
        rw [cmpP_a (nb_r hc4) hc5]
        exact ⟨.inr rfl, (resL_tmp rfl resL_nil)⟩
      · refine dw_skip ?_
        refine dw_seq ?_
        refine dw_seq ?_
        -- region 6
        refine dw_region (by kernel_rfl) ?_
        refine dl_r (sem_field fd28_2 rfl rfl) ?_
        refine dl_r (sem_load (us := cR c) ty26 rfl rfl rfl rfl rfl) ?_
        refine dl_r (sem_field fd28_2 rfl rfl) ?_
        refine dl_r (sem_load (us := cR f) ty26 rfl rfl rfl rfl rfl) ?_
        refine dl_r (sem_call rfl rfl (pCmp_ok (by first | assumption | exact Rz.mono hc (by decide)) (by first | assumption | exact Rz.mono hf (by decide))) rfl) ?_
        refine dl_r (sem_cmp rfl rfl rfl rfl) ?_
        refine dl_end ?_
        refine dw_cond rfl (fun hc6 => ?_) (fun hc6 => ?_)
        · refine dw_seq ?_
          -- region 7
          refine dw_draw 14 [] follows_mixed (by kernel_rfl) rfl rfl ?_
          refine dq_r (sem_field fd28_0 rfl rfl) ?_
          refine dq_r (sem_load (us := cR a) ty26 rfl rfl rfl rfl rfl) ?_
          refine dq_r (sem_field fd28_0 rfl rfl) ?_
          refine dq_r (sem_load (us := cR d) ty26 rfl rfl rfl rfl rfl) ?_
          refine dq_r (sem_call rfl rfl (pSub_ok (by first | assumption | exact Rz.mono ha (by decide)) (by first | assumption | exact Rz.mono hd (by decide))) rfl) ?_
          refine dq_r (sem_field fd28_1 rfl rfl) ?_
          refine dq_r (sem_load (us := cR b) ty26 rfl rfl rfl rfl rfl) ?_
          refine dq_r (sem_field fd28_1 rfl rfl) ?_
          refine dq_r (sem_load (us := cR e) ty26 rfl rfl rfl rfl rfl) ?_
          refine dq_r (sem_call rfl rfl (pSub_ok (by first | assumption | exact Rz.mono hb (by decide)) (by first | assumption | exact Rz.mono he (by decide))) rfl) ?_
          refine dq_r (sem_field fd28_2 rfl rfl) ?_
          refine dq_r (sem_load (us := cR c) ty26 rfl rfl rfl rfl rfl) ?_
          refine dq_r (sem_call rfl rfl (xPlain_ok w1 w2 w3) rfl) ?_
          refine dq_r (sem_assign rfl rfl) ?_
          refine dq_end ?_
          refine dl_start0 ?_
          refine dl_end ?_
          refine dw_ret ?_
          -- path tFFT
          rw [cmpP_c (nb_r hc4) hc5 hc6]
          exact ⟨.inr rfl, (resL_tmp rfl resL_nil)⟩
        · refine dw_skip ?_
          refine dw_seq ?_
          -- region 8
          refine dw_region (by kernel_rfl) ?_
          refine dl_r (sem_load (us := (cR a ++ cR b ++ cR c)) ty28 rfl rfl rfl rfl rfl) ?_
          refine dl_r (sem_load (us := (cR d ++ cR e ++ cR f)) ty28 rfl rfl rfl rfl rfl) ?_
          refine dl_r (sem_call rfl rfl (xSub_ok (by assumption) (by assumption) (by assumption) (by assumption) (by assumption) (by assumption)) rfl) ?_
          refine dl_r (sem_call rfl rfl (xSign_ok (by assumption) (by assumption) (by assumption) (by assumption) (by assumption) (by assumption)) rfl) ?_
          refine dl_r (sem_assign rfl rfl) ?_
          refine dl_end ?_
          refine dw_ret ?_
          -- path tFFF
          rw [cmpP_s (nb_r hc4) hc5 hc6]
          exact ⟨.inr rfl, (resL_tmp rfl resL_nil)⟩
end Go.Proofs.YthpalcfhhicmgaaGreat
/- Plain: roots as the reference computes with them. -/
namespace Go.Proofs.YthpalcfhhicmgaaGreat
open Go Go.RowKit
def rB (b c : Rat) : Rat := if b = 0 ∨ c = 0 then 0 else b
def rC (b c : Rat) : Rat := if b = 0 ∨ c = 0 then 0 else c
theorem rB_z {b c : Rat} (h : b = 0 ∨ c = 0) : rB b c = 0 := by unfold rB; rw [if_pos h]
theorem rC_z {b c : Rat} (h : b = 0 ∨ c = 0) : rC b c = 0 := by unfold rC; rw [if_pos h]
theorem rB_n {b c : Rat} (h : b ≠ 0) (h' : c ≠ 0) : rB b c = b := by unfold rB; rw [if_neg (fun e => e.elim h h')]
theorem rC_n {b c : Rat} (h : b ≠ 0) (h' : c ≠ 0) : rC b c = c := by unfold rC; rw [if_neg (fun e => e.elim h h')]
/-- the sign of a + b sqrt(c), as the reference takes it -/
def s3 (a b c : Rat) : Int := if cmpR a 0 = cmpR b 0 ∨ cmpR b 0 = 0 then cmpR a 0 else if cmpR a 0 = 0 then cmpR b 0 else if 0 < a * a - b * b * c then cmpR a 0 else cmpR b 0
theorem s3_1 {a b c : Rat} (h : (cmpR a 0 == cmpR b 0) = true) : s3 a b c = cmpR a 0 := by unfold s3; rw [if_pos (.inl (by simpa using h))]
theorem s3_2 {a b c : Rat} (h : (cmpR b 0 == 0) = true) : s3 a b c = cmpR a 0 := by unfold s3; rw [if_pos (.inr (by simpa using h))]
theorem s3_n {a b c : Rat} (h : (cmpR a 0 == cmpR b 0) = false) (h2 : (cmpR b 0 == 0) = false) : s3 a b c = if cmpR a 0 = 0 then cmpR b 0 else if 0 < a * a - b * b * c then cmpR a 0 else cmpR b 0 := by
  unfold s3; rw [if_neg (fun e => e.elim (by simpa using h) (by simpa using h2))]
theorem r_gt {x : Rat} (h : decide (cmpR x 0 > 0) = true) : 0 < x := cmpR_gt0.1 (by simpa using h)
theorem r_ngt {x : Rat} (h : decide (cmpR x 0 > 0) = false) : ¬ 0 < x := fun e => by have := cmpR_gt0.2 e; simp at h; omega
theorem i_eq {s t : Int} (h : (s == t) = true) : s = t := by simpa using h
theorem i_ne {s t : Int} (h : (s == t) = false) : s ≠ t := by simpa using h
theorem fit_eq {b c e f : Rat} (hf : ¬ bad b c e f) (h1 : b ≠ 0) (h2 : e ≠ 0) : (cmpR c f == 0) = true := by
  rw [r_eqb']
  exact Classical.byContradiction fun h => hf ⟨h1, h2, h⟩
where
  r_eqb' {x y : Rat} : ((cmpR x y == 0) = true) = (x = y) := by rw [beq_iff_eq]; exact propext cmpR_eq0
end Go.Proofs.YthpalcfhhicmgaaGreat
