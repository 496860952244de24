/- Plain: positions in one direction, the greatest step between them. -/
import Derived.Test.YtonjlikaacengaaGreatZaJ
namespace Go.Proofs.YtonjlikaacengaaGreat
open Go Go.RowKit
/-- The step to position j. -/
def stp (us : List CellD) (j : Nat) : Int := max (max (max (ci us (j * 2) - ci us ((j - 1) * 2)) (ci us ((j - 1) * 2) - ci us (j * 2))) (ci us (j * 2 + 1) - ci us ((j - 1) * 2 + 1))) (ci us ((j - 1) * 2 + 1) - ci us (j * 2 + 1))
def dk (us : List CellD) (j : Nat) : Bool := dok (ci us ((j - 1) * 2)) (ci us ((j - 1) * 2 + 1)) (ci us (j * 2)) (ci us (j * 2 + 1))
def dX (us : List CellD) (j : Nat) : Int := dsg (ci us ((j - 1) * 2)) (ci us (j * 2))
def dY (us : List CellD) (j : Nat) : Int := dsg (ci us ((j - 1) * 2 + 1)) (ci us (j * 2 + 1))
/-- Position j stands against it. -/
def eg (us : List CellD) (a : Int) (j : Nat) : Bool := (far (ci us (j * 2)) || far (ci us (j * 2 + 1))) || (decide (j ≠ 0) && (!dk us j || (!(dX us j == dX us 1 && dY us j == dY us 1) || decide (stp us j > a))))
def gmx (us : List CellD) : Nat → Int
  | 0 => 0
  | j + 1 => if j = 0 then 0 else max (gmx us j) (stp us j)
theorem gmx_0 {us : List CellD} {j : Nat} (h : j = 0) : gmx us j = gmx us (j + 1) := by subst h; rfl
theorem gmx_s {us : List CellD} {j : Nat} (h : j ≠ 0) : max (gmx us j) (stp us j) = gmx us (j + 1) := by
  show _ = if j = 0 then 0 else _
  rw [if_neg h]
def engB (us : List CellD) (n : Nat) (a t : Int) (c : Rat) : Bool := (List.range n).all (fun i => !eg us a i) && alw a t (gmx us n) c
theorem engB_f {us : List CellD} {n j : Nat} {a t : Int} {c : Rat} (hj : j < n) (h : eg us a j = true) : engB us n a t c = false := by
  unfold engB
  rw [show (List.range n).all (fun i => !eg us a i) = false from ?_, Bool.false_and]
  rw [List.all_eq_false]
  exact ⟨j, List.mem_range.2 hj, by rw [h]; decide⟩
theorem engB_t {us : List CellD} {n : Nat} {a t : Int} {c : Rat} (h : ∀ i, i < n → eg us a i = false) : engB us n a t c = alw a t (gmx us n) c := by
  unfold engB
  rw [show (List.range n).all (fun i => !eg us a i) = true from ?_, Bool.true_and]
  rw [List.all_eq_true]
  intro i hi
  rw [h i (List.mem_range.1 hi)]; rfl
section
variable {us : List CellD} {a : Int} {j : Nat}
theorem eg_1 (h : (!(!(far (ci us (j * 2)) || far (ci us (j * 2 + 1))))) = true) : eg us a j = true := by
  rw [Bool.not_not] at h
  unfold eg; rw [h, Bool.true_or]
theorem fr_1 (h : (!(!(far (ci us (j * 2)) || far (ci us (j * 2 + 1))))) = false) : far (ci us (j * 2)) = false ∧ far (ci us (j * 2 + 1)) = false := by
  rw [Bool.not_not, Bool.or_eq_false_iff] at h
  exact h
theorem eg_0 (h : far (ci us (j * 2)) = false ∧ far (ci us (j * 2 + 1)) = false) (h0 : j = 0) : eg us a j = false := by
  unfold eg; rw [h.1, h.2, decide_eq_false (show ¬ j ≠ 0 from fun g => g h0)]; rfl
theorem eg_2 (h0 : j ≠ 0) (h : (!dk us j) = true) : eg us a j = true := by
  unfold eg; rw [h, decide_eq_true h0]; simp
theorem eg_3 (h0 : j ≠ 0) (h : (!(dX us j == dX us 1 && dY us j == dY us 1)) = true) : eg us a j = true := by
  unfold eg; rw [h, decide_eq_true h0]; simp
theorem eg_4 (h0 : j ≠ 0) (h : decide (stp us j > a) = true) : eg us a j = true := by
  unfold eg; rw [h, decide_eq_true h0]; simp
theorem eg_5 (g : far (ci us (j * 2)) = false ∧ far (ci us (j * 2 + 1)) = false) (h2 : (!dk us j) = false) (h3 : (!(dX us j == dX us 1 && dY us j == dY us 1)) = false) (h4 : decide (stp us j > a) = false) : eg us a j = false := by
  unfold eg; rw [g.1, g.2, h2, h3, h4]; simp
theorem eg_far (h : eg us a j = false) : (-10000000 ≤ ci us (j * 2) ∧ ci us (j * 2) ≤ 10000000) ∧ (-10000000 ≤ ci us (j * 2 + 1) ∧ ci us (j * 2 + 1) ≤ 10000000) := by
  unfold eg at h
  rw [Bool.or_eq_false_iff, Bool.or_eq_false_iff] at h
  exact ⟨far_n h.1.1, far_n h.1.2⟩
theorem eg_dk (h0 : j ≠ 0) (h : eg us a j = false) : dk us j = true ∧ dX us j = dX us 1 ∧ dY us j = dY us 1 ∧ stp us j ≤ a := by
  unfold eg at h
  rw [decide_eq_true h0] at h
  simp only [Bool.or_eq_false_iff, Bool.true_and, Bool.not_eq_false', Bool.and_eq_true, decide_eq_false_iff_not, beq_iff_eq] at h
  exact ⟨h.2.1, h.2.2.1.1, h.2.2.1.2, by omega⟩
theorem stp_pos (h : dk us j = true) : 1 ≤ stp us j := by
  obtain ⟨L, dx, dy, hL, hd, e1, e2⟩ := dir_of h
  unfold stp
  rcases hd with ⟨rfl, rfl⟩ | ⟨rfl, rfl⟩ | ⟨rfl, rfl⟩ | ⟨rfl, rfl⟩ <;> omega
theorem gmx_le (ha : 0 ≤ a) : ∀ n, (∀ i, i < n → eg us a i = false) → 0 ≤ gmx us n ∧ gmx us n ≤ a
  | 0, _ => ⟨Int.le_refl _, ha⟩
  | n + 1, h => by
    have ih := gmx_le ha n (fun i hi => h i (by omega))
    by_cases h0 : n = 0
    · rw [← gmx_0 h0]; exact ih
    · rw [← gmx_s h0]
      have h1 := (eg_dk h0 (h n (by omega))).2.2.2
      omega
theorem gmx_ge {n : Nat} (hn : 2 ≤ n) (h : ∀ i, i < n → eg us a i = false) : 1 ≤ gmx us n := by
  match n, hn with
  | n + 2, _ =>
    rw [← gmx_s (show n + 1 ≠ 0 by omega)]
    have h1 := stp_pos (eg_dk (show n + 1 ≠ 0 by omega) (h (n + 1) (by omega))).1
    omega
end
end Go.Proofs.YtonjlikaacengaaGreat
/- Plain: each step of its own, and the greatest; the reference's search for the greatest step. -/
namespace Go.Proofs.YtonjlikaacengaaGreat
open Go Go.RowKit
theorem cq_ref {a t s : Int} : ((((a + t : Int)) : Rat) * (((a + t : Int)) : Rat) - (((a + s : Int)) : Rat) * (((a + s : Int)) : Rat) - ((t : Int) : Rat) * ((t : Int) : Rat)) / ((((2 : Int) : Rat) * (((a + s : Int)) : Rat)) * ((t : Int) : Rat)) = cq a t s := by
  rw [Rat.mul_assoc]; rfl
theorem cosB_u {c : Rat} (h : decide (cmpR c ((-1 : Int) : Rat) ≥ 0) = true) : cosB c = decide (cmpR c ((1 : Int) : Rat) ≤ 0) := by
  have h1 : ((-1 : Int) : Rat) ≤ c := cmpR_ge.1 (of_decide_eq_true h)
  unfold cosB
  rw [decide_eq_true (show -1 ≤ c from h1), Bool.and_true]
  apply decide_eq_decide.2
  rw [cmpR_le]
  exact Iff.rfl
theorem cosB_v {c : Rat} (h : decide (cmpR c ((-1 : Int) : Rat) ≥ 0) = false) : cosB c = false := by
  have h1 : ¬ ((-1 : Int) : Rat) ≤ c := mt cmpR_ge.2 (of_decide_eq_false h)
  unfold cosB
  rw [decide_eq_false (show ¬ -1 ≤ c from h1), Bool.and_false]
theorem alw_u {a t s : Int} {c : Rat} (h : decide (cmpR (cq a t s) 0 ≥ 0) = true) : alw a t s c = decide (cmpR (((2 : Int) : Rat) * (cq a t s * cq a t s) - ((1 : Int) : Rat)) c ≥ 0) := by
  rw [alw_t h]
  rw [show ((2 : Int) : Rat) * (cq a t s * cq a t s) = cq a t s * cq a t s + cq a t s * cq a t s from by show (2 : Rat) * _ = _; grind]
/-- What the reference takes as the step: the sum of both differences. -/
def stq (us : List CellD) (j : Nat) : Int := max (ci us (j * 2) - ci us ((j - 1) * 2)) (ci us ((j - 1) * 2) - ci us (j * 2)) + max (ci us (j * 2 + 1) - ci us ((j - 1) * 2 + 1)) (ci us ((j - 1) * 2 + 1) - ci us (j * 2 + 1))
theorem ar_mul_sg {u x : Int} (h0 : -20000000 ≤ x - u) (h1 : x - u ≤ 20000000) : iari .mul .i64 (x - u) (dsg u x) = some (max (x - u) (u - x)) := by
  have e : (x - u) * dsg u x = max (x - u) (u - x) := by
    unfold dsg
    split
    · omega
    · split <;> omega
  rw [← e]
  exact congrArg some (nw64 (by rw [e]; omega) (by rw [e]; omega))
theorem stq_eq {us : List CellD} {j : Nat} (h : dk us j = true) : stq us j = stp us j ∧ 1 ≤ stq us j := by
  obtain ⟨L, dx, dy, hL, hd, e1, e2⟩ := dir_of h
  unfold stp stq
  rcases hd with ⟨rfl, rfl⟩ | ⟨rfl, rfl⟩ | ⟨rfl, rfl⟩ | ⟨rfl, rfl⟩ <;> omega
section
variable {us : List CellD} {a t : Int} {c : Rat} {n j : Nat}
theorem outb_0 {x y : Int} : outb x y 0 = (far x || far y) := by
  cases h : outb x y 0 with
  | false =>
    have := (outb_iff _ _ _).1 h
    rw [far_i (by omega) (by omega), far_i (by omega) (by omega)]; rfl
  | true =>
    cases h1 : far x with
    | true => rfl
    | false =>
    cases h2 : far y with
    | true => rfl
    | false =>
      have g1 := far_n h1
      have g2 := far_n h2
      have : outb x y 0 = false := by rw [outb_iff]; omega
      rw [this] at h; cases h
theorem eg_o (h : outb (ci us (j * 2)) (ci us (j * 2 + 1)) 0 = true) : eg us a j = true := by
  rw [outb_0] at h
  unfold eg; rw [h, Bool.true_or]
theorem stp_le : ∀ n, (∀ i, i < n → eg us a i = false) → ∀ j, j < n → j ≠ 0 → stp us j ≤ gmx us n
  | 0, _, j, hj, _ => by omega
  | n + 1, h, j, hj, h0 => by
    by_cases hn : n = 0
    · omega
    · rw [← gmx_s hn]
      rcases Nat.lt_or_ge j n with h1 | h1
      · have := stp_le n (fun i hi => h i (by omega)) j h1 h0
        omega
      · obtain rfl : j = n := by omega
        omega
theorem engB_g (ha : 1 ≤ a) (ht : 1 ≤ t) (hj : j < n) (h0 : j ≠ 0) (h : alw a t (stp us j) c = false) : engB us n a t c = false := by
  cases he : engB us n a t c with
  | false => rfl
  | true =>
    have hall : ∀ i, i < n → eg us a i = false := by
      intro i hi
      cases hh : eg us a i with
      | false => rfl
      | true => rw [engB_f hi hh] at he; cases he
    rw [engB_t hall] at he
    have h1 := eg_dk h0 (hall j hj)
    have h2 := stp_pos h1.1
    have h3 := alw_mono ha ht (by omega) (stp_le n hall j hj h0) he
    rw [h3] at h; cases h
theorem engB_all (hn : 2 ≤ n) (h1 : ∀ i, i < n → eg us a i = false) (h2 : ∀ i, 1 ≤ i → i < n → alw a t (stp us i) c = true) : engB us n a t c = true := by
  rw [engB_t h1]
  have key : ∀ m, 2 ≤ m → m ≤ n → alw a t (gmx us m) c = true := by
    intro m
    induction m with
    | zero => intro h; omega
    | succ m ih =>
      intro hm hmn
      rw [← gmx_s (show m ≠ 0 by omega)]
      by_cases h3 : m = 1
      · subst h3
        have h4 := stp_pos (eg_dk (show 1 ≠ 0 by decide) (h1 1 (by omega))).1
        have e : max (gmx us 1) (stp us 1) = stp us 1 := by
          show max 0 (stp us 1) = _
          omega
        rw [e]; exact h2 1 (by omega) (by omega)
      · have h4 := ih (by omega) (by omega)
        have h5 := h2 m (by omega) (by omega)
        rcases Int.le_total (gmx us m) (stp us m) with h6 | h6
        · rw [Int.max_eq_right h6]; exact h5
        · rw [Int.max_eq_left h6]; exact h4
  exact key n hn (Nat.le_refl _)
theorem eg_6 (h0 : j ≠ 0) (h : decide (stq us j > a) = true) (hd : dk us j = true) : eg us a j = true := by
  rw [(stq_eq hd).1] at h
  exact eg_4 h0 h
end
end Go.Proofs.YtonjlikaacengaaGreat
/- Engaged: the reference. -/
namespace Go.Proofs.YtonjlikaacengaaGreat
open Go Go.RowKit
theorem rNum_ok {n : Int} (h0 : -9223372036854775808 ≤ n) (h1 : n ≤ 9223372036854775807) : Ok Tryz.prog 54 [.c (.i .i64 n)] [dR (((n : Int) : Rat))] := by
  refine Ok.of (by kernel_rfl) Tryz.func54 rfl rfl ?_
  rw [show Tryz.f54.ntmps = 5 from rfl, show Tryz.f54.results.toList = [.cell 2 28] from rfl]
  refine dw_seq ?_
  -- region 0
  refine dw_region (by kernel_rfl) ?_
  refine dl_new (sem_alloc zc28 rfl) rfl ?_
  refine dl_end ?_
  refine dw_seq ?_
  -- region 1
  refine dw_region (by kernel_rfl) ?_
  refine dl_r (sem_move rfl rfl) ?_
  refine dl_r (sem_call rfl rfl (sFrom_ok (by omega) (by omega)) rfl) ?_
  refine dl_st (sem_store_a ty28 rfl rfl rfl rfl rfl rfl) ?_
  refine dl_end ?_
  refine dw_ret ?_
  -- path 
  exact ⟨.inr rfl, (resL_cell (us := cR (((n : Int) : Rat))) ty28 rfl rfl rfl rfl resL_nil)⟩
theorem sSquare_ok {x : Rat} (hx : Rz 300 x) : Ok Tryz.prog 22 [dR x] [dR (x * x)] := by
  refine Ok.of (by kernel_rfl) Tryz.func22 rfl rfl ?_
  rw [show Tryz.f22.ntmps = 6 from rfl, show Tryz.f22.results.toList = [.cell 2 28] from rfl]
  refine dw_seq ?_
  -- region 0
  refine dw_region (by kernel_rfl) ?_
  refine dl_new (sem_box_a rfl rfl) rfl ?_
  refine dl_new (sem_alloc zc28 rfl) rfl ?_
  refine dl_end ?_
  refine dw_seq ?_
  -- region 1
  refine dw_region (by kernel_rfl) ?_
  refine dl_r (sem_load (us := cR x) ty28 rfl rfl rfl rfl rfl) ?_
  refine dl_r (sem_load (us := cR x) ty28 rfl rfl rfl rfl rfl) ?_
  refine dl_r (sem_call rfl rfl (sMul_ok (by first | assumption | exact Rz.mono hx (by decide)) (by first | assumption | exact Rz.mono hx (by decide))) rfl) ?_
  refine dl_st (sem_store_a ty28 rfl rfl rfl rfl rfl rfl) ?_
  refine dl_end ?_
  refine dw_ret ?_
  -- path 
  exact ⟨.inr rfl, (resL_cell (us := cR (x * x)) ty28 rfl rfl rfl rfl resL_nil)⟩
theorem sOver_ok {x y : Rat} (hx : Rz 300 x) (hy : Rz 300 y) (h0 : y ≠ 0) : Ok Tryz.prog 99 [dR x, dR y] [dR (x / y)] := by
  refine Ok.of (by kernel_rfl) Tryz.func99 rfl rfl ?_
  rw [show Tryz.f99.ntmps = 14 from rfl, show Tryz.f99.results.toList = [.cell 4 28] from rfl]
  refine dw_seq ?_
  -- region 0
  refine dw_region (by kernel_rfl) ?_
  refine dl_new (sem_box_a rfl rfl) rfl ?_
  refine dl_new (sem_box_a rfl rfl) rfl ?_
  refine dl_new (sem_alloc zc28 rfl) rfl ?_
  refine dl_end ?_
  refine dw_seq ?_
  -- region 1
  refine dw_region (by kernel_rfl) ?_
  refine dl_r (sem_load (us := cR x) ty28 rfl rfl rfl rfl rfl) ?_
  refine dl_r (sem_load (us := cR y) ty28 rfl rfl rfl rfl rfl) ?_
  refine dl_r (sem_call rfl rfl (sDiv_ok (by first | assumption | exact Rz.mono hx (by decide)) (by first | assumption | exact Rz.mono hy (by decide)) h0) rfl) ?_
  refine dl_r (sem_move rfl rfl) ?_
  refine dl_r (sem_extract rfl rfl rfl) ?_
  refine dl_r (sem_extract rfl rfl rfl) ?_
  refine dl_new (sem_alloc zc28 rfl) rfl ?_
  refine dl_st (sem_store_a ty28 rfl rfl rfl rfl rfl rfl) ?_
  refine dl_r (sem_assign rfl rfl) ?_
  refine dl_end ?_
  refine dw_seq ?_
  -- region 2
  refine dw_region (by kernel_rfl) ?_
  refine dl_r (sem_load (us := cR (x / y)) ty28 rfl rfl rfl rfl rfl) ?_
  refine dl_st (sem_store_a ty28 rfl rfl rfl rfl rfl rfl) ?_
  refine dl_end ?_
  refine dw_ret ?_
  -- path 
  exact ⟨.inr rfl, (resL_cell (us := cR (x / y)) ty28 rfl rfl rfl rfl resL_nil)⟩
theorem rSz_t {a t : Int} (ha : 1 ≤ a) (hat : a ≤ t) (ht2 : t ≤ 10000000) : Ok Tryz.prog 33 [.c (.i .i64 a), .c (.i .i64 t)] [.c (.b true)] := by
  refine Ok.of (by kernel_rfl) Tryz.func33 rfl rfl ?_
  rw [show Tryz.f33.ntmps = 16 from rfl, show Tryz.f33.results.toList = [.tmp 4] from rfl]
  refine dw_seq ?_
  -- region 0
  refine dw_region (by kernel_rfl) ?_
  refine dl_r (sem_assign rfl rfl) ?_
  refine dl_end ?_
  refine dw_seq ?_
  -- region 1
  refine dw_region (by kernel_rfl) ?_
  refine dl_r (sem_move rfl rfl) ?_
  refine dl_r (sem_castb (c := true) (sem_cmp rfl rfl rfl rfl) (decide_eq_true (by omega))) ?_
  refine dl_r (sem_move rfl rfl) ?_
  refine dl_r (sem_move rfl rfl) ?_
  refine dl_r (sem_move rfl rfl) ?_
  refine dl_r (sem_castb (c := true) (sem_cmp rfl rfl rfl rfl) (decide_eq_true (by omega))) ?_
  refine dl_r (sem_pick rfl rfl rfl rfl) ?_
  refine dl_r (sem_move rfl rfl) ?_
  refine dl_r (sem_move rfl rfl) ?_
  refine dl_r (sem_castb (c := true) (sem_cmp rfl rfl rfl rfl) (decide_eq_true (by omega))) ?_
  refine dl_r (sem_pick rfl rfl rfl rfl) ?_
  refine dl_r (sem_assign rfl rfl) ?_
  refine dl_end ?_
  refine dw_ret ?_
  -- path 
  exact ⟨.inr rfl, (resL_tmp rfl resL_nil)⟩
theorem rSz_f {a t : Int} (hA : a < 1 ∨ a > t ∨ t > 10000000) : Ok Tryz.prog 33 [.c (.i .i64 a), .c (.i .i64 t)] [.c (.b false)] := by
  refine Ok.of (by kernel_rfl) Tryz.func33 rfl rfl ?_
  rw [show Tryz.f33.ntmps = 16 from rfl, show Tryz.f33.results.toList = [.tmp 4] from rfl]
  refine dw_seq ?_
  -- region 0
  refine dw_region (by kernel_rfl) ?_
  refine dl_r (sem_assign rfl rfl) ?_
  refine dl_end ?_
  refine dw_seq ?_
  -- region 1
  refine dw_region (by kernel_rfl) ?_
  refine dl_r (sem_move rfl rfl) ?_
  refine dl_r (sem_cmp rfl rfl rfl rfl) ?_
  refine dl_rb (sem_move rfl rfl) (fun c1 hb1 => ?_)
  cases c1
  · refine dl_skip (sem_skip rfl) ?_
    refine dl_skip (sem_skip rfl) ?_
    refine dl_skip (sem_skip rfl) ?_
    refine dl_r (sem_pick rfl rfl rfl rfl) ?_
    refine dl_r (sem_move rfl rfl) ?_
    refine dl_skip (sem_skip rfl) ?_
    refine dl_skip (sem_skip rfl) ?_
    refine dl_r (sem_pick rfl rfl rfl rfl) ?_
    refine dl_r (sem_assign rfl rfl) ?_
    refine dl_end ?_
    refine dw_ret ?_
    -- path f
    exact ⟨.inr rfl, (resL_tmp rfl resL_nil)⟩
  · refine dl_r (sem_move rfl rfl) ?_
    refine dl_r (sem_move rfl rfl) ?_
    refine dl_r (sem_cmp rfl rfl rfl rfl) ?_
    refine dl_r (sem_pick rfl rfl rfl rfl) ?_
    refine dl_rb (sem_move rfl rfl) (fun c2 hb2 => ?_)
    cases c2
    · refine dl_skip (sem_skip rfl) ?_
      refine dl_skip (sem_skip rfl) ?_
      refine dl_r (sem_pick rfl rfl rfl rfl) ?_
      refine dl_r (sem_assign rfl rfl) ?_
      refine dl_end ?_
      refine dw_ret ?_
      -- path tf
      exact ⟨.inr rfl, (resL_tmp rfl resL_nil)⟩
    · refine dl_r (sem_move rfl rfl) ?_
      refine dl_r (sem_cmp rfl rfl rfl rfl) ?_
      refine dl_r (sem_pick rfl rfl rfl rfl) ?_
      refine dl_r (sem_assign rfl rfl) ?_
      refine dl_end ?_
      refine dw_ret ?_
      -- path tt
      have g1 := of_decide_eq_true hb1
      have g2 := of_decide_eq_true hb2
      rw [show false = decide (t ≤ 10000000) from (decide_eq_false (by omega)).symm]
      exact ⟨.inr rfl, (resL_tmp rfl resL_nil)⟩
theorem rCos_ok {x : Rat} (hx : Rz 300 x) : Ok Tryz.prog 34 [dR x] [.c (.b (cosB x))] := by
  refine Ok.of (by kernel_rfl) Tryz.func34 rfl rfl ?_
  rw [show Tryz.f34.ntmps = 13 from rfl, show Tryz.f34.results.toList = [.tmp 2] from rfl]
  refine dw_seq ?_
  -- region 0
  refine dw_region (by kernel_rfl) ?_
  refine dl_new (sem_box_a rfl rfl) rfl ?_
  refine dl_r (sem_assign rfl rfl) ?_
  refine dl_end ?_
  refine dw_seq ?_
  -- region 1
  refine dw_draw 11 [] follows_mixed (by kernel_rfl) rfl rfl ?_
  refine dq_r (sem_load (us := cR x) ty28 rfl rfl rfl rfl rfl) ?_
  refine dq_r (sem_call rfl rfl (rNum_ok (by omega) (by omega)) rfl) ?_
  refine dq_r (sem_call rfl rfl (sCmp_ok (by first | assumption | exact Rz.mono hx (by decide)) (by first | assumption | exact Rz.mono (Rz.int (Sz.neg (Sz.small (k := 3) (by decide) (by decide) (by decide))) (by decide)) (by decide))) rfl) ?_
  refine dq_r (sem_cmp rfl rfl rfl rfl) ?_
  refine dq_rb (sem_move rfl rfl) (fun c1 hb1 => ?_)
  cases c1
  · refine dq_skip (sem_skip rfl) ?_
    refine dq_skip (sem_skip rfl) ?_
    refine dq_skip (sem_skip rfl) ?_
    refine dq_skip (sem_skip rfl) ?_
    refine dq_r (sem_pick rfl rfl rfl rfl) ?_
    refine dq_r (sem_assign rfl rfl) ?_
    refine dq_end ?_
    refine dl_start0 ?_
    refine dl_end ?_
    refine dw_ret ?_
    -- path f
    rw [cosB_v hb1]
    exact ⟨.inr rfl, (resL_tmp rfl resL_nil)⟩
  · refine dq_r (sem_load (us := cR x) ty28 rfl rfl rfl rfl rfl) ?_
    refine dq_r (sem_call rfl rfl (rNum_ok (by omega) (by omega)) rfl) ?_
    refine dq_r (sem_call rfl rfl (sCmp_ok (by first | assumption | exact Rz.mono hx (by decide)) (by first | assumption | exact Rz.mono (Rz.int (Sz.small (k := 3) (by decide) (by decide) (by decide)) (by decide)) (by decide))) rfl) ?_
    refine dq_r (sem_cmp rfl rfl rfl rfl) ?_
    refine dq_r (sem_pick rfl rfl rfl rfl) ?_
    refine dq_r (sem_assign rfl rfl) ?_
    refine dq_end ?_
    refine dl_start0 ?_
    refine dl_end ?_
    refine dw_ret ?_
    -- path t
    rw [cosB_u hb1]
    exact ⟨.inr rfl, (resL_tmp rfl resL_nil)⟩
theorem rCosine_ok {a t s : Int} (ha : 1 ≤ a) (ha2 : a ≤ 10000000) (ht : 1 ≤ t) (ht2 : t ≤ 10000000) (hs : 1 ≤ s) (hs2 : s ≤ 10000001) : Ok Tryz.prog 72 [.c (.i .i64 a), .c (.i .i64 t), .c (.i .i64 s)] [dR (cq a t s)] := by
  have hza : Sz 3 a := Sz.small (by decide) (by omega) (by omega)
  have hzt : Sz 3 t := Sz.small (by decide) (by omega) (by omega)
  have hzs : Sz 3 s := Sz.small (by decide) (by omega) (by omega)
  have h0 : (((2 : Int) : Rat) * ((a + s : Int) : Rat)) * ((t : Int) : Rat) ≠ 0 := by
    have h8 : (0 : Rat) < ((2 : Int) : Rat) * ((((a + s : Int)) : Rat) * ((t : Int) : Rat)) := Rat.mul_pos (by decide) (et_pos ha ht (by omega))
    rw [Rat.mul_assoc]
    grind
  refine Ok.of (by kernel_rfl) Tryz.func72 rfl rfl ?_
  rw [show Tryz.f72.ntmps = 35 from rfl, show Tryz.f72.results.toList = [.cell 6 28] from rfl]
  refine dw_seq ?_
  -- region 0
  refine dw_region (by kernel_rfl) ?_
  refine dl_new (sem_alloc zc28 rfl) rfl ?_
  refine dl_end ?_
  refine dw_seq ?_
  -- region 1
  refine dw_region (by kernel_rfl) ?_
  refine dl_r (sem_move rfl rfl) ?_
  refine dl_r (sem_move rfl rfl) ?_
  refine dl_r (sem_ari (r := a + t) rfl rfl (ari_i64_add (by omega) (by omega)) rfl) ?_
  refine dl_r (sem_call rfl rfl (rNum_ok (by omega) (by omega)) rfl) ?_
  refine dl_r (sem_call rfl rfl (sSquare_ok (by first | assumption | exact Rz.mono (Rz.int (Sz.addm hza hzt) (by decide)) (by decide))) rfl) ?_
  refine dl_r (sem_move rfl rfl) ?_
  refine dl_r (sem_move rfl rfl) ?_
  refine dl_r (sem_ari (r := a + s) rfl rfl (ari_i64_add (by omega) (by omega)) rfl) ?_
  refine dl_r (sem_call rfl rfl (rNum_ok (by omega) (by omega)) rfl) ?_
  refine dl_new (sem_alloc zc28 rfl) rfl ?_
  refine dl_new (sem_alloc zc28 rfl) rfl ?_
  refine dl_st (sem_store_a ty28 rfl rfl rfl rfl rfl rfl) ?_
  refine dl_st (sem_store_a ty28 rfl rfl rfl rfl rfl rfl) ?_
  refine dl_end ?_
  refine dw_seq ?_
  -- region 2
  refine dw_draw 9 [] follows_mixed (by kernel_rfl) rfl rfl ?_
  refine dq_r (sem_load (us := cR ((((a + t : Int) : Rat)) * (((a + t : Int) : Rat)))) ty28 rfl rfl rfl rfl rfl) ?_
  refine dq_r (sem_load (us := cR (((a + s : Int) : Rat))) ty28 rfl rfl rfl rfl rfl) ?_
  refine dq_r (sem_call rfl rfl (sSquare_ok (by first | assumption | exact Rz.mono (Rz.int (Sz.addm hza hzs) (by decide)) (by decide))) rfl) ?_
  refine dq_r (sem_call rfl rfl (sSub_ok (by first | assumption | exact Rz.mono (Rz.mul (Rz.int (Sz.addm hza hzt) (by decide)) (Rz.int (Sz.addm hza hzt) (by decide))) (by decide)) (by first | assumption | exact Rz.mono (Rz.mul (Rz.int (Sz.addm hza hzs) (by decide)) (Rz.int (Sz.addm hza hzs) (by decide))) (by decide))) rfl) ?_
  refine dq_r (sem_move rfl rfl) ?_
  refine dq_r (sem_call rfl rfl (rNum_ok (by omega) (by omega)) rfl) ?_
  refine dq_r (sem_call rfl rfl (sSquare_ok (by first | assumption | exact Rz.mono (Rz.int hzt (by decide)) (by decide))) rfl) ?_
  refine dq_r (sem_call rfl rfl (sSub_ok (by first | assumption | exact Rz.mono (Rz.sub (Rz.mul (Rz.int (Sz.addm hza hzt) (by decide)) (Rz.int (Sz.addm hza hzt) (by decide))) (Rz.mul (Rz.int (Sz.addm hza hzs) (by decide)) (Rz.int (Sz.addm hza hzs) (by decide)))) (by decide)) (by first | assumption | exact Rz.mono (Rz.mul (Rz.int hzt (by decide)) (Rz.int hzt (by decide))) (by decide))) rfl) ?_
  refine dq_new (sem_alloc zc28 rfl) rfl ?_
  refine dq_end ?_
  refine dl_start1 ?_
  refine dl_st (sem_store_a ty28 rfl rfl rfl rfl rfl rfl) ?_
  refine dl_end ?_
  refine dw_seq ?_
  -- region 3
  refine dw_draw 8 [] follows_mixed (by kernel_rfl) rfl rfl ?_
  refine dq_r (sem_load (us := cR ((((((a + t : Int) : Rat)) * (((a + t : Int) : Rat))) - ((((a + s : Int) : Rat)) * (((a + s : Int) : Rat)))) - ((((t : Int) : Rat)) * (((t : Int) : Rat))))) ty28 rfl rfl rfl rfl rfl) ?_
  refine dq_r (sem_call rfl rfl (rNum_ok (by omega) (by omega)) rfl) ?_
  refine dq_r (sem_load (us := cR (((a + s : Int) : Rat))) ty28 rfl rfl rfl rfl rfl) ?_
  refine dq_r (sem_call rfl rfl (sMul_ok (by first | assumption | exact Rz.mono (Rz.int (Sz.small (k := 3) (by decide) (by decide) (by decide)) (by decide)) (by decide)) (by first | assumption | exact Rz.mono (Rz.int (Sz.addm hza hzs) (by decide)) (by decide))) rfl) ?_
  refine dq_r (sem_move rfl rfl) ?_
  refine dq_r (sem_call rfl rfl (rNum_ok (by omega) (by omega)) rfl) ?_
  refine dq_r (sem_call rfl rfl (sMul_ok (by first | assumption | exact Rz.mono (Rz.mul (Rz.int (Sz.small (k := 3) (by decide) (by decide) (by decide)) (by decide)) (Rz.int (Sz.addm hza hzs) (by decide))) (by decide)) (by first | assumption | exact Rz.mono (Rz.int hzt (by decide)) (by decide))) rfl) ?_
  refine dq_r (sem_call rfl rfl (rcast1 (sOver_ok (by first | assumption | exact Rz.mono (Rz.sub (Rz.sub (Rz.mul (Rz.int (Sz.addm hza hzt) (by decide)) (Rz.int (Sz.addm hza hzt) (by decide))) (Rz.mul (Rz.int (Sz.addm hza hzs) (by decide)) (Rz.int (Sz.addm hza hzs) (by decide)))) (Rz.mul (Rz.int hzt (by decide)) (Rz.int hzt (by decide)))) (by decide)) (by first | assumption | exact Rz.mono (Rz.mul (Rz.mul (Rz.int (Sz.small (k := 3) (by decide) (by decide) (by decide)) (by decide)) (Rz.int (Sz.addm hza hzs) (by decide))) (Rz.int hzt (by decide))) (by decide)) h0) cq_ref) rfl) ?_
  refine dq_end ?_
  refine dl_start0 ?_
  refine dl_st (sem_store_a ty28 rfl rfl rfl rfl rfl rfl) ?_
  refine dl_end ?_
  refine dw_ret ?_
  -- path 
  exact ⟨.inr rfl, (resL_cell (us := cR (cq a t s)) ty28 rfl rfl rfl rfl resL_nil)⟩
theorem rPair_ok {a t s : Int} (ha : 1 ≤ a) (ha2 : a ≤ 10000000) (ht : 1 ≤ t) (ht2 : t ≤ 10000000) (hs : 1 ≤ s) (hs2 : s ≤ 10000001) {c : Rat} (hc : Rz 20 c) : Ok Tryz.prog 36 [.c (.i .i64 a), .c (.i .i64 t), .c (.i .i64 s), dR c] [.c (.b (alw a t s c))] := by
  have hz := cq_sz ha ht hs ha2 ht2 hs2
  refine Ok.of (by kernel_rfl) Tryz.func36 rfl rfl ?_
  rw [show Tryz.f36.ntmps = 30 from rfl, show Tryz.f36.results.toList = [.tmp 8] from rfl]
  refine dw_seq ?_
  -- region 0
  refine dw_region (by kernel_rfl) ?_
  refine dl_new (sem_box_a rfl rfl) rfl ?_
  refine dl_r (sem_assign rfl rfl) ?_
  refine dl_end ?_
  refine dw_seq ?_
  -- region 1
  refine dw_region (by kernel_rfl) ?_
  refine dl_r (sem_move rfl rfl) ?_
  refine dl_r (sem_move rfl rfl) ?_
  refine dl_r (sem_move rfl rfl) ?_
  refine dl_r (sem_call rfl rfl (rCosine_ok ha ha2 ht ht2 hs hs2) rfl) ?_
  refine dl_new (sem_alloc zc28 rfl) rfl ?_
  refine dl_st (sem_store_a ty28 rfl rfl rfl rfl rfl rfl) ?_
  refine dl_end ?_
  refine dw_seq ?_
  -- region 2
  refine dw_draw 7 [] follows_mixed (by kernel_rfl) rfl rfl ?_
  refine dq_r (sem_call rfl rfl (rNum_ok (by omega) (by omega)) rfl) ?_
  refine dq_r (sem_load (us := cR (cq a t s)) ty28 rfl rfl rfl rfl rfl) ?_
  refine dq_r (sem_call rfl rfl (sSquare_ok (by first | assumption | exact Rz.mono (by assumption) (by decide))) rfl) ?_
  refine dq_r (sem_call rfl rfl (sMul_ok (by first | assumption | exact Rz.mono (Rz.int (Sz.small (k := 3) (by decide) (by decide) (by decide)) (by decide)) (by decide)) (by first | assumption | exact Rz.mono (Rz.mul (by assumption) (by assumption)) (by decide))) rfl) ?_
  refine dq_r (sem_call rfl rfl (rNum_ok (by omega) (by omega)) rfl) ?_
  refine dq_r (sem_call rfl rfl (sSub_ok (by first | assumption | exact Rz.mono (Rz.mul (Rz.int (Sz.small (k := 3) (by decide) (by decide) (by decide)) (by decide)) (Rz.mul (by assumption) (by assumption))) (by decide)) (by first | assumption | exact Rz.mono (Rz.int (Sz.small (k := 3) (by decide) (by decide) (by decide)) (by decide)) (by decide))) rfl) ?_
  refine dq_new (sem_alloc zc28 rfl) rfl ?_
  refine dq_end ?_
  refine dl_start1 ?_
  refine dl_st (sem_store_a ty28 rfl rfl rfl rfl rfl rfl) ?_
  refine dl_end ?_
  refine dw_seq ?_
  -- region 3
  refine dw_region (by kernel_rfl) ?_
  refine dl_r (sem_load (us := cR (cq a t s)) ty28 rfl rfl rfl rfl rfl) ?_
  refine dl_r (sem_call rfl rfl (sSign_ok) rfl) ?_
  refine dl_r (sem_cmp rfl rfl rfl rfl) ?_
  refine dl_rb (sem_move rfl rfl) (fun c1 hb1 => ?_)
  cases c1
  · refine dl_skip (sem_skip rfl) ?_
    refine dl_skip (sem_skip rfl) ?_
    refine dl_skip (sem_skip rfl) ?_
    refine dl_skip (sem_skip rfl) ?_
    refine dl_r (sem_pick rfl rfl rfl rfl) ?_
    refine dl_r (sem_assign rfl rfl) ?_
    refine dl_end ?_
    refine dw_ret ?_
    -- path f
    rw [alw_f hb1]
    exact ⟨.inr rfl, (resL_tmp rfl resL_nil)⟩
  · refine dl_r (sem_load (us := cR (((((2 : Int) : Rat)) * ((cq a t s) * (cq a t s))) - (((1 : Int) : Rat)))) ty28 rfl rfl rfl rfl rfl) ?_
    refine dl_r (sem_load (us := cR c) ty28 rfl rfl rfl rfl rfl) ?_
    refine dl_r (sem_call rfl rfl (sCmp_ok (by first | assumption | exact Rz.mono (Rz.sub (Rz.mul (Rz.int (Sz.small (k := 3) (by decide) (by decide) (by decide)) (by decide)) (Rz.mul (by assumption) (by assumption))) (Rz.int (Sz.small (k := 3) (by decide) (by decide) (by decide)) (by decide))) (by decide)) (by first | assumption | exact Rz.mono hc (by decide))) rfl) ?_
    refine dl_r (sem_cmp rfl rfl rfl rfl) ?_
    refine dl_r (sem_pick rfl rfl rfl rfl) ?_
    refine dl_r (sem_assign rfl rfl) ?_
    refine dl_end ?_
    refine dw_ret ?_
    -- path t
    rw [alw_u hb1]
    exact ⟨.inr rfl, (resL_tmp rfl resL_nil)⟩
theorem rStep_ok {a t : Int} {c : Rat} (hc : Rz 20 c) (ha : 1 ≤ a) (ha2 : a ≤ 10000000) (ht : 1 ≤ t) (ht2 : t ≤ 10000000) {r : Int} (hr0 : 0 ≤ r) (hr1 : r ≤ a) (hφ : ∀ i : Int, 1 ≤ i → i ≤ a → alw a t i c = decide (i ≤ r)) : Ok Tryz.prog 38 [.c (.i .i64 a), .c (.i .i64 t), dR c] [.c (.i .i64 r)] := by
  refine Ok.of (by kernel_rfl) Tryz.func38 rfl rfl ?_
  rw [show Tryz.f38.ntmps = 28 from rfl, show Tryz.f38.results.toList = [.tmp 6] from rfl]
  refine dw_seq ?_
  -- region 0
  refine dw_region (by kernel_rfl) ?_
  refine dl_new (sem_box_a rfl rfl) rfl ?_
  refine dl_r (sem_assign rfl rfl) ?_
  refine dl_end ?_
  refine dw_seq ?_
  -- region 1
  refine dw_region (by kernel_rfl) ?_
  refine dl_r (sem_move rfl rfl) ?_
  refine dl_r (sem_assign rfl rfl) ?_
  refine dl_r (sem_assign rfl rfl) ?_
  refine dl_end ?_
  refine dw_seq ?_
  refine dw_block ?_
  refine dw_loop (ι := {p : Int × Int // 0 ≤ p.1 ∧ p.1 ≤ r ∧ r ≤ p.2 ∧ p.2 ≤ a}) (fun i => ⟨28, [(0, .v (.c (.i .i64 a))), (1, .v (.c (.i .i64 t))), (5, .p 5 0), (7, .v (.c (.i .i64 i.1.1))), (8, .v (.c (.i .i64 i.1.2)))], [(5, 28, cR c)]⟩) (fun i => (i.1.2 - i.1.1).toNat) ⟨(0, a), by show (0 : Int) ≤ 0; omega, hr0, hr1, by show a ≤ a; omega⟩ (sub_of ⟨rfl, rfl, rfl, rfl, rfl, trivial⟩ ⟨rfl, trivial⟩ rfl) ?_
  rintro ⟨⟨lo, hi⟩, g1, g2, g3, g4⟩
  replace g1 : 0 ≤ lo := g1
  replace g2 : lo ≤ r := g2
  replace g3 : r ≤ hi := g3
  replace g4 : hi ≤ a := g4
  show Dw _ _ ⟨28, [(0, .v (.c (.i .i64 a))), (1, .v (.c (.i .i64 t))), (5, .p 5 0), (7, .v (.c (.i .i64 lo))), (8, .v (.c (.i .i64 hi)))], [(5, 28, cR c)]⟩ _
  refine dw_seq ?_
  refine dw_seq ?_
  -- region 2
  refine dw_region (by kernel_rfl) ?_
  refine dl_r (sem_move rfl rfl) ?_
  refine dl_r (sem_move rfl rfl) ?_
  refine dl_r (sem_cmp rfl rfl rfl rfl) ?_
  refine dl_end ?_
  refine dw_cond rfl (fun hc1 => ?_) (fun hc1 => ?_)
  · have hlt : lo < hi := of_decide_eq_true hc1
    refine dw_skip ?_
    refine dw_block ?_
    refine dw_seq ?_
    -- region 3
    refine dw_region (by kernel_rfl) ?_
    refine dl_r (sem_move rfl rfl) ?_
    refine dl_r (sem_move rfl rfl) ?_
    refine dl_r (sem_ari (r := lo + hi) rfl rfl (ari_i64_add (by omega) (by omega)) rfl) ?_
    refine dl_r (sem_ari (r := (lo + hi) + 1) rfl rfl (ari_i64_add (by omega) (by omega)) rfl) ?_
    refine dl_r (sem_quo' (r := (lo + hi + 1) / 2) rfl rfl (by omega) (by rw [Int.tdiv_eq_ediv_of_nonneg (by omega)]; exact nw64 (by omega) (by omega)) rfl) ?_
    refine dl_r (sem_assign rfl rfl) ?_
    refine dl_end ?_
    refine dw_seq ?_
    -- region 4
    refine dw_region (by kernel_rfl) ?_
    refine dl_r (sem_move rfl rfl) ?_
    refine dl_r (sem_move rfl rfl) ?_
    refine dl_r (sem_move rfl rfl) ?_
    refine dl_r (sem_load (us := cR c) ty28 rfl rfl rfl rfl rfl) ?_
    refine dl_r (sem_call rfl rfl (rcastb (rPair_ok ha ha2 ht ht2 (by omega) (by omega) hc) (hφ _ (by omega) (by omega))) rfl) ?_
    refine dl_end ?_
    refine dw_cond rfl (fun hc2 => ?_) (fun hc2 => ?_)
    · have hm := of_decide_eq_true hc2
      -- region 5
      refine dw_region (by kernel_rfl) ?_
      refine dl_r (sem_move rfl rfl) ?_
      refine dl_r (sem_assign rfl rfl) ?_
      refine dl_end ?_
      exact ⟨⟨((lo + hi + 1) / 2, hi), by show 0 ≤ (lo + hi + 1) / 2; omega, by show (lo + hi + 1) / 2 ≤ r; omega, g3, g4⟩, sub_of ⟨rfl, rfl, rfl, rfl, rfl, trivial⟩ ⟨rfl, trivial⟩ rfl, by show (hi - (lo + hi + 1) / 2).toNat < (hi - lo).toNat; omega⟩
    · have hm := of_decide_eq_false hc2
      -- region 6
      refine dw_region (by kernel_rfl) ?_
      refine dl_r (sem_move rfl rfl) ?_
      refine dl_r (sem_ari (r := ((lo + hi + 1) / 2) - 1) rfl rfl (ari_i64_sub (by omega) (by omega)) rfl) ?_
      refine dl_r (sem_assign rfl rfl) ?_
      refine dl_end ?_
      exact ⟨⟨(lo, (lo + hi + 1) / 2 - 1), g1, g2, by show r ≤ (lo + hi + 1) / 2 - 1; omega, by show (lo + hi + 1) / 2 - 1 ≤ a; omega⟩, sub_of ⟨rfl, rfl, rfl, rfl, rfl, trivial⟩ ⟨rfl, trivial⟩ rfl, by show ((lo + hi + 1) / 2 - 1 - lo).toNat < (hi - lo).toNat; omega⟩
  · have hlo : r = lo := by have := of_decide_eq_false hc1; omega
    refine dw_exit ?_
    refine dw_seq ?_
    -- region 7
    refine dw_region (by kernel_rfl) ?_
    refine dl_r (sem_move rfl rfl) ?_
    refine dl_r (sem_assign rfl rfl) ?_
    refine dl_end ?_
    refine dw_ret ?_
    -- path F
    rw [hlo]
    exact ⟨.inr rfl, (resL_tmp rfl resL_nil)⟩
theorem rEg_bad {n : Nat} {us : List CellD} {a t : Int} {c : Rat} (hc : Rz 20 c) (hA : (a < 1 ∨ a > t ∨ t > 10000000) ∨ (1 ≤ a ∧ a ≤ t ∧ t ≤ 10000000 ∧ cosB c = false)) : Ok Tryz.prog 9 [.c (.s n us), .c (.i .i64 a), .c (.i .i64 t), dR c] [.c (.b false)] := by
  obtain ⟨β, hβ, hβ2⟩ : ∃ β : Bool, Ok Tryz.prog 33 [.c (.i .i64 a), .c (.i .i64 t)] [.c (.b β)] ∧ (β = false ∨ cosB c = false) := by
    rcases hA with h | ⟨h1, h2, h3, h4⟩
    · exact ⟨false, rSz_f h, .inl rfl⟩
    · exact ⟨true, rSz_t h1 h2 h3, .inr h4⟩
  refine Ok.of (by kernel_rfl) Tryz.func9 rfl rfl ?_
  rw [show Tryz.f9.ntmps = 121 from rfl, show Tryz.f9.results.toList = [.tmp 8] from rfl]
  refine dw_seq ?_
  -- region 0
  refine dw_region (by kernel_rfl) ?_
  refine dl_new (sem_box_a rfl rfl) rfl ?_
  refine dl_r (sem_assign rfl rfl) ?_
  refine dl_end ?_
  refine dw_seq ?_
  refine dw_seq ?_
  -- region 1
  refine dw_region (by kernel_rfl) ?_
  refine dl_r (sem_move rfl rfl) ?_
  refine dl_r (sem_move rfl rfl) ?_
  refine dl_r (sem_call rfl rfl (hβ) rfl) ?_
  refine dl_r (sem_not rfl rfl) ?_
  refine dl_rb (sem_move rfl rfl) (fun c1 hb1 => ?_)
  cases c1
  · refine dl_r (sem_load (us := cR c) ty28 rfl rfl rfl rfl rfl) ?_
    refine dl_r (sem_call rfl rfl (rCos_ok (by first | assumption | exact Rz.mono hc (by decide))) rfl) ?_
    refine dl_r (sem_not rfl rfl) ?_
    refine dl_r (sem_pick rfl rfl rfl rfl) ?_
    refine dl_end ?_
    refine dw_cond rfl (fun hc2 => ?_) (fun hc2 => ?_)
    · refine dw_seq ?_
      -- region 2
      refine dw_region (by kernel_rfl) ?_
      refine dl_r (sem_assign rfl rfl) ?_
      refine dl_end ?_
      refine dw_ret ?_
      -- path fT
      exact ⟨.inr rfl, (resL_tmp rfl resL_nil)⟩
    · exfalso
      rcases hβ2 with h | h
      · simp [h] at hb1
      · simp [h] at hc2
  · refine dl_skip (sem_skip rfl) ?_
    refine dl_skip (sem_skip rfl) ?_
    refine dl_skip (sem_skip rfl) ?_
    refine dl_r (sem_pick rfl rfl rfl rfl) ?_
    refine dl_end ?_
    refine dw_true rfl ?_
    refine dw_seq ?_
    -- region 2
    refine dw_region (by kernel_rfl) ?_
    refine dl_r (sem_assign rfl rfl) ?_
    refine dl_end ?_
    refine dw_ret ?_
    -- path t
    exact ⟨.inr rfl, (resL_tmp rfl resL_nil)⟩
theorem rEg_few {n : Nat} {us : List CellD} (hl : us.length = n * 2) (_hJ : us.all isJ = true) (hn : n ≤ 9000000000000000000) {a t : Int} {c : Rat} (hc : Rz 20 c) (ha : 1 ≤ a) (hat : a ≤ t) (ht2 : t ≤ 10000000) (hcos : cosB c = true) (hn2 : n < 2) : Ok Tryz.prog 9 [.c (.s n us), .c (.i .i64 a), .c (.i .i64 t), dR c] [.c (.b true)] := by
  refine Ok.of (by kernel_rfl) Tryz.func9 rfl rfl ?_
  rw [show Tryz.f9.ntmps = 121 from rfl, show Tryz.f9.results.toList = [.tmp 8] from rfl]
  refine dw_seq ?_
  -- region 0
  refine dw_region (by kernel_rfl) ?_
  refine dl_new (sem_box_a rfl rfl) rfl ?_
  refine dl_r (sem_assign rfl rfl) ?_
  refine dl_end ?_
  refine dw_seq ?_
  refine dw_seq ?_
  -- region 1
  refine dw_region (by kernel_rfl) ?_
  refine dl_r (sem_move rfl rfl) ?_
  refine dl_r (sem_move rfl rfl) ?_
  refine dl_r (sem_call rfl rfl (rSz_t ha hat ht2) rfl) ?_
  refine dl_r (sem_not rfl rfl) ?_
  refine dl_r (sem_move rfl rfl) ?_
  refine dl_r (sem_load (us := cR c) ty28 rfl rfl rfl rfl rfl) ?_
  refine dl_r (sem_call rfl rfl (rcastb (rCos_ok (by first | assumption | exact Rz.mono hc (by decide))) hcos) rfl) ?_
  refine dl_r (sem_not rfl rfl) ?_
  refine dl_r (sem_pick rfl rfl rfl rfl) ?_
  refine dl_end ?_
  refine dw_false rfl ?_
  refine dw_skip ?_
  refine dw_seq ?_
  refine dw_seq ?_
  -- region 3
  refine dw_region (by kernel_rfl) ?_
  refine dl_r (sem_assign rfl rfl) ?_
  refine dl_end ?_
  refine dw_block ?_
  refine dw_loop (ι := Nat) (fun i => match i with | _ => ⟨121, [(0, .v (.c (.s n us))), (9, .v (.c (.i .i64 0)))], []⟩) (fun i => 0 - i) 0 (sub_of ⟨rfl, rfl, trivial⟩ trivial rfl) ?_
  intro i
  match i with
  | _ =>
    show Dw _ _ ⟨121, [(0, .v (.c (.s n us))), (9, .v (.c (.i .i64 0)))], []⟩ _
    refine dw_seq ?_
    refine dw_seq ?_
    -- region 4
    refine dw_region (by kernel_rfl) ?_
    refine dl_r (sem_move rfl rfl) ?_
    refine dl_r (sem_move rfl rfl) ?_
    refine dl_r (sem_len sl22 rfl rfl) ?_
    refine dl_r (sem_cmp rfl rfl rfl rfl) ?_
    refine dl_rb (sem_move rfl rfl) (fun c1 hb1 => ?_)
    cases c1
    · refine dl_skip (sem_skip rfl) ?_
      refine dl_skip (sem_skip rfl) ?_
      refine dl_skip (sem_skip rfl) ?_
      refine dl_r (sem_pick rfl rfl rfl rfl) ?_
      refine dl_end ?_
      refine dw_false rfl ?_
      refine dw_exit ?_
      refine dw_seq ?_
      refine dw_seq ?_
      -- region 8
      refine dw_region (by kernel_rfl) ?_
      refine dl_r (sem_assign rfl rfl) ?_
      refine dl_end ?_
      refine dw_block ?_
      refine dw_loop (ι := Nat) (fun i => match i with | _ => ⟨121, [(0, .v (.c (.s n us))), (10, .v (.c (.i .i64 1)))], []⟩) (fun i => 0 - i) 0 (sub_of ⟨rfl, rfl, trivial⟩ trivial rfl) ?_
      intro i
      match i with
      | _ =>
        show Dw _ _ ⟨121, [(0, .v (.c (.s n us))), (10, .v (.c (.i .i64 1)))], []⟩ _
        refine dw_seq ?_
        refine dw_seq ?_
        -- region 9
        refine dw_region (by kernel_rfl) ?_
        refine dl_r (sem_move rfl rfl) ?_
        refine dl_r (sem_move rfl rfl) ?_
        refine dl_r (sem_len sl22 rfl rfl) ?_
        refine dl_r (sem_castb (c := false) (sem_cmp rfl rfl rfl rfl) (decide_eq_false (by omega))) ?_
        refine dl_end ?_
        refine dw_false rfl ?_
        refine dw_exit ?_
        refine dw_seq ?_
        -- region 16
        refine dw_region (by kernel_rfl) ?_
        refine dl_r (sem_assign rfl rfl) ?_
        refine dl_end ?_
        refine dw_ret ?_
        -- path L0fL0
        exact ⟨.inr rfl, (resL_tmp rfl resL_nil)⟩
    · refine dl_r (sem_move rfl rfl) ?_
      refine dl_r (sem_len sl22 rfl rfl) ?_
      refine dl_r (sem_castb (c := false) (sem_cmp rfl rfl rfl rfl) (decide_eq_false (by omega))) ?_
      refine dl_r (sem_pick rfl rfl rfl rfl) ?_
      refine dl_end ?_
      refine dw_false rfl ?_
      refine dw_exit ?_
      refine dw_seq ?_
      refine dw_seq ?_
      -- region 8
      refine dw_region (by kernel_rfl) ?_
      refine dl_r (sem_assign rfl rfl) ?_
      refine dl_end ?_
      refine dw_block ?_
      refine dw_loop (ι := Nat) (fun i => match i with | _ => ⟨121, [(0, .v (.c (.s n us))), (10, .v (.c (.i .i64 1)))], []⟩) (fun i => 0 - i) 0 (sub_of ⟨rfl, rfl, trivial⟩ trivial rfl) ?_
      intro i
      match i with
      | _ =>
        show Dw _ _ ⟨121, [(0, .v (.c (.s n us))), (10, .v (.c (.i .i64 1)))], []⟩ _
        refine dw_seq ?_
        refine dw_seq ?_
        -- region 9
        refine dw_region (by kernel_rfl) ?_
        refine dl_r (sem_move rfl rfl) ?_
        refine dl_r (sem_move rfl rfl) ?_
        refine dl_r (sem_len sl22 rfl rfl) ?_
        refine dl_r (sem_castb (c := false) (sem_cmp rfl rfl rfl rfl) (decide_eq_false (by omega))) ?_
        refine dl_end ?_
        refine dw_false rfl ?_
        refine dw_exit ?_
        refine dw_seq ?_
        -- region 16
        refine dw_region (by kernel_rfl) ?_
        refine dl_r (sem_assign rfl rfl) ?_
        refine dl_end ?_
        refine dw_ret ?_
        -- path L0tL0
        exact ⟨.inr rfl, (resL_tmp rfl resL_nil)⟩
theorem rEg_ok {n : Nat} {us : List CellD} (hl : us.length = n * 2) (hJ : us.all isJ = true) (hn : n ≤ 9000000000000000000) {a t : Int} {c : Rat} (hc : Rz 20 c) (ha : 1 ≤ a) (hat : a ≤ t) (ht2 : t ≤ 10000000) (hcos : cosB c = true) (hn2 : 2 ≤ n) : Ok Tryz.prog 9 [.c (.s n us), .c (.i .i64 a), .c (.i .i64 t), dR c] [.c (.b (engB us n a t c))] := by
  refine Ok.of (by kernel_rfl) Tryz.func9 rfl rfl ?_
  rw [show Tryz.f9.ntmps = 121 from rfl, show Tryz.f9.results.toList = [.tmp 8] from rfl]
  refine dw_seq ?_
  -- region 0
  refine dw_region (by kernel_rfl) ?_
  refine dl_new (sem_box_a rfl rfl) rfl ?_
  refine dl_r (sem_assign rfl rfl) ?_
  refine dl_end ?_
  refine dw_seq ?_
  refine dw_seq ?_
  -- region 1
  refine dw_region (by kernel_rfl) ?_
  refine dl_r (sem_move rfl rfl) ?_
  refine dl_r (sem_move rfl rfl) ?_
  refine dl_r (sem_call rfl rfl (rSz_t ha hat ht2) rfl) ?_
  refine dl_r (sem_not rfl rfl) ?_
  refine dl_r (sem_move rfl rfl) ?_
  refine dl_r (sem_load (us := cR c) ty28 rfl rfl rfl rfl rfl) ?_
  refine dl_r (sem_call rfl rfl (rcastb (rCos_ok (by first | assumption | exact Rz.mono hc (by decide))) hcos) rfl) ?_
  refine dl_r (sem_not rfl rfl) ?_
  refine dl_r (sem_pick rfl rfl rfl rfl) ?_
  refine dl_end ?_
  refine dw_false rfl ?_
  refine dw_skip ?_
  refine dw_seq ?_
  refine dw_seq ?_
  -- region 3
  refine dw_region (by kernel_rfl) ?_
  refine dl_r (sem_assign rfl rfl) ?_
  refine dl_end ?_
  refine dw_block ?_
  refine dw_loop (ι := {j : Nat // j ≤ n ∧ ∀ i, i < j → outb (ci us (i * 2)) (ci us (i * 2 + 1)) 0 = false}) (fun i => ⟨121, [(0, .v (.c (.s n us))), (1, .v (.c (.i .i64 a))), (2, .v (.c (.i .i64 t))), (7, .p 7 0), (9, .v (.c (.i .i64 (i.1 : Int))))], [(7, 28, cR c)]⟩) (fun i => n - i.1) ⟨0, Nat.zero_le _, fun i hi => absurd hi (Nat.not_lt_zero i)⟩ (sub_of ⟨rfl, rfl, rfl, rfl, rfl, trivial⟩ ⟨rfl, trivial⟩ rfl) ?_
  rintro ⟨j, h2, h3⟩
  replace h2 : j ≤ n := h2
  replace h3 : ∀ i, i < j → outb (ci us (i * 2)) (ci us (i * 2 + 1)) 0 = false := h3
  show Dw _ _ ⟨121, [(0, .v (.c (.s n us))), (1, .v (.c (.i .i64 a))), (2, .v (.c (.i .i64 t))), (7, .p 7 0), (9, .v (.c (.i .i64 (j : Int))))], [(7, 28, cR c)]⟩ _
  refine dw_seq ?_
  refine dw_seq ?_
  -- region 4
  refine dw_region (by kernel_rfl) ?_
  refine dl_r (sem_move rfl rfl) ?_
  refine dl_r (sem_move rfl rfl) ?_
  refine dl_r (sem_len sl22 rfl rfl) ?_
  refine dl_r (sem_cmp rfl rfl rfl rfl) ?_
  refine dl_rb (sem_move rfl rfl) (fun c1 hb1 => ?_)
  cases c1
  · have hout : ∀ i, i < n → far (ci us (i * 2)) = false ∧ far (ci us (i * 2 + 1)) = false := fun i hi => by
      have h8 : j = n := by have := of_decide_eq_false hb1; omega
      have h9 := h3 i (by omega)
      rw [outb_0, Bool.or_eq_false_iff] at h9
      exact h9
    clear h2 h3
    refine dl_skip (sem_skip rfl) ?_
    refine dl_skip (sem_skip rfl) ?_
    refine dl_skip (sem_skip rfl) ?_
    refine dl_r (sem_pick rfl rfl rfl rfl) ?_
    refine dl_end ?_
    refine dw_false rfl ?_
    refine dw_exit ?_
    refine dw_seq ?_
    refine dw_seq ?_
    -- region 8
    refine dw_region (by kernel_rfl) ?_
    refine dl_r (sem_assign rfl rfl) ?_
    refine dl_end ?_
    refine dw_block ?_
    refine dw_loop (ι := {j : Nat // 1 ≤ j ∧ j ≤ n ∧ ∀ i, 1 ≤ i → i < j → eg us a i = false ∧ alw a t (stp us i) c = true}) (fun i => ⟨121, [(0, .v (.c (.s n us))), (1, .v (.c (.i .i64 a))), (2, .v (.c (.i .i64 t))), (7, .p 7 0), (10, .v (.c (.i .i64 (i.1 : Int))))], [(7, 28, cR c)]⟩) (fun i => n - i.1) ⟨1, Nat.le_refl _, by omega, fun i h1 hi => by omega⟩ (sub_of ⟨rfl, rfl, rfl, rfl, rfl, trivial⟩ ⟨rfl, trivial⟩ rfl) ?_
    rintro ⟨j, h1, h2, h3⟩
    replace h1 : 1 ≤ j := h1
    replace h2 : j ≤ n := h2
    replace h3 : ∀ i, 1 ≤ i → i < j → eg us a i = false ∧ alw a t (stp us i) c = true := h3
    show Dw _ _ ⟨121, [(0, .v (.c (.s n us))), (1, .v (.c (.i .i64 a))), (2, .v (.c (.i .i64 t))), (7, .p 7 0), (10, .v (.c (.i .i64 (j : Int))))], [(7, 28, cR c)]⟩ _
    refine dw_seq ?_
    refine dw_seq ?_
    -- region 9
    refine dw_region (by kernel_rfl) ?_
    refine dl_r (sem_move rfl rfl) ?_
    refine dl_r (sem_move rfl rfl) ?_
    refine dl_r (sem_len sl22 rfl rfl) ?_
    refine dl_r (sem_cmp rfl rfl rfl rfl) ?_
    refine dl_end ?_
    refine dw_cond rfl (fun hc2 => ?_) (fun hc2 => ?_)
    · have g1 : j < n := by have := of_decide_eq_true hc2; omega
      have b1 := far_n (hout j g1).1
      have b2 := far_n (hout j g1).2
      have b3 := far_n (hout (j - 1) (by omega)).1
      have b4 := far_n (hout (j - 1) (by omega)).2
      refine dw_skip ?_
      refine dw_seq ?_
      refine dw_block ?_
      refine dw_seq ?_
      -- region 11
      refine dw_draw 16 [11] follows_mixed (by kernel_rfl) rfl rfl ?_
      refine dq_r (sem_move rfl rfl) ?_
      refine dq_r (sem_move rfl rfl) ?_
      refine dq_r (sem_ari (r := ((j - 1 : Nat) : Int)) rfl rfl ((ari_i64_sub (by omega) (by omega)).trans (congrArg some (by omega))) rfl) ?_
      refine dq_r (sem_index (us := [.i .i64 (ci us ((j - 1) * 2))] ++ [.i .i64 (ci us ((j - 1) * 2 + 1))] ++ us.drop ((j - 1) * 2 + 2)) sl22 rfl rfl (by omega) (hl) (ci_drop2 hl hJ (by omega)) rfl) ?_
      refine dq_r (sem_loadq (us := ([.i .i64 (ci us ((j - 1) * 2))] ++ [.i .i64 (ci us ((j - 1) * 2 + 1))])) ty34 rfl rfl rfl rfl) ?_
      refine dq_r (sem_move rfl rfl) ?_
      refine dq_r (sem_move rfl rfl) ?_
      refine dq_r (sem_index (us := [.i .i64 (ci us (j * 2))] ++ [.i .i64 (ci us (j * 2 + 1))] ++ us.drop (j * 2 + 2)) sl22 rfl rfl (by omega) (hl) (ci_drop2 hl hJ (by omega)) rfl) ?_
      refine dq_r (sem_loadq (us := ([.i .i64 (ci us (j * 2))] ++ [.i .i64 (ci us (j * 2 + 1))])) ty34 rfl rfl rfl rfl) ?_
      refine dq_r (sem_call rfl rfl (icast2b rDir_ok (x' := dX us j) (y' := dY us j) (c := dk us j) rfl rfl rfl) rfl) ?_
      refine dq_r (sem_move rfl rfl) ?_
      refine dq_r (sem_extract rfl rfl rfl) ?_
      refine dq_r (sem_extract rfl rfl rfl) ?_
      refine dq_new (sem_alloc zc34 rfl) rfl ?_
      refine dq_sn (sem_store_a ty34 rfl rfl rfl rfl rfl rfl) rfl rfl rfl ?_
      refine dq_r (sem_assign rfl rfl) ?_
      refine dq_end ?_
      refine dl_start2 ?_
      refine dl_end ?_
      refine dw_seq ?_
      -- region 12
      refine dw_draw 13 [13] follows_mixed (by kernel_rfl) rfl rfl ?_
      refine dq_r (sem_move rfl rfl) ?_
      refine dq_r (sem_index (us := [.i .i64 (ci us (0 * 2))] ++ [.i .i64 (ci us (0 * 2 + 1))] ++ us.drop (0 * 2 + 2)) sl22 rfl rfl (by omega) (hl) (ci_drop2 hl hJ (by omega)) rfl) ?_
      refine dq_r (sem_loadq (us := ([.i .i64 (ci us (0 * 2))] ++ [.i .i64 (ci us (0 * 2 + 1))])) ty34 rfl rfl rfl rfl) ?_
      refine dq_r (sem_move rfl rfl) ?_
      refine dq_r (sem_index (us := [.i .i64 (ci us (1 * 2))] ++ [.i .i64 (ci us (1 * 2 + 1))] ++ us.drop (1 * 2 + 2)) sl22 rfl rfl (by omega) (hl) (ci_drop2 hl hJ (by omega)) rfl) ?_
      refine dq_r (sem_loadq (us := ([.i .i64 (ci us (1 * 2))] ++ [.i .i64 (ci us (1 * 2 + 1))])) ty34 rfl rfl rfl rfl) ?_
      refine dq_r (sem_call rfl rfl (icast2b rDir_ok (x' := dX us 1) (y' := dY us 1) (c := dk us 1) rfl rfl rfl) rfl) ?_
      refine dq_r (sem_move rfl rfl) ?_
      refine dq_r (sem_extract rfl rfl rfl) ?_
      refine dq_r (sem_extract rfl rfl rfl) ?_
      refine dq_new (sem_alloc zc34 rfl) rfl ?_
      refine dq_sn (sem_store_a ty34 rfl rfl rfl rfl rfl rfl) rfl rfl rfl ?_
      refine dq_r (sem_assign rfl rfl) ?_
      refine dq_end ?_
      refine dl_start2 ?_
      refine dl_end ?_
      refine dw_seq ?_
      -- region 13
      refine dw_draw 32 [] follows_mixed (by kernel_rfl) rfl rfl ?_
      refine dq_r (sem_move rfl rfl) ?_
      refine dq_r (sem_move rfl rfl) ?_
      refine dq_r (sem_index (us := [.i .i64 (ci us (j * 2))] ++ [.i .i64 (ci us (j * 2 + 1))] ++ us.drop (j * 2 + 2)) sl22 rfl rfl (by omega) (hl) (ci_drop2 hl hJ (by omega)) rfl) ?_
      refine dq_r (sem_fieldq fd34_0 rfl rfl rfl) ?_
      refine dq_r (sem_loadq1 ty2 rfl rfl rfl) ?_
      refine dq_r (sem_move rfl rfl) ?_
      refine dq_r (sem_move rfl rfl) ?_
      refine dq_r (sem_ari (r := ((j - 1 : Nat) : Int)) rfl rfl ((ari_i64_sub (by omega) (by omega)).trans (congrArg some (by omega))) rfl) ?_
      refine dq_r (sem_index (us := [.i .i64 (ci us ((j - 1) * 2))] ++ [.i .i64 (ci us ((j - 1) * 2 + 1))] ++ us.drop ((j - 1) * 2 + 2)) sl22 rfl rfl (by omega) (hl) (ci_drop2 hl hJ (by omega)) rfl) ?_
      refine dq_r (sem_fieldq fd34_0 rfl rfl rfl) ?_
      refine dq_r (sem_loadq1 ty2 rfl rfl rfl) ?_
      refine dq_r (sem_ari (r := ci us (j * 2) - ci us ((j - 1) * 2)) rfl rfl (ari_i64_sub (by omega) (by omega)) rfl) ?_
      refine dq_r (sem_field fd34_0 rfl rfl) ?_
      refine dq_r (sem_load1 ty2 rfl rfl rfl rfl) ?_
      refine dq_r (sem_ari (r := max (ci us (j * 2) - ci us ((j - 1) * 2)) (ci us ((j - 1) * 2) - ci us (j * 2))) rfl rfl (ar_mul_sg (by omega) (by omega)) rfl) ?_
      refine dq_r (sem_move rfl rfl) ?_
      refine dq_r (sem_move rfl rfl) ?_
      refine dq_r (sem_index (us := [.i .i64 (ci us (j * 2))] ++ [.i .i64 (ci us (j * 2 + 1))] ++ us.drop (j * 2 + 2)) sl22 rfl rfl (by omega) (hl) (ci_drop2 hl hJ (by omega)) rfl) ?_
      refine dq_r (sem_fieldq fd34_1 rfl rfl rfl) ?_
      refine dq_r (sem_loadq1 ty2 rfl rfl rfl) ?_
      refine dq_r (sem_move rfl rfl) ?_
      refine dq_r (sem_move rfl rfl) ?_
      refine dq_r (sem_ari (r := ((j - 1 : Nat) : Int)) rfl rfl ((ari_i64_sub (by omega) (by omega)).trans (congrArg some (by omega))) rfl) ?_
      refine dq_r (sem_index (us := [.i .i64 (ci us ((j - 1) * 2))] ++ [.i .i64 (ci us ((j - 1) * 2 + 1))] ++ us.drop ((j - 1) * 2 + 2)) sl22 rfl rfl (by omega) (hl) (ci_drop2 hl hJ (by omega)) rfl) ?_
      refine dq_r (sem_fieldq fd34_1 rfl rfl rfl) ?_
      refine dq_r (sem_loadq1 ty2 rfl rfl rfl) ?_
      refine dq_r (sem_ari (r := ci us (j * 2 + 1) - ci us ((j - 1) * 2 + 1)) rfl rfl (ari_i64_sub (by omega) (by omega)) rfl) ?_
      refine dq_r (sem_field fd34_1 rfl rfl) ?_
      refine dq_r (sem_load1 ty2 rfl rfl rfl rfl) ?_
      refine dq_r (sem_ari (r := max (ci us (j * 2 + 1) - ci us ((j - 1) * 2 + 1)) (ci us ((j - 1) * 2 + 1) - ci us (j * 2 + 1))) rfl rfl (ar_mul_sg (by omega) (by omega)) rfl) ?_
      refine dq_r (sem_ari (r := stq us j) rfl rfl (ari_i64_add (by omega) (by omega)) rfl) ?_
      refine dq_r (sem_assign rfl rfl) ?_
      refine dq_end ?_
      refine dl_start0 ?_
      refine dl_end ?_
      refine dw_seq ?_
      -- region 14
      refine dw_region (by kernel_rfl) ?_
      refine dl_r (sem_move rfl rfl) ?_
      refine dl_r (sem_not rfl rfl) ?_
      refine dl_rb (sem_move rfl rfl) (fun c3 hb3 => ?_)
      cases c3
      · have ed : dk us j = true := by simpa using hb3
        have es := (stq_eq ed).2
        refine dl_r (sem_load (us := ([.i .i64 (dX us j)] ++ [.i .i64 (dY us j)])) ty34 rfl rfl rfl rfl rfl) ?_
        refine dl_r (sem_load (us := ([.i .i64 (dX us 1)] ++ [.i .i64 (dY us 1)])) ty34 rfl rfl rfl rfl rfl) ?_
        refine dl_r (sem_sne rfl rfl rfl rfl (by kernel_rfl) (fun w => eq_g2 (dX us j) (dY us j) (dX us 1) (dY us 1) w) rfl) ?_
        refine dl_r (sem_pick rfl rfl rfl rfl) ?_
        refine dl_rb (sem_move rfl rfl) (fun c4 hb4 => ?_)
        cases c4
        · refine dl_r (sem_move rfl rfl) ?_
          refine dl_r (sem_move rfl rfl) ?_
          refine dl_r (sem_cmp rfl rfl rfl rfl) ?_
          refine dl_r (sem_pick rfl rfl rfl rfl) ?_
          refine dl_rb (sem_move rfl rfl) (fun c5 hb5 => ?_)
          cases c5
          · have el := of_decide_eq_false hb5
            refine dl_r (sem_move rfl rfl) ?_
            refine dl_r (sem_move rfl rfl) ?_
            refine dl_r (sem_move rfl rfl) ?_
            refine dl_r (sem_load (us := cR c) ty28 rfl rfl rfl rfl rfl) ?_
            refine dl_r (sem_call rfl rfl (rPair_ok ha (by omega) (by omega) ht2 es (by omega) hc) rfl) ?_
            refine dl_r (sem_not rfl rfl) ?_
            refine dl_r (sem_pick rfl rfl rfl rfl) ?_
            refine dl_end ?_
            refine dw_cond rfl (fun hc6 => ?_) (fun hc6 => ?_)
            · have e3 : engB us n a t c = false := engB_g ha (by omega) g1 (by omega) (by rw [← (stq_eq ed).1]; simpa using hc6)
              refine dw_seq ?_
              -- region 15
              refine dw_region (by kernel_rfl) ?_
              refine dl_r (sem_assign rfl rfl) ?_
              refine dl_end ?_
              refine dw_ret ?_
              -- path fTfffT
              rw [e3]
              exact ⟨.inr rfl, (resL_tmp rfl resL_nil)⟩
            · have e3 : alw a t (stp us j) c = true := by rw [← (stq_eq ed).1]; simpa using hc6
              have e4 : eg us a j = false := eg_5 (hout j g1) hb3 hb4 (by rw [← (stq_eq ed).1]; exact hb5)
              refine dw_skip ?_
              -- region 10
              refine dw_region (by kernel_rfl) ?_
              refine dl_r (sem_move rfl rfl) ?_
              refine dl_r (sem_ari (r := ((j + 1 : Nat) : Int)) rfl rfl ((ari_i64_add (by omega) (by omega)).trans (congrArg some (by omega))) rfl) ?_
              refine dl_r (sem_assign rfl rfl) ?_
              refine dl_end ?_
              exact ⟨⟨j + 1, by omega, by omega, fun i h1 hi => (Nat.lt_or_ge i j).elim (h3 i h1) (fun h9 => by rw [show i = j by omega]; exact ⟨e4, e3⟩)⟩, sub_of ⟨rfl, rfl, rfl, rfl, rfl, trivial⟩ ⟨rfl, trivial⟩ rfl, by show n - (j + 1) < n - j; omega⟩
          · have e3 := eg_6 (show j ≠ 0 by omega) hb5 ed
            refine dl_skip (sem_skip rfl) ?_
            refine dl_skip (sem_skip rfl) ?_
            refine dl_skip (sem_skip rfl) ?_
            refine dl_skip (sem_skip rfl) ?_
            refine dl_skip (sem_skip rfl) ?_
            refine dl_skip (sem_skip rfl) ?_
            refine dl_r (sem_pick rfl rfl rfl rfl) ?_
            refine dl_end ?_
            refine dw_true rfl ?_
            refine dw_seq ?_
            -- region 15
            refine dw_region (by kernel_rfl) ?_
            refine dl_r (sem_assign rfl rfl) ?_
            refine dl_end ?_
            refine dw_ret ?_
            -- path fTfft
            rw [engB_f g1 e3]
            exact ⟨.inr rfl, (resL_tmp rfl resL_nil)⟩
        · have e3 := eg_3 (a := a) (show j ≠ 0 by omega) hb4
          refine dl_skip (sem_skip rfl) ?_
          refine dl_skip (sem_skip rfl) ?_
          refine dl_skip (sem_skip rfl) ?_
          refine dl_r (sem_pick rfl rfl rfl rfl) ?_
          refine dl_r (sem_move rfl rfl) ?_
          refine dl_skip (sem_skip rfl) ?_
          refine dl_skip (sem_skip rfl) ?_
          refine dl_skip (sem_skip rfl) ?_
          refine dl_skip (sem_skip rfl) ?_
          refine dl_skip (sem_skip rfl) ?_
          refine dl_skip (sem_skip rfl) ?_
          refine dl_r (sem_pick rfl rfl rfl rfl) ?_
          refine dl_end ?_
          refine dw_true rfl ?_
          refine dw_seq ?_
          -- region 15
          refine dw_region (by kernel_rfl) ?_
          refine dl_r (sem_assign rfl rfl) ?_
          refine dl_end ?_
          refine dw_ret ?_
          -- path fTft
          rw [engB_f g1 e3]
          exact ⟨.inr rfl, (resL_tmp rfl resL_nil)⟩
      · have e3 := eg_2 (a := a) (show j ≠ 0 by omega) hb3
        refine dl_skip (sem_skip rfl) ?_
        refine dl_skip (sem_skip rfl) ?_
        refine dl_skip (sem_skip rfl) ?_
        refine dl_r (sem_pick rfl rfl rfl rfl) ?_
        refine dl_r (sem_move rfl rfl) ?_
        refine dl_skip (sem_skip rfl) ?_
        refine dl_skip (sem_skip rfl) ?_
        refine dl_skip (sem_skip rfl) ?_
        refine dl_r (sem_pick rfl rfl rfl rfl) ?_
        refine dl_r (sem_move rfl rfl) ?_
        refine dl_skip (sem_skip rfl) ?_
        refine dl_skip (sem_skip rfl) ?_
        refine dl_skip (sem_skip rfl) ?_
        refine dl_skip (sem_skip rfl) ?_
        refine dl_skip (sem_skip rfl) ?_
        refine dl_skip (sem_skip rfl) ?_
        refine dl_r (sem_pick rfl rfl rfl rfl) ?_
        refine dl_end ?_
        refine dw_true rfl ?_
        refine dw_seq ?_
        -- region 15
        refine dw_region (by kernel_rfl) ?_
        refine dl_r (sem_assign rfl rfl) ?_
        refine dl_end ?_
        refine dw_ret ?_
        -- path fTt
        rw [engB_f g1 e3]
        exact ⟨.inr rfl, (resL_tmp rfl resL_nil)⟩
    · have hj : j = n := by have := of_decide_eq_false hc2; omega
      have e5 : engB us n a t c = true := engB_all hn2 (fun i hi => by
        by_cases h0 : i = 0
        · exact eg_0 (hout i hi) h0
        · exact (h3 i (by omega) (by omega)).1) (fun i h1 hi => (h3 i h1 (by omega)).2)
      refine dw_exit ?_
      refine dw_seq ?_
      -- region 16
      refine dw_region (by kernel_rfl) ?_
      refine dl_r (sem_assign rfl rfl) ?_
      refine dl_end ?_
      refine dw_ret ?_
      -- path fF
      rw [e5]
      exact ⟨.inr rfl, (resL_tmp rfl resL_nil)⟩
  · have g1 : j < n := by have := of_decide_eq_true hb1; omega
    refine dl_r (sem_move rfl rfl) ?_
    refine dl_r (sem_len sl22 rfl rfl) ?_
    refine dl_r (sem_castb (c := true) (sem_cmp rfl rfl rfl rfl) (decide_eq_true (by omega))) ?_
    refine dl_r (sem_pick rfl rfl rfl rfl) ?_
    refine dl_end ?_
    refine dw_true rfl ?_
    refine dw_skip ?_
    refine dw_seq ?_
    refine dw_block ?_
    refine dw_seq ?_
    -- region 6
    refine dw_region (by kernel_rfl) ?_
    refine dl_r (sem_move rfl rfl) ?_
    refine dl_r (sem_move rfl rfl) ?_
    refine dl_r (sem_index (us := [.i .i64 (ci us (j * 2))] ++ [.i .i64 (ci us (j * 2 + 1))] ++ us.drop (j * 2 + 2)) sl22 rfl rfl (by omega) (hl) (ci_drop2 hl hJ (by omega)) rfl) ?_
    refine dl_r (sem_loadq (us := ([.i .i64 (ci us (j * 2))] ++ [.i .i64 (ci us (j * 2 + 1))])) ty34 rfl rfl rfl rfl) ?_
    refine dl_r (sem_call rfl rfl (rOut_ok) rfl) ?_
    refine dl_end ?_
    refine dw_cond rfl (fun hc7 => ?_) (fun hc7 => ?_)
    · have e1 := eg_o (a := a) hc7
      refine dw_seq ?_
      -- region 7
      refine dw_region (by kernel_rfl) ?_
      refine dl_r (sem_assign rfl rfl) ?_
      refine dl_end ?_
      refine dw_ret ?_
      -- path tT
      rw [engB_f g1 e1]
      exact ⟨.inr rfl, (resL_tmp rfl resL_nil)⟩
    · have e1 := hc7
      refine dw_skip ?_
      -- region 5
      refine dw_region (by kernel_rfl) ?_
      refine dl_r (sem_move rfl rfl) ?_
      refine dl_r (sem_ari (r := ((j + 1 : Nat) : Int)) rfl rfl ((ari_i64_add (by omega) (by omega)).trans (congrArg some (by omega))) rfl) ?_
      refine dl_r (sem_assign rfl rfl) ?_
      refine dl_end ?_
      exact ⟨⟨j + 1, by omega, fun i hi => (Nat.lt_or_ge i j).elim (h3 i) (fun h9 => by rw [show i = j by omega]; exact e1)⟩, sub_of ⟨rfl, rfl, rfl, rfl, rfl, trivial⟩ ⟨rfl, trivial⟩ rfl, by show n - (j + 1) < n - j; omega⟩
end Go.Proofs.YtonjlikaacengaaGreat
/- Package integer: GCD. -/
namespace Go.Proofs.YtonjlikaacengaaGreat
open Go Go.RowKit
theorem iGCD_ok {x y : Int} (hx : Sz 1000000 x) (hy : Sz 1000000 y) : Ok Tryz.prog 116 [dI x, dI y] [dI (Int.gcd x y : Int)] := by
  refine Ok.of (by kernel_rfl) Tryz.func116 rfl rfl ?_
  rw [show Tryz.f116.ntmps = 61 from rfl, show Tryz.f116.results.toList = [.cell 4 26] from rfl]
  refine dw_seq ?_
  -- region 0
  refine dw_region (by kernel_rfl) ?_
  refine dl_new (sem_box_a rfl rfl) rfl ?_
  refine dl_new (sem_box_a rfl rfl) rfl ?_
  refine dl_new (sem_alloc zc26 rfl) rfl ?_
  refine dl_end ?_
  refine dw_seq ?_
  -- region 1
  refine dw_draw 8 [] follows_mixed (by kernel_rfl) rfl rfl ?_
  refine dq_r (sem_field fd26_1 rfl rfl) ?_
  refine dq_r (sem_load1 ty24 rfl rfl rfl rfl) ?_
  refine dq_r (sem_call rfl rfl (iSigned_cL) rfl) ?_
  refine dq_r (sem_field fd26_1 rfl rfl) ?_
  refine dq_r (sem_load1 ty24 rfl rfl rfl rfl) ?_
  refine dq_r (sem_call rfl rfl (iSigned_cL) rfl) ?_
  refine dq_new (sem_alloc zc26 rfl) rfl ?_
  refine dq_new (sem_alloc zc26 rfl) rfl ?_
  refine dq_end ?_
  refine dl_start2 ?_
  refine dl_st (sem_store_a ty26 rfl rfl rfl rfl rfl rfl) ?_
  refine dl_st (sem_store_a ty26 rfl rfl rfl rfl rfl rfl) ?_
  refine dl_end ?_
  refine dw_seq ?_
  refine dw_block ?_
  refine dw_loop (ι := {p : Int × Int // GInv x y p.1 p.2}) (fun i => ⟨61, [(4, .p 4 0), (5, .p 5 0), (6, .p 6 0)], [(4, 26, ([.b false] ++ [.s 0 []])), (5, 26, cI i.1.1), (6, 26, cI i.1.2)]⟩) (fun i => i.1.2.toNat) ⟨(sg false (x.natAbs : Int), sg false (y.natAbs : Int)), GInv.start hx hy⟩ (sub_of ⟨rfl, rfl, rfl, trivial⟩ ⟨rfl, rfl, rfl, trivial⟩ rfl) ?_
  rintro ⟨⟨a, c⟩, hg⟩
  replace hg : GInv x y a c := hg
  have ha := hg.sa
  have hcc := hg.sc
  show Dw _ _ ⟨61, [(4, .p 4 0), (5, .p 5 0), (6, .p 6 0)], [(4, 26, ([.b false] ++ [.s 0 []])), (5, 26, cI a), (6, 26, cI c)]⟩ _
  refine dw_seq ?_
  refine dw_seq ?_
  -- region 2
  refine dw_region (by kernel_rfl) ?_
  refine dl_r (sem_field fd26_1 rfl rfl) ?_
  refine dl_r (sem_load1 ty24 rfl rfl rfl rfl) ?_
  refine dl_r (sem_len sl24 rfl rfl) ?_
  refine dl_r (sem_cmp rfl rfl rfl rfl) ?_
  refine dl_end ?_
  refine dw_cond rfl (fun hc1 => ?_) (fun hc1 => ?_)
  · have hne := lenL_pos hc1
    refine dw_skip ?_
    refine dw_block ?_
    refine dw_seq ?_
    -- region 3
    refine dw_region (by kernel_rfl) ?_
    refine dl_r (sem_load (us := cI a) ty26 rfl rfl rfl rfl rfl) ?_
    refine dl_r (sem_call rfl rfl (iWord_ok) rfl) ?_
    refine dl_r (sem_move rfl rfl) ?_
    refine dl_r (sem_extract rfl rfl rfl) ?_
    refine dl_r (sem_extract rfl rfl rfl) ?_
    refine dl_r (sem_assign rfl rfl) ?_
    refine dl_r (sem_assign rfl rfl) ?_
    refine dl_end ?_
    refine dw_seq ?_
    -- region 4
    refine dw_region (by kernel_rfl) ?_
    refine dl_r (sem_load (us := cI c) ty26 rfl rfl rfl rfl rfl) ?_
    refine dl_r (sem_call rfl rfl (iWord_ok) rfl) ?_
    refine dl_r (sem_move rfl rfl) ?_
    refine dl_r (sem_extract rfl rfl rfl) ?_
    refine dl_r (sem_extract rfl rfl rfl) ?_
    refine dl_r (sem_assign rfl rfl) ?_
    refine dl_r (sem_assign rfl rfl) ?_
    refine dl_end ?_
    refine dw_seq ?_
    refine dw_seq ?_
    -- region 5
    refine dw_region (by kernel_rfl) ?_
    refine dl_r (sem_move rfl rfl) ?_
    refine dl_rb (sem_move rfl rfl) (fun c2 hb2 => ?_)
    cases c2
    · refine dl_skip (sem_skip rfl) ?_
      refine dl_r (sem_pick rfl rfl rfl rfl) ?_
      refine dl_end ?_
      refine dw_false rfl ?_
      refine dw_skip ?_
      refine dw_seq ?_
      -- region 9
      refine dw_region (by kernel_rfl) ?_
      refine dl_r (sem_field fd26_1 rfl rfl) ?_
      refine dl_r (sem_load1 ty24 rfl rfl rfl rfl) ?_
      refine dl_r (sem_field fd26_1 rfl rfl) ?_
      refine dl_r (sem_load1 ty24 rfl rfl rfl rfl) ?_
      refine dl_r (sem_call rfl rfl (iDivide_ok (by assumption) (by assumption) (by assumption)) rfl) ?_
      refine dl_r (sem_move rfl rfl) ?_
      refine dl_r (sem_extract rfl rfl rfl) ?_
      refine dl_r (sem_extract rfl rfl rfl) ?_
      refine dl_r (sem_assign rfl rfl) ?_
      refine dl_r (sem_assign rfl rfl) ?_
      refine dl_end ?_
      -- region 10
      refine dw_draw 3 [] follows_mixed (by kernel_rfl) rfl rfl ?_
      refine dq_r (sem_load (us := cI c) ty26 rfl rfl rfl rfl rfl) ?_
      refine dq_r (sem_move rfl rfl) ?_
      refine dq_r (sem_call rfl rfl (iSigned_ok) rfl) ?_
      refine dq_end ?_
      refine dl_start0 ?_
      refine dl_st (sem_store_a ty26 rfl rfl rfl rfl rfl rfl) ?_
      refine dl_st (sem_store_a ty26 rfl rfl rfl rfl rfl rfl) ?_
      refine dl_end ?_
      exact ⟨⟨(c, sg false ((a.natAbs : Int) % c.natAbs)), hg.step hne⟩, sub_of ⟨rfl, rfl, rfl, trivial⟩ ⟨rfl, rfl, rfl, trivial⟩ rfl, hg.less hne⟩
    · refine dl_r (sem_move rfl rfl) ?_
      refine dl_r (sem_pick rfl rfl rfl rfl) ?_
      refine dl_end ?_
      refine dw_cond rfl (fun hc3 => ?_) (fun hc3 => ?_)
      · refine dw_seq ?_
        refine dw_block ?_
        refine dw_loop (ι := {p : Int × Int // GInv2 x y p.1 p.2}) (fun i => ⟨61, [(4, .p 4 0), (7, .v (.c (.i .u64 i.1.1))), (9, .v (.c (.i .u64 i.1.2)))], [(4, 26, ([.b false] ++ [.s 0 []]))]⟩) (fun i => i.1.2.toNat) ⟨(if a.natAbs < 1000000000000000000 then (a.natAbs : Int) else 0, if c.natAbs < 1000000000000000000 then (c.natAbs : Int) else 0), hg.word hb2 hc3⟩ (sub_of ⟨rfl, rfl, rfl, trivial⟩ ⟨rfl, trivial⟩ rfl) ?_
        rintro ⟨⟨u, v⟩, hw⟩
        replace hw : GInv2 x y u v := hw
        show Dw _ _ ⟨61, [(4, .p 4 0), (7, .v (.c (.i .u64 u))), (9, .v (.c (.i .u64 v)))], [(4, 26, ([.b false] ++ [.s 0 []]))]⟩ _
        refine dw_seq ?_
        refine dw_seq ?_
        -- region 6
        refine dw_region (by kernel_rfl) ?_
        refine dl_r (sem_move rfl rfl) ?_
        refine dl_r (sem_cmp rfl rfl rfl rfl) ?_
        refine dl_end ?_
        refine dw_cond rfl (fun hc4 => ?_) (fun hc4 => ?_)
        · have hv : v > 0 := by simpa using hc4
          refine dw_skip ?_
          refine dw_block ?_
          -- region 7
          refine dw_draw 6 [] follows_mixed (by kernel_rfl) rfl rfl ?_
          refine dq_r (sem_move rfl rfl) ?_
          refine dq_r (sem_move rfl rfl) ?_
          refine dq_r (sem_move rfl rfl) ?_
          refine dq_r (sem_rem rfl rfl (by omega) rfl) ?_
          refine dq_r (sem_assign rfl rfl) ?_
          refine dq_r (sem_assign rfl rfl) ?_
          refine dq_end ?_
          refine dl_start0 ?_
          refine dl_end ?_
          exact ⟨⟨(v, u.tmod v), hw.step hv⟩, sub_of ⟨rfl, rfl, rfl, trivial⟩ ⟨rfl, trivial⟩ rfl, hw.less hv⟩
        · refine dw_exit ?_
          refine dw_seq ?_
          -- region 8
          refine dw_region (by kernel_rfl) ?_
          refine dl_r (sem_move rfl rfl) ?_
          refine dl_r (sem_call rfl rfl (iSplit_ok hw.u0 hw.u1) rfl) ?_
          refine dl_r (sem_call rfl rfl (iSigned_ok) rfl) ?_
          refine dl_st (sem_store_a ty26 rfl rfl rfl rfl rfl rfl) ?_
          refine dl_end ?_
          refine dw_ret ?_
          -- path TtTF
          rw [hw.done (by simpa using hc4)]
          exact ⟨.inr rfl, (resL_cell (us := cI (sg false u)) ty26 rfl rfl rfl rfl resL_nil)⟩
      · refine dw_skip ?_
        refine dw_seq ?_
        -- region 9
        refine dw_region (by kernel_rfl) ?_
        refine dl_r (sem_field fd26_1 rfl rfl) ?_
        refine dl_r (sem_load1 ty24 rfl rfl rfl rfl) ?_
        refine dl_r (sem_field fd26_1 rfl rfl) ?_
        refine dl_r (sem_load1 ty24 rfl rfl rfl rfl) ?_
        refine dl_r (sem_call rfl rfl (iDivide_ok (by assumption) (by assumption) (by assumption)) rfl) ?_
        refine dl_r (sem_move rfl rfl) ?_
        refine dl_r (sem_extract rfl rfl rfl) ?_
        refine dl_r (sem_extract rfl rfl rfl) ?_
        refine dl_r (sem_assign rfl rfl) ?_
        refine dl_r (sem_assign rfl rfl) ?_
        refine dl_end ?_
        -- region 10
        refine dw_draw 3 [] follows_mixed (by kernel_rfl) rfl rfl ?_
        refine dq_r (sem_load (us := cI c) ty26 rfl rfl rfl rfl rfl) ?_
        refine dq_r (sem_move rfl rfl) ?_
        refine dq_r (sem_call rfl rfl (iSigned_ok) rfl) ?_
        refine dq_end ?_
        refine dl_start0 ?_
        refine dl_st (sem_store_a ty26 rfl rfl rfl rfl rfl rfl) ?_
        refine dl_st (sem_store_a ty26 rfl rfl rfl rfl rfl rfl) ?_
        refine dl_end ?_
        exact ⟨⟨(c, sg false ((a.natAbs : Int) % c.natAbs)), hg.step hne⟩, sub_of ⟨rfl, rfl, rfl, trivial⟩ ⟨rfl, rfl, rfl, trivial⟩ rfl, hg.less hne⟩
  · refine dw_exit ?_
    refine dw_seq ?_
    -- region 11
    refine dw_region (by kernel_rfl) ?_
    refine dl_r (sem_field fd26_1 rfl rfl) ?_
    refine dl_r (sem_load1 ty24 rfl rfl rfl rfl) ?_
    refine dl_r (sem_copy rfl (by assumption) rfl) ?_
    refine dl_r (sem_call rfl rfl (iSigned_cL) rfl) ?_
    refine dl_st (sem_store_a ty26 rfl rfl rfl rfl rfl rfl) ?_
    refine dl_end ?_
    refine dw_ret ?_
    -- path F
    rw [hg.done (lenL_zero hc1)]
    exact ⟨.inr rfl, (resL_cell (us := cI (sg false (a.natAbs : Int))) ty26 rfl rfl rfl rfl resL_nil)⟩
end Go.Proofs.YtonjlikaacengaaGreat
/- Package rational: the small functions. -/
namespace Go.Proofs.YtonjlikaacengaaGreat
open Go Go.RowKit
theorem unit_ok  : Ok Tryz.prog 104 [] [dI 1] := by
  refine Ok.of (by kernel_rfl) Tryz.func104 rfl rfl ?_
  rw [show Tryz.f104.ntmps = 2 from rfl, show Tryz.f104.results.toList = [.cell 0 26] from rfl]
  refine dw_seq ?_
  -- region 0
  refine dw_region (by kernel_rfl) ?_
  refine dl_new (sem_alloc zc26 rfl) rfl ?_
  refine dl_end ?_
  refine dw_seq ?_
  -- region 1
  refine dw_region (by kernel_rfl) ?_
  refine dl_r (sem_call rfl rfl (iFrom_ok (by omega) (by omega)) rfl) ?_
  refine dl_st (sem_store_a ty26 rfl rfl rfl rfl rfl rfl) ?_
  refine dl_end ?_
  refine dw_ret ?_
  -- path 
  exact ⟨.inr rfl, (resL_cell (us := cI 1) ty26 rfl rfl rfl rfl resL_nil)⟩
theorem rSign_ok {x : Rat} : Ok Tryz.prog 87 [dR x] [.c (.i .i64 (cmpI x.num 0))] := by
  refine Ok.of (by kernel_rfl) Tryz.func87 rfl rfl ?_
  rw [show Tryz.f87.ntmps = 6 from rfl, show Tryz.f87.results.toList = [.tmp 2] from rfl]
  refine dw_seq ?_
  -- region 0
  refine dw_region (by kernel_rfl) ?_
  refine dl_new (sem_box_a rfl rfl) rfl ?_
  refine dl_r (sem_assign rfl rfl) ?_
  refine dl_end ?_
  refine dw_seq ?_
  -- region 1
  refine dw_region (by kernel_rfl) ?_
  refine dl_r (sem_field fd28_0 rfl rfl) ?_
  refine dl_r (sem_load (us := cI x.num) ty26 rfl rfl rfl rfl rfl) ?_
  refine dl_r (sem_call rfl rfl (iSign_ok) rfl) ?_
  refine dl_r (sem_assign rfl rfl) ?_
  refine dl_end ?_
  refine dw_ret ?_
  -- path 
  exact ⟨.inr rfl, (resL_tmp rfl resL_nil)⟩
theorem isNaN_ok {m : Int} : Ok Tryz.prog 107 [.c (.i .i64 m)] [.c (.b false)] := by
  refine Ok.of (by kernel_rfl) Tryz.func107 rfl rfl ?_
  rw [show Tryz.f107.ntmps = 6 from rfl, show Tryz.f107.results.toList = [.tmp 2] from rfl]
  refine dw_seq ?_
  -- region 0
  refine dw_region (by kernel_rfl) ?_
  refine dl_r (sem_assign rfl rfl) ?_
  refine dl_end ?_
  refine dw_seq ?_
  -- region 1
  refine dw_region (by kernel_rfl) ?_
  refine dl_r (sem_move rfl rfl) ?_
  refine dl_r (sem_move rfl rfl) ?_
  refine dl_r (sem_cmp rfl rfl rfl rfl) ?_
  refine dl_r (sem_assign rfl rfl) ?_
  refine dl_end ?_
  refine dw_ret ?_
  -- path 
  exact ⟨.inr rfl, by simpa using (resL_tmp rfl resL_nil)⟩
end Go.Proofs.YtonjlikaacengaaGreat
/- cmp.Compare at int. -/
namespace Go.Proofs.YtonjlikaacengaaGreat
open Go Go.RowKit
theorem cmpInt_ok {m n : Int} : Ok Tryz.prog 86 [.c (.i .i64 m), .c (.i .i64 n)] [.c (.i .i64 (cmpI m n))] := by
  refine Ok.of (by kernel_rfl) Tryz.func86 rfl rfl ?_
  rw [show Tryz.f86.ntmps = 20 from rfl, show Tryz.f86.results.toList = [.tmp 4] from rfl]
  refine dw_seq ?_
  -- region 0
  refine dw_region (by kernel_rfl) ?_
  refine dl_r (sem_assign rfl rfl) ?_
  refine dl_end ?_
  refine dw_seq ?_
  -- region 1
  refine dw_region (by kernel_rfl) ?_
  refine dl_r (sem_move rfl rfl) ?_
  refine dl_r (sem_call rfl rfl (isNaN_ok) rfl) ?_
  refine dl_r (sem_assign rfl rfl) ?_
  refine dl_end ?_
  refine dw_seq ?_
  -- region 2
  refine dw_region (by kernel_rfl) ?_
  refine dl_r (sem_move rfl rfl) ?_
  refine dl_r (sem_call rfl rfl (isNaN_ok) rfl) ?_
  refine dl_r (sem_assign rfl rfl) ?_
  refine dl_end ?_
  refine dw_seq ?_
  refine dw_seq ?_
  -- region 3
  refine dw_region (by kernel_rfl) ?_
  refine dl_r (sem_move rfl rfl) ?_
  refine dl_end ?_
  refine dw_false rfl ?_
  refine dw_skip ?_
  refine dw_seq ?_
  refine dw_seq ?_
  -- region 7
  refine dw_region (by kernel_rfl) ?_
  refine dl_r (sem_move rfl rfl) ?_
  refine dl_end ?_
  refine dw_false rfl ?_
  refine dw_skip ?_
  refine dw_seq ?_
  refine dw_seq ?_
  -- region 9
  refine dw_region (by kernel_rfl) ?_
  refine dl_r (sem_move rfl rfl) ?_
  refine dl_r (sem_move rfl rfl) ?_
  refine dl_r (sem_cmp rfl rfl rfl rfl) ?_
  refine dl_end ?_
  refine dw_cond rfl (fun hc1 => ?_) (fun hc1 => ?_)
  · refine dw_seq ?_
    -- region 10
    refine dw_region (by kernel_rfl) ?_
    refine dl_r (sem_assign rfl rfl) ?_
    refine dl_end ?_
    refine dw_ret ?_
    -- path T
    rw [cmp_lt (by simpa using hc1)]
    exact ⟨.inr rfl, (resL_tmp rfl resL_nil)⟩
  · refine dw_skip ?_
    refine dw_seq ?_
    refine dw_seq ?_
    -- region 11
    refine dw_region (by kernel_rfl) ?_
    refine dl_r (sem_move rfl rfl) ?_
    refine dl_r (sem_move rfl rfl) ?_
    refine dl_r (sem_cmp rfl rfl rfl rfl) ?_
    refine dl_end ?_
    refine dw_cond rfl (fun hc2 => ?_) (fun hc2 => ?_)
    · refine dw_seq ?_
      -- region 12
      refine dw_region (by kernel_rfl) ?_
      refine dl_r (sem_assign rfl rfl) ?_
      refine dl_end ?_
      refine dw_ret ?_
      -- path FT
      rw [cmp_gt (by simpa using hc2)]
      exact ⟨.inr rfl, (resL_tmp rfl resL_nil)⟩
    · refine dw_skip ?_
      refine dw_seq ?_
      -- region 13
      refine dw_region (by kernel_rfl) ?_
      refine dl_r (sem_assign rfl rfl) ?_
      refine dl_end ?_
      refine dw_ret ?_
      -- path FF
      rw [cmp_eq (by have := hc1; have h2 := hc2; simp at this h2; omega)]
      exact ⟨.inr rfl, (resL_tmp rfl resL_nil)⟩
end Go.Proofs.YtonjlikaacengaaGreat
/- Package rational. -/
namespace Go.Proofs.YtonjlikaacengaaGreat
open Go Go.RowKit
theorem pUnit_ok  : Ok Tryz.prog 104 [] [dI 1] := by
  refine Ok.of (by kernel_rfl) Tryz.func104 rfl rfl ?_
  rw [show Tryz.f104.ntmps = 2 from rfl, show Tryz.f104.results.toList = [.cell 0 26] from rfl]
  refine dw_seq ?_
  -- region 0
  refine dw_region (by kernel_rfl) ?_
  refine dl_new (sem_alloc zc26 rfl) rfl ?_
  refine dl_end ?_
  refine dw_seq ?_
  -- region 1
  refine dw_region (by kernel_rfl) ?_
  refine dl_r (sem_call rfl rfl (iFrom_ok (by omega) (by omega)) rfl) ?_
  refine dl_st (sem_store_a ty26 rfl rfl rfl rfl rfl rfl) ?_
  refine dl_end ?_
  refine dw_ret ?_
  -- path 
  exact ⟨.inr rfl, (resL_cell (us := cI 1) ty26 rfl rfl rfl rfl resL_nil)⟩
theorem pSign_ok {x : Rat} : Ok Tryz.prog 87 [dR x] [.c (.i .i64 (cmpR x 0))] := by
  refine Ok.of (by kernel_rfl) Tryz.func87 rfl rfl ?_
  rw [show Tryz.f87.ntmps = 6 from rfl, show Tryz.f87.results.toList = [.tmp 2] from rfl]
  refine dw_seq ?_
  -- region 0
  refine dw_region (by kernel_rfl) ?_
  refine dl_new (sem_box_a rfl rfl) rfl ?_
  refine dl_r (sem_assign rfl rfl) ?_
  refine dl_end ?_
  refine dw_seq ?_
  -- region 1
  refine dw_region (by kernel_rfl) ?_
  refine dl_r (sem_field fd28_0 rfl rfl) ?_
  refine dl_r (sem_load (us := cI x.num) ty26 rfl rfl rfl rfl rfl) ?_
  refine dl_r (sem_call rfl rfl (iSign_ok) rfl) ?_
  refine dl_r (sem_assign rfl rfl) ?_
  refine dl_end ?_
  refine dw_ret ?_
  -- path 
  rw [← cmpR_num]
  exact ⟨.inr rfl, (resL_tmp rfl resL_nil)⟩
theorem pWhole_ok {n : Int} : Ok Tryz.prog 83 [dI n] [dR (n : Rat)] := by
  refine Ok.of (by kernel_rfl) Tryz.func83 rfl rfl ?_
  rw [show Tryz.f83.ntmps = 6 from rfl, show Tryz.f83.results.toList = [.cell 2 28] from rfl]
  refine dw_seq ?_
  -- region 0
  refine dw_region (by kernel_rfl) ?_
  refine dl_new (sem_box_a rfl rfl) rfl ?_
  refine dl_new (sem_alloc zc28 rfl) rfl ?_
  refine dl_end ?_
  refine dw_seq ?_
  -- region 1
  refine dw_draw 3 [] follows_mixed (by kernel_rfl) rfl rfl ?_
  refine dq_r (sem_load (us := cI n) ty26 rfl rfl rfl rfl rfl) ?_
  refine dq_r (sem_call rfl rfl (unit_ok) rfl) ?_
  refine dq_r (sem_build (us := cQ n 1) fs28 zc28 rfl rfl rfl) ?_
  refine dq_end ?_
  refine dl_start0 ?_
  refine dl_st (sem_store_a ty28 rfl rfl rfl rfl rfl rfl) ?_
  refine dl_end ?_
  refine dw_ret ?_
  -- path 
  rw [dR_int]
  exact ⟨.inr rfl, (resL_cell (us := cQ n 1) ty28 rfl rfl rfl rfl resL_nil)⟩
theorem pFrom_ok {n : Int} (h0 : -9223372036854775808 ≤ n) (h1 : n ≤ 9223372036854775807) : Ok Tryz.prog 48 [.c (.i .i64 n)] [dR (n : Rat)] := by
  refine Ok.of (by kernel_rfl) Tryz.func48 rfl rfl ?_
  rw [show Tryz.f48.ntmps = 6 from rfl, show Tryz.f48.results.toList = [.cell 2 28] from rfl]
  refine dw_seq ?_
  -- region 0
  refine dw_region (by kernel_rfl) ?_
  refine dl_new (sem_alloc zc28 rfl) rfl ?_
  refine dl_end ?_
  refine dw_seq ?_
  -- region 1
  refine dw_region (by kernel_rfl) ?_
  refine dl_r (sem_move rfl rfl) ?_
  refine dl_r (sem_call rfl rfl (iFrom_ok (by omega) (by omega)) rfl) ?_
  refine dl_r (sem_call rfl rfl (pWhole_ok) rfl) ?_
  refine dl_st (sem_store_a ty28 rfl rfl rfl rfl rfl rfl) ?_
  refine dl_end ?_
  refine dw_ret ?_
  -- path 
  exact ⟨.inr rfl, (resL_cell (us := cR (n : Rat)) ty28 rfl rfl rfl rfl resL_nil)⟩
theorem pExact_ok {x y : Int} (hx : Sz 1000000 x) (hy : Sz 1000000 y) (h0 : y ≠ 0) : Ok Tryz.prog 117 [dI x, dI y] [dI (x.fdiv y)] := by
  refine Ok.of (by kernel_rfl) Tryz.func117 rfl rfl ?_
  rw [show Tryz.f117.ntmps = 16 from rfl, show Tryz.f117.results.toList = [.cell 4 26] from rfl]
  refine dw_seq ?_
  -- region 0
  refine dw_region (by kernel_rfl) ?_
  refine dl_new (sem_box_a rfl rfl) rfl ?_
  refine dl_new (sem_box_a rfl rfl) rfl ?_
  refine dl_new (sem_alloc zc26 rfl) rfl ?_
  refine dl_end ?_
  refine dw_seq ?_
  -- region 1
  refine dw_region (by kernel_rfl) ?_
  refine dl_r (sem_load (us := cI x) ty26 rfl rfl rfl rfl rfl) ?_
  refine dl_r (sem_load (us := cI y) ty26 rfl rfl rfl rfl rfl) ?_
  refine dl_r (sem_call rfl rfl (iDivMod_ok (by first | assumption | exact Sz.mono hx (by decide)) (by first | assumption | exact Sz.mono hy (by decide)) (by assumption)) rfl) ?_
  refine dl_r (sem_move rfl rfl) ?_
  refine dl_r (sem_extract rfl rfl rfl) ?_
  refine dl_r (sem_extract rfl rfl rfl) ?_
  refine dl_r (sem_extract rfl rfl rfl) ?_
  refine dl_new (sem_alloc zc26 rfl) rfl ?_
  refine dl_new (sem_alloc zc26 rfl) rfl ?_
  refine dl_st (sem_store_a ty26 rfl rfl rfl rfl rfl rfl) ?_
  refine dl_st (sem_store_a ty26 rfl rfl rfl rfl rfl rfl) ?_
  refine dl_r (sem_assign rfl rfl) ?_
  refine dl_end ?_
  refine dw_seq ?_
  -- region 2
  refine dw_region (by kernel_rfl) ?_
  refine dl_r (sem_load (us := cI (x.fdiv y)) ty26 rfl rfl rfl rfl rfl) ?_
  refine dl_st (sem_store_a ty26 rfl rfl rfl rfl rfl rfl) ?_
  refine dl_end ?_
  refine dw_ret ?_
  -- path 
  exact ⟨.inr rfl, (resL_cell (us := cI (x.fdiv y)) ty26 rfl rfl rfl rfl resL_nil)⟩
theorem pReduce_ok {x y : Int} (hx : Sz 999 x) (hy : Sz 999 y) (h0 : y ≠ 0) : Ok Tryz.prog 92 [dI x, dI y] [dR (Rat.divInt x y)] := by
  have hg := gcd_ne (n := x) h0
  have hg2 := gcd_ne (n := -x) (d := -y) (by omega)
  have hgs := Sz.gcd (x := x) hy h0
  have hgs2 := Sz.gcd (x := -x) hy.neg (by omega)
  refine Ok.of (by kernel_rfl) Tryz.func92 rfl rfl ?_
  rw [show Tryz.f92.ntmps = 29 from rfl, show Tryz.f92.results.toList = [.cell 4 28] from rfl]
  refine dw_seq ?_
  -- region 0
  refine dw_region (by kernel_rfl) ?_
  refine dl_new (sem_box_a rfl rfl) rfl ?_
  refine dl_new (sem_box_a rfl rfl) rfl ?_
  refine dl_new (sem_alloc zc28 rfl) rfl ?_
  refine dl_end ?_
  refine dw_seq ?_
  refine dw_seq ?_
  -- region 1
  refine dw_region (by kernel_rfl) ?_
  refine dl_r (sem_load (us := cI y) ty26 rfl rfl rfl rfl rfl) ?_
  refine dl_r (sem_call rfl rfl (iSign_ok) rfl) ?_
  refine dl_r (sem_cmp rfl rfl rfl rfl) ?_
  refine dl_end ?_
  refine dw_cond rfl (fun hc1 => ?_) (fun hc1 => ?_)
  · have hn := t_lt hc1
    -- region 2
    refine dw_draw 4 [] follows_mixed (by kernel_rfl) rfl rfl ?_
    refine dq_r (sem_load (us := cI x) ty26 rfl rfl rfl rfl rfl) ?_
    refine dq_r (sem_call rfl rfl (iNeg_ok (by first | assumption | exact Sz.mono hx (by decide))) rfl) ?_
    refine dq_r (sem_load (us := cI y) ty26 rfl rfl rfl rfl rfl) ?_
    refine dq_r (sem_call rfl rfl (iNeg_ok (by first | assumption | exact Sz.mono hy (by decide))) rfl) ?_
    refine dq_end ?_
    refine dl_start0 ?_
    refine dl_st (sem_store_a ty26 rfl rfl rfl rfl rfl rfl) ?_
    refine dl_st (sem_store_a ty26 rfl rfl rfl rfl rfl rfl) ?_
    refine dl_end ?_
    refine dw_seq ?_
    refine dw_seq ?_
    -- region 3
    refine dw_region (by kernel_rfl) ?_
    refine dl_r (sem_load (us := cI (-x)) ty26 rfl rfl rfl rfl rfl) ?_
    refine dl_r (sem_load (us := cI (-y)) ty26 rfl rfl rfl rfl rfl) ?_
    refine dl_r (sem_call rfl rfl (iGCD_ok (by first | assumption | exact Sz.mono (Sz.neg hx) (by decide)) (by first | assumption | exact Sz.mono (Sz.neg hy) (by decide))) rfl) ?_
    refine dl_new (sem_alloc zc26 rfl) rfl ?_
    refine dl_st (sem_store_a ty26 rfl rfl rfl rfl rfl rfl) ?_
    refine dl_end ?_
    refine dw_seq ?_
    -- region 4
    refine dw_draw 4 [] follows_mixed (by kernel_rfl) rfl rfl ?_
    refine dq_r (sem_load (us := cI ((Int.gcd (-x) (-y) : Int))) ty26 rfl rfl rfl rfl rfl) ?_
    refine dq_r (sem_call rfl rfl (unit_ok) rfl) ?_
    refine dq_r (sem_call rfl rfl (iCmp_ok) rfl) ?_
    refine dq_r (sem_cmp rfl rfl rfl rfl) ?_
    refine dq_end ?_
    refine dl_start0 ?_
    refine dl_end ?_
    refine dw_cond rfl (fun hc2 => ?_) (fun hc2 => ?_)
    · -- region 5
      refine dw_draw 6 [] follows_mixed (by kernel_rfl) rfl rfl ?_
      refine dq_r (sem_load (us := cI (-x)) ty26 rfl rfl rfl rfl rfl) ?_
      refine dq_r (sem_load (us := cI ((Int.gcd (-x) (-y) : Int))) ty26 rfl rfl rfl rfl rfl) ?_
      refine dq_r (sem_call rfl rfl (pExact_ok (by first | assumption | exact Sz.mono (Sz.neg hx) (by decide)) (by first | assumption | exact Sz.mono (by assumption) (by decide)) (by first | assumption | exact neg_ne (by assumption) | exact mul_ne (by assumption) (by assumption))) rfl) ?_
      refine dq_r (sem_load (us := cI (-y)) ty26 rfl rfl rfl rfl rfl) ?_
      refine dq_r (sem_load (us := cI ((Int.gcd (-x) (-y) : Int))) ty26 rfl rfl rfl rfl rfl) ?_
      refine dq_r (sem_call rfl rfl (pExact_ok (by first | assumption | exact Sz.mono (Sz.neg hy) (by decide)) (by first | assumption | exact Sz.mono (by assumption) (by decide)) (by first | assumption | exact neg_ne (by assumption) | exact mul_ne (by assumption) (by assumption))) rfl) ?_
      refine dq_end ?_
      refine dl_start0 ?_
      refine dl_st (sem_store_a ty26 rfl rfl rfl rfl rfl rfl) ?_
      refine dl_st (sem_store_a ty26 rfl rfl rfl rfl rfl rfl) ?_
      refine dl_end ?_
      refine dw_seq ?_
      -- region 6
      refine dw_region (by kernel_rfl) ?_
      refine dl_r (sem_load (us := cI ((-x).fdiv ((Int.gcd (-x) (-y) : Int)))) ty26 rfl rfl rfl rfl rfl) ?_
      refine dl_r (sem_load (us := cI ((-y).fdiv ((Int.gcd (-x) (-y) : Int)))) ty26 rfl rfl rfl rfl rfl) ?_
      refine dl_r (sem_build (us := cQ ((-x).fdiv ((Int.gcd (-x) (-y) : Int))) ((-y).fdiv ((Int.gcd (-x) (-y) : Int)))) fs28 zc28 rfl rfl rfl) ?_
      refine dl_st (sem_store_a ty28 rfl rfl rfl rfl rfl rfl) ?_
      refine dl_end ?_
      refine dw_ret ?_
      -- path TT
      rw [dR_neg, dR_red (by omega)]
      exact ⟨.inr rfl, (resL_cell (us := cQ ((-x).fdiv ((Int.gcd (-x) (-y) : Int))) ((-y).fdiv ((Int.gcd (-x) (-y) : Int)))) ty28 rfl rfl rfl rfl resL_nil)⟩
    · refine dw_skip ?_
      refine dw_seq ?_
      -- region 6
      refine dw_region (by kernel_rfl) ?_
      refine dl_r (sem_load (us := cI (-x)) ty26 rfl rfl rfl rfl rfl) ?_
      refine dl_r (sem_load (us := cI (-y)) ty26 rfl rfl rfl rfl rfl) ?_
      refine dl_r (sem_build (us := cQ (-x) (-y)) fs28 zc28 rfl rfl rfl) ?_
      refine dl_st (sem_store_a ty28 rfl rfl rfl rfl rfl rfl) ?_
      refine dl_end ?_
      refine dw_ret ?_
      -- path TF
      rw [dR_neg, dR_red1 (by omega) (f_ne hc2)]
      exact ⟨.inr rfl, (resL_cell (us := cQ (-x) (-y)) ty28 rfl rfl rfl rfl resL_nil)⟩
  · have hn := f_lt hc1
    refine dw_skip ?_
    refine dw_seq ?_
    refine dw_seq ?_
    -- region 3
    refine dw_region (by kernel_rfl) ?_
    refine dl_r (sem_load (us := cI x) ty26 rfl rfl rfl rfl rfl) ?_
    refine dl_r (sem_load (us := cI y) ty26 rfl rfl rfl rfl rfl) ?_
    refine dl_r (sem_call rfl rfl (iGCD_ok (by first | assumption | exact Sz.mono hx (by decide)) (by first | assumption | exact Sz.mono hy (by decide))) rfl) ?_
    refine dl_new (sem_alloc zc26 rfl) rfl ?_
    refine dl_st (sem_store_a ty26 rfl rfl rfl rfl rfl rfl) ?_
    refine dl_end ?_
    refine dw_seq ?_
    -- region 4
    refine dw_draw 4 [] follows_mixed (by kernel_rfl) rfl rfl ?_
    refine dq_r (sem_load (us := cI (Int.gcd x y : Int)) ty26 rfl rfl rfl rfl rfl) ?_
    refine dq_r (sem_call rfl rfl (unit_ok) rfl) ?_
    refine dq_r (sem_call rfl rfl (iCmp_ok) rfl) ?_
    refine dq_r (sem_cmp rfl rfl rfl rfl) ?_
    refine dq_end ?_
    refine dl_start0 ?_
    refine dl_end ?_
    refine dw_cond rfl (fun hc3 => ?_) (fun hc3 => ?_)
    · -- region 5
      refine dw_draw 6 [] follows_mixed (by kernel_rfl) rfl rfl ?_
      refine dq_r (sem_load (us := cI x) ty26 rfl rfl rfl rfl rfl) ?_
      refine dq_r (sem_load (us := cI (Int.gcd x y : Int)) ty26 rfl rfl rfl rfl rfl) ?_
      refine dq_r (sem_call rfl rfl (pExact_ok (by first | assumption | exact Sz.mono hx (by decide)) (by first | assumption | exact Sz.mono (by assumption) (by decide)) (by first | assumption | exact neg_ne (by assumption) | exact mul_ne (by assumption) (by assumption))) rfl) ?_
      refine dq_r (sem_load (us := cI y) ty26 rfl rfl rfl rfl rfl) ?_
      refine dq_r (sem_load (us := cI (Int.gcd x y : Int)) ty26 rfl rfl rfl rfl rfl) ?_
      refine dq_r (sem_call rfl rfl (pExact_ok (by first | assumption | exact Sz.mono hy (by decide)) (by first | assumption | exact Sz.mono (by assumption) (by decide)) (by first | assumption | exact neg_ne (by assumption) | exact mul_ne (by assumption) (by assumption))) rfl) ?_
      refine dq_end ?_
      refine dl_start0 ?_
      refine dl_st (sem_store_a ty26 rfl rfl rfl rfl rfl rfl) ?_
      refine dl_st (sem_store_a ty26 rfl rfl rfl rfl rfl rfl) ?_
      refine dl_end ?_
      refine dw_seq ?_
      -- region 6
      refine dw_region (by kernel_rfl) ?_
      refine dl_r (sem_load (us := cI (x.fdiv (Int.gcd x y : Int))) ty26 rfl rfl rfl rfl rfl) ?_
      refine dl_r (sem_load (us := cI (y.fdiv (Int.gcd x y : Int))) ty26 rfl rfl rfl rfl rfl) ?_
      refine dl_r (sem_build (us := cQ (x.fdiv (Int.gcd x y : Int)) (y.fdiv (Int.gcd x y : Int))) fs28 zc28 rfl rfl rfl) ?_
      refine dl_st (sem_store_a ty28 rfl rfl rfl rfl rfl rfl) ?_
      refine dl_end ?_
      refine dw_ret ?_
      -- path FT
      rw [dR_red (by omega)]
      exact ⟨.inr rfl, (resL_cell (us := cQ (x.fdiv (Int.gcd x y : Int)) (y.fdiv (Int.gcd x y : Int))) ty28 rfl rfl rfl rfl resL_nil)⟩
    · refine dw_skip ?_
      refine dw_seq ?_
      -- region 6
      refine dw_region (by kernel_rfl) ?_
      refine dl_r (sem_load (us := cI x) ty26 rfl rfl rfl rfl rfl) ?_
      refine dl_r (sem_load (us := cI y) ty26 rfl rfl rfl rfl rfl) ?_
      refine dl_r (sem_build (us := cQ x y) fs28 zc28 rfl rfl rfl) ?_
      refine dl_st (sem_store_a ty28 rfl rfl rfl rfl rfl rfl) ?_
      refine dl_end ?_
      refine dw_ret ?_
      -- path FF
      rw [dR_red1 (by omega) (f_ne hc3)]
      exact ⟨.inr rfl, (resL_cell (us := cQ x y) ty28 rfl rfl rfl rfl resL_nil)⟩
-- no function swarf/rational.Make in this seat
theorem pNeg_ok {x : Rat} (hx : Rz 300 x) : Ok Tryz.prog 66 [dR x] [dR (-x)] := by
  refine Ok.of (by kernel_rfl) Tryz.func66 rfl rfl ?_
  rw [show Tryz.f66.ntmps = 9 from rfl, show Tryz.f66.results.toList = [.cell 2 28] from rfl]
  refine dw_seq ?_
  -- region 0
  refine dw_region (by kernel_rfl) ?_
  refine dl_new (sem_box_a rfl rfl) rfl ?_
  refine dl_new (sem_alloc zc28 rfl) rfl ?_
  refine dl_end ?_
  refine dw_seq ?_
  -- region 1
  refine dw_draw 6 [] follows_mixed (by kernel_rfl) rfl rfl ?_
  refine dq_r (sem_field fd28_0 rfl rfl) ?_
  refine dq_r (sem_load (us := cI x.num) ty26 rfl rfl rfl rfl rfl) ?_
  refine dq_r (sem_call rfl rfl (iNeg_ok (by first | assumption | exact Sz.mono (Rz.n hx) (by decide))) rfl) ?_
  refine dq_r (sem_field fd28_1 rfl rfl) ?_
  refine dq_r (sem_load (us := cI (x.den : Int)) ty26 rfl rfl rfl rfl rfl) ?_
  refine dq_r (sem_build (us := cQ (-x.num) (x.den : Int)) fs28 zc28 rfl rfl rfl) ?_
  refine dq_end ?_
  refine dl_start0 ?_
  refine dl_st (sem_store_a ty28 rfl rfl rfl rfl rfl rfl) ?_
  refine dl_end ?_
  refine dw_ret ?_
  -- path 
  rw [dR_eq (Rat.neg_num x) (congrArg Int.ofNat (Rat.neg_den x))]
  exact ⟨.inr rfl, (resL_cell (us := cQ (-x.num) (x.den : Int)) ty28 rfl rfl rfl rfl resL_nil)⟩
theorem pAdd_ok {x y : Rat} (hx : Rz 300 x) (hy : Rz 300 y) : Ok Tryz.prog 122 [dR x, dR y] [dR (x + y)] := by
  have hn := mul_ne (den_ne x) (den_ne y)
  have hn1 := den_ne x
  refine Ok.of (by kernel_rfl) Tryz.func122 rfl rfl ?_
  rw [show Tryz.f122.ntmps = 36 from rfl, show Tryz.f122.results.toList = [.cell 4 28] from rfl]
  refine dw_seq ?_
  -- region 0
  refine dw_region (by kernel_rfl) ?_
  refine dl_new (sem_box_a rfl rfl) rfl ?_
  refine dl_new (sem_box_a rfl rfl) rfl ?_
  refine dl_new (sem_alloc zc28 rfl) rfl ?_
  refine dl_end ?_
  refine dw_seq ?_
  refine dw_seq ?_
  -- region 1
  refine dw_region (by kernel_rfl) ?_
  refine dl_r (sem_field fd28_1 rfl rfl) ?_
  refine dl_r (sem_load (us := cI (x.den : Int)) ty26 rfl rfl rfl rfl rfl) ?_
  refine dl_r (sem_field fd28_1 rfl rfl) ?_
  refine dl_r (sem_load (us := cI (y.den : Int)) ty26 rfl rfl rfl rfl rfl) ?_
  refine dl_r (sem_call rfl rfl (iCmp_ok) rfl) ?_
  refine dl_r (sem_cmp rfl rfl rfl rfl) ?_
  refine dl_end ?_
  refine dw_cond rfl (fun hc1 => ?_) (fun hc1 => ?_)
  · refine dw_seq ?_
    -- region 2
    refine dw_draw 8 [] follows_mixed (by kernel_rfl) rfl rfl ?_
    refine dq_r (sem_field fd28_0 rfl rfl) ?_
    refine dq_r (sem_load (us := cI x.num) ty26 rfl rfl rfl rfl rfl) ?_
    refine dq_r (sem_field fd28_0 rfl rfl) ?_
    refine dq_r (sem_load (us := cI y.num) ty26 rfl rfl rfl rfl rfl) ?_
    refine dq_r (sem_call rfl rfl (iAdd_ok (by first | assumption | exact Sz.mono (Rz.n hx) (by decide)) (by first | assumption | exact Sz.mono (Rz.n hy) (by decide))) rfl) ?_
    refine dq_r (sem_field fd28_1 rfl rfl) ?_
    refine dq_r (sem_load (us := cI (x.den : Int)) ty26 rfl rfl rfl rfl rfl) ?_
    refine dq_r (sem_call rfl rfl (pReduce_ok (by first | assumption | exact Sz.mono (Sz.addm (Rz.n hx) (Rz.n hy)) (by decide)) (by first | assumption | exact Sz.mono (Rz.d hx) (by decide)) (by first | assumption | exact neg_ne (by assumption) | exact mul_ne (by assumption) (by assumption))) rfl) ?_
    refine dq_end ?_
    refine dl_start0 ?_
    refine dl_st (sem_store_a ty28 rfl rfl rfl rfl rfl rfl) ?_
    refine dl_end ?_
    refine dw_ret ?_
    -- path T
    rw [← radd1 (t_eq hc1)]
    exact ⟨.inr rfl, (resL_cell (us := cR (Rat.divInt (x.num + y.num) (x.den : Int))) ty28 rfl rfl rfl rfl resL_nil)⟩
  · refine dw_skip ?_
    refine dw_seq ?_
    -- region 3
    refine dw_draw 17 [] follows_mixed (by kernel_rfl) rfl rfl ?_
    refine dq_r (sem_field fd28_0 rfl rfl) ?_
    refine dq_r (sem_load (us := cI x.num) ty26 rfl rfl rfl rfl rfl) ?_
    refine dq_r (sem_field fd28_1 rfl rfl) ?_
    refine dq_r (sem_load (us := cI (y.den : Int)) ty26 rfl rfl rfl rfl rfl) ?_
    refine dq_r (sem_call rfl rfl (iMul_ok (by first | assumption | exact Sz.mono (Rz.n hx) (by decide)) (by first | assumption | exact Sz.mono (Rz.d hy) (by decide))) rfl) ?_
    refine dq_r (sem_field fd28_0 rfl rfl) ?_
    refine dq_r (sem_load (us := cI y.num) ty26 rfl rfl rfl rfl rfl) ?_
    refine dq_r (sem_field fd28_1 rfl rfl) ?_
    refine dq_r (sem_load (us := cI (x.den : Int)) ty26 rfl rfl rfl rfl rfl) ?_
    refine dq_r (sem_call rfl rfl (iMul_ok (by first | assumption | exact Sz.mono (Rz.n hy) (by decide)) (by first | assumption | exact Sz.mono (Rz.d hx) (by decide))) rfl) ?_
    refine dq_r (sem_call rfl rfl (iAdd_ok (by first | assumption | exact Sz.mono (Sz.mul (Rz.n hx) (Rz.d hy)) (by decide)) (by first | assumption | exact Sz.mono (Sz.mul (Rz.n hy) (Rz.d hx)) (by decide))) rfl) ?_
    refine dq_r (sem_field fd28_1 rfl rfl) ?_
    refine dq_r (sem_load (us := cI (x.den : Int)) ty26 rfl rfl rfl rfl rfl) ?_
    refine dq_r (sem_field fd28_1 rfl rfl) ?_
    refine dq_r (sem_load (us := cI (y.den : Int)) ty26 rfl rfl rfl rfl rfl) ?_
    refine dq_r (sem_call rfl rfl (iMul_ok (by first | assumption | exact Sz.mono (Rz.d hx) (by decide)) (by first | assumption | exact Sz.mono (Rz.d hy) (by decide))) rfl) ?_
    refine dq_r (sem_call rfl rfl (pReduce_ok (by first | assumption | exact Sz.mono (Sz.addm (Sz.mul (Rz.n hx) (Rz.d hy)) (Sz.mul (Rz.n hy) (Rz.d hx))) (by decide)) (by first | assumption | exact Sz.mono (Sz.mul (Rz.d hx) (Rz.d hy)) (by decide)) (by first | assumption | exact neg_ne (by assumption) | exact mul_ne (by assumption) (by assumption))) rfl) ?_
    refine dq_end ?_
    refine dl_start0 ?_
    refine dl_st (sem_store_a ty28 rfl rfl rfl rfl rfl rfl) ?_
    refine dl_end ?_
    refine dw_ret ?_
    -- path F
    rw [← radd]
    exact ⟨.inr rfl, (resL_cell (us := cR (Rat.divInt ((x.num * (y.den : Int)) + (y.num * (x.den : Int))) ((x.den : Int) * (y.den : Int)))) ty28 rfl rfl rfl rfl resL_nil)⟩
theorem pSub_ok {x y : Rat} (hx : Rz 300 x) (hy : Rz 300 y) : Ok Tryz.prog 121 [dR x, dR y] [dR (x - y)] := by
  refine Ok.of (by kernel_rfl) Tryz.func121 rfl rfl ?_
  rw [show Tryz.f121.ntmps = 9 from rfl, show Tryz.f121.results.toList = [.cell 4 28] from rfl]
  refine dw_seq ?_
  -- region 0
  refine dw_region (by kernel_rfl) ?_
  refine dl_new (sem_box_a rfl rfl) rfl ?_
  refine dl_new (sem_box_a rfl rfl) rfl ?_
  refine dl_new (sem_alloc zc28 rfl) rfl ?_
  refine dl_end ?_
  refine dw_seq ?_
  -- region 1
  refine dw_draw 4 [] follows_mixed (by kernel_rfl) rfl rfl ?_
  refine dq_r (sem_load (us := cR x) ty28 rfl rfl rfl rfl rfl) ?_
  refine dq_r (sem_load (us := cR y) ty28 rfl rfl rfl rfl rfl) ?_
  refine dq_r (sem_call rfl rfl (pNeg_ok (by first | assumption | exact Rz.mono hy (by decide))) rfl) ?_
  refine dq_r (sem_call rfl rfl (pAdd_ok (by first | assumption | exact Rz.mono hx (by decide)) (by first | assumption | exact Rz.mono (Rz.neg hy) (by decide))) rfl) ?_
  refine dq_end ?_
  refine dl_start0 ?_
  refine dl_st (sem_store_a ty28 rfl rfl rfl rfl rfl rfl) ?_
  refine dl_end ?_
  refine dw_ret ?_
  -- path 
  rw [Rat.sub_eq_add_neg]
  exact ⟨.inr rfl, (resL_cell (us := cR (x + (-y))) ty28 rfl rfl rfl rfl resL_nil)⟩
theorem pMul_ok {x y : Rat} (hx : Rz 300 x) (hy : Rz 300 y) : Ok Tryz.prog 53 [dR x, dR y] [dR (x * y)] := by
  have hn := mul_ne (den_ne x) (den_ne y)
  refine Ok.of (by kernel_rfl) Tryz.func53 rfl rfl ?_
  rw [show Tryz.f53.ntmps = 16 from rfl, show Tryz.f53.results.toList = [.cell 4 28] from rfl]
  refine dw_seq ?_
  -- region 0
  refine dw_region (by kernel_rfl) ?_
  refine dl_new (sem_box_a rfl rfl) rfl ?_
  refine dl_new (sem_box_a rfl rfl) rfl ?_
  refine dl_new (sem_alloc zc28 rfl) rfl ?_
  refine dl_end ?_
  refine dw_seq ?_
  -- region 1
  refine dw_draw 11 [] follows_mixed (by kernel_rfl) rfl rfl ?_
  refine dq_r (sem_field fd28_0 rfl rfl) ?_
  refine dq_r (sem_load (us := cI x.num) ty26 rfl rfl rfl rfl rfl) ?_
  refine dq_r (sem_field fd28_0 rfl rfl) ?_
  refine dq_r (sem_load (us := cI y.num) ty26 rfl rfl rfl rfl rfl) ?_
  refine dq_r (sem_call rfl rfl (iMul_ok (by first | assumption | exact Sz.mono (Rz.n hx) (by decide)) (by first | assumption | exact Sz.mono (Rz.n hy) (by decide))) rfl) ?_
  refine dq_r (sem_field fd28_1 rfl rfl) ?_
  refine dq_r (sem_load (us := cI (x.den : Int)) ty26 rfl rfl rfl rfl rfl) ?_
  refine dq_r (sem_field fd28_1 rfl rfl) ?_
  refine dq_r (sem_load (us := cI (y.den : Int)) ty26 rfl rfl rfl rfl rfl) ?_
  refine dq_r (sem_call rfl rfl (iMul_ok (by first | assumption | exact Sz.mono (Rz.d hx) (by decide)) (by first | assumption | exact Sz.mono (Rz.d hy) (by decide))) rfl) ?_
  refine dq_r (sem_call rfl rfl (pReduce_ok (by first | assumption | exact Sz.mono (Sz.mul (Rz.n hx) (Rz.n hy)) (by decide)) (by first | assumption | exact Sz.mono (Sz.mul (Rz.d hx) (Rz.d hy)) (by decide)) (by first | assumption | exact neg_ne (by assumption) | exact mul_ne (by assumption) (by assumption))) rfl) ?_
  refine dq_end ?_
  refine dl_start0 ?_
  refine dl_st (sem_store_a ty28 rfl rfl rfl rfl rfl rfl) ?_
  refine dl_end ?_
  refine dw_ret ?_
  -- path 
  rw [← rmul]
  exact ⟨.inr rfl, (resL_cell (us := cR (Rat.divInt (x.num * y.num) ((x.den : Int) * (y.den : Int)))) ty28 rfl rfl rfl rfl resL_nil)⟩
theorem pDiv_ok {x y : Rat} (hx : Rz 300 x) (hy : Rz 300 y) (h0 : y ≠ 0) : Ok Tryz.prog 120 [dR x, dR y] [dR (x / y), .c (.i .i64 0)] := by
  have hn := mul_ne (den_ne x) (num_ne h0)
  refine Ok.of (by kernel_rfl) Tryz.func120 rfl rfl ?_
  rw [show Tryz.f120.ntmps = 21 from rfl, show Tryz.f120.results.toList = [.cell 4 28, .tmp 5] from rfl]
  refine dw_seq ?_
  -- region 0
  refine dw_region (by kernel_rfl) ?_
  refine dl_new (sem_box_a rfl rfl) rfl ?_
  refine dl_new (sem_box_a rfl rfl) rfl ?_
  refine dl_new (sem_alloc zc28 rfl) rfl ?_
  refine dl_r (sem_assign rfl rfl) ?_
  refine dl_end ?_
  refine dw_seq ?_
  refine dw_seq ?_
  -- region 1
  refine dw_region (by kernel_rfl) ?_
  refine dl_r (sem_load (us := cR y) ty28 rfl rfl rfl rfl rfl) ?_
  refine dl_r (sem_call rfl rfl (pSign_ok) rfl) ?_
  refine dl_r (sem_cmp rfl rfl rfl rfl) ?_
  refine dl_end ?_
  refine dw_cond rfl (fun hc1 => ?_) (fun hc1 => ?_)
  · exact absurd (cmpR_t0 hc1) h0
  · refine dw_skip ?_
    refine dw_seq ?_
    -- region 3
    refine dw_draw 11 [] follows_mixed (by kernel_rfl) rfl rfl ?_
    refine dq_r (sem_field fd28_0 rfl rfl) ?_
    refine dq_r (sem_load (us := cI x.num) ty26 rfl rfl rfl rfl rfl) ?_
    refine dq_r (sem_field fd28_1 rfl rfl) ?_
    refine dq_r (sem_load (us := cI (y.den : Int)) ty26 rfl rfl rfl rfl rfl) ?_
    refine dq_r (sem_call rfl rfl (iMul_ok (by first | assumption | exact Sz.mono (Rz.n hx) (by decide)) (by first | assumption | exact Sz.mono (Rz.d hy) (by decide))) rfl) ?_
    refine dq_r (sem_field fd28_1 rfl rfl) ?_
    refine dq_r (sem_load (us := cI (x.den : Int)) ty26 rfl rfl rfl rfl rfl) ?_
    refine dq_r (sem_field fd28_0 rfl rfl) ?_
    refine dq_r (sem_load (us := cI y.num) ty26 rfl rfl rfl rfl rfl) ?_
    refine dq_r (sem_call rfl rfl (iMul_ok (by first | assumption | exact Sz.mono (Rz.d hx) (by decide)) (by first | assumption | exact Sz.mono (Rz.n hy) (by decide))) rfl) ?_
    refine dq_r (sem_call rfl rfl (pReduce_ok (by first | assumption | exact Sz.mono (Sz.mul (Rz.n hx) (Rz.d hy)) (by decide)) (by first | assumption | exact Sz.mono (Sz.mul (Rz.d hx) (Rz.n hy)) (by decide)) (by first | assumption | exact neg_ne (by assumption) | exact mul_ne (by assumption) (by assumption))) rfl) ?_
    refine dq_end ?_
    refine dl_start0 ?_
    refine dl_st (sem_store_a ty28 rfl rfl rfl rfl rfl rfl) ?_
    refine dl_r (sem_assign rfl rfl) ?_
    refine dl_end ?_
    refine dw_ret ?_
    -- path F
    rw [← rdiv]
    exact ⟨.inr rfl, (resL_cell (us := cR (Rat.divInt (x.num * (y.den : Int)) ((x.den : Int) * y.num))) ty28 rfl rfl rfl rfl (resL_tmp rfl resL_nil))⟩
theorem pCmp_ok {x y : Rat} (hx : Rz 300 x) (hy : Rz 300 y) : Ok Tryz.prog 51 [dR x, dR y] [.c (.i .i64 (cmpR x y))] := by
  refine Ok.of (by kernel_rfl) Tryz.func51 rfl rfl ?_
  rw [show Tryz.f51.ntmps = 25 from rfl, show Tryz.f51.results.toList = [.tmp 4] from rfl]
  refine dw_seq ?_
  -- region 0
  refine dw_region (by kernel_rfl) ?_
  refine dl_new (sem_box_a rfl rfl) rfl ?_
  refine dl_new (sem_box_a rfl rfl) rfl ?_
  refine dl_r (sem_assign rfl rfl) ?_
  refine dl_end ?_
  refine dw_seq ?_
  refine dw_seq ?_
  -- region 1
  refine dw_draw 6 [] follows_mixed (by kernel_rfl) rfl rfl ?_
  refine dq_r (sem_load (us := cR x) ty28 rfl rfl rfl rfl rfl) ?_
  refine dq_r (sem_call rfl rfl (pSign_ok) rfl) ?_
  refine dq_r (sem_load (us := cR y) ty28 rfl rfl rfl rfl rfl) ?_
  refine dq_r (sem_call rfl rfl (pSign_ok) rfl) ?_
  refine dq_r (sem_call rfl rfl (cmpInt_ok) rfl) ?_
  refine dq_r (sem_assign rfl rfl) ?_
  refine dq_end ?_
  refine dl_start0 ?_
  refine dl_end ?_
  refine dw_seq ?_
  -- region 2
  refine dw_region (by kernel_rfl) ?_
  refine dl_r (sem_move rfl rfl) ?_
  refine dl_r (sem_cmp rfl rfl rfl rfl) ?_
  refine dl_end ?_
  refine dw_cond rfl (fun hc1 => ?_) (fun hc1 => ?_)
  · refine dw_seq ?_
    -- region 3
    refine dw_region (by kernel_rfl) ?_
    refine dl_r (sem_move rfl rfl) ?_
    refine dl_r (sem_assign rfl rfl) ?_
    refine dl_end ?_
    refine dw_ret ?_
    -- path T
    rw [← cmpR_signs hc1]
    exact ⟨.inr rfl, (resL_tmp rfl resL_nil)⟩
  · refine dw_skip ?_
    refine dw_seq ?_
    -- region 4
    refine dw_draw 12 [] follows_mixed (by kernel_rfl) rfl rfl ?_
    refine dq_r (sem_field fd28_0 rfl rfl) ?_
    refine dq_r (sem_load (us := cI x.num) ty26 rfl rfl rfl rfl rfl) ?_
    refine dq_r (sem_field fd28_1 rfl rfl) ?_
    refine dq_r (sem_load (us := cI (y.den : Int)) ty26 rfl rfl rfl rfl rfl) ?_
    refine dq_r (sem_call rfl rfl (iMul_ok (by first | assumption | exact Sz.mono (Rz.n hx) (by decide)) (by first | assumption | exact Sz.mono (Rz.d hy) (by decide))) rfl) ?_
    refine dq_r (sem_field fd28_0 rfl rfl) ?_
    refine dq_r (sem_load (us := cI y.num) ty26 rfl rfl rfl rfl rfl) ?_
    refine dq_r (sem_field fd28_1 rfl rfl) ?_
    refine dq_r (sem_load (us := cI (x.den : Int)) ty26 rfl rfl rfl rfl rfl) ?_
    refine dq_r (sem_call rfl rfl (iMul_ok (by first | assumption | exact Sz.mono (Rz.n hy) (by decide)) (by first | assumption | exact Sz.mono (Rz.d hx) (by decide))) rfl) ?_
    refine dq_r (sem_call rfl rfl (iCmp_ok) rfl) ?_
    refine dq_r (sem_assign rfl rfl) ?_
    refine dq_end ?_
    refine dl_start0 ?_
    refine dl_end ?_
    refine dw_ret ?_
    -- path F
    rw [cmpR_mul (x := x) (y := y)]
    exact ⟨.inr rfl, (resL_tmp rfl resL_nil)⟩
-- no function swarf/rational.Floor in this seat
-- no function swarf/rational.side in this seat
-- no function swarf/rational.Sqrt in this seat
end Go.Proofs.YtonjlikaacengaaGreat
