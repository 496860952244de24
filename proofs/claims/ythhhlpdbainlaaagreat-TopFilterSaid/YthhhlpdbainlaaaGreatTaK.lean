/- Signs of sums with two square roots: the reference; differences. -/
import Derived.Test.YthhhlpdbainlaaaGreatTaJ
namespace Go.Proofs.YthhhlpdbainlaaaGreat
open Go Go.RowKit
theorem ySub_ok {a b c d e f : Rat} (ha : Rz 300 a) (_hb : Rz 300 b) (hd : Rz 300 d) (he : Rz 300 e) : Ok Tryz.prog 289 [.a (cR a ++ cR b ++ cR c), .a (cR d ++ cR e ++ cR f)] [.a (cR (a - d) ++ cR b ++ cR (-e) ++ cR 0 ++ cR c ++ cR f)] := by
  refine Ok.of (by kernel_rfl) Tryz.func289 rfl rfl ?_
  rw [show Tryz.f289.ntmps = 21 from rfl, show Tryz.f289.results.toList = [.cell 4 126] from rfl]
  refine dw_seq <| dw_region (by kernel_rfl) <| dl_new (sem_box_a rfl rfl) rfl <| dl_new (sem_box_a rfl rfl) rfl <| dl_new (sem_alloc zc126 rfl) rfl <| dl_end <| dw_seq <| dw_draw 16 [] follows_mixed (by kernel_rfl) rfl rfl ?_
  refine dq_r (sem_field fd33_0 rfl rfl) <| dq_r (sem_load (us := cR a) ty31 rfl rfl rfl rfl rfl) <| dq_r (sem_field fd33_0 rfl rfl) <| dq_r (sem_load (us := cR d) ty31 rfl rfl rfl rfl rfl) ?_
  refine dq_r (sem_call rfl rfl (sSub_ok (by first | assumption | exact Rz.mono ha (by decide)) (by first | assumption | exact Rz.mono hd (by decide))) rfl) ?_
  refine dq_r (sem_field fd33_1 rfl rfl) <| dq_r (sem_load (us := cR b) ty31 rfl rfl rfl rfl rfl) <| dq_r (sem_field fd33_1 rfl rfl) <| dq_r (sem_load (us := cR e) ty31 rfl rfl rfl rfl rfl) ?_
  refine dq_r (sem_call rfl rfl (sNeg_ok (by first | assumption | exact Rz.mono he (by decide))) rfl) ?_
  refine dq_r (sem_call rfl rfl ((show Ok Tryz.prog 50 [.c (.i .i64 0)] [dR 0] from sFrom_ok (by omega) (by omega))) rfl) <| dq_r (sem_field fd33_2 rfl rfl) <| dq_r (sem_load (us := cR c) ty31 rfl rfl rfl rfl rfl) <| dq_r (sem_field fd33_2 rfl rfl) <| dq_r (sem_load (us := cR f) ty31 rfl rfl rfl rfl rfl) <| dq_r (sem_build (us := (cR (a - d) ++ cR b ++ cR (-e) ++ cR 0 ++ cR c ++ cR f)) fs126 zc126 rfl rfl rfl) <| dq_end <| dl_start0 ?_
  refine dl_st (sem_store_a ty126 rfl rfl rfl rfl rfl rfl) <| dl_end <| dw_ret ?_
  exact ⟨.inr rfl, (resL_cell (us := (cR (a - d) ++ cR b ++ cR (-e) ++ cR 0 ++ cR c ++ cR f)) ty126 rfl rfl rfl rfl resL_nil)⟩
theorem xCopied_ok {a : Rat} (ha : Rz 300 a) : Ok Tryz.prog 120 [dR a] [dR a] := by
  refine Ok.of (by kernel_rfl) Tryz.func120 rfl rfl ?_
  rw [show Tryz.f120.ntmps = 6 from rfl, show Tryz.f120.results.toList = [.cell 2 31] from rfl]
  refine dw_seq <| dw_region (by kernel_rfl) <| dl_new (sem_box_a rfl rfl) rfl <| dl_new (sem_alloc zc31 rfl) rfl <| dl_end <| dw_seq <| dw_region (by kernel_rfl) <| dl_r (sem_load (us := cR a) ty31 rfl rfl rfl rfl rfl) ?_
  refine dl_r (sem_call rfl rfl (pNeg_ok (by first | assumption | exact Rz.mono ha (by decide))) rfl) ?_
  refine dl_r (sem_call rfl rfl (pNeg_ok (by first | assumption | exact Rz.mono (Rz.neg ha) (by decide))) rfl) ?_
  refine dl_st (sem_store_a ty31 rfl rfl rfl rfl rfl rfl) <| dl_end <| dw_ret ?_
  have hfin : dR a = dR (-(-a)) := by rw [Rat.neg_neg]
  rw [hfin]
  exact ⟨.inr rfl, (resL_cell (us := cR (-(-a))) ty31 rfl rfl rfl rfl resL_nil)⟩
theorem xSub_ok {a b c d e f : Rat} (ha : Rz 300 a) (hb : Rz 300 b) (hc : Rz 300 c) (hd : Rz 300 d) (he : Rz 300 e) (hf : Rz 300 f) : Ok Tryz.prog 80 [.a (cR a ++ cR b ++ cR c), .a (cR d ++ cR e ++ cR f)] [.a (cR (a - d) ++ cR b ++ cR (-e) ++ cR 0 ++ cR c ++ cR f)] := by
  refine Ok.of (by kernel_rfl) Tryz.func80 rfl rfl ?_
  rw [show Tryz.f80.ntmps = 24 from rfl, show Tryz.f80.results.toList = [.cell 4 126] from rfl]
  refine dw_seq <| dw_region (by kernel_rfl) <| dl_new (sem_box_a rfl rfl) rfl <| dl_new (sem_box_a rfl rfl) rfl <| dl_new (sem_alloc zc126 rfl) rfl <| dl_end <| dw_seq <| dw_draw 19 [] follows_mixed (by kernel_rfl) rfl rfl ?_
  refine dq_r (sem_field fd33_0 rfl rfl) <| dq_r (sem_load (us := cR a) ty31 rfl rfl rfl rfl rfl) <| dq_r (sem_field fd33_0 rfl rfl) <| dq_r (sem_load (us := cR d) ty31 rfl rfl rfl rfl rfl) ?_
  refine dq_r (sem_call rfl rfl (pSub_ok (by first | assumption | exact Rz.mono ha (by decide)) (by first | assumption | exact Rz.mono hd (by decide))) rfl) ?_
  refine dq_r (sem_field fd33_1 rfl rfl) <| dq_r (sem_load (us := cR b) ty31 rfl rfl rfl rfl rfl) ?_
  refine dq_r (sem_call rfl rfl (xCopied_ok (by first | assumption | exact Rz.mono hb (by decide))) rfl) ?_
  refine dq_r (sem_field fd33_1 rfl rfl) <| dq_r (sem_load (us := cR e) ty31 rfl rfl rfl rfl rfl) ?_
  refine dq_r (sem_call rfl rfl (pNeg_ok (by first | assumption | exact Rz.mono he (by decide))) rfl) ?_
  refine dq_r (sem_call rfl rfl ((show Ok Tryz.prog 18 [.c (.i .i64 0)] [dR 0] from pFrom_ok (by omega) (by omega))) rfl) <| dq_r (sem_field fd33_2 rfl rfl) <| dq_r (sem_load (us := cR c) ty31 rfl rfl rfl rfl rfl) ?_
  refine dq_r (sem_call rfl rfl (xCopied_ok (by first | assumption | exact Rz.mono hc (by decide))) rfl) ?_
  refine dq_r (sem_field fd33_2 rfl rfl) <| dq_r (sem_load (us := cR f) ty31 rfl rfl rfl rfl rfl) ?_
  refine dq_r (sem_call rfl rfl (xCopied_ok (by first | assumption | exact Rz.mono hf (by decide))) rfl) ?_
  refine dq_r (sem_build (us := (cR (a - d) ++ cR b ++ cR (-e) ++ cR 0 ++ cR c ++ cR f)) fs126 zc126 rfl rfl rfl) <| dq_end <| dl_start0 <| dl_st (sem_store_a ty126 rfl rfl rfl rfl rfl rfl) <| dl_end <| dw_ret ?_
  exact ⟨.inr rfl, (resL_cell (us := (cR (a - d) ++ cR b ++ cR (-e) ++ cR 0 ++ cR c ++ cR f)) ty126 rfl rfl rfl rfl resL_nil)⟩
def rB (b c : Rat) : Rat := if b = 0 ∨ c = 0 then 0 else b
def rC (b c : Rat) : Rat := if b = 0 ∨ c = 0 then 0 else c
theorem rB_z {b c : Rat} (h : b = 0 ∨ c = 0) : rB b c = 0 := by unfold rB; rw [if_pos h]
theorem rC_z {b c : Rat} (h : b = 0 ∨ c = 0) : rC b c = 0 := by unfold rC; rw [if_pos h]
theorem rB_n {b c : Rat} (h : b ≠ 0) (h' : c ≠ 0) : rB b c = b := by unfold rB; rw [if_neg (fun e => e.elim h h')]
theorem rC_n {b c : Rat} (h : b ≠ 0) (h' : c ≠ 0) : rC b c = c := by unfold rC; rw [if_neg (fun e => e.elim h h')]
theorem rrReduced_ok {a b c : Rat} : Ok Tryz.prog 62 [dR a, dR b, dR c] [.a (cR a ++ cR (rB b c) ++ cR (rC b c))] := by
  refine Ok.of (by kernel_rfl) Tryz.func62 rfl rfl ?_
  rw [show Tryz.f62.ntmps = 21 from rfl, show Tryz.f62.results.toList = [.cell 6 33] from rfl]
  refine dw_seq <| dw_region (by kernel_rfl) <| dl_new (sem_box_a rfl rfl) rfl <| dl_new (sem_box_a rfl rfl) rfl <| dl_new (sem_box_a rfl rfl) rfl <| dl_new (sem_alloc zc33 rfl) rfl <| dl_end <| dw_seq ?_
  refine dw_seq <| dw_region (by kernel_rfl) <| dl_r (sem_load (us := cR b) ty31 rfl rfl rfl rfl rfl) <| dl_r (sem_call rfl rfl (sSign_ok) rfl) <| dl_r (sem_cmp rfl rfl rfl rfl) ?_
  refine dl_rb (sem_move rfl rfl) (fun c1 hb1 => ?_)
  cases c1
  · refine dl_r (sem_load (us := cR c) ty31 rfl rfl rfl rfl rfl) <| dl_r (sem_call rfl rfl (sSign_ok) rfl) <| dl_r (sem_cmp rfl rfl rfl rfl) <| dl_r (sem_pick rfl rfl rfl rfl) <| dl_end ?_
    refine dw_cond rfl (fun hc2 => ?_) (fun hc2 => ?_)
    · refine dw_seq <| dw_region (by kernel_rfl) <| dl_r (sem_load (us := cR a) ty31 rfl rfl rfl rfl rfl) <| dl_r (sem_call rfl rfl (rrFromRat_ok) rfl) <| dl_st (sem_store_a ty33 rfl rfl rfl rfl rfl rfl) <| dl_end <| dw_ret ?_
      rw [rB_z (.inr (r_eq hc2)), rC_z (.inr (r_eq hc2))]
      exact ⟨.inr rfl, (resL_cell (us := (cR a ++ cR 0 ++ cR 0)) ty33 rfl rfl rfl rfl resL_nil)⟩
    · refine dw_skip <| dw_seq <| dw_region (by kernel_rfl) <| dl_r (sem_load (us := cR a) ty31 rfl rfl rfl rfl rfl) <| dl_r (sem_load (us := cR b) ty31 rfl rfl rfl rfl rfl) <| dl_r (sem_load (us := cR c) ty31 rfl rfl rfl rfl rfl) <| dl_r (sem_build (us := (cR a ++ cR b ++ cR c)) fs33 zc33 rfl rfl rfl) <| dl_st (sem_store_a ty33 rfl rfl rfl rfl rfl rfl) ?_
      refine dl_end <| dw_ret ?_
      rw [rB_n (r_ne hb1) (r_ne hc2), rC_n (r_ne hb1) (r_ne hc2)]
      exact ⟨.inr rfl, (resL_cell (us := (cR a ++ cR b ++ cR c)) ty33 rfl rfl rfl rfl resL_nil)⟩
  · refine dl_skip (sem_skip rfl) <| dl_skip (sem_skip rfl) <| dl_skip (sem_skip rfl) <| dl_r (sem_pick rfl rfl rfl rfl) <| dl_end <| dw_true rfl <| dw_seq <| dw_region (by kernel_rfl) ?_
    refine dl_r (sem_load (us := cR a) ty31 rfl rfl rfl rfl rfl) <| dl_r (sem_call rfl rfl (rrFromRat_ok) rfl) <| dl_st (sem_store_a ty33 rfl rfl rfl rfl rfl rfl) <| dl_end <| dw_ret ?_
    rw [rB_z (.inl (r_eq hb1)), rC_z (.inl (r_eq hb1))]
    exact ⟨.inr rfl, (resL_cell (us := (cR a ++ cR 0 ++ cR 0)) ty33 rfl rfl rfl rfl resL_nil)⟩
theorem Rz.zero {k : Nat} (hk : 1 ≤ k) : Rz k (0 : Rat) := ⟨⟨by have := pw_pos k; rw [Rat.zero_num]; omega, by have := pw_pos k; rw [Rat.zero_num]; omega⟩, by rw [Rat.zero_den]; exact Sz.one hk⟩
theorem Rz.zc {k : Nat} {b c : Rat} (h : Rz k c) (hk : 1 ≤ k) : Rz k (zc b c) := by
  unfold Go.Proofs.YthhhlpdbainlaaaGreat.zc
  split
  · exact Rz.zero hk
  · exact h
def rt (c : Rat) : Rat := Rat.divInt (isqI c.num) (isqI (c.den : Int))
theorem rt_data {c : Rat} (h : sqR c = true) : dQ (if sqR c then isqI c.num else 0) (if sqR c then isqI (c.den : Int) else 0) = dR (rt c) := by
  rw [if_pos h, if_pos h]
  unfold sqR sqI at h
  simp only [Bool.and_eq_true, beq_iff_eq] at h
  obtain ⟨h1, h2⟩ := h
  have n0 := isqI_nonneg c.num
  have d0 := isqI_nonneg (c.den : Int)
  have dp := den_pos c
  have hd : 0 < isqI (c.den : Int) := by
    rcases Int.lt_trichotomy 0 (isqI (c.den : Int)) with e | e | e
    · exact e
    · rw [← e] at h2; simp at h2; omega
    · omega
  have hg : Int.gcd (isqI c.num) (isqI (c.den : Int)) = 1 := by
    have hr : Int.gcd c.num (c.den : Int) = 1 := c.reduced
    have d1 : Int.gcd (isqI c.num) (isqI (c.den : Int)) ∣ Int.gcd c.num (c.den : Int) := by
      refine Int.dvd_gcd ?_ ?_
      · have t : ((Int.gcd (isqI c.num) (isqI (c.den : Int)) : Nat) : Int) ∣ isqI c.num * isqI c.num := Int.dvd_mul_of_dvd_left (Int.gcd_dvd_left ..)
        rw [h1] at t; exact t
      · have t : ((Int.gcd (isqI c.num) (isqI (c.den : Int)) : Nat) : Int) ∣ isqI (c.den : Int) * isqI (c.den : Int) := Int.dvd_mul_of_dvd_left (Int.gcd_dvd_right ..)
        rw [h2] at t; exact t
    rw [hr] at d1
    exact Nat.dvd_one.1 d1
  unfold rt
  exact (dR_red1 hd (by rw [hg]; rfl)).symm
def Cau (x : Nat → Rat) : Prop := ∀ e : Rat, 0 < e → ∃ K : Nat, ∀ i j, K ≤ i → K ≤ j → x i - x j ≤ e
def Psv (x : Nat → Rat) : Prop := ∃ e : Rat, 0 < e ∧ ∃ K : Nat, ∀ k, K ≤ k → e ≤ x k
def Nul (x : Nat → Rat) : Prop := ∀ e : Rat, 0 < e → ∃ K : Nat, ∀ k, K ≤ k → -e ≤ x k ∧ x k ≤ e
structure Re where
  s : Nat → Rat
  c : Cau s
theorem Re.ext {x y : Re} (h : ∀ k, x.s k = y.s k) : x = y := by
  cases x; cases y
  have : _ = _ := funext h
  subst this; rfl
theorem q_half {e : Rat} (h : 0 < e) : 0 < e / 2 := by grind
theorem q_div {e B : Rat} (h : 0 < e) (h2 : 0 < B) : 0 < e / B ∧ B * (e / B) = e := by
  refine ⟨?_, by grind⟩
  rw [Rat.div_def]
  exact Rat.mul_pos h (Rat.inv_pos.2 h2)
theorem Re.bnd (x : Re) : ∃ B : Rat, 0 < B ∧ ∃ K : Nat, ∀ k, K ≤ k → -B ≤ x.s k ∧ x.s k ≤ B := by
  obtain ⟨K, h⟩ := x.c 1 (by decide)
  by_cases hs : 0 ≤ x.s K
  · exact ⟨x.s K + 1, by grind, K, fun k hk => by have h1 := h k K hk (Nat.le_refl _); have h2 := h K k (Nat.le_refl _) hk; constructor <;> grind⟩
  · exact ⟨1 - x.s K, by grind, K, fun k hk => by have h1 := h k K hk (Nat.le_refl _); have h2 := h K k (Nat.le_refl _) hk; constructor <;> grind⟩
theorem cau_const (q : Rat) : Cau (fun _ => q) := fun e he => ⟨0, fun i j _ _ => by grind⟩
theorem cau_add {x y : Nat → Rat} (hx : Cau x) (hy : Cau y) : Cau (fun k => x k + y k) := fun e he => by
  obtain ⟨K, h⟩ := hx (e / 2) (q_half he)
  obtain ⟨L, g⟩ := hy (e / 2) (q_half he)
  exact ⟨max K L, fun i j hi hj => by have h1 := h i j (by omega) (by omega); have h2 := g i j (by omega) (by omega); grind⟩
theorem cau_neg {x : Nat → Rat} (hx : Cau x) : Cau (fun k => -x k) := fun e he => by
  obtain ⟨K, h⟩ := hx e he
  exact ⟨K, fun i j hi hj => by have h1 := h j i hj hi; grind⟩
theorem q_prod {a b e f : Rat} (h1 : -e ≤ a) (h2 : a ≤ e) (h3 : -f ≤ b) (h4 : b ≤ f) : a * b ≤ e * f ∧ -(e * f) ≤ a * b := by
  have p1 : 0 ≤ (e - a) * (f + b) := Rat.mul_nonneg (by grind) (by grind)
  have p2 : 0 ≤ (e + a) * (f - b) := Rat.mul_nonneg (by grind) (by grind)
  have p3 : 0 ≤ (e - a) * (f - b) := Rat.mul_nonneg (by grind) (by grind)
  have p4 : 0 ≤ (e + a) * (f + b) := Rat.mul_nonneg (by grind) (by grind)
  constructor <;> grind
theorem cau_mul (x y : Re) : Cau (fun k => x.s k * y.s k) := fun e he => by
  obtain ⟨B, hB, K, hb⟩ := x.bnd
  obtain ⟨D, hD, L, hd⟩ := y.bnd
  obtain ⟨d1, e1⟩ := q_div (q_half he) hB
  obtain ⟨d2, e2⟩ := q_div (q_half he) hD
  obtain ⟨K', h⟩ := x.c _ d2
  obtain ⟨L', g⟩ := y.c _ d1
  refine ⟨max (max K L) (max K' L'), fun i j hi hj => ?_⟩
  have b1 := hb i (by omega)
  have b2 := hd j (by omega)
  have h1 := h i j (by omega) (by omega)
  have h2 := h j i (by omega) (by omega)
  have g1 := g i j (by omega) (by omega)
  have g2 := g j i (by omega) (by omega)
  have p1 := (q_prod b1.1 b1.2 (a := x.s i) (b := y.s i - y.s j) (f := e / 2 / B) (by grind) (by grind)).1
  have p2 := (q_prod b2.1 b2.2 (a := y.s j) (b := x.s i - x.s j) (f := e / 2 / D) (by grind) (by grind)).1
  rw [e1] at p1
  rw [e2] at p2
  grind
def Re.of (q : Rat) : Re := ⟨fun _ => q, cau_const q⟩
instance : Add Re := ⟨fun x y => ⟨fun k => x.s k + y.s k, cau_add x.c y.c⟩⟩
instance : Neg Re := ⟨fun x => ⟨fun k => -x.s k, cau_neg x.c⟩⟩
instance : _root_.Sub Re := ⟨fun x y => x + -y⟩
instance : Mul Re := ⟨fun x y => ⟨fun k => x.s k * y.s k, cau_mul x y⟩⟩
theorem re_add (x y : Re) (k : Nat) : (x + y).s k = x.s k + y.s k := rfl
theorem re_neg (x : Re) (k : Nat) : (-x).s k = -x.s k := rfl
theorem re_sub (x y : Re) (k : Nat) : (x - y).s k = x.s k + -y.s k := rfl
theorem re_mul (x y : Re) (k : Nat) : (x * y).s k = x.s k * y.s k := rfl
theorem re_of (q : Rat) (k : Nat) : (Re.of q).s k = q := rfl
theorem psv_nul_psv (x : Re) : Psv x.s ∨ Nul x.s ∨ Psv (-x).s := by
  by_cases hn : Nul x.s
  · exact .inr (.inl hn)
  · unfold Nul at hn
    obtain ⟨e, hn⟩ := Classical.not_forall.1 hn
    obtain ⟨he, hn⟩ := Classical.not_imp.1 hn
    obtain ⟨K, h⟩ := x.c (e / 2) (q_half he)
    have hn2 := not_exists.1 hn K
    obtain ⟨k, hn3⟩ := Classical.not_forall.1 hn2
    obtain ⟨hk, hn4⟩ := Classical.not_imp.1 hn3
    by_cases h1 : e < x.s k
    · exact .inl ⟨e / 2, q_half he, K, fun j hj => by have := h k j hk hj; grind⟩
    · have h2 : x.s k < -e := by
        apply Classical.byContradiction
        intro h3
        exact hn4 ⟨by grind, by grind⟩
      exact .inr (.inr ⟨e / 2, q_half he, K, fun j hj => by rw [re_neg]; have := h j k hj hk; grind⟩)
section
variable {x y z : Re}
theorem psv_not (h : Psv x.s) : ¬ Psv (-x).s := fun g => by
  obtain ⟨e, he, K, h⟩ := h
  obtain ⟨f, hf, L, g⟩ := g
  have h1 := h (max K L) (by omega)
  have h2 := g (max K L) (by omega)
  rw [re_neg] at h2
  grind
theorem psv_not_nul (h : Psv x.s) : ¬ Nul x.s := fun g => by
  obtain ⟨e, he, K, h⟩ := h
  obtain ⟨L, g⟩ := g (e / 2) (q_half he)
  have h1 := h (max K L) (by omega)
  have h2 := g (max K L) (by omega)
  grind
theorem nul_neg (h : Nul x.s) : Nul (-x).s := fun e he => by
  obtain ⟨K, h⟩ := h e he
  exact ⟨K, fun k hk => by rw [re_neg]; have := h k hk; constructor <;> grind⟩
theorem nul_add (h : Nul x.s) (g : Nul y.s) : Nul (x + y).s := fun e he => by
  obtain ⟨K, h⟩ := h (e / 2) (q_half he)
  obtain ⟨L, g⟩ := g (e / 2) (q_half he)
  exact ⟨max K L, fun k hk => by rw [re_add]; have := h k (by omega); have := g k (by omega); constructor <;> grind⟩
theorem psv_add_nul (h : Psv x.s) (g : Nul y.s) : Psv (x + y).s := by
  obtain ⟨e, he, K, h⟩ := h
  obtain ⟨L, g⟩ := g (e / 2) (q_half he)
  exact ⟨e / 2, q_half he, max K L, fun k hk => by rw [re_add]; have := h k (by omega); have := g k (by omega); grind⟩
theorem psv_add (h : Psv x.s) (g : Psv y.s) : Psv (x + y).s := by
  obtain ⟨e, he, K, h⟩ := h
  obtain ⟨f, hf, L, g⟩ := g
  exact ⟨e, he, max K L, fun k hk => by rw [re_add]; have := h k (by omega); have := g k (by omega); grind⟩
theorem psv_mul (h : Psv x.s) (g : Psv y.s) : Psv (x * y).s := by
  obtain ⟨e, he, K, h⟩ := h
  obtain ⟨f, hf, L, g⟩ := g
  refine ⟨e * f, Rat.mul_pos he hf, max K L, fun k hk => ?_⟩
  rw [re_mul]
  have h1 := h k (by omega)
  have h2 := g k (by omega)
  have p1 : 0 ≤ (x.s k - e) * f := Rat.mul_nonneg (by grind) (by grind)
  have p2 : 0 ≤ x.s k * (y.s k - f) := Rat.mul_nonneg (by grind) (by grind)
  grind
theorem nul_mul (x : Re) (g : Nul y.s) : Nul (x * y).s := fun e he => by
  obtain ⟨B, hB, K, hb⟩ := x.bnd
  obtain ⟨d1, e1⟩ := q_div he hB
  obtain ⟨L, g⟩ := g _ d1
  refine ⟨max K L, fun k hk => ?_⟩
  rw [re_mul]
  have h1 := hb k (by omega)
  have h2 := g k (by omega)
  have p := q_prod h1.1 h1.2 h2.1 h2.2
  rw [e1] at p
  exact ⟨p.2, p.1⟩
theorem re_negneg (x : Re) : - -x = x := Re.ext fun k => by rw [re_neg, re_neg]; grind
theorem re_mulc (x y : Re) : x * y = y * x := Re.ext fun k => by rw [re_mul, re_mul]; grind
theorem re_negmul (x y : Re) : -(x * y) = -x * y := Re.ext fun k => by rw [re_neg, re_mul, re_mul, re_neg]; grind
theorem re_mulneg (x y : Re) : -(x * y) = x * -y := Re.ext fun k => by rw [re_neg, re_mul, re_mul, re_neg]; grind
theorem re_negadd (x y : Re) : -(x + y) = -x + -y := Re.ext fun k => by rw [re_neg, re_add, re_add, re_neg, re_neg]; grind
noncomputable def sgR (x : Re) : Int := open Classical in if Psv x.s then 1 else if Psv (-x).s then -1 else 0
theorem sgR_p : sgR x = 1 ↔ Psv x.s := by
  unfold sgR
  split
  · rename_i h; simp [h]
  · rename_i h; split <;> simp [h]
theorem sgR_n : sgR x = -1 ↔ Psv (-x).s := by
  unfold sgR
  split
  · rename_i h; simp [psv_not h]
  · rename_i h
    split
    · rename_i h2; simp [h2]
    · rename_i h2; simp [h2]
theorem sgR_z : sgR x = 0 ↔ Nul x.s := by
  unfold sgR
  split
  · rename_i h; simp [psv_not_nul h]
  · rename_i h
    split
    · rename_i h2
      have h3 := psv_not_nul h2
      simp
      exact fun g => h3 (nul_neg g)
    · rename_i h2
      simp
      exact ((psv_nul_psv x).resolve_left h).resolve_right h2
theorem sgR_cases (x : Re) : sgR x = 1 ∨ sgR x = 0 ∨ sgR x = -1 := by
  rcases psv_nul_psv x with h | h | h
  · exact .inl (sgR_p.2 h)
  · exact .inr (.inl (sgR_z.2 h))
  · exact .inr (.inr (sgR_n.2 h))
theorem sgR_neg (x : Re) : sgR (-x) = -sgR x := by
  rcases psv_nul_psv x with h | h | h
  · rw [sgR_p.2 h, sgR_n, re_negneg]; exact h
  · rw [sgR_z.2 h, sgR_z.2 (nul_neg h)]; rfl
  · rw [sgR_n.2 h, sgR_p.2 h]; rfl
theorem sgR_mul (x y : Re) : sgR (x * y) = sgR x * sgR y := by
  rcases psv_nul_psv x with h | h | h <;> rcases psv_nul_psv y with g | g | g
  · rw [sgR_p.2 h, sgR_p.2 g, sgR_p.2 (psv_mul h g)]; rfl
  · rw [sgR_p.2 h, sgR_z.2 g, sgR_z.2 (nul_mul x g)]; rfl
  · rw [sgR_p.2 h, sgR_n.2 g, Int.one_mul, sgR_n, re_mulneg]; exact psv_mul h g
  · rw [sgR_z.2 h, Int.zero_mul, sgR_z, re_mulc]; exact nul_mul y h
  · rw [sgR_z.2 h, Int.zero_mul, sgR_z, re_mulc]; exact nul_mul y h
  · rw [sgR_z.2 h, Int.zero_mul, sgR_z, re_mulc]; exact nul_mul y h
  · rw [sgR_n.2 h, sgR_p.2 g, Int.mul_one, sgR_n, re_negmul]; exact psv_mul h g
  · rw [sgR_n.2 h, sgR_z.2 g, sgR_z.2 (nul_mul x g)]; rfl
  · rw [sgR_n.2 h, sgR_n.2 g]
    have e : x * y = -x * -y := Re.ext fun k => by rw [re_mul, re_mul, re_neg, re_neg]; grind
    rw [e, sgR_p.2 (psv_mul h g)]; rfl
theorem sgR_addz (x : Re) (h : sgR y = 0) : sgR (x + y) = sgR x := by
  have g := sgR_z.1 h
  rcases psv_nul_psv x with h | h | h
  · rw [sgR_p.2 h, sgR_p.2 (psv_add_nul h g)]
  · rw [sgR_z.2 h, sgR_z.2 (nul_add h g)]
  · rw [sgR_n.2 h, sgR_n, re_negadd]; exact psv_add_nul h (nul_neg g)
theorem re_addc (x y : Re) : x + y = y + x := Re.ext fun k => by rw [re_add, re_add]; grind
theorem sgR_zadd (h : sgR x = 0) (y : Re) : sgR (x + y) = sgR y := by rw [re_addc]; exact sgR_addz y h
theorem sgR_adds (h : sgR x = sgR y) : sgR (x + y) = sgR x := by
  rcases sgR_cases x with g | g | g
  · rw [g, sgR_p]; exact psv_add (sgR_p.1 g) (sgR_p.1 (h.symm.trans g))
  · rw [sgR_addz x (h.symm.trans g)]
  · rw [g, sgR_n, re_negadd]; exact psv_add (sgR_n.1 g) (sgR_n.1 (h.symm.trans g))
theorem sgR_nn (h : 0 ≤ sgR x) (g : 0 ≤ sgR y) : 0 ≤ sgR (x + y) := by
  rcases sgR_cases x with a | a | a
  · rcases sgR_cases y with b | b | b
    · rw [sgR_adds (a.trans b.symm)]; exact h
    · rw [sgR_addz x b]; exact h
    · omega
  · rw [sgR_zadd a]; exact g
  · omega
theorem sgR_pn (h : 0 < sgR x) (g : 0 ≤ sgR y) : 0 < sgR (x + y) := by
  rcases sgR_cases y with b | b | b
  · rcases sgR_cases x with a | a | a
    · rw [sgR_adds (a.trans b.symm)]; exact h
    · omega
    · omega
  · rw [sgR_addz x b]; exact h
  · omega
theorem sgR_same (h : sgR (x - y) = 0) : sgR x = sgR y := by
  have e : x = (x - y) + y := Re.ext fun k => by rw [re_add, re_sub]; grind
  rw [e]
  exact sgR_zadd h y
theorem sgR_of (q : Rat) : sgR (Re.of q) = cmpR q 0 := by
  unfold cmpR
  split
  · rename_i h
    exact sgR_n.2 ⟨-q, by grind, 0, fun k _ => by rw [re_neg, re_of]; grind⟩
  · split
    · rename_i h; exact sgR_p.2 ⟨q, h, 0, fun k _ => by rw [re_of]; grind⟩
    · exact sgR_z.2 fun e he => ⟨0, fun k _ => by rw [re_of]; constructor <;> grind⟩
end
theorem sgR_comb {X Y r n : Re} (hr : 0 ≤ sgR r) (hn : sgR (r * r - n) = 0) : sgR (X + Y * r) = comb (sgR X) (sgR Y * sgR n) (sgR (X * X - Y * Y * n)) := by
  have hrn : sgR r = sgR n := by
    have h1 := sgR_same hn
    rw [sgR_mul] at h1
    rcases sgR_cases r with h | h | h
    · rw [← h1, h]; rfl
    · rw [← h1, h]; rfl
    · omega
  have ht : sgR (Y * r) = sgR Y * sgR n := by rw [sgR_mul, hrn]
  rw [← ht]
  unfold comb
  split
  · rename_i h
    rcases h with h | h
    · exact sgR_addz X h
    · exact sgR_adds h
  · rename_i h
    split
    · rename_i h2; exact sgR_zadd h2 _
    · rename_i h2
      have hopp : sgR (Y * r) = -sgR X := by
        have a := sgR_cases X
        have b := sgR_cases (Y * r)
        omega
      have hm : sgR (X + -(Y * r)) = sgR X := sgR_adds (by rw [sgR_neg, hopp]; omega)
      have e1 : sgR ((X + Y * r) * (X + -(Y * r))) = sgR (X * X - Y * Y * n) := by
        refine sgR_same ?_
        have e : (X + Y * r) * (X + -(Y * r)) - (X * X - Y * Y * n) = -(Y * Y) * (r * r - n) := Re.ext fun k => by
          simp only [re_sub, re_mul, re_add, re_neg]; grind
        rw [e, sgR_mul, hn, Int.mul_zero]
      rw [sgR_mul, hm] at e1
      rw [← e1]
      have a := sgR_cases X
      have b := sgR_cases (X + Y * r)
      rcases a with a | a | a <;> rcases b with b | b | b <;> simp [a, b] at * <;> omega
def rtD (m : Rat) (k : Nat) : Rat := (((m.den : Int) * ((k : Int) + 1) : Int) : Rat)
def rtI (m : Rat) (k : Nat) : Int := isqI (m.num * (m.den : Int) * (((k : Int) + 1) * ((k : Int) + 1)))
def rtS (m : Rat) (k : Nat) : Rat := ((rtI m k : Int) : Rat) / rtD m k
theorem q_cancel {x y d : Rat} (hd : 0 < d) (h : x * d ≤ y * d) : x ≤ y := by
  apply Classical.byContradiction
  intro hn
  have h1 : 0 < (x - y) * d := Rat.mul_pos (by grind) hd
  grind
theorem r_num (m : Rat) : m * ((m.den : Int) : Rat) = ((m.num : Int) : Rat) := by
  have h := Rat.num_divInt_den m
  rw [Rat.divInt_eq_div] at h
  have hd : (0 : Rat) < ((m.den : Int) : Rat) := Rat.intCast_pos.2 (by have := m.den_pos; omega)
  generalize ((m.den : Int) : Rat) = q at *
  generalize ((m.num : Int) : Rat) = p at *
  grind
theorem rtD_pos (m : Rat) (k : Nat) : 0 < rtD m k := by
  unfold rtD
  have h1 := den_pos m
  have h2 : (0 : Int) < (m.den : Int) * ((k : Int) + 1) := Int.mul_pos h1 (by omega)
  exact Rat.intCast_pos.2 h2
theorem rtS_mul (m : Rat) (k : Nat) : rtS m k * rtD m k = ((rtI m k : Int) : Rat) := by
  have := rtD_pos m k
  unfold rtS; grind
theorem rtD_sq (m : Rat) (k : Nat) : m * (rtD m k * rtD m k) = ((m.num * (m.den : Int) * (((k : Int) + 1) * ((k : Int) + 1)) : Int) : Rat) := by
  have h := r_num m
  unfold rtD
  simp only [Rat.intCast_mul, Rat.intCast_add, Rat.intCast_one, Rat.intCast_natCast] at *
  grind
theorem rtI_nn (m : Rat) (k : Nat) : 0 ≤ rtI m k := isqI_nonneg _
theorem num_nn {m : Rat} (h : 0 ≤ m) (k : Nat) : 0 ≤ m.num * (m.den : Int) * (((k : Int) + 1) * ((k : Int) + 1)) :=
  Int.mul_nonneg (Int.mul_nonneg (Rat.num_nonneg.2 h) (by have := den_pos m; omega)) (Int.mul_nonneg (by omega) (by omega))
theorem rtS_nn (m : Rat) (k : Nat) : 0 ≤ rtS m k := by
  refine q_cancel (rtD_pos m k) ?_
  rw [rtS_mul]
  have : (0 : Rat) ≤ ((rtI m k : Int) : Rat) := Rat.intCast_nonneg.2 (rtI_nn m k)
  grind
theorem rtS_le {m : Rat} (h : 0 ≤ m) (k : Nat) : rtS m k * rtS m k ≤ m := by
  have hd := rtD_pos m k
  refine q_cancel (Rat.mul_pos hd hd) ?_
  rw [rtD_sq]
  have e : rtS m k * rtS m k * (rtD m k * rtD m k) = ((rtI m k * rtI m k : Int) : Rat) := by
    rw [Rat.intCast_mul, ← rtS_mul]; grind
  rw [e]
  exact Rat.intCast_le_intCast.2 (isqI_le (num_nn h k))
theorem rtS_lt {m : Rat} (h : 0 ≤ m) (k : Nat) : m < (rtS m k + 1 / rtD m k) * (rtS m k + 1 / rtD m k) := by
  have hd := rtD_pos m k
  have e : (rtS m k + 1 / rtD m k) * (rtS m k + 1 / rtD m k) * (rtD m k * rtD m k) = (((rtI m k + 1) * (rtI m k + 1) : Int) : Rat) := by
    rw [Rat.intCast_mul, Rat.intCast_add, ← rtS_mul]
    have : 1 / rtD m k * rtD m k = 1 := by grind
    grind
  have h1 := Rat.intCast_lt_intCast.2 (isqI_lt (num_nn h k))
  rw [← rtD_sq] at h1
  have h2 : m * (rtD m k * rtD m k) < (rtS m k + 1 / rtD m k) * (rtS m k + 1 / rtD m k) * (rtD m k * rtD m k) := by rw [e]; exact h1
  apply Classical.byContradiction
  intro hn
  have h3 : 0 ≤ (m - (rtS m k + 1 / rtD m k) * (rtS m k + 1 / rtD m k)) * (rtD m k * rtD m k) := Rat.mul_nonneg (by grind) (by have := Rat.mul_pos hd hd; grind)
  grind
theorem rtD_small (m : Rat) {e : Rat} (he : 0 < e) {k : Nat} (hk : e.den ≤ k) : 0 < 1 / rtD m k ∧ 1 / rtD m k ≤ e := by
  have hd := rtD_pos m k
  have hc : 1 / rtD m k * rtD m k = 1 := by grind
  refine ⟨?_, ?_⟩
  · have := (q_div (e := 1) (by decide) hd).1; exact this
  · refine q_cancel hd ?_
    rw [hc]
    have h1 := r_num e
    have h2 : 0 < e.num := Rat.intCast_pos.1 (by rw [← h1]; exact Rat.mul_pos he (Rat.intCast_pos.2 (by have := e.den_pos; omega)))
    have h3 : (1 : Rat) ≤ ((e.num : Int) : Rat) := by
      have : ((1 : Int) : Rat) ≤ ((e.num : Int) : Rat) := Rat.intCast_le_intCast.2 (by omega)
      simpa using this
    have h4 : ((e.den : Int) : Rat) ≤ rtD m k := by
      unfold rtD
      refine Rat.intCast_le_intCast.2 ?_
      have := den_pos m
      have h5 : 1 * ((k : Int) + 1) ≤ (m.den : Int) * ((k : Int) + 1) := Int.mul_le_mul_of_nonneg_right (by omega) (by omega)
      omega
    have h6 : 0 ≤ e * (rtD m k - ((e.den : Int) : Rat)) := Rat.mul_nonneg (by grind) (by grind)
    simp only [Rat.intCast_natCast] at *
    grind
theorem cau_rt {m : Rat} (h : 0 ≤ m) : Cau (rtS m) := fun e he => by
  refine ⟨e.den, fun i j _ hj => ?_⟩
  obtain ⟨hp, hs⟩ := rtD_small m he hj
  have h1 := rtS_le h i
  have h2 := rtS_lt h j
  have h3 := rtS_nn m i
  have h4 := rtS_nn m j
  apply Classical.byContradiction
  intro hn
  have h5 : 0 ≤ (rtS m i - (rtS m j + 1 / rtD m j)) * (rtS m i + (rtS m j + 1 / rtD m j)) := Rat.mul_nonneg (by grind) (by grind)
  grind
def Re.rt (m : Rat) : Re := ⟨fun k => if 0 ≤ m then rtS m k else 0, by
  by_cases h : 0 ≤ m
  · simp only [h, if_true]; exact cau_rt h
  · simp only [h, if_false]; exact cau_const 0⟩
theorem sgR_pt {x : Re} (h : ∀ k, 0 ≤ x.s k) : 0 ≤ sgR x := by
  rcases sgR_cases x with a | a | a
  · omega
  · omega
  · obtain ⟨e, he, K, g⟩ := sgR_n.1 a
    have h1 := g K (Nat.le_refl _)
    rw [re_neg] at h1
    have h2 := h K
    exfalso; grind
theorem rt_nn (m : Rat) : 0 ≤ sgR (Re.rt m) := sgR_pt fun k => by
  show 0 ≤ (if 0 ≤ m then rtS m k else 0)
  split
  · exact rtS_nn m k
  · exact Rat.le_refl
theorem rt_sq {m : Rat} (h : 0 ≤ m) : sgR (Re.rt m * Re.rt m - Re.of m) = 0 := sgR_z.2 fun e he => by
  obtain ⟨d1, d2⟩ := q_div he (show 0 < 2 * m + 3 by grind)
  refine ⟨(e / (2 * m + 3)).den, fun k hk => ?_⟩
  rw [re_sub, re_mul, re_of]
  show -e ≤ (if 0 ≤ m then rtS m k else 0) * (if 0 ≤ m then rtS m k else 0) + -m ∧ (if 0 ≤ m then rtS m k else 0) * (if 0 ≤ m then rtS m k else 0) + -m ≤ e
  rw [if_pos h]
  obtain ⟨hp, hs⟩ := rtD_small m d1 hk
  obtain ⟨hp1, hs1⟩ := rtD_small m (e := 1) (by decide) (k := k) (by
    have : (1 : Rat).den = 1 := rfl
    rw [this]
    have := (e / (2 * m + 3)).den_pos
    omega)
  have h1 := rtS_le h k
  have h2 := rtS_lt h k
  have h3 := rtS_nn m k
  refine ⟨?_, by grind⟩
  have h4 : rtS m k ≤ m + 1 := by
    apply Classical.byContradiction
    intro hn
    have h5 : 0 ≤ (rtS m k - (m + 1)) * (rtS m k + (m + 1)) := Rat.mul_nonneg (by grind) (by grind)
    have h6 : 0 ≤ m * m := Rat.mul_nonneg h h
    grind
  generalize 1 / rtD m k = d at *
  have h7 : 0 ≤ d * ((m + 1) - rtS m k) := Rat.mul_nonneg (by grind) (by grind)
  have h8 : 0 ≤ d * (1 - d) := Rat.mul_nonneg (by grind) (by grind)
  have h9 : 0 ≤ (2 * m + 3) * (e / (2 * m + 3) - d) := Rat.mul_nonneg (by grind) (by grind)
  grind
theorem cmpR_sub (x y : Rat) : cmpR (x - y) 0 = cmpR x y := by
  unfold cmpR
  have e1 : (x - y < 0) = (x < y) := by apply propext; constructor <;> intro h <;> grind
  have e2 : (0 < x - y) = (y < x) := by apply propext; constructor <;> intro h <;> grind
  simp only [e1, e2]
theorem of_mul (x y : Rat) : Re.of x * Re.of y = Re.of (x * y) := rfl
theorem of_neg (x : Rat) : -Re.of x = Re.of (-x) := rfl
theorem of_sub (x y : Rat) : Re.of x - Re.of y = Re.of (x - y) := Re.ext fun k => by rw [re_sub, re_of, re_of, re_of]; grind
def val3 (a b m : Rat) : Re := Re.of a + Re.of b * Re.rt m
theorem plainS_sg {a b m : Rat} (h : 0 ≤ m) : plainS a b m = sgR (val3 a b m) := by
  unfold val3
  rw [sgR_comb (n := Re.of m) (rt_nn m) (rt_sq h), sgR_of, sgR_of, sgR_of, of_mul, of_mul, of_mul, of_sub, sgR_of, cmpR_sub]
  rfl
def val6 (A B C D M N : Rat) : Re := val3 A B M + val3 C D M * Re.rt N
theorem signQ_sg {A B C D M N : Rat} (hM : 0 ≤ M) (hN : 0 ≤ N) : signQ A B C D M N = sgR (val6 A B C D M N) := by
  unfold val6
  rw [sgR_comb (n := Re.of N) (rt_nn N) (rt_sq hN), ← plainS_sg hM, ← plainS_sg hM, sgR_of, signQ_p (by grind) (by grind)]
  have e : sgR (val3 A B M * val3 A B M - val3 C D M * val3 C D M * Re.of N) = sgR (val3 (quadA A B C D M N) (quadB A B C D N + quadB A B C D N) M) := by
    refine sgR_same ?_
    have e : (val3 A B M * val3 A B M - val3 C D M * val3 C D M * Re.of N) - val3 (quadA A B C D M N) (quadB A B C D N + quadB A B C D N) M = (Re.of (B * B - D * D * N)) * (Re.rt M * Re.rt M - Re.of M) := Re.ext fun k => by
      unfold val3 quadA quadB
      simp only [re_sub, re_mul, re_add, re_of]; grind
    rw [e, sgR_mul, rt_sq hM, Int.mul_zero]
  rw [e, ← plainS_sg hM]
theorem signQ_val {a b c d e f : Rat} (hc : 0 ≤ c) (hf : 0 ≤ f) : signQ (a - d) b (-e) 0 c f = sgR (val3 a b c - val3 d e f) := by
  rw [signQ_sg hc hf]
  refine congrArg sgR (Re.ext fun k => ?_)
  unfold val6 val3
  simp only [re_sub, re_mul, re_add, re_of]; grind
section
variable {P : Program} {ops : Array Oper} {T : TF} {B : BF}
theorem sem_shr {dst : Option Nat} {xt yt : TypeId} {x y : Operand} {ty : TypeId} {pos : String} {af : Array Edge} {g : Option (Nat × Bool)} {k yk : IntKind} {m n r : Int}
    (hx : opd T x = some (.v (.c (.i k m)))) (hy : opd T y = some (.v (.c (.i yk n)))) (h0 : ¬ n < 0) (hr : m.fdiv (2 ^ (min n.toNat k.bits)) = r) (hg : gd ops ⟨dst, .binOp .shr xt x y yt, ty, pos, af, g⟩ T = some true) :
    Sem P ops ⟨dst, .binOp .shr xt x y yt, ty, pos, af, g⟩ T B (.r (.v (.c (.i k r)))) :=
  sem_pure hg (nop rfl) (fun V β a w hs => by
      have e1 : a.eval x = .int k m := RdC.int_eq (opd_reads hs (x := x) (by simp [Op.operands]) hx)
      have e2 : a.eval y = .int yk n := RdC.int_eq (opd_reads hs (x := y) (by simp [Op.operands]) hy)
      subst hr
      exact ⟨.int k (m.fdiv (2 ^ (min n.toNat k.bits))), by simp [execOp, e1, e2, eqGuard, binOp, Op.shift, h0], .i _ _⟩)
theorem sem_shl {dst : Option Nat} {xt yt : TypeId} {x y : Operand} {ty : TypeId} {pos : String} {af : Array Edge} {g : Option (Nat × Bool)} {k yk : IntKind} {m n r : Int}
    (hx : opd T x = some (.v (.c (.i k m)))) (hy : opd T y = some (.v (.c (.i yk n)))) (h0 : ¬ n < 0) (hr : k.wrap (m * 2 ^ (min n.toNat k.bits)) = r) (hg : gd ops ⟨dst, .binOp .shl xt x y yt, ty, pos, af, g⟩ T = some true) :
    Sem P ops ⟨dst, .binOp .shl xt x y yt, ty, pos, af, g⟩ T B (.r (.v (.c (.i k r)))) :=
  sem_pure hg (nop rfl) (fun V β a w hs => by
      have e1 : a.eval x = .int k m := RdC.int_eq (opd_reads hs (x := x) (by simp [Op.operands]) hx)
      have e2 : a.eval y = .int yk n := RdC.int_eq (opd_reads hs (x := y) (by simp [Op.operands]) hy)
      subst hr
      exact ⟨.int k (k.wrap (m * 2 ^ (min n.toNat k.bits))), by simp [execOp, e1, e2, eqGuard, binOp, Op.shift, h0], .i _ _⟩)
end
def sqLo (x : Int) : Int := isqI (max x 0 * 65536)
def sqHi (y : Int) : Int := if sqI (y * 65536) then isqI (y * 65536) else isqI (y * 65536) + 1
theorem isq_bd {n : Int} (h0 : 0 ≤ n) (h1 : n ≤ 2305843009213693952) : 0 ≤ isqI (n * 65536) ∧ isqI (n * 65536) ≤ 549755813888 := by
  refine ⟨isqI_nonneg _, ?_⟩
  have h2 := isqI_le (x := n * 65536) (by omega)
  by_cases h : isqI (n * 65536) ≤ 549755813888
  · exact h
  · have := sq_le (a := 549755813889) (b := isqI (n * 65536)) (by decide) (by omega)
    omega
theorem fit_small {x : Int} (h0 : -4611686018427387904 ≤ x) (h1 : x ≤ 4611686018427387904) : fitB x = true := fit_iff.2 ⟨by omega, by omega⟩
theorem ok_small {lo hi : Int} (h0 : -2305843009213693952 ≤ lo) (h1 : hi ≤ 2305843009213693952) : okI lo hi = true := ok_in (by omega) (by omega)
theorem fFromRat_ok {a : Rat} (ha : Rz 200 a) : Ok Tryz.prog 24 [dR a] [.a ([.i .i64 (if frOk a then frLo a else 0)] ++ [.i .i64 (if frOk a then frHi a else 0)]), .c (.b (frOk a))] := by
  have hz : Rz 300 (a * ((65536 : Int) : Rat)) := (Rz.mul ha (Rz.int (Sz.small (k := 3) (by decide) (by decide) (by decide)) (by decide))).mono (by decide)
  have ha3 : Rz 300 a := ha.mono (by decide)
  have h65 : Rz 300 ((65536 : Int) : Rat) := (Rz.int (Sz.small (k := 3) (by decide) (by decide) (by decide)) (by decide)).mono (by decide)
  have hzn : Rz 300 (-(a * ((65536 : Int) : Rat))) := hz.neg
  have hs1 : Sz 1000000 (frLo a) := (Sz.fdiv hz.n).mono (by decide)
  have hs2 : Sz 1000000 ((-(a * ((65536 : Int) : Rat))).num.fdiv ((-(a * ((65536 : Int) : Rat))).den : Int)) := (Sz.fdiv hzn.n).mono (by decide)
  have hs3 : Sz 1000000 (frHi a) := hs2.neg
  have hf1 : Ok Tryz.prog 65 [dR (a * ((65536 : Int) : Rat))] [dI (frLo a)] := pFloor_ok hz
  have hf3 : Ok Tryz.prog 37 [dI ((-(a * ((65536 : Int) : Rat))).num.fdiv ((-(a * ((65536 : Int) : Rat))).den : Int))] [dI (frHi a)] := iNeg_ok hs2
  refine Ok.of (by kernel_rfl) Tryz.func24 rfl rfl ?_
  rw [show Tryz.f24.ntmps = 38 from rfl, show Tryz.f24.results.toList = [.cell 2 36, .tmp 3] from rfl]
  refine dw_seq <| dw_region (by kernel_rfl) <| dl_new (sem_box_a rfl rfl) rfl <| dl_new (sem_alloc zc36 rfl) rfl <| dl_r (sem_assign rfl rfl) <| dl_end <| dw_seq <| dw_draw 4 [] follows_mixed (by kernel_rfl) rfl rfl ?_
  refine dq_r (sem_load (us := cR a) ty31 rfl rfl rfl rfl rfl) <| dq_r (sem_call rfl rfl (pFrom_ok (by omega) (by omega)) rfl) ?_
  refine dq_r (sem_call rfl rfl (pMul_ok (by first | assumption | exact Rz.mono (by assumption) (by decide)) (by first | assumption | exact Rz.mono (Rz.int (Sz.small (k := 3) (by decide) (by decide) (by decide)) (by decide)) (by decide))) rfl) ?_
  refine dq_new (sem_alloc zc31 rfl) rfl <| dq_end <| dl_start1 <| dl_st (sem_store_a ty31 rfl rfl rfl rfl rfl rfl) <| dl_end <| dw_seq <| dw_region (by kernel_rfl) <| dl_r (sem_load (us := cR (a * (((65536 : Int) : Rat)))) ty31 rfl rfl rfl rfl rfl) ?_
  refine dl_r (sem_call rfl rfl (hf1) rfl) ?_
  refine dl_r (sem_call rfl rfl (iInt64_ok (by first | assumption | exact Sz.mono (by assumption) (by decide))) rfl) ?_
  refine dl_r (sem_move rfl rfl) <| dl_r (sem_extract rfl rfl rfl) <| dl_r (sem_extract rfl rfl rfl) <| dl_r (sem_assign rfl rfl) <| dl_r (sem_assign rfl rfl) <| dl_end <| dw_seq <| dw_region (by kernel_rfl) ?_
  refine dl_r (sem_load (us := cR (a * (((65536 : Int) : Rat)))) ty31 rfl rfl rfl rfl rfl) ?_
  refine dl_r (sem_call rfl rfl (pNeg_ok (by first | assumption | exact Rz.mono (Rz.mul (by assumption) (Rz.int (Sz.small (k := 3) (by decide) (by decide) (by decide)) (by decide))) (by decide))) rfl) ?_
  refine dl_r (sem_call rfl rfl (pFloor_ok hzn) rfl) <| dl_r (sem_call rfl rfl (hf3) rfl) ?_
  refine dl_r (sem_call rfl rfl (iInt64_ok (by first | assumption | exact Sz.mono (by assumption) (by decide))) rfl) ?_
  refine dl_r (sem_move rfl rfl) <| dl_r (sem_extract rfl rfl rfl) <| dl_r (sem_extract rfl rfl rfl) <| dl_r (sem_assign rfl rfl) <| dl_r (sem_assign rfl rfl) <| dl_end <| dw_seq <| dw_seq ?_
  refine dw_region (by kernel_rfl) <| dl_r (sem_move rfl rfl) <| dl_r (sem_not rfl rfl) ?_
  refine dl_rb (sem_move rfl rfl) (fun c1 hb1 => ?_)
  cases c1
  · refine dl_r (sem_move rfl rfl) <| dl_r (sem_not rfl rfl) <| dl_r (sem_pick rfl rfl rfl rfl) <| dl_end ?_
    refine dw_cond rfl (fun hc2 => ?_) (fun hc2 => ?_)
    · refine dw_seq <| dw_region (by kernel_rfl) <| dl_r (sem_build (us := ([.i .i64 0] ++ [.i .i64 0])) fs36 zc36 rfl rfl rfl) <| dl_st (sem_store_a ty36 rfl rfl rfl rfl rfl rfl) <| dl_r (sem_assign rfl rfl) <| dl_end <| dw_ret ?_
      rw [show frOk a = false from by unfold frOk; rw [not_t hc2, Bool.false_and, Bool.and_false], if_neg (by decide), if_neg (by decide)]
      exact ⟨.inr rfl, (resL_cell (us := ([.i .i64 0] ++ [.i .i64 0])) ty36 rfl rfl rfl rfl (resL_tmp rfl resL_nil))⟩
    · have e1 := not_f hb1
      have e2 := not_f hc2
      refine Dw.weak (σ' := ⟨38, [(2, .p 2 0), (5, .v (.c (.i .i64 (frLo a)))), (7, .v (.c (.i .i64 (frHi a))))], [(2, 36, ([.i .i64 0] ++ [.i .i64 0]))]⟩) (sub_of ⟨rfl, by rw [if_pos e1]; rfl, by rw [if_pos e2]; rfl, trivial⟩ ⟨rfl, trivial⟩ rfl) <| dw_skip <| dw_seq <| dw_region (by kernel_rfl) <| dl_r (sem_move rfl rfl) <| dl_r (sem_move rfl rfl) <| dl_r (sem_call rfl rfl (fProper_ok) rfl) <| dl_r (sem_extract rfl rfl rfl) ?_
      refine dl_r (sem_extract rfl rfl rfl) <| dl_st (sem_store_a ty36 rfl rfl rfl rfl rfl rfl) <| dl_r (sem_assign rfl rfl) <| dl_end <| dw_ret ?_
      rw [show frOk a = okI (frLo a) (frHi a) from by unfold frOk; rw [e1, e2]; rfl]
      exact ⟨.inr rfl, (resL_cell (us := ([.i .i64 (if okI (frLo a) (frHi a) then (frLo a) else 0)] ++ [.i .i64 (if okI (frLo a) (frHi a) then (frHi a) else 0)])) ty36 rfl rfl rfl rfl (resL_tmp rfl resL_nil))⟩
  · refine dl_skip (sem_skip rfl) <| dl_skip (sem_skip rfl) <| dl_r (sem_pick rfl rfl rfl rfl) <| dl_end <| dw_true rfl <| dw_seq <| dw_region (by kernel_rfl) <| dl_r (sem_build (us := ([.i .i64 0] ++ [.i .i64 0])) fs36 zc36 rfl rfl rfl) ?_
    refine dl_st (sem_store_a ty36 rfl rfl rfl rfl rfl rfl) <| dl_r (sem_assign rfl rfl) <| dl_end <| dw_ret ?_
    rw [show frOk a = false from by unfold frOk; rw [not_t hb1]; rfl, if_neg (by decide), if_neg (by decide)]
    exact ⟨.inr rfl, (resL_cell (us := ([.i .i64 0] ++ [.i .i64 0])) ty36 rfl rfl rfl rfl (resL_tmp rfl resL_nil))⟩
theorem fRoot_ok {n : Int} (h0 : 0 ≤ n) (h1 : n ≤ 2305843009213693952) : Ok Tryz.prog 68 [.c (.i .i64 n)] [.c (.i .i64 (isqI (n * 65536))), .c (.b (sqI (n * 65536)))] := by
  have z1 : Sz 1000000 n := Sz.small (by decide) (by omega) (by omega)
  have z2 : Sz 1000000 (65536 : Int) := Sz.small (by decide) (by decide) (by decide)
  have z4 : Sz 3 (n * 65536) := ⟨by have : pw 3 = 1000000000000000000000000000 := by decide
                                    omega, by have : pw 3 = 1000000000000000000000000000 := by decide
                                              omega⟩
  have z5 : Sz 999999 (n * 65536) := z4.mono (by decide)
  have z6 : Sz 1000000 (isqI (n * 65536)) := z4.isq.mono (by decide)
  have hb := isq_bd h0 h1
  have e0 : (if fitB (isqI (n * 65536)) then isqI (n * 65536) else 0) = isqI (n * 65536) := by rw [fit_small (by omega) (by omega), if_pos rfl]
  refine Ok.of (by kernel_rfl) Tryz.func68 rfl rfl ?_
  rw [show Tryz.f68.ntmps = 30 from rfl, show Tryz.f68.results.toList = [.tmp 2, .tmp 3] from rfl]
  refine dw_seq <| dw_region (by kernel_rfl) <| dl_r (sem_assign rfl rfl) <| dl_r (sem_assign rfl rfl) <| dl_end <| dw_seq <| dw_region (by kernel_rfl) <| dl_r (sem_move rfl rfl) ?_
  refine dl_r (sem_call rfl rfl (iFrom_ok (by omega) (by omega)) rfl) <| dl_r (sem_call rfl rfl (iFrom_ok (by omega) (by omega)) rfl) ?_
  refine dl_r (sem_call rfl rfl (iMul_ok (by first | assumption | exact Sz.mono (by assumption) (by decide)) (by first | assumption | exact Sz.mono (Sz.small (k := 3) (by decide) (by decide) (by decide)) (by decide))) rfl) ?_
  refine dl_new (sem_alloc zc29 rfl) rfl <| dl_st (sem_store_a ty29 rfl rfl rfl rfl rfl rfl) <| dl_end <| dw_seq <| dw_region (by kernel_rfl) <| dl_r (sem_load (us := cI (n * 65536)) ty29 rfl rfl rfl rfl rfl) ?_
  refine dl_r (sem_call rfl rfl (iSqrt_ok (by first | assumption | exact Sz.mono (Sz.mul (by assumption) (Sz.small (k := 3) (by decide) (by decide) (by decide))) (by decide))) rfl) ?_
  refine dl_r (sem_move rfl rfl) <| dl_r (sem_extract rfl rfl rfl) <| dl_r (sem_extract rfl rfl rfl) <| dl_new (sem_alloc zc29 rfl) rfl <| dl_st (sem_store_a ty29 rfl rfl rfl rfl rfl rfl) <| dl_r (sem_assign rfl rfl) <| dl_end <| dw_seq ?_
  refine dw_region (by kernel_rfl) <| dl_r (sem_load (us := cI (isqI (n * 65536))) ty29 rfl rfl rfl rfl rfl) <| dl_r (sem_call rfl rfl ((show Ok Tryz.prog 64 [dI (isqI (n * 65536))] [.c (.i .i64 (isqI (n * 65536))), .c (.b (fitB (isqI (n * 65536))))] from by have := iInt64_ok z6; rw [e0] at this; exact this)) rfl) <| dl_r (sem_move rfl rfl) <| dl_r (sem_extract rfl rfl rfl) <| dl_r (sem_extract rfl rfl rfl) <| dl_r (sem_assign rfl rfl) <| dl_r (sem_assign rfl rfl) ?_
  refine dl_end <| dw_seq <| dw_draw 9 [] follows_mixed (by kernel_rfl) rfl rfl <| dq_r (sem_move rfl rfl) <| dq_r (sem_load (us := cI (isqI (n * 65536))) ty29 rfl rfl rfl rfl rfl) <| dq_r (sem_load (us := cI (isqI (n * 65536))) ty29 rfl rfl rfl rfl rfl) ?_
  refine dq_r (sem_call rfl rfl (iMul_ok (by first | assumption | exact Sz.mono (Sz.isq (Sz.mul (by assumption) (Sz.small (k := 3) (by decide) (by decide) (by decide)))) (by decide)) (by first | assumption | exact Sz.mono (Sz.isq (Sz.mul (by assumption) (Sz.small (k := 3) (by decide) (by decide) (by decide)))) (by decide))) rfl) ?_
  refine dq_r (sem_load (us := cI (n * 65536)) ty29 rfl rfl rfl rfl rfl) <| dq_r (sem_call rfl rfl (iCmp_ok) rfl) <| dq_r (sem_cmp rfl rfl rfl rfl) <| dq_r (sem_assign rfl rfl) <| dq_r (sem_assign rfl rfl) <| dq_end <| dl_start0 <| dl_end ?_
  refine dw_ret ?_
  rw [sqI_cmp]
  exact ⟨.inr rfl, (resL_tmp rfl (resL_tmp rfl resL_nil))⟩
theorem fSqrt_ok {x y : Int} (h0 : -2305843009213693952 ≤ x) (h1 : x ≤ 2305843009213693952) (h2 : -2305843009213693952 ≤ y) (h3 : y ≤ 2305843009213693952) (hn : ¬ y < 0) : Ok Tryz.prog 26 [.a ([.i .i64 x] ++ [.i .i64 y])] [.a ([.i .i64 (sqLo x)] ++ [.i .i64 (sqHi y)]), .c (.b true)] := by
  have b1 := isq_bd (n := max x 0) (by omega) (by omega)
  have b2 := isq_bd (n := y) (by omega) h3
  refine Ok.of (by kernel_rfl) Tryz.func26 rfl rfl ?_
  rw [show Tryz.f26.ntmps = 34 from rfl, show Tryz.f26.results.toList = [.cell 2 36, .tmp 3] from rfl]
  refine dw_seq <| dw_region (by kernel_rfl) <| dl_new (sem_box_a rfl rfl) rfl <| dl_new (sem_alloc zc36 rfl) rfl <| dl_r (sem_assign rfl rfl) <| dl_end <| dw_seq <| dw_seq ?_
  refine dw_region (by kernel_rfl) <| dl_r (sem_field fd36_1 rfl rfl) <| dl_r (sem_load1 ty2 rfl rfl rfl rfl) <| dl_r (sem_cmp rfl rfl rfl rfl) <| dl_end ?_
  refine dw_cond rfl (fun hc1 => ?_) (fun hc1 => ?_)
  · exact absurd (dec_t hc1) hn
  · refine dw_skip <| dw_seq <| dw_region (by kernel_rfl) <| dl_r (sem_field fd36_0 rfl rfl) <| dl_r (sem_load1 ty2 rfl rfl rfl rfl) <| dl_r (sem_max rfl rfl rfl) <| dl_r (sem_call rfl rfl (fRoot_ok (by omega) (by omega)) rfl) <| dl_r (sem_move rfl rfl) ?_
    refine dl_r (sem_extract rfl rfl rfl) <| dl_r (sem_extract rfl rfl rfl) <| dl_r (sem_assign rfl rfl) <| dl_r (sem_assign rfl rfl) <| dl_end <| dw_seq <| dw_region (by kernel_rfl) <| dl_r (sem_field fd36_1 rfl rfl) ?_
    refine dl_r (sem_load1 ty2 rfl rfl rfl rfl) <| dl_r (sem_call rfl rfl (fRoot_ok (by omega) (by omega)) rfl) <| dl_r (sem_move rfl rfl) <| dl_r (sem_extract rfl rfl rfl) <| dl_r (sem_extract rfl rfl rfl) <| dl_r (sem_assign rfl rfl) <| dl_r (sem_assign rfl rfl) <| dl_end ?_
    refine dw_seq <| dw_seq <| dw_region (by kernel_rfl) <| dl_r (sem_move rfl rfl) <| dl_r (sem_not rfl rfl) <| dl_end ?_
    refine dw_cond rfl (fun hc2 => ?_) (fun hc2 => ?_)
    · -- region 6
      refine dw_region (by kernel_rfl) <| dl_r (sem_move rfl rfl) <| dl_r (sem_ari (r := (isqI (y * 65536)) + 1) rfl rfl (ari_i64_add (by omega) (by omega)) rfl) <| dl_r (sem_assign rfl rfl) <| dl_end <| dw_seq <| dw_region (by kernel_rfl) <| dl_r (sem_move rfl rfl) ?_
      refine dl_r (sem_move rfl rfl) <| dl_r (sem_call rfl rfl ((show Ok Tryz.prog 67 [.c (.i .i64 (isqI ((max x 0) * 65536))), .c (.i .i64 ((isqI (y * 65536)) + 1))] [.a ([.i .i64 (isqI ((max x 0) * 65536))] ++ [.i .i64 ((isqI (y * 65536)) + 1)]), .c (.b true)] from by have := fProper_ok (x := isqI ((max x 0) * 65536)) (y := (isqI (y * 65536)) + 1); rw [ok_small (by omega) (by omega), if_pos rfl, if_pos rfl] at this; exact this)) rfl) <| dl_r (sem_extract rfl rfl rfl) <| dl_r (sem_extract rfl rfl rfl) <| dl_st (sem_store_a ty36 rfl rfl rfl rfl rfl rfl) <| dl_r (sem_assign rfl rfl) <| dl_end <| dw_ret ?_
      unfold sqLo sqHi
      rw [not_t hc2, if_neg (by decide)]
      exact ⟨.inr rfl, (resL_cell (us := ([.i .i64 (isqI ((max x 0) * 65536))] ++ [.i .i64 ((isqI (y * 65536)) + 1)])) ty36 rfl rfl rfl rfl (resL_tmp rfl resL_nil))⟩
    · refine dw_skip <| dw_seq <| dw_region (by kernel_rfl) <| dl_r (sem_move rfl rfl) <| dl_r (sem_move rfl rfl) <| dl_r (sem_call rfl rfl ((show Ok Tryz.prog 67 [.c (.i .i64 (isqI ((max x 0) * 65536))), .c (.i .i64 (isqI (y * 65536)))] [.a ([.i .i64 (isqI ((max x 0) * 65536))] ++ [.i .i64 (isqI (y * 65536))]), .c (.b true)] from by have := fProper_ok (x := isqI ((max x 0) * 65536)) (y := isqI (y * 65536)); rw [ok_small (by omega) (by omega), if_pos rfl, if_pos rfl] at this; exact this)) rfl) <| dl_r (sem_extract rfl rfl rfl) <| dl_r (sem_extract rfl rfl rfl) ?_
      refine dl_st (sem_store_a ty36 rfl rfl rfl rfl rfl rfl) <| dl_r (sem_assign rfl rfl) <| dl_end <| dw_ret ?_
      unfold sqLo sqHi
      rw [not_f hc2, if_pos rfl]
      exact ⟨.inr rfl, (resL_cell (us := ([.i .i64 (isqI ((max x 0) * 65536))] ++ [.i .i64 (isqI (y * 65536))])) ty36 rfl rfl rfl rfl (resL_tmp rfl resL_nil))⟩
theorem fAdd_ok {x y u v : Int} (h0 : -2305843009213693952 ≤ x) (h1 : x ≤ 2305843009213693952) (h2 : -2305843009213693952 ≤ y) (h3 : y ≤ 2305843009213693952) (h4 : -2305843009213693952 ≤ u) (h5 : u ≤ 2305843009213693952) (h6 : -2305843009213693952 ≤ v) (h7 : v ≤ 2305843009213693952) : Ok Tryz.prog 28 [.a ([.i .i64 x] ++ [.i .i64 y]), .a ([.i .i64 u] ++ [.i .i64 v])] [.a ([.i .i64 (if okI (x + u) (y + v) then x + u else 0)] ++ [.i .i64 (if okI (x + u) (y + v) then y + v else 0)]), .c (.b (okI (x + u) (y + v)))] := by
  refine Ok.of (by kernel_rfl) Tryz.func28 rfl rfl ?_
  rw [show Tryz.f28.ntmps = 19 from rfl, show Tryz.f28.results.toList = [.cell 4 36, .tmp 5] from rfl]
  refine dw_seq <| dw_region (by kernel_rfl) <| dl_new (sem_box_a rfl rfl) rfl <| dl_new (sem_box_a rfl rfl) rfl <| dl_new (sem_alloc zc36 rfl) rfl <| dl_r (sem_assign rfl rfl) <| dl_end <| dw_seq ?_
  refine dw_region (by kernel_rfl) <| dl_r (sem_field fd36_0 rfl rfl) <| dl_r (sem_load1 ty2 rfl rfl rfl rfl) <| dl_r (sem_field fd36_0 rfl rfl) <| dl_r (sem_load1 ty2 rfl rfl rfl rfl) <| dl_r (sem_ari (r := x + u) rfl rfl (ari_i64_add (by omega) (by omega)) rfl) <| dl_r (sem_field fd36_1 rfl rfl) <| dl_r (sem_load1 ty2 rfl rfl rfl rfl) ?_
  refine dl_r (sem_field fd36_1 rfl rfl) <| dl_r (sem_load1 ty2 rfl rfl rfl rfl) <| dl_r (sem_ari (r := y + v) rfl rfl (ari_i64_add (by omega) (by omega)) rfl) <| dl_r (sem_call rfl rfl (fProper_ok) rfl) <| dl_r (sem_extract rfl rfl rfl) <| dl_r (sem_extract rfl rfl rfl) <| dl_st (sem_store_a ty36 rfl rfl rfl rfl rfl rfl) <| dl_r (sem_assign rfl rfl) ?_
  refine dl_end <| dw_ret ?_
  exact ⟨.inr rfl, (resL_cell (us := ([.i .i64 (if okI (x + u) (y + v) then (x + u) else 0)] ++ [.i .i64 (if okI (x + u) (y + v) then (y + v) else 0)])) ty36 rfl rfl rfl rfl (resL_tmp rfl resL_nil))⟩
theorem fAbs_ok {x : Int} (h0 : -9223372036854775808 ≤ x) (h1 : x ≤ 9223372036854775807) : Ok Tryz.prog 112 [.c (.i .i64 x)] [.c (.i .u64 (x.natAbs : Int))] := by
  refine Ok.of (by kernel_rfl) Tryz.func112 rfl rfl ?_
  rw [show Tryz.f112.ntmps = 10 from rfl, show Tryz.f112.results.toList = [.tmp 2] from rfl]
  refine dw_seq <| dw_region (by kernel_rfl) <| dl_r (sem_assign rfl rfl) <| dl_end <| dw_seq <| dw_seq <| dw_region (by kernel_rfl) <| dl_r (sem_move rfl rfl) ?_
  refine dl_r (sem_cmp rfl rfl rfl rfl) <| dl_end ?_
  refine dw_cond rfl (fun hc1 => ?_) (fun hc1 => ?_)
  · have hn := dec_t hc1
    have e : (x.natAbs : Int) = -x := by omega
    refine dw_seq <| dw_region (by kernel_rfl) <| dl_r (sem_move rfl rfl) <| dl_r (sem_conv' (r := x + 18446744073709551616) und2 und84 rfl (wu64_neg hn h0) rfl) <| dl_r (sem_neg' (r := -x) rfl (wu64_neg2 hn h0) rfl) <| dl_r (sem_assign rfl rfl) <| dl_end <| dw_ret ?_
    rw [e]
    exact ⟨.inr rfl, (resL_tmp rfl resL_nil)⟩
  · have hn := dec_f hc1
    have e : (x.natAbs : Int) = x := by omega
    refine dw_skip <| dw_seq <| dw_region (by kernel_rfl) <| dl_r (sem_move rfl rfl) <| dl_r (sem_conv' (r := x) und2 und84 rfl (nwu64 (by omega) (by omega)) rfl) <| dl_r (sem_assign rfl rfl) <| dl_end <| dw_ret ?_
    rw [e]
    exact ⟨.inr rfl, (resL_tmp rfl resL_nil)⟩
end Go.Proofs.YthhhlpdbainlaaaGreat
