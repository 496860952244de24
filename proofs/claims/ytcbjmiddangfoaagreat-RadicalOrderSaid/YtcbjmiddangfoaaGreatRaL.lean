/- Plain: numbers as sequences of fractions; their signs; square roots. No program in sight. -/
import Derived.Test.YtcbjmiddangfoaaGreatRaK
namespace Go.Proofs.YtcbjmiddangfoaaGreat
open Go Go.RowKit
def Cau (x : Nat → Rat) : Prop := ∀ e : Rat, 0 < e → ∃ K : Nat, ∀ i j, K ≤ i → K ≤ j → x i - x j ≤ e
def Psv (x : Nat → Rat) : Prop := ∃ e : Rat, 0 < e ∧ ∃ K : Nat, ∀ k, K ≤ k → e ≤ x k
def Nul (x : Nat → Rat) : Prop := ∀ e : Rat, 0 < e → ∃ K : Nat, ∀ k, K ≤ k → -e ≤ x k ∧ x k ≤ e
structure Re where
  s : Nat → Rat
  c : Cau s
theorem Re.ext {x y : Re} (h : ∀ k, x.s k = y.s k) : x = y := by
  cases x; cases y
  have : _ = _ := funext h
  subst this; rfl
theorem q_half {e : Rat} (h : 0 < e) : 0 < e / 2 := by grind
theorem q_div {e B : Rat} (h : 0 < e) (h2 : 0 < B) : 0 < e / B ∧ B * (e / B) = e := by
  refine ⟨?_, by grind⟩
  rw [Rat.div_def]
  exact Rat.mul_pos h (Rat.inv_pos.2 h2)
/-- A bound. -/
theorem Re.bnd (x : Re) : ∃ B : Rat, 0 < B ∧ ∃ K : Nat, ∀ k, K ≤ k → -B ≤ x.s k ∧ x.s k ≤ B := by
  obtain ⟨K, h⟩ := x.c 1 (by decide)
  by_cases hs : 0 ≤ x.s K
  · exact ⟨x.s K + 1, by grind, K, fun k hk => by have h1 := h k K hk (Nat.le_refl _); have h2 := h K k (Nat.le_refl _) hk; constructor <;> grind⟩
  · exact ⟨1 - x.s K, by grind, K, fun k hk => by have h1 := h k K hk (Nat.le_refl _); have h2 := h K k (Nat.le_refl _) hk; constructor <;> grind⟩
theorem cau_const (q : Rat) : Cau (fun _ => q) := fun e he => ⟨0, fun i j _ _ => by grind⟩
theorem cau_add {x y : Nat → Rat} (hx : Cau x) (hy : Cau y) : Cau (fun k => x k + y k) := fun e he => by
  obtain ⟨K, h⟩ := hx (e / 2) (q_half he)
  obtain ⟨L, g⟩ := hy (e / 2) (q_half he)
  exact ⟨max K L, fun i j hi hj => by have h1 := h i j (by omega) (by omega); have h2 := g i j (by omega) (by omega); grind⟩
theorem cau_neg {x : Nat → Rat} (hx : Cau x) : Cau (fun k => -x k) := fun e he => by
  obtain ⟨K, h⟩ := hx e he
  exact ⟨K, fun i j hi hj => by have h1 := h j i hj hi; grind⟩
theorem q_prod {a b e f : Rat} (h1 : -e ≤ a) (h2 : a ≤ e) (h3 : -f ≤ b) (h4 : b ≤ f) : a * b ≤ e * f ∧ -(e * f) ≤ a * b := by
  have p1 : 0 ≤ (e - a) * (f + b) := Rat.mul_nonneg (by grind) (by grind)
  have p2 : 0 ≤ (e + a) * (f - b) := Rat.mul_nonneg (by grind) (by grind)
  have p3 : 0 ≤ (e - a) * (f - b) := Rat.mul_nonneg (by grind) (by grind)
  have p4 : 0 ≤ (e + a) * (f + b) := Rat.mul_nonneg (by grind) (by grind)
  constructor <;> grind
theorem cau_mul (x y : Re) : Cau (fun k => x.s k * y.s k) := fun e he => by
  obtain ⟨B, hB, K, hb⟩ := x.bnd
  obtain ⟨D, hD, L, hd⟩ := y.bnd
  obtain ⟨d1, e1⟩ := q_div (q_half he) hB
  obtain ⟨d2, e2⟩ := q_div (q_half he) hD
  obtain ⟨K', h⟩ := x.c _ d2
  obtain ⟨L', g⟩ := y.c _ d1
  refine ⟨max (max K L) (max K' L'), fun i j hi hj => ?_⟩
  have b1 := hb i (by omega)
  have b2 := hd j (by omega)
  have h1 := h i j (by omega) (by omega)
  have h2 := h j i (by omega) (by omega)
  have g1 := g i j (by omega) (by omega)
  have g2 := g j i (by omega) (by omega)
  have p1 := (q_prod b1.1 b1.2 (a := x.s i) (b := y.s i - y.s j) (f := e / 2 / B) (by grind) (by grind)).1
  have p2 := (q_prod b2.1 b2.2 (a := y.s j) (b := x.s i - x.s j) (f := e / 2 / D) (by grind) (by grind)).1
  rw [e1] at p1
  rw [e2] at p2
  grind
def Re.of (q : Rat) : Re := ⟨fun _ => q, cau_const q⟩
instance : Add Re := ⟨fun x y => ⟨fun k => x.s k + y.s k, cau_add x.c y.c⟩⟩
instance : Neg Re := ⟨fun x => ⟨fun k => -x.s k, cau_neg x.c⟩⟩
instance : _root_.Sub Re := ⟨fun x y => x + -y⟩
instance : Mul Re := ⟨fun x y => ⟨fun k => x.s k * y.s k, cau_mul x y⟩⟩
theorem re_add (x y : Re) (k : Nat) : (x + y).s k = x.s k + y.s k := rfl
theorem re_neg (x : Re) (k : Nat) : (-x).s k = -x.s k := rfl
theorem re_sub (x y : Re) (k : Nat) : (x - y).s k = x.s k + -y.s k := rfl
theorem re_mul (x y : Re) (k : Nat) : (x * y).s k = x.s k * y.s k := rfl
theorem re_of (q : Rat) (k : Nat) : (Re.of q).s k = q := rfl
theorem psv_nul_psv (x : Re) : Psv x.s ∨ Nul x.s ∨ Psv (-x).s := by
  by_cases hn : Nul x.s
  · exact .inr (.inl hn)
  · unfold Nul at hn
    obtain ⟨e, hn⟩ := Classical.not_forall.1 hn
    obtain ⟨he, hn⟩ := Classical.not_imp.1 hn
    obtain ⟨K, h⟩ := x.c (e / 2) (q_half he)
    have hn2 := not_exists.1 hn K
    obtain ⟨k, hn3⟩ := Classical.not_forall.1 hn2
    obtain ⟨hk, hn4⟩ := Classical.not_imp.1 hn3
    by_cases h1 : e < x.s k
    · exact .inl ⟨e / 2, q_half he, K, fun j hj => by have := h k j hk hj; grind⟩
    · have h2 : x.s k < -e := by
        apply Classical.byContradiction
        intro h3
        exact hn4 ⟨by grind, by grind⟩
      exact .inr (.inr ⟨e / 2, q_half he, K, fun j hj => by rw [re_neg]; have := h j k hj hk; grind⟩)
section
variable {x y z : Re}
theorem psv_not (h : Psv x.s) : ¬ Psv (-x).s := fun g => by
  obtain ⟨e, he, K, h⟩ := h
  obtain ⟨f, hf, L, g⟩ := g
  have h1 := h (max K L) (by omega)
  have h2 := g (max K L) (by omega)
  rw [re_neg] at h2
  grind
theorem psv_not_nul (h : Psv x.s) : ¬ Nul x.s := fun g => by
  obtain ⟨e, he, K, h⟩ := h
  obtain ⟨L, g⟩ := g (e / 2) (q_half he)
  have h1 := h (max K L) (by omega)
  have h2 := g (max K L) (by omega)
  grind
theorem nul_neg (h : Nul x.s) : Nul (-x).s := fun e he => by
  obtain ⟨K, h⟩ := h e he
  exact ⟨K, fun k hk => by rw [re_neg]; have := h k hk; constructor <;> grind⟩
theorem nul_add (h : Nul x.s) (g : Nul y.s) : Nul (x + y).s := fun e he => by
  obtain ⟨K, h⟩ := h (e / 2) (q_half he)
  obtain ⟨L, g⟩ := g (e / 2) (q_half he)
  exact ⟨max K L, fun k hk => by rw [re_add]; have := h k (by omega); have := g k (by omega); constructor <;> grind⟩
theorem psv_add_nul (h : Psv x.s) (g : Nul y.s) : Psv (x + y).s := by
  obtain ⟨e, he, K, h⟩ := h
  obtain ⟨L, g⟩ := g (e / 2) (q_half he)
  exact ⟨e / 2, q_half he, max K L, fun k hk => by rw [re_add]; have := h k (by omega); have := g k (by omega); grind⟩
theorem psv_add (h : Psv x.s) (g : Psv y.s) : Psv (x + y).s := by
  obtain ⟨e, he, K, h⟩ := h
  obtain ⟨f, hf, L, g⟩ := g
  exact ⟨e, he, max K L, fun k hk => by rw [re_add]; have := h k (by omega); have := g k (by omega); grind⟩
theorem psv_mul (h : Psv x.s) (g : Psv y.s) : Psv (x * y).s := by
  obtain ⟨e, he, K, h⟩ := h
  obtain ⟨f, hf, L, g⟩ := g
  refine ⟨e * f, Rat.mul_pos he hf, max K L, fun k hk => ?_⟩
  rw [re_mul]
  have h1 := h k (by omega)
  have h2 := g k (by omega)
  have p1 : 0 ≤ (x.s k - e) * f := Rat.mul_nonneg (by grind) (by grind)
  have p2 : 0 ≤ x.s k * (y.s k - f) := Rat.mul_nonneg (by grind) (by grind)
  grind
theorem nul_mul (x : Re) (g : Nul y.s) : Nul (x * y).s := fun e he => by
  obtain ⟨B, hB, K, hb⟩ := x.bnd
  obtain ⟨d1, e1⟩ := q_div he hB
  obtain ⟨L, g⟩ := g _ d1
  refine ⟨max K L, fun k hk => ?_⟩
  rw [re_mul]
  have h1 := hb k (by omega)
  have h2 := g k (by omega)
  have p := q_prod h1.1 h1.2 h2.1 h2.2
  rw [e1] at p
  exact ⟨p.2, p.1⟩
theorem re_negneg (x : Re) : - -x = x := Re.ext fun k => by rw [re_neg, re_neg]; grind
theorem re_mulc (x y : Re) : x * y = y * x := Re.ext fun k => by rw [re_mul, re_mul]; grind
theorem re_negmul (x y : Re) : -(x * y) = -x * y := Re.ext fun k => by rw [re_neg, re_mul, re_mul, re_neg]; grind
theorem re_mulneg (x y : Re) : -(x * y) = x * -y := Re.ext fun k => by rw [re_neg, re_mul, re_mul, re_neg]; grind
theorem re_negadd (x y : Re) : -(x + y) = -x + -y := Re.ext fun k => by rw [re_neg, re_add, re_add, re_neg, re_neg]; grind
/-- the sign -/
noncomputable def sgR (x : Re) : Int := open Classical in if Psv x.s then 1 else if Psv (-x).s then -1 else 0
theorem sgR_p : sgR x = 1 ↔ Psv x.s := by
  unfold sgR
  split
  · rename_i h; simp [h]
  · rename_i h; split <;> simp [h]
theorem sgR_n : sgR x = -1 ↔ Psv (-x).s := by
  unfold sgR
  split
  · rename_i h; simp [psv_not h]
  · rename_i h
    split
    · rename_i h2; simp [h2]
    · rename_i h2; simp [h2]
theorem sgR_z : sgR x = 0 ↔ Nul x.s := by
  unfold sgR
  split
  · rename_i h; simp [psv_not_nul h]
  · rename_i h
    split
    · rename_i h2
      have h3 := psv_not_nul h2
      simp
      exact fun g => h3 (nul_neg g)
    · rename_i h2
      simp
      exact ((psv_nul_psv x).resolve_left h).resolve_right h2
theorem sgR_cases (x : Re) : sgR x = 1 ∨ sgR x = 0 ∨ sgR x = -1 := by
  rcases psv_nul_psv x with h | h | h
  · exact .inl (sgR_p.2 h)
  · exact .inr (.inl (sgR_z.2 h))
  · exact .inr (.inr (sgR_n.2 h))
theorem sgR_neg (x : Re) : sgR (-x) = -sgR x := by
  rcases psv_nul_psv x with h | h | h
  · rw [sgR_p.2 h, sgR_n, re_negneg]; exact h
  · rw [sgR_z.2 h, sgR_z.2 (nul_neg h)]; rfl
  · rw [sgR_n.2 h, sgR_p.2 h]; rfl
theorem sgR_mul (x y : Re) : sgR (x * y) = sgR x * sgR y := by
  rcases psv_nul_psv x with h | h | h <;> rcases psv_nul_psv y with g | g | g
  · rw [sgR_p.2 h, sgR_p.2 g, sgR_p.2 (psv_mul h g)]; rfl
  · rw [sgR_p.2 h, sgR_z.2 g, sgR_z.2 (nul_mul x g)]; rfl
  · rw [sgR_p.2 h, sgR_n.2 g, Int.one_mul, sgR_n, re_mulneg]; exact psv_mul h g
  · rw [sgR_z.2 h, Int.zero_mul, sgR_z, re_mulc]; exact nul_mul y h
  · rw [sgR_z.2 h, Int.zero_mul, sgR_z, re_mulc]; exact nul_mul y h
  · rw [sgR_z.2 h, Int.zero_mul, sgR_z, re_mulc]; exact nul_mul y h
  · rw [sgR_n.2 h, sgR_p.2 g, Int.mul_one, sgR_n, re_negmul]; exact psv_mul h g
  · rw [sgR_n.2 h, sgR_z.2 g, sgR_z.2 (nul_mul x g)]; rfl
  · rw [sgR_n.2 h, sgR_n.2 g]
    have e : x * y = -x * -y := Re.ext fun k => by rw [re_mul, re_mul, re_neg, re_neg]; grind
    rw [e, sgR_p.2 (psv_mul h g)]; rfl
theorem sgR_addz (x : Re) (h : sgR y = 0) : sgR (x + y) = sgR x := by
  have g := sgR_z.1 h
  rcases psv_nul_psv x with h | h | h
  · rw [sgR_p.2 h, sgR_p.2 (psv_add_nul h g)]
  · rw [sgR_z.2 h, sgR_z.2 (nul_add h g)]
  · rw [sgR_n.2 h, sgR_n, re_negadd]; exact psv_add_nul h (nul_neg g)
theorem re_addc (x y : Re) : x + y = y + x := Re.ext fun k => by rw [re_add, re_add]; grind
theorem sgR_zadd (h : sgR x = 0) (y : Re) : sgR (x + y) = sgR y := by rw [re_addc]; exact sgR_addz y h
theorem sgR_adds (h : sgR x = sgR y) : sgR (x + y) = sgR x := by
  rcases sgR_cases x with g | g | g
  · rw [g, sgR_p]; exact psv_add (sgR_p.1 g) (sgR_p.1 (h.symm.trans g))
  · rw [sgR_addz x (h.symm.trans g)]
  · rw [g, sgR_n, re_negadd]; exact psv_add (sgR_n.1 g) (sgR_n.1 (h.symm.trans g))
/-- sums of what is not negative -/
theorem sgR_nn (h : 0 ≤ sgR x) (g : 0 ≤ sgR y) : 0 ≤ sgR (x + y) := by
  rcases sgR_cases x with a | a | a
  · rcases sgR_cases y with b | b | b
    · rw [sgR_adds (a.trans b.symm)]; exact h
    · rw [sgR_addz x b]; exact h
    · omega
  · rw [sgR_zadd a]; exact g
  · omega
theorem sgR_pn (h : 0 < sgR x) (g : 0 ≤ sgR y) : 0 < sgR (x + y) := by
  rcases sgR_cases y with b | b | b
  · rcases sgR_cases x with a | a | a
    · rw [sgR_adds (a.trans b.symm)]; exact h
    · omega
    · omega
  · rw [sgR_addz x b]; exact h
  · omega
/-- what differs by nothing has the same sign -/
theorem sgR_same (h : sgR (x - y) = 0) : sgR x = sgR y := by
  have e : x = (x - y) + y := Re.ext fun k => by rw [re_add, re_sub]; grind
  rw [e]
  exact sgR_zadd h y
theorem sgR_of (q : Rat) : sgR (Re.of q) = cmpR q 0 := by
  unfold cmpR
  split
  · rename_i h
    exact sgR_n.2 ⟨-q, by grind, 0, fun k _ => by rw [re_neg, re_of]; grind⟩
  · split
    · rename_i h; exact sgR_p.2 ⟨q, h, 0, fun k _ => by rw [re_of]; grind⟩
    · exact sgR_z.2 fun e he => ⟨0, fun k _ => by rw [re_of]; constructor <;> grind⟩
end
/-- THE SIGN OF X + Y r, where r is the root of n. -/
theorem sgR_comb {X Y r n : Re} (hr : 0 ≤ sgR r) (hn : sgR (r * r - n) = 0) : sgR (X + Y * r) = comb (sgR X) (sgR Y * sgR n) (sgR (X * X - Y * Y * n)) := by
  have hrn : sgR r = sgR n := by
    have h1 := sgR_same hn
    rw [sgR_mul] at h1
    rcases sgR_cases r with h | h | h
    · rw [← h1, h]; rfl
    · rw [← h1, h]; rfl
    · omega
  have ht : sgR (Y * r) = sgR Y * sgR n := by rw [sgR_mul, hrn]
  rw [← ht]
  unfold comb
  split
  · rename_i h
    rcases h with h | h
    · exact sgR_addz X h
    · exact sgR_adds h
  · rename_i h
    split
    · rename_i h2; exact sgR_zadd h2 _
    · rename_i h2
      have hopp : sgR (Y * r) = -sgR X := by
        have a := sgR_cases X
        have b := sgR_cases (Y * r)
        omega
      have hm : sgR (X + -(Y * r)) = sgR X := sgR_adds (by rw [sgR_neg, hopp]; omega)
      have e1 : sgR ((X + Y * r) * (X + -(Y * r))) = sgR (X * X - Y * Y * n) := by
        refine sgR_same ?_
        have e : (X + Y * r) * (X + -(Y * r)) - (X * X - Y * Y * n) = -(Y * Y) * (r * r - n) := Re.ext fun k => by
          simp only [re_sub, re_mul, re_add, re_neg]; grind
        rw [e, sgR_mul, hn, Int.mul_zero]
      rw [sgR_mul, hm] at e1
      rw [← e1]
      have a := sgR_cases X
      have b := sgR_cases (X + Y * r)
      rcases a with a | a | a <;> rcases b with b | b | b <;> simp [a, b] at * <;> omega
end Go.Proofs.YtcbjmiddangfoaaGreat
/- Plain: square roots of fractions as sequences; what both programs compute is the sign of the sum. -/
namespace Go.Proofs.YtcbjmiddangfoaaGreat
open Go Go.RowKit
def rtD (m : Rat) (k : Nat) : Rat := (((m.den : Int) * ((k : Int) + 1) : Int) : Rat)
def rtI (m : Rat) (k : Nat) : Int := isqI (m.num * (m.den : Int) * (((k : Int) + 1) * ((k : Int) + 1)))
def rtS (m : Rat) (k : Nat) : Rat := ((rtI m k : Int) : Rat) / rtD m k
theorem q_cancel {x y d : Rat} (hd : 0 < d) (h : x * d ≤ y * d) : x ≤ y := by
  apply Classical.byContradiction
  intro hn
  have h1 : 0 < (x - y) * d := Rat.mul_pos (by grind) hd
  grind
theorem r_num (m : Rat) : m * ((m.den : Int) : Rat) = ((m.num : Int) : Rat) := by
  have h := Rat.num_divInt_den m
  rw [Rat.divInt_eq_div] at h
  have hd : (0 : Rat) < ((m.den : Int) : Rat) := Rat.intCast_pos.2 (by have := m.den_pos; omega)
  generalize ((m.den : Int) : Rat) = q at *
  generalize ((m.num : Int) : Rat) = p at *
  grind
theorem rtD_pos (m : Rat) (k : Nat) : 0 < rtD m k := by
  unfold rtD
  have h1 := den_pos m
  have h2 : (0 : Int) < (m.den : Int) * ((k : Int) + 1) := Int.mul_pos h1 (by omega)
  exact Rat.intCast_pos.2 h2
theorem rtS_mul (m : Rat) (k : Nat) : rtS m k * rtD m k = ((rtI m k : Int) : Rat) := by
  have := rtD_pos m k
  unfold rtS; grind
theorem rtD_sq (m : Rat) (k : Nat) : m * (rtD m k * rtD m k) = ((m.num * (m.den : Int) * (((k : Int) + 1) * ((k : Int) + 1)) : Int) : Rat) := by
  have h := r_num m
  unfold rtD
  simp only [Rat.intCast_mul, Rat.intCast_add, Rat.intCast_one, Rat.intCast_natCast] at *
  grind
theorem rtI_nn (m : Rat) (k : Nat) : 0 ≤ rtI m k := isqI_nonneg _
theorem num_nn {m : Rat} (h : 0 ≤ m) (k : Nat) : 0 ≤ m.num * (m.den : Int) * (((k : Int) + 1) * ((k : Int) + 1)) :=
  Int.mul_nonneg (Int.mul_nonneg (Rat.num_nonneg.2 h) (by have := den_pos m; omega)) (Int.mul_nonneg (by omega) (by omega))
theorem rtS_nn (m : Rat) (k : Nat) : 0 ≤ rtS m k := by
  refine q_cancel (rtD_pos m k) ?_
  rw [rtS_mul]
  have : (0 : Rat) ≤ ((rtI m k : Int) : Rat) := Rat.intCast_nonneg.2 (rtI_nn m k)
  grind
theorem rtS_le {m : Rat} (h : 0 ≤ m) (k : Nat) : rtS m k * rtS m k ≤ m := by
  have hd := rtD_pos m k
  refine q_cancel (Rat.mul_pos hd hd) ?_
  rw [rtD_sq]
  have e : rtS m k * rtS m k * (rtD m k * rtD m k) = ((rtI m k * rtI m k : Int) : Rat) := by
    rw [Rat.intCast_mul, ← rtS_mul]; grind
  rw [e]
  exact Rat.intCast_le_intCast.2 (isqI_le (num_nn h k))
theorem rtS_lt {m : Rat} (h : 0 ≤ m) (k : Nat) : m < (rtS m k + 1 / rtD m k) * (rtS m k + 1 / rtD m k) := by
  have hd := rtD_pos m k
  have e : (rtS m k + 1 / rtD m k) * (rtS m k + 1 / rtD m k) * (rtD m k * rtD m k) = (((rtI m k + 1) * (rtI m k + 1) : Int) : Rat) := by
    rw [Rat.intCast_mul, Rat.intCast_add, ← rtS_mul]
    have : 1 / rtD m k * rtD m k = 1 := by grind
    grind
  have h1 := Rat.intCast_lt_intCast.2 (isqI_lt (num_nn h k))
  rw [← rtD_sq] at h1
  have h2 : m * (rtD m k * rtD m k) < (rtS m k + 1 / rtD m k) * (rtS m k + 1 / rtD m k) * (rtD m k * rtD m k) := by rw [e]; exact h1
  apply Classical.byContradiction
  intro hn
  have h3 : 0 ≤ (m - (rtS m k + 1 / rtD m k) * (rtS m k + 1 / rtD m k)) * (rtD m k * rtD m k) := Rat.mul_nonneg (by grind) (by have := Rat.mul_pos hd hd; grind)
  grind
/-- The steps get small. -/
theorem rtD_small (m : Rat) {e : Rat} (he : 0 < e) {k : Nat} (hk : e.den ≤ k) : 0 < 1 / rtD m k ∧ 1 / rtD m k ≤ e := by
  have hd := rtD_pos m k
  have hc : 1 / rtD m k * rtD m k = 1 := by grind
  refine ⟨?_, ?_⟩
  · have := (q_div (e := 1) (by decide) hd).1; exact this
  · refine q_cancel hd ?_
    rw [hc]
    have h1 := r_num e
    have h2 : 0 < e.num := Rat.intCast_pos.1 (by rw [← h1]; exact Rat.mul_pos he (Rat.intCast_pos.2 (by have := e.den_pos; omega)))
    have h3 : (1 : Rat) ≤ ((e.num : Int) : Rat) := by
      have : ((1 : Int) : Rat) ≤ ((e.num : Int) : Rat) := Rat.intCast_le_intCast.2 (by omega)
      simpa using this
    have h4 : ((e.den : Int) : Rat) ≤ rtD m k := by
      unfold rtD
      refine Rat.intCast_le_intCast.2 ?_
      have := den_pos m
      have h5 : 1 * ((k : Int) + 1) ≤ (m.den : Int) * ((k : Int) + 1) := Int.mul_le_mul_of_nonneg_right (by omega) (by omega)
      omega
    have h6 : 0 ≤ e * (rtD m k - ((e.den : Int) : Rat)) := Rat.mul_nonneg (by grind) (by grind)
    simp only [Rat.intCast_natCast] at *
    grind
theorem cau_rt {m : Rat} (h : 0 ≤ m) : Cau (rtS m) := fun e he => by
  refine ⟨e.den, fun i j _ hj => ?_⟩
  obtain ⟨hp, hs⟩ := rtD_small m he hj
  have h1 := rtS_le h i
  have h2 := rtS_lt h j
  have h3 := rtS_nn m i
  have h4 := rtS_nn m j
  apply Classical.byContradiction
  intro hn
  have h5 : 0 ≤ (rtS m i - (rtS m j + 1 / rtD m j)) * (rtS m i + (rtS m j + 1 / rtD m j)) := Rat.mul_nonneg (by grind) (by grind)
  grind
def Re.rt (m : Rat) : Re := ⟨fun k => if 0 ≤ m then rtS m k else 0, by
  by_cases h : 0 ≤ m
  · simp only [h, if_true]; exact cau_rt h
  · simp only [h, if_false]; exact cau_const 0⟩
theorem sgR_pt {x : Re} (h : ∀ k, 0 ≤ x.s k) : 0 ≤ sgR x := by
  rcases sgR_cases x with a | a | a
  · omega
  · omega
  · obtain ⟨e, he, K, g⟩ := sgR_n.1 a
    have h1 := g K (Nat.le_refl _)
    rw [re_neg] at h1
    have h2 := h K
    exfalso; grind
theorem rt_nn (m : Rat) : 0 ≤ sgR (Re.rt m) := sgR_pt fun k => by
  show 0 ≤ (if 0 ≤ m then rtS m k else 0)
  split
  · exact rtS_nn m k
  · exact Rat.le_refl
theorem rt_sq {m : Rat} (h : 0 ≤ m) : sgR (Re.rt m * Re.rt m - Re.of m) = 0 := sgR_z.2 fun e he => by
  obtain ⟨d1, d2⟩ := q_div he (show 0 < 2 * m + 3 by grind)
  refine ⟨(e / (2 * m + 3)).den, fun k hk => ?_⟩
  rw [re_sub, re_mul, re_of]
  show -e ≤ (if 0 ≤ m then rtS m k else 0) * (if 0 ≤ m then rtS m k else 0) + -m ∧ (if 0 ≤ m then rtS m k else 0) * (if 0 ≤ m then rtS m k else 0) + -m ≤ e
  rw [if_pos h]
  obtain ⟨hp, hs⟩ := rtD_small m d1 hk
  obtain ⟨hp1, hs1⟩ := rtD_small m (e := 1) (by decide) (k := k) (by
    have : (1 : Rat).den = 1 := rfl
    rw [this]
    have := (e / (2 * m + 3)).den_pos
    omega)
  have h1 := rtS_le h k
  have h2 := rtS_lt h k
  have h3 := rtS_nn m k
  refine ⟨?_, by grind⟩
  -- r ≤ m + 1
  have h4 : rtS m k ≤ m + 1 := by
    apply Classical.byContradiction
    intro hn
    have h5 : 0 ≤ (rtS m k - (m + 1)) * (rtS m k + (m + 1)) := Rat.mul_nonneg (by grind) (by grind)
    have h6 : 0 ≤ m * m := Rat.mul_nonneg h h
    grind
  generalize 1 / rtD m k = d at *
  have h7 : 0 ≤ d * ((m + 1) - rtS m k) := Rat.mul_nonneg (by grind) (by grind)
  have h8 : 0 ≤ d * (1 - d) := Rat.mul_nonneg (by grind) (by grind)
  have h9 : 0 ≤ (2 * m + 3) * (e / (2 * m + 3) - d) := Rat.mul_nonneg (by grind) (by grind)
  grind
theorem cmpR_sub (x y : Rat) : cmpR (x - y) 0 = cmpR x y := by
  unfold cmpR
  have e1 : (x - y < 0) = (x < y) := by apply propext; constructor <;> intro h <;> grind
  have e2 : (0 < x - y) = (y < x) := by apply propext; constructor <;> intro h <;> grind
  simp only [e1, e2]
theorem of_mul (x y : Rat) : Re.of x * Re.of y = Re.of (x * y) := rfl
theorem of_neg (x : Rat) : -Re.of x = Re.of (-x) := rfl
theorem of_add (x y : Rat) : Re.of x + Re.of y = Re.of (x + y) := rfl
theorem of_sub (x y : Rat) : Re.of x - Re.of y = Re.of (x - y) := Re.ext fun k => by rw [re_sub, re_of, re_of, re_of]; grind
/-- a + b √m -/
def val3 (a b m : Rat) : Re := Re.of a + Re.of b * Re.rt m
theorem plainS_sg {a b m : Rat} (h : 0 ≤ m) : plainS a b m = sgR (val3 a b m) := by
  unfold val3
  rw [sgR_comb (n := Re.of m) (rt_nn m) (rt_sq h), sgR_of, sgR_of, sgR_of, of_mul, of_mul, of_mul, of_sub, sgR_of, cmpR_sub]
  rfl
/-- A + B √M + (C + D √M) √N -/
def val6 (A B C D M N : Rat) : Re := val3 A B M + val3 C D M * Re.rt N
theorem signQ_sg {A B C D M N : Rat} (hM : 0 ≤ M) (hN : 0 ≤ N) : signQ A B C D M N = sgR (val6 A B C D M N) := by
  unfold val6
  rw [sgR_comb (n := Re.of N) (rt_nn N) (rt_sq hN), ← plainS_sg hM, ← plainS_sg hM, sgR_of, signQ_p (by grind) (by grind)]
  have e : sgR (val3 A B M * val3 A B M - val3 C D M * val3 C D M * Re.of N) = sgR (val3 (quadA A B C D M N) (quadB A B C D N + quadB A B C D N) M) := by
    refine sgR_same ?_
    have e : (val3 A B M * val3 A B M - val3 C D M * val3 C D M * Re.of N) - val3 (quadA A B C D M N) (quadB A B C D N + quadB A B C D N) M = (Re.of (B * B - D * D * N)) * (Re.rt M * Re.rt M - Re.of M) := Re.ext fun k => by
      unfold val3 quadA quadB
      simp only [re_sub, re_mul, re_add, re_of]; grind
    rw [e, sgR_mul, rt_sq hM, Int.mul_zero]
  rw [e, ← plainS_sg hM]
/-- the difference of two roots -/
theorem signQ_val {a b c d e f : Rat} (hc : 0 ≤ c) (hf : 0 ≤ f) : signQ (a - d) b (-e) 0 c f = sgR (val3 a b c - val3 d e f) := by
  rw [signQ_sg hc hf]
  refine congrArg sgR (Re.ext fun k => ?_)
  unfold val6 val3
  simp only [re_sub, re_mul, re_add, re_of]; grind
end Go.Proofs.YtcbjmiddangfoaaGreat
/- Plain: intervals hold what they were made for; the program's signs and orders are those of the sums. -/
namespace Go.Proofs.YtcbjmiddangfoaaGreat
open Go Go.RowKit
def leR (x y : Re) : Prop := 0 ≤ sgR (y - x)
theorem le_tr {x y z : Re} (h : leR x y) (g : leR y z) : leR x z := by
  unfold leR at *
  have e : z - x = (z - y) + (y - x) := Re.ext fun k => by simp only [re_sub, re_add]; grind
  rw [e]; exact sgR_nn g h
theorem of_le {p q : Rat} (h : p ≤ q) : leR (Re.of p) (Re.of q) := by
  unfold leR
  rw [of_sub, sgR_of]
  unfold cmpR
  rw [if_neg (by grind)]
  split <;> omega
theorem nn_of {x y : Re} (h : ∀ k, x.s k = y.s k) (g : 0 ≤ sgR x) : 0 ≤ sgR y := by rw [← Re.ext h]; exact g
def InI (lo hi : Int) (x : Re) : Prop := leR (Re.of (lo : Rat)) (Re.of 65536 * x) ∧ leR (Re.of 65536 * x) (Re.of (hi : Rat))
theorem sgR_add_le {x y u v : Re} (h : leR x y) (g : leR u v) : leR (x + u) (y + v) := by
  unfold leR at *
  exact nn_of (fun k => by simp only [re_sub, re_add]; grind) (sgR_nn h g)
theorem fl_le (y : Rat) : ((y.num.fdiv (y.den : Int) : Int) : Rat) ≤ y := by
  have hd := den_pos y
  have h1 := r_num y
  have hp : (0 : Rat) < ((y.den : Int) : Rat) := Rat.intCast_pos.2 hd
  refine q_cancel hp ?_
  rw [h1, ← Rat.intCast_mul]
  refine Rat.intCast_le_intCast.2 ?_
  rw [Int.fdiv_eq_ediv_of_nonneg _ (by omega), Int.mul_comm]
  have := Int.mul_ediv_add_emod y.num (y.den : Int)
  have := Int.emod_nonneg y.num (show (y.den : Int) ≠ 0 by omega)
  omega
theorem in_fr (a : Rat) : InI (frLo a) (frHi a) (Re.of a) := by
  have h1 := fl_le (a * ((65536 : Int) : Rat))
  have h2 := fl_le (-(a * ((65536 : Int) : Rat)))
  have e : ((65536 : Int) : Rat) = 65536 := rfl
  rw [e] at h1 h2
  refine ⟨?_, ?_⟩
  · rw [of_mul]
    refine of_le ?_
    unfold frLo
    rw [e]
    grind
  · rw [of_mul]
    refine of_le ?_
    unfold frHi
    rw [e, Rat.intCast_neg]
    grind
theorem in_g {a : Rat} (h : frOk a = true) : InI (gL a) (gH a) (Re.of a) := by
  unfold gL gH; rw [h, if_pos rfl, if_pos rfl]; exact in_fr a
theorem sq_le_re {p q : Re} (_hp : 0 ≤ sgR p) (hq : 0 ≤ sgR q) (h : 0 ≤ sgR (q * q - p * p)) : leR p q := by
  unfold leR
  rcases sgR_cases (q - p) with a | a | a
  · omega
  · omega
  · exfalso
    have h1 : 0 < sgR (p - q) := by
      have e : p - q = -(q - p) := Re.ext fun k => by simp only [re_sub, re_neg]; grind
      rw [e, sgR_neg, a]; decide
    have h2 : 0 < sgR (p + q) := by
      have e : p + q = (p - q) + (q + q) := Re.ext fun k => by simp only [re_sub, re_add]; grind
      rw [e]; exact sgR_pn h1 (sgR_nn hq hq)
    have h3 : sgR ((q - p) * (p + q)) = sgR (q * q - p * p) := congrArg sgR (Re.ext fun k => by simp only [re_sub, re_add, re_mul]; grind)
    rw [sgR_mul, a] at h3
    omega
theorem nn_cast {n : Int} (h : 0 ≤ n) : 0 ≤ sgR (Re.of (n : Rat)) := by
  have := of_le (Rat.intCast_nonneg.2 h)
  unfold leR at this
  refine nn_of (fun k => ?_) this
  simp only [re_sub, re_of]; grind
theorem of_le_iff {p q : Rat} (h : leR (Re.of p) (Re.of q)) : p ≤ q := by
  unfold leR at h
  rw [of_sub, sgR_of] at h
  unfold cmpR at h
  apply Classical.byContradiction
  intro hn
  rw [if_pos (by grind)] at h
  omega
theorem rt65_nn (m : Rat) : 0 ≤ sgR (Re.of 65536 * Re.rt m) := by
  have h1 := rt_nn m
  have h2 : sgR (Re.of 65536) = 1 := by rw [sgR_of]; decide +kernel
  rw [sgR_mul, h2]; omega
theorem rt65_sq {m : Rat} (h : 0 ≤ m) (q : Rat) : sgR (Re.of 65536 * Re.rt m * (Re.of 65536 * Re.rt m) - Re.of q) = cmpR (65536 * 65536 * m) q := by
  rw [← cmpR_sub, ← sgR_of]
  refine sgR_same ?_
  have e : Re.of 65536 * Re.rt m * (Re.of 65536 * Re.rt m) - Re.of q - Re.of (65536 * 65536 * m - q) = Re.of (65536 * 65536) * (Re.rt m * Re.rt m - Re.of m) := Re.ext fun k => by
    simp only [re_sub, re_mul, re_of]; grind
  rw [e, sgR_mul, rt_sq h, Int.mul_zero]
theorem cmpR_ge {x y : Rat} (h : y ≤ x) : 0 ≤ cmpR x y := by unfold cmpR; rw [if_neg (by grind)]; split <;> omega
theorem cmpR_le {x y : Rat} (h : x ≤ y) : cmpR x y ≤ 0 := by
  unfold cmpR
  split
  · omega
  · rw [if_neg (by grind)]; omega
theorem in_sq {m : Rat} (hm : 0 ≤ m) {lo hi : Int} (h : InI lo hi (Re.of m)) : InI (sqLo lo) (sqHi hi) (Re.rt m) := by
  obtain ⟨h1, h2⟩ := h
  rw [of_mul] at h1 h2
  have g1 := of_le_iff h1
  have g2 := of_le_iff h2
  have hq : (0 : Rat) ≤ 65536 * m := Rat.mul_nonneg (by decide) hm
  refine ⟨?_, ?_⟩
  · refine sq_le_re (nn_cast (isqI_nonneg _)) (rt65_nn m) ?_
    rw [of_mul, rt65_sq hm]
    refine cmpR_ge ?_
    have h3 := isqI_le (x := max lo 0 * 65536) (by omega)
    have h4 : ((isqI (max lo 0 * 65536) * isqI (max lo 0 * 65536) : Int) : Rat) ≤ ((max lo 0 * 65536 : Int) : Rat) := Rat.intCast_le_intCast.2 h3
    rw [Rat.intCast_mul, Rat.intCast_mul] at h4
    have e65 : ((65536 : Int) : Rat) = 65536 := rfl
    have h5 : ((max lo 0 : Int) : Rat) ≤ 65536 * m := by
      by_cases hl : 0 ≤ lo
      · rw [show max lo 0 = lo from by omega]; exact g1
      · rw [show max lo 0 = 0 from by omega]; simpa using hq
    rw [e65] at h4
    unfold sqLo
    grind
  · refine sq_le_re (rt65_nn m) (nn_cast ?_) ?_
    · unfold sqHi; have := isqI_nonneg (hi * 65536); split <;> omega
    have h3 : 0 ≤ -sgR (Re.of 65536 * Re.rt m * (Re.of 65536 * Re.rt m) - Re.of (((sqHi hi : Int) : Rat) * ((sqHi hi : Int) : Rat))) := by
      rw [rt65_sq hm]
      have hh : (0 : Int) ≤ hi := by
        have : (0 : Rat) ≤ (hi : Rat) := by grind
        exact Rat.intCast_nonneg.1 this
      have h4 : hi * 65536 ≤ sqHi hi * sqHi hi := by
        unfold sqHi
        split
        · rename_i hs
          unfold sqI at hs
          have := beq_iff_eq.1 hs
          omega
        · have := isqI_lt (x := hi * 65536) (by omega)
          omega
      have h5 : ((hi * 65536 : Int) : Rat) ≤ ((sqHi hi * sqHi hi : Int) : Rat) := Rat.intCast_le_intCast.2 h4
      rw [Rat.intCast_mul, Rat.intCast_mul] at h5
      have e65 : ((65536 : Int) : Rat) = 65536 := rfl
      rw [e65] at h5
      have := cmpR_le (x := 65536 * 65536 * m) (y := ((sqHi hi : Int) : Rat) * ((sqHi hi : Int) : Rat)) (by grind)
      omega
    rw [← sgR_neg] at h3
    refine nn_of (fun k => ?_) h3
    simp only [re_neg, re_sub, re_mul, re_of]; grind
/-- a line at its ends -/
theorem lin_nn {k u v U L : Re} (h1 : 0 ≤ sgR (k * u - L)) (h2 : 0 ≤ sgR (k * v - L)) (g1 : leR u U) (g2 : leR U v) : 0 ≤ sgR (k * U - L) := by
  unfold leR at *
  have e : (v - u) * (k * U - L) = (v - U) * (k * u - L) + (U - u) * (k * v - L) := Re.ext fun j => by simp only [re_sub, re_mul, re_add]; grind
  have hr : 0 ≤ sgR ((v - U) * (k * u - L) + (U - u) * (k * v - L)) := by
    refine sgR_nn ?_ ?_
    · rw [sgR_mul]; exact Int.mul_nonneg g2 h1
    · rw [sgR_mul]; exact Int.mul_nonneg g1 h2
  rw [← e, sgR_mul] at hr
  have e2 : sgR (v - u) = sgR ((v - U) + (U - u)) := congrArg sgR (Re.ext fun j => by simp only [re_sub, re_add]; grind)
  rcases sgR_cases (v - u) with a | a | a
  · rw [a] at hr; omega
  · rcases sgR_cases (U - u) with b | b | b
    · have := sgR_pn (x := U - u) (y := v - U) (by omega) g2
      rw [re_addc] at this
      omega
    · have e3 : k * U - L = (k * u - L) + k * (U - u) := Re.ext fun j => by simp only [re_sub, re_add, re_mul]; grind
      rw [e3, sgR_addz _ (by rw [sgR_mul, b, Int.mul_zero])]
      exact h1
    · omega
  · have := sgR_nn g2 g1
    omega
theorem bil_nn {x y u v X U L : Re} (h1 : 0 ≤ sgR (x * u - L)) (h2 : 0 ≤ sgR (x * v - L)) (h3 : 0 ≤ sgR (y * u - L)) (h4 : 0 ≤ sgR (y * v - L)) (g1 : leR x X) (g2 : leR X y) (g3 : leR u U) (g4 : leR U v) : 0 ≤ sgR (X * U - L) := by
  have a := lin_nn h1 h2 g3 g4
  have b := lin_nn h3 h4 g3 g4
  rw [re_mulc x U] at a
  rw [re_mulc y U] at b
  have := lin_nn a b g1 g2
  rw [re_mulc U X] at this
  exact this
theorem sc_lo (a b : Int) : scLo a b * 65536 ≤ a * b ∧ a * b ≤ scHi a b * 65536 := by
  have e : a * b = if (!(decide (a < 0) == decide (b < 0))) = true then -scP a b else scP a b := by
    unfold scP
    by_cases ha : a < 0 <;> by_cases hb : b < 0
    · have h1 : (a.natAbs : Int) = -a := by omega
      have h2 : (b.natAbs : Int) = -b := by omega
      simp [ha, hb, h1, h2]; try grind
    · have h1 : (a.natAbs : Int) = -a := by omega
      have h2 : (b.natAbs : Int) = b := by omega
      simp [ha, hb, h1, h2]; try grind
    · have h1 : (a.natAbs : Int) = a := by omega
      have h2 : (b.natAbs : Int) = -b := by omega
      simp [ha, hb, h1, h2]; try grind
    · have h1 : (a.natAbs : Int) = a := by omega
      have h2 : (b.natAbs : Int) = b := by omega
      simp [ha, hb, h1, h2]
  rw [e]
  unfold scLo scHi
  generalize scP a b = p
  have hu : p ≤ scUp p * 65536 := by unfold scUp; split <;> omega
  generalize scUp p = u at *
  by_cases hc : (!(decide (a < 0) == decide (b < 0))) = true
  · rw [if_pos hc, if_pos hc, if_pos hc]; omega
  · rw [if_neg hc, if_neg hc, if_neg hc]; omega
theorem in_mul {x y u v : Int} {X U : Re} (h : InI x y X) (g : InI u v U) : InI (loN x y u v 4) (hiN x y u v 4) (X * U) := by
  have lo : ∀ a b : Int, loN x y u v 4 ≤ scLo a b → 0 ≤ sgR (Re.of (a : Rat) * Re.of (b : Rat) - Re.of ((loN x y u v 4 * 65536 : Int) : Rat)) := by
    intro a b hl
    rw [of_mul]
    refine of_le ?_
    rw [← Rat.intCast_mul]
    exact Rat.intCast_le_intCast.2 (by have := (sc_lo a b).1; omega)
  have hi : ∀ a b : Int, scHi a b ≤ hiN x y u v 4 → 0 ≤ sgR (-Re.of (a : Rat) * Re.of (b : Rat) - Re.of (-((hiN x y u v 4 * 65536 : Int) : Rat))) := by
    intro a b hl
    rw [of_neg, of_mul]
    refine of_le ?_
    have h1 : ((a * b : Int) : Rat) ≤ ((hiN x y u v 4 * 65536 : Int) : Rat) := Rat.intCast_le_intCast.2 (by have := (sc_lo a b).2; omega)
    rw [Rat.intCast_mul] at h1
    grind
  have hlo : loN x y u v 4 = min (min (min (min 2305843009213693952 (scLo x u)) (scLo x v)) (scLo y u)) (scLo y v) := rfl
  have hhi : hiN x y u v 4 = max (max (max (max (-2305843009213693952) (scHi x u)) (scHi x v)) (scHi y u)) (scHi y v) := rfl
  have e65 : ((65536 : Int) : Rat) = 65536 := rfl
  have p65 : sgR (Re.of 65536) = 1 := by rw [sgR_of]; decide +kernel
  refine ⟨?_, ?_⟩
  · have hb := bil_nn (lo x u (by omega)) (lo x v (by omega)) (lo y u (by omega)) (lo y v (by omega)) h.1 h.2 g.1 g.2
    have e : sgR (Re.of 65536 * (Re.of 65536 * (X * U) - Re.of ((loN x y u v 4 : Int) : Rat))) = sgR (Re.of 65536 * X * (Re.of 65536 * U) - Re.of ((loN x y u v 4 * 65536 : Int) : Rat)) := congrArg sgR (Re.ext fun k => by
      simp only [re_sub, re_mul, re_of, Rat.intCast_mul, e65]; grind)
    rw [← e, sgR_mul, p65, Int.one_mul] at hb
    exact hb
  · have n1 : leR (-Re.of (y : Rat)) (-(Re.of 65536 * X)) := nn_of (fun k => by simp only [re_sub, re_neg]; grind) h.2
    have n2 : leR (-(Re.of 65536 * X)) (-Re.of (x : Rat)) := nn_of (fun k => by simp only [re_sub, re_neg]; grind) h.1
    have hb := bil_nn (hi y u (by omega)) (hi y v (by omega)) (hi x u (by omega)) (hi x v (by omega)) n1 n2 g.1 g.2
    have e : sgR (Re.of 65536 * (Re.of ((hiN x y u v 4 : Int) : Rat) - Re.of 65536 * (X * U))) = sgR (-(Re.of 65536 * X) * (Re.of 65536 * U) - Re.of (-((hiN x y u v 4 * 65536 : Int) : Rat))) := congrArg sgR (Re.ext fun k => by
      simp only [re_sub, re_mul, re_of, re_neg, Rat.intCast_mul, e65]; grind)
    rw [← e, sgR_mul, p65, Int.one_mul] at hb
    exact hb
theorem in_p {x y u v : Int} {X U : Re} (h : InI x y X) (g : InI u v U) (hk : okN x y u v 4 = true) : InI (pL x y u v) (pH x y u v) (X * U) := by
  unfold pL pH; rw [hk, if_pos rfl, if_pos rfl]; exact in_mul h g
theorem in_add {x y u v : Int} {X U : Re} (h : InI x y X) (g : InI u v U) : InI (x + u) (y + v) (X + U) := by
  have a := sgR_add_le h.1 g.1
  have b := sgR_add_le h.2 g.2
  refine ⟨nn_of (fun k => ?_) a, nn_of (fun k => ?_) b⟩
  · simp only [re_sub, re_add, re_mul, re_of, Rat.intCast_add]; grind
  · simp only [re_sub, re_add, re_mul, re_of, Rat.intCast_add]; grind
theorem in_a {x y u v : Int} {X U : Re} (h : InI x y X) (g : InI u v U) (hk : okI (x + u) (y + v) = true) : InI (aL x y u v) (aH x y u v) (X + U) := by
  unfold aL aH; rw [hk, if_pos rfl, if_pos rfl]; exact in_add h g
theorem sg65 (X : Re) : sgR (Re.of 65536 * X) = sgR X := by
  have p65 : sgR (Re.of 65536) = 1 := by rw [sgR_of]; decide +kernel
  rw [sgR_mul, p65, Int.one_mul]
theorem pos_cast {n : Int} (h : 0 < n) : 0 < sgR (Re.of (n : Rat)) := by
  rw [sgR_of]
  have h1 : (0 : Rat) < (n : Rat) := Rat.intCast_pos.2 h
  unfold cmpR
  rw [if_neg (by grind), if_pos h1]; decide
theorem in_lo {lo hi : Int} {X : Re} (h : InI lo hi X) (hl : 0 < lo) : sgR X = 1 := by
  have h1 := sgR_pn (pos_cast hl) h.1
  have e : sgR (Re.of (lo : Rat) + (Re.of 65536 * X - Re.of (lo : Rat))) = sgR (Re.of 65536 * X) := congrArg sgR (Re.ext fun k => by simp only [re_sub, re_add]; grind)
  rw [e, sg65] at h1
  have := sgR_cases X
  omega
theorem in_hi {lo hi : Int} {X : Re} (h : InI lo hi X) (hl : hi < 0) : sgR X = -1 := by
  have h0 : 0 < sgR (-Re.of (hi : Rat)) := by
    rw [of_neg, ← Rat.intCast_neg]; exact pos_cast (by omega)
  have h1 := sgR_pn h0 h.2
  have e : sgR (-Re.of (hi : Rat) + (Re.of (hi : Rat) - Re.of 65536 * X)) = sgR (-(Re.of 65536 * X)) := congrArg sgR (Re.ext fun k => by simp only [re_sub, re_add, re_neg]; grind)
  rw [e, sgR_neg, sg65] at h1
  have := sgR_cases X
  omega
theorem in_zero {X : Re} (h : InI 0 0 X) : sgR X = 0 := by
  have h1 := h.1
  have h2 := h.2
  unfold leR at h1 h2
  have e1 : sgR (Re.of 65536 * X - Re.of ((0 : Int) : Rat)) = sgR (Re.of 65536 * X) := congrArg sgR (Re.ext fun k => by simp only [re_sub, re_of]; grind)
  have e2 : sgR (Re.of ((0 : Int) : Rat) - Re.of 65536 * X) = sgR (-(Re.of 65536 * X)) := congrArg sgR (Re.ext fun k => by simp only [re_sub, re_of, re_neg]; grind)
  rw [e1, sg65] at h1
  rw [e2, sgR_neg, sg65] at h2
  omega
theorem in_sign {lo hi : Int} {X : Re} (h : InI lo hi X) (hs : skI lo hi = true) : sgI lo hi = sgR X := by
  unfold skI at hs
  simp only [Bool.or_eq_true, decide_eq_true_eq, Bool.and_eq_true, beq_iff_eq] at hs
  unfold sgI
  by_cases h1 : lo > 0
  · rw [if_pos h1, in_lo h h1]
  · rw [if_neg h1]
    by_cases h2 : hi < 0
    · rw [if_pos h2, in_hi h h2]
    · rw [if_neg h2]
      rcases hs with hs | hs | ⟨hs, hs'⟩
      · omega
      · omega
      · subst hs hs'
        exact (in_zero h).symm
/-- quick tells the sign -/
theorem qk_sign {A B C D M N : Rat} (hM : 0 ≤ M) (hN : 0 ≤ N) (h : qkK A B C D M N = true) : qkS A B C D M N = sgR (val6 A B C D M N) := by
  unfold qkK at h
  rw [Bool.and_eq_true] at h
  obtain ⟨h3, hs⟩ := h
  rw [(qk_yes h3).1]
  unfold qK3 qK2 qK1 at h3
  simp only [Bool.and_eq_true] at h3
  obtain ⟨⟨⟨k1, k2⟩, k3, k4, k5, k6, k7, k8, k9⟩, k10, k11, k12, k13⟩ := h3
  have im := in_sq hM (in_g k1)
  have in_ := in_sq hN (in_g k2)
  have ib : InI (qbL B M) (qbH B M) _ := in_p (in_g k3) im k4
  have ic : InI (qbL C N) (qbH C N) _ := in_p (in_g k5) in_ k6
  have imn : InI (qmnL M N) (qmnH M N) _ := in_p im in_ k8
  have id' : InI (qdL D M N) (qdH D M N) _ := in_p (in_g k7) imn k9
  have iab : InI (qabL A B M) (qabH A B M) _ := in_a (in_g k10) ib k11
  have icd : InI (qcdL C D M N) (qcdH C D M N) _ := in_a ic id' k12
  have is' : InI (qsL A B C D M N) (qsH A B C D M N) _ := in_a iab icd k13
  rw [in_sign is' hs]
  refine congrArg sgR (Re.ext fun k => ?_)
  unfold val6 val3
  simp only [re_add, re_mul, re_of]; grind
theorem sgnP_eq {A B C D M N : Rat} (hM : 0 ≤ M) (hN : 0 ≤ N) : sgnP A B C D M N = sgR (val6 A B C D M N) := by
  unfold sgnP
  rw [if_neg (by rintro (h | h) <;> grind)]
  split
  · rename_i h; exact qk_sign hM hN h
  · exact signQ_sg hM hN
/-- the interval of a root -/
theorem in_rt {a b c : Rat} (h : rtOk a b c = true) : InI (rtLo a b c) (rtHi a b c) (val3 a b c) := by
  have h0 := h
  unfold rtOk at h
  rw [Bool.and_eq_true] at h
  obtain ⟨h1, h2⟩ := h
  cases hb : (cmpR b 0 == 0) with
  | true =>
    obtain ⟨e1, e2, _⟩ := rt_b (c := c) h1 hb
    rw [e1, e2]
    have hb0 : b = 0 := r_eq hb
    subst hb0
    have := in_fr a
    have e : val3 a 0 c = Re.of a := Re.ext fun k => by unfold val3; simp only [re_add, re_mul, re_of]; grind
    rw [e]; exact this
  | false =>
    rw [hb, Bool.false_or] at h2
    unfold rtX at h2
    simp only [Bool.and_eq_true, Bool.not_eq_true'] at h2
    obtain ⟨g1, g2, g3, g4, g5⟩ := h2
    have hc : 0 ≤ c := Rat.not_lt.1 (r_nlt g3)
    obtain ⟨e1, e2, _⟩ := rt_f h1 hb g1 g2 g3 g4
    have ir := in_sq hc (in_fr c)
    have im := in_mul (in_fr b) ir
    have := in_add (in_fr a) im
    unfold rtLo rtHi
    rw [h0, if_pos rfl, if_pos rfl, hb, if_neg (by decide), if_neg (by decide)]
    exact this
theorem ap_sign {a b c d e f : Rat} (h : apK (rtOk a b c) (rtOk d e f) (rtLo a b c) (rtHi a b c) (rtLo d e f) (rtHi d e f) = true) :
    apS (rtOk a b c) (rtOk d e f) (rtLo a b c) (rtHi a b c) (rtLo d e f) (rtHi d e f) = sgR (val3 a b c - val3 d e f) := by
  unfold apK at h
  simp only [Bool.and_eq_true, Bool.or_eq_true, decide_eq_true_eq] at h
  obtain ⟨⟨k1, k2⟩, hs⟩ := h
  have i1 := in_rt k1
  have i2 := in_rt k2
  have i3 : InI (rtLo a b c - rtHi d e f) (rtHi a b c - rtLo d e f) (val3 a b c - val3 d e f) := by
    have n := sgR_add_le i1.1 (nn_of (y := -(Re.of 65536 * val3 d e f) - -Re.of ((rtHi d e f : Int) : Rat)) (fun k => by simp only [re_sub, re_neg]; grind) i2.2)
    have m := sgR_add_le i1.2 (nn_of (y := -Re.of ((rtLo d e f : Int) : Rat) - -(Re.of 65536 * val3 d e f)) (fun k => by simp only [re_sub, re_neg]; grind) i2.1)
    refine ⟨nn_of (fun k => ?_) n, nn_of (fun k => ?_) m⟩
    · simp only [re_sub, re_add, re_mul, re_of, re_neg, Rat.intCast_sub]; grind
    · simp only [re_sub, re_add, re_mul, re_of, re_neg, Rat.intCast_sub]; grind
  unfold apS
  rw [k1, k2, Bool.and_self, if_pos rfl]
  by_cases h1 : rtHi a b c < rtLo d e f
  · rw [if_pos (decide_eq_true h1), in_hi i3 (by omega)]
  · rw [if_neg (by simpa using h1)]
    rcases hs with hs | hs
    · omega
    · rw [if_pos (decide_eq_true hs), in_lo i3 (by omega)]
/-- THE PROGRAM'S ORDER OF ROOTS is that of their values -/
theorem cmpP_eq {a b c d e f : Rat} (hc : 0 ≤ c) (hf : 0 ≤ f) : cmpP a b c d e f = sgR (val3 a b c - val3 d e f) := by
  unfold cmpP
  split
  · rename_i h
    have hb : b = 0 := r_eq h.1
    have he : e = 0 := r_eq h.2
    subst hb he
    rw [← cmpR_sub, ← sgR_of]
    refine congrArg sgR (Re.ext fun k => ?_)
    unfold val3; simp only [re_sub, re_add, re_mul, re_of]; grind
  · split
    · rename_i h; exact ap_sign h
    · split
      · rename_i h
        have e1 : c = f := cmpR_eq0.1 (by simpa using h)
        subst e1
        rw [plainS_sg hc]
        refine congrArg sgR (Re.ext fun k => ?_)
        unfold val3; simp only [re_sub, re_add, re_mul, re_of]; grind
      · rw [sgnP_eq hc hf]
        refine congrArg sgR (Re.ext fun k => ?_)
        unfold val6 val3; simp only [re_sub, re_add, re_mul, re_of]; grind
end Go.Proofs.YtcbjmiddangfoaaGreat
/- small: points in reduced form of few limbs. -/
namespace Go.Proofs.YtcbjmiddangfoaaGreat
open Go Go.RowKit
-- no function swarf/swarflaw07.small in this seat
-- no function swarf/swarflaw07.small in this seat
-- no function swarf/swarflaw07.small in this seat
-- no function swarf/swarflaw07.small in this seat
-- no function swarf/swarflaw07.small in this seat
-- no function swarf/swarflaw07.small in this seat
-- no function swarf/swarflaw07.small in this seat
-- no function swarf/swarflaw07.small in this seat
end Go.Proofs.YtcbjmiddangfoaaGreat
/- Plain: the order of points, program and reference; opposite orders. -/
namespace Go.Proofs.YtcbjmiddangfoaaGreat
open Go Go.RowKit
theorem vPt_c {b1 b2 c : Rat} (h : vPt b1 b2 c = true) : 0 ≤ c := by
  unfold vPt at h
  split at h
  · have := of_decide_eq_true h; subst this; exact Rat.le_refl
  · rw [Bool.and_eq_true] at h
    have := of_decide_eq_true h.1
    grind
theorem zc_nn {b c : Rat} (h : 0 ≤ c) : 0 ≤ zc b c := by unfold zc; split <;> grind
/-- a coordinate's value -/
def vco (a b c : Rat) : Re := val3 a b (zc b c)
theorem cmpC_v {a b c p q r : Rat} (hc : 0 ≤ c) (hr : 0 ≤ r) : cmpC a b c p q r = sgR (vco a b c - vco p q r) := signQ_val (zc_nn hc) (zc_nn hr)
theorem cmpP_v {a b c p q r : Rat} (hc : 0 ≤ c) (hr : 0 ≤ r) : cmpP a b (zc b c) p q (zc q r) = sgR (vco a b c - vco p q r) := cmpP_eq (zc_nn hc) (zc_nn hr)
section
variable {a1 b1 a2 b2 c p1 q1 p2 q2 r : Rat}
theorem cmpPP_pt (hc : 0 ≤ c) (hr : 0 ≤ r) : cmpPP a1 b1 a2 b2 c p1 q1 p2 q2 r = cmpPt a1 b1 a2 b2 c p1 q1 p2 q2 r := by
  unfold cmpPP cmpPt
  rw [cmpP_v hc hr, cmpP_v hc hr, cmpC_v hc hr, cmpC_v hc hr]
theorem sgR_sw (x y : Re) : sgR (y - x) = -sgR (x - y) := by
  rw [← sgR_neg]
  exact congrArg sgR (Re.ext fun k => by simp only [re_sub, re_neg]; grind)
theorem sgR_sub0 (x : Re) : sgR (x - x) = 0 := by
  have h := sgR_sw x x
  omega
theorem cmpPt_anti (hc : 0 ≤ c) (hr : 0 ≤ r) : cmpPt p1 q1 p2 q2 r a1 b1 a2 b2 c = -cmpPt a1 b1 a2 b2 c p1 q1 p2 q2 r := by
  unfold cmpPt
  rw [cmpC_v hc hr, cmpC_v hc hr, cmpC_v hr hc, cmpC_v hr hc, sgR_sw (vco a1 b1 c), sgR_sw (vco a2 b2 c)]
  by_cases h : sgR (vco a1 b1 c - vco p1 q1 r) = 0
  · rw [h]; simp
  · rw [if_pos (by omega), if_pos h]
theorem cmpPt_refl (hc : 0 ≤ c) : cmpPt a1 b1 a2 b2 c a1 b1 a2 b2 c = 0 := by
  unfold cmpPt
  rw [cmpC_v hc hc, cmpC_v hc hc, sgR_sub0, sgR_sub0]; simp
theorem cmpPt_cases (hc : 0 ≤ c) (hr : 0 ≤ r) : cmpPt a1 b1 a2 b2 c p1 q1 p2 q2 r = 1 ∨ cmpPt a1 b1 a2 b2 c p1 q1 p2 q2 r = 0 ∨ cmpPt a1 b1 a2 b2 c p1 q1 p2 q2 r = -1 := by
  unfold cmpPt
  rw [cmpC_v hc hr, cmpC_v hc hr]
  split
  · exact sgR_cases _
  · exact sgR_cases _
end
end Go.Proofs.YtcbjmiddangfoaaGreat
/- Plain: the square of a distance: its parts, its sign, when it is nothing. -/
namespace Go.Proofs.YtcbjmiddangfoaaGreat
open Go Go.RowKit
theorem sqI_sq (n : Int) : sqI (n * n) = true := by
  have h : isqI (n * n) = (n.natAbs : Int) := by
    have e : (n.natAbs : Int) * (n.natAbs : Int) = n * n := by
      rw [← Int.natCast_mul, Int.natAbs_mul_self]
    refine isqI_unique ?_ (by omega) (by omega) ?_
    · rw [← e]; exact Int.mul_nonneg (by omega) (by omega)
    · have : ((n.natAbs : Int) + 1) * ((n.natAbs : Int) + 1) = (n.natAbs : Int) * (n.natAbs : Int) + 2 * (n.natAbs : Int) + 1 := by grind
      omega
  unfold sqI
  rw [h, ← Int.natCast_mul, Int.natAbs_mul_self]
  simp
theorem sqR_sq (x : Rat) : sqR (x * x) = true := by
  have e : x * x = Rat.divInt (x.num * x.num) ((x.den : Int) * (x.den : Int)) := by
    conv => lhs; rw [← Rat.num_divInt_den x]
    exact Rat.divInt_mul_divInt _ _
  have hd := den_pos x
  have hg : Int.gcd (x.num * x.num) ((x.den : Int) * (x.den : Int)) = 1 := by
    have hr : Nat.Coprime x.num.natAbs x.den := x.reduced
    show Nat.gcd (x.num * x.num).natAbs ((x.den : Int) * (x.den : Int)).natAbs = 1
    rw [Int.natAbs_mul, Int.natAbs_mul, Int.natAbs_natCast]
    exact (hr.mul_left hr).mul_right (hr.mul_left hr)
  have hv : vQ (x.num * x.num) ((x.den : Int) * (x.den : Int)) = true := by
    unfold vQ
    rw [hg, decide_eq_true (Int.mul_pos hd hd)]; rfl
  obtain ⟨h1, h2⟩ := vQ_parts hv
  rw [← e] at h1 h2
  unfold sqR
  rw [h1, h2, sqI_sq, sqI_sq]; rfl
/-- the reference's sign of a root in reduced form -/
theorem s3_sg {a b c : Rat} (hc : 0 ≤ c) (hv : b ≠ 0 → 0 < c ∧ sqR c = false) : s3 a b c = sgR (val3 a b c) := by
  rw [← plainS_sg hc]
  unfold s3 plainS comb
  by_cases hb : b = 0
  · have h0 : cmpR b 0 = 0 := cmpR_eq0.2 hb
    rw [if_pos (.inr h0), h0, Int.zero_mul, if_pos (.inl rfl)]
  · obtain ⟨hp, hs⟩ := hv hb
    have h1 : cmpR c 0 = 1 := by unfold cmpR; rw [if_neg (by grind), if_pos hp]
    have h2 : cmpR b 0 ≠ 0 := fun e => hb (cmpR_eq0.1 e)
    rw [h1, Int.mul_one]
    by_cases h3 : cmpR a 0 = cmpR b 0
    · rw [if_pos (.inl h3), if_pos (.inr h3)]
    · have n1 : ¬ (cmpR a 0 = cmpR b 0 ∨ cmpR b 0 = 0) := by omega
      have n2 : ¬ (cmpR b 0 = 0 ∨ cmpR a 0 = cmpR b 0) := by omega
      rw [if_neg n1, if_neg n2]
      by_cases h4 : cmpR a 0 = 0
      · rw [if_pos h4, if_pos h4]
      · rw [if_neg h4, if_neg h4]
        have hn : a * a ≠ b * b * c := by
          intro e
          have e2 : c = (a / b) * (a / b) := by
            have : a / b * b = a := by grind
            grind
          rw [e2, sqR_sq] at hs
          cases hs
        have a1 := cmpR_bd a 0
        have b1 := cmpR_bd b 0
        by_cases h5 : 0 < a * a - b * b * c
        · have : cmpR (a * a) (b * b * c) = 1 := by unfold cmpR; rw [if_neg (by grind), if_pos (by grind)]
          rw [if_pos h5, this, Int.mul_one]
        · have : cmpR (a * a) (b * b * c) = -1 := by unfold cmpR; rw [if_pos (by grind)]
          rw [if_neg h5, this]; omega
theorem vco_eq (a b c : Rat) : vco a b c = Re.of a + Re.of b * Re.rt c := by
  unfold vco val3
  by_cases h : b = 0
  · subst h
    exact Re.ext fun k => by simp only [re_add, re_mul, re_of]; grind
  · rw [zc_f h]
theorem sgR_sqs (X Y : Re) : 0 ≤ sgR (X * X + Y * Y) ∧ (sgR (X * X + Y * Y) = 0 ↔ sgR X = 0 ∧ sgR Y = 0) := by
  have hx : 0 ≤ sgR (X * X) := by rw [sgR_mul]; rcases sgR_cases X with h | h | h <;> rw [h] <;> decide
  have hy : 0 ≤ sgR (Y * Y) := by rw [sgR_mul]; rcases sgR_cases Y with h | h | h <;> rw [h] <;> decide
  refine ⟨sgR_nn hx hy, fun h => ?_, fun ⟨h1, h2⟩ => ?_⟩
  · constructor
    · apply Classical.byContradiction
      intro hn
      have : 0 < sgR (X * X) := by rw [sgR_mul]; rcases sgR_cases X with g | g | g <;> rw [g] <;> first | decide | omega
      have := sgR_pn this hy
      omega
    · apply Classical.byContradiction
      intro hn
      have : 0 < sgR (Y * Y) := by rw [sgR_mul]; rcases sgR_cases Y with g | g | g <;> rw [g] <;> first | decide | omega
      have := sgR_pn this hx
      rw [re_addc] at this
      omega
  · rw [sgR_addz _ (by rw [sgR_mul, h2]; rfl), sgR_mul, h1]; rfl
def sqA (x y b1 b2 c : Rat) : Rat := x * x + y * y + (b1 * b1 + b2 * b2) * c
def sqB (x y b1 b2 : Rat) : Rat := (x * b1 + y * b2) + (x * b1 + y * b2)
theorem sq_val {x y b1 b2 c : Rat} (hc : 0 ≤ c) : sgR (val3 (sqA x y b1 b2 c) (sqB x y b1 b2) (zc (sqB x y b1 b2) c)) = sgR (vco x b1 c * vco x b1 c + vco y b2 c * vco y b2 c) := by
  symm
  refine sgR_same ?_
  have h1 : val3 (sqA x y b1 b2 c) (sqB x y b1 b2) (zc (sqB x y b1 b2) c) = Re.of (sqA x y b1 b2 c) + Re.of (sqB x y b1 b2) * Re.rt c := vco_eq _ _ _
  rw [h1, vco_eq, vco_eq]
  have e : (Re.of x + Re.of b1 * Re.rt c) * (Re.of x + Re.of b1 * Re.rt c) + (Re.of y + Re.of b2 * Re.rt c) * (Re.of y + Re.of b2 * Re.rt c) - (Re.of (sqA x y b1 b2 c) + Re.of (sqB x y b1 b2) * Re.rt c) = Re.of (b1 * b1 + b2 * b2) * (Re.rt c * Re.rt c - Re.of c) := Re.ext fun k => by
    unfold sqA sqB
    simp only [re_sub, re_add, re_mul, re_of]; grind
  rw [e, sgR_mul, rt_sq hc, Int.mul_zero]
theorem sqB_nz {x y b1 b2 c : Rat} (hv : vPt b1 b2 c = true) (h : sqB x y b1 b2 ≠ 0) : 0 < c ∧ sqR c = false := by
  have hb : ¬ (b1 = 0 ∧ b2 = 0) := by
    rintro ⟨rfl, rfl⟩
    apply h; unfold sqB; grind
  unfold vPt at hv
  rw [if_neg hb, Bool.and_eq_true] at hv
  exact ⟨of_decide_eq_true hv.1, by simpa using hv.2⟩
/-- the sign of the square, and when it is 0 -/
theorem sq_sign {a1 b1 a2 b2 c v w : Rat} (hv : vPt b1 b2 c = true) :
    s3 (sqA (a1 - v) (a2 - w) b1 b2 c) (sqB (a1 - v) (a2 - w) b1 b2) (zc (sqB (a1 - v) (a2 - w) b1 b2) c) = sgR (vco (a1 - v) b1 c * vco (a1 - v) b1 c + vco (a2 - w) b2 c * vco (a2 - w) b2 c) := by
  have hc := vPt_c hv
  rw [s3_sg (zc_nn hc) (fun h => by rw [zc_f h]; exact sqB_nz hv h), sq_val hc]
theorem sq_eq0 {a1 b1 a2 b2 c v w : Rat} (hc : 0 ≤ c) : (cmpPt a1 b1 a2 b2 c v 0 w 0 0 == 0) = (sgR (vco (a1 - v) b1 c * vco (a1 - v) b1 c + vco (a2 - w) b2 c * vco (a2 - w) b2 c) == 0) := by
  have e : ∀ a b v : Rat, vco a b c - vco v 0 0 = vco (a - v) b c := by
    intro a b v
    rw [vco_eq, vco_eq, vco_eq]
    exact Re.ext fun k => by simp only [re_sub, re_add, re_mul, re_of]; grind
  unfold cmpPt
  rw [cmpC_v hc Rat.le_refl, cmpC_v hc Rat.le_refl, e, e, Bool.eq_iff_iff, beq_iff_eq, beq_iff_eq, (sgR_sqs _ _).2]
  by_cases h : sgR (vco (a1 - v) b1 c) = 0
  · rw [h]; simp
  · rw [if_pos h]
    exact ⟨fun g => absurd g h, fun g => absurd g.1 h⟩
/-- the reference's parts of one square -/
theorem q1_A {a b c : Rat} : a * a + b * b * cc b (zc b c) (zc b c) = a * a + b * b * c := by
  by_cases h : b = 0
  · subst h; grind
  · rw [cc_f h, zc_f h]
theorem q1_B {a b c : Rat} (hc : b ≠ 0 → c ≠ 0) : rB (a * b + b * a) (cc b (zc b c) (zc b c)) = a * b + a * b := by
  unfold rB
  split
  · rename_i h
    by_cases hb : b = 0
    · subst hb; grind
    · rw [cc_f hb, zc_f hb] at h
      rcases h with h | h
      · grind
      · exact absurd h (hc hb)
  · grind
theorem q1_C {a b c : Rat} (hc : b ≠ 0 → c ≠ 0) : rC (a * b + b * a) (cc b (zc b c) (zc b c)) = zc (a * b + a * b) c := by
  have e : a * b + b * a = a * b + a * b := by grind
  rw [e]
  unfold rC
  by_cases hb : b = 0
  · subst hb
    rw [if_pos (.inl (by grind)), zc_t (by grind)]
  · rw [cc_f hb, zc_f hb]
    by_cases h : a * b + a * b = 0
    · rw [if_pos (.inl h), zc_t h]
    · rw [if_neg (fun e => e.elim h (hc hb)), zc_f h]
theorem q2_bad {B1 B2 c : Rat} : ¬ bad B1 (zc B1 c) B2 (zc B2 c) := by
  rintro ⟨h1, h2, h3⟩
  rw [zc_f h1, zc_f h2] at h3
  exact h3 rfl
theorem q2_B {B1 B2 c : Rat} (hc : B1 + B2 ≠ 0 → c ≠ 0) : rB (B1 + B2) (cc B1 (zc B1 c) (zc B2 c)) = B1 + B2 := by
  unfold rB
  split
  · rename_i h
    by_cases hs : B1 + B2 = 0
    · exact hs.symm
    · exfalso
      rcases h with h | h
      · exact hs h
      · by_cases h1 : B1 = 0
        · rw [cc_t h1] at h
          have h2 : B2 ≠ 0 := fun e => hs (by grind)
          rw [zc_f h2] at h
          exact hc hs h
        · rw [cc_f h1, zc_f h1] at h
          exact hc hs h
  · rfl
theorem q2_C {B1 B2 c : Rat} (hc : B1 + B2 ≠ 0 → c ≠ 0) : rC (B1 + B2) (cc B1 (zc B1 c) (zc B2 c)) = zc (B1 + B2) c := by
  unfold rC
  by_cases hs : B1 + B2 = 0
  · rw [if_pos (.inl hs), zc_t hs]
  · have e : cc B1 (zc B1 c) (zc B2 c) = c := by
      by_cases h1 : B1 = 0
      · rw [cc_t h1, zc_f (fun e => hs (by grind))]
      · rw [cc_f h1, zc_f h1]
    rw [e, if_neg (fun e => e.elim hs (hc hs)), zc_f hs]
theorem sub_e (a v : Rat) : a + -v = a - v := by grind
theorem mv_e (a d f : Rat) : a + f - (d + f) = a - d := by grind
section
variable {P : Program} {f : FuncId} {ds rs : List D0} {x y z x' y' z' : Rat}
theorem rcast3l (h : Ok P f ds (.a (cR x ++ cR y ++ cR z) :: rs)) (e1 : x = x') (e2 : y = y') (e3 : z = z') : Ok P f ds (.a (cR x' ++ cR y' ++ cR z') :: rs) := by subst e1 e2 e3; exact h
end
theorem mvA (a1 a2 b1 b2 c d e f g : Rat) : (a1 + f - (d + f)) * (a1 + f - (d + f)) + (a2 + g - (e + g)) * (a2 + g - (e + g)) + (b1 * b1 + b2 * b2) * c = sqA (a1 - d) (a2 - e) b1 b2 c := by rw [mv_e, mv_e]; rfl
theorem mvB (a1 a2 b1 b2 d e f g : Rat) : (a1 + f - (d + f)) * b1 + (a2 + g - (e + g)) * b2 + ((a1 + f - (d + f)) * b1 + (a2 + g - (e + g)) * b2) = sqB (a1 - d) (a2 - e) b1 b2 := by rw [mv_e, mv_e]; rfl
theorem sum_A (x y b1 b2 c : Rat) : (x * x + b1 * b1 * c) + (y * y + b2 * b2 * c) = sqA x y b1 b2 c := by unfold sqA; grind
theorem sum_B (x y b1 b2 : Rat) : (x * b1 + x * b1) + (y * b2 + y * b2) = sqB x y b1 b2 := by unfold sqB; grind
theorem vPt_b {b1 b2 c : Rat} (h : vPt b1 b2 c = true) : (b1 ≠ 0 → c ≠ 0) ∧ (b2 ≠ 0 → c ≠ 0) := by
  have key : ¬ (b1 = 0 ∧ b2 = 0) → c ≠ 0 := by
    intro hn e
    unfold vPt at h
    rw [if_neg hn, Bool.and_eq_true] at h
    have := of_decide_eq_true h.1
    rw [e] at this
    exact absurd this (by decide)
  exact ⟨fun hb => key (fun e => hb e.1), fun hb => key (fun e => hb e.2)⟩
end Go.Proofs.YtcbjmiddangfoaaGreat
/- Plain: the program's integer below a root; a multiple of a unit near a root. -/
namespace Go.Proofs.YtcbjmiddangfoaaGreat
open Go Go.RowKit
def flI (a b c : Rat) : Int := isqI ((a.den : Int) * (a.den : Int) * ((b * b * c).num * ((b * b * c).den : Int)))
def flN (a b c : Rat) (r : Int) : Int := (a.num * ((b * b * c).den : Int) + r).fdiv ((a.den : Int) * ((b * b * c).den : Int))
def flR (a b c : Rat) : Int := if b = 0 then a.num.fdiv (a.den : Int) else if b < 0 then flN a b c (-(flI a b c + 1)) else flN a b c (flI a b c)
section
variable {a b c : Rat}
theorem flR_0 (h : b = 0) : flR a b c = a.num.fdiv (a.den : Int) := by unfold flR; rw [if_pos h]
theorem flR_n (h : b ≠ 0) (h2 : b < 0) : flR a b c = flN a b c (-(flI a b c + 1)) := by unfold flR; rw [if_neg h, if_pos h2]
theorem flR_p (h : b ≠ 0) (h2 : ¬ b < 0) : flR a b c = flN a b c (flI a b c) := by unfold flR; rw [if_neg h, if_neg h2]
theorem fd_le {Z D : Int} (hD : 0 < D) : Z.fdiv D * D ≤ Z ∧ Z + 1 ≤ (Z.fdiv D + 1) * D := by
  rw [Int.fdiv_eq_ediv_of_nonneg _ (by omega), Int.add_mul, Int.mul_comm (Z / D) D]
  have h1 := Int.mul_ediv_add_emod Z D
  have h2 := Int.emod_nonneg Z (show D ≠ 0 by omega)
  have h3 := Int.emod_lt_of_pos Z hD
  omega
theorem leR_scale {x y : Re} {d : Rat} (hd : 0 < d) (h : leR (Re.of d * x) (Re.of d * y)) : leR x y := by
  unfold leR at *
  have e : sgR (Re.of d * y - Re.of d * x) = sgR (Re.of d * (y - x)) := congrArg sgR (Re.ext fun k => by simp only [re_sub, re_mul, re_of]; grind)
  have hp : sgR (Re.of d) = 1 := by rw [sgR_of]; unfold cmpR; rw [if_neg (by grind), if_pos hd]
  rw [e, sgR_mul, hp, Int.one_mul] at h
  exact h
theorem leR_scale2 {x y : Re} {d : Rat} (hd : 0 < d) (h : leR x y) : leR (Re.of d * x) (Re.of d * y) := by
  unfold leR at *
  have e : sgR (Re.of d * y - Re.of d * x) = sgR (Re.of d * (y - x)) := congrArg sgR (Re.ext fun k => by simp only [re_sub, re_mul, re_of]; grind)
  have hp : sgR (Re.of d) = 1 := by rw [sgR_of]; unfold cmpR; rw [if_neg (by grind), if_pos hd]
  rw [e, sgR_mul, hp, Int.one_mul]
  exact h
theorem leR_cast {m n : Int} (h : m ≤ n) : leR (Re.of (m : Rat)) (Re.of (n : Rat)) := of_le (Rat.intCast_le_intCast.2 h)
/-- the root part at the common denominator -/
theorem fl_root (hc : 0 ≤ c) : leR (Re.of ((flI a b c : Int) : Rat)) (Re.of (((a.den : Int) * ((b * b * c).den : Int) : Int) : Rat) * (Re.of (if b < 0 then -b else b) * Re.rt c)) ∧
    leR (Re.of (((a.den : Int) * ((b * b * c).den : Int) : Int) : Rat) * (Re.of (if b < 0 then -b else b) * Re.rt c)) (Re.of (((flI a b c + 1 : Int)) : Rat)) := by
  have hbc : 0 ≤ b * b * c := by
    have : 0 ≤ b * b := by
      by_cases h : 0 ≤ b
      · exact Rat.mul_nonneg h h
      · have := Rat.mul_nonneg (show 0 ≤ -b by grind) (show 0 ≤ -b by grind); grind
    exact Rat.mul_nonneg this hc
  have hin : 0 ≤ (a.den : Int) * (a.den : Int) * ((b * b * c).num * ((b * b * c).den : Int)) :=
    Int.mul_nonneg (Int.mul_nonneg (by omega) (by omega)) (Int.mul_nonneg (Rat.num_nonneg.2 hbc) (by omega))
  have h1 := isqI_le hin
  have h2 := isqI_lt hin
  have h0 := isqI_nonneg ((a.den : Int) * (a.den : Int) * ((b * b * c).num * ((b * b * c).den : Int)))
  have hn := r_num (b * b * c)
  have dn := den_pos a
  have dq := den_pos (b * b * c)
  generalize hN : (a.den : Int) * (a.den : Int) * ((b * b * c).num * ((b * b * c).den : Int)) = N at *
  have eI : flI a b c = isqI N := by unfold flI; rw [hN]
  rw [eI]
  generalize hb' : (if b < 0 then -b else b) = b'
  have hb2 : b' * b' = b * b ∧ 0 ≤ b' := by subst hb'; split <;> (constructor <;> grind)
  generalize hD : (a.den : Int) * ((b * b * c).den : Int) = D
  have hD0 : 0 < D := by subst hD; exact Int.mul_pos dn dq
  have eN : ((N : Int) : Rat) = ((D : Int) : Rat) * ((D : Int) : Rat) * (b * b * c) := by
    subst hN hD
    simp only [Rat.intCast_mul] at *
    grind
  have nnR : 0 ≤ sgR (Re.of ((D : Int) : Rat) * (Re.of b' * Re.rt c)) := by
    have p1 : sgR (Re.of ((D : Int) : Rat)) = 1 := by have := pos_cast hD0; have := sgR_cases (Re.of ((D : Int) : Rat)); omega
    have p2 : 0 ≤ sgR (Re.of b') := by rw [sgR_of]; exact cmpR_ge hb2.2
    have p3 := rt_nn c
    rw [sgR_mul, p1, Int.one_mul, sgR_mul]
    exact Int.mul_nonneg p2 p3
  have eS : ∀ q : Rat, sgR (Re.of ((D : Int) : Rat) * (Re.of b' * Re.rt c) * (Re.of ((D : Int) : Rat) * (Re.of b' * Re.rt c)) - Re.of q) = cmpR ((N : Int) : Rat) q := by
    intro q
    rw [← cmpR_sub, ← sgR_of]
    refine sgR_same ?_
    have e : Re.of ((D : Int) : Rat) * (Re.of b' * Re.rt c) * (Re.of ((D : Int) : Rat) * (Re.of b' * Re.rt c)) - Re.of q - Re.of (((N : Int) : Rat) - q) = Re.of (((D : Int) : Rat) * ((D : Int) : Rat) * (b' * b')) * (Re.rt c * Re.rt c - Re.of c) := Re.ext fun k => by
      rw [eN]
      simp only [re_sub, re_mul, re_of]; grind
    rw [e, sgR_mul, rt_sq hc, Int.mul_zero]
  refine ⟨?_, ?_⟩
  · refine sq_le_re (nn_cast h0) nnR ?_
    rw [of_mul, eS, ← Rat.intCast_mul]
    exact cmpR_ge (Rat.intCast_le_intCast.2 h1)
  · refine sq_le_re nnR (nn_cast (by omega)) ?_
    have h3 : 0 ≤ -sgR (Re.of ((D : Int) : Rat) * (Re.of b' * Re.rt c) * (Re.of ((D : Int) : Rat) * (Re.of b' * Re.rt c)) - Re.of (((isqI N + 1 : Int) : Rat) * ((isqI N + 1 : Int) : Rat))) := by
      rw [eS, ← Rat.intCast_mul]
      have := cmpR_le (x := ((N : Int) : Rat)) (y := (((isqI N + 1) * (isqI N + 1) : Int) : Rat)) (Rat.intCast_le_intCast.2 (by omega))
      omega
    rw [← sgR_neg] at h3
    refine nn_of (fun k => ?_) h3
    simp only [re_neg, re_sub, re_mul, re_of]; grind
theorem sub_nn {x y : Re} (h : leR x y) : 0 ≤ sgR (y - x) := h
/-- the integer is below the root, the next one is not -/
theorem flR_in (hc : 0 ≤ c) : leR (Re.of ((flR a b c : Int) : Rat)) (Re.of a + Re.of b * Re.rt c) ∧ leR (Re.of a + Re.of b * Re.rt c) (Re.of (((flR a b c + 1 : Int)) : Rat)) := by
  by_cases hb : b = 0
  · subst hb
    have e : Re.of a + Re.of 0 * Re.rt c = Re.of a := Re.ext fun k => by simp only [re_add, re_mul, re_of]; grind
    rw [e, flR_0 rfl]
    have dn := den_pos a
    obtain ⟨h1, h2⟩ := fd_le (Z := a.num) dn
    have hn := r_num a
    have hp : (0 : Rat) < ((a.den : Int) : Rat) := Rat.intCast_pos.2 dn
    refine ⟨of_le (q_cancel hp ?_), of_le (q_cancel hp ?_)⟩
    · rw [hn, ← Rat.intCast_mul]; exact Rat.intCast_le_intCast.2 h1
    · rw [hn, ← Rat.intCast_mul]; exact Rat.intCast_le_intCast.2 (by omega)
  · obtain ⟨r1, r2⟩ := fl_root (a := a) (b := b) hc
    have dn := den_pos a
    have dq := den_pos (b * b * c)
    have hD0 : 0 < (a.den : Int) * ((b * b * c).den : Int) := Int.mul_pos dn dq
    have hDr : (0 : Rat) < (((a.den : Int) * ((b * b * c).den : Int) : Int) : Rat) := Rat.intCast_pos.2 hD0
    have eX : (((a.den : Int) * ((b * b * c).den : Int) : Int) : Rat) * a = ((a.num * ((b * b * c).den : Int) : Int) : Rat) := by
      have := r_num a
      simp only [Rat.intCast_mul]; grind
    have en := fun h2 => flR_n (a := a) (c := c) hb h2
    have ep := fun h2 => flR_p (a := a) (c := c) hb h2
    generalize hD : (a.den : Int) * ((b * b * c).den : Int) = D at *
    generalize flI a b c = I at *
    have key : ∀ r : Int, ∀ Y : Re, flR a b c = flN a b c r → Re.of a + Re.of b * Re.rt c = Re.of a + Y → leR (Re.of ((r : Int) : Rat)) (Re.of ((D : Int) : Rat) * Y) → leR (Re.of ((D : Int) : Rat) * Y) (Re.of (((r + 1 : Int)) : Rat)) →
        leR (Re.of ((flR a b c : Int) : Rat)) (Re.of a + Re.of b * Re.rt c) ∧ leR (Re.of a + Re.of b * Re.rt c) (Re.of (((flR a b c + 1 : Int)) : Rat)) := by
      intro r Y e1 e2 g1 g2
      rw [e2, e1]
      have e3 : flN a b c r = (a.num * ((b * b * c).den : Int) + r).fdiv D := by unfold flN; rw [hD]
      rw [e3]
      obtain ⟨f1, f2⟩ := fd_le (Z := a.num * ((b * b * c).den : Int) + r) hD0
      generalize (a.num * ((b * b * c).den : Int) + r).fdiv D = n at *
      generalize a.num * ((b * b * c).den : Int) = X at *
      refine ⟨leR_scale hDr ?_, leR_scale hDr ?_⟩
      · have a1 := leR_cast f1
        have a2 := sgR_nn (sub_nn a1) (sub_nn g1)
        refine nn_of (fun k => ?_) a2
        simp only [re_sub, re_add, re_mul, re_of, Rat.intCast_mul, Rat.intCast_add] at *
        grind
      · have a1 := leR_cast f2
        have a2 := sgR_nn (sub_nn a1) (sub_nn g2)
        refine nn_of (fun k => ?_) a2
        simp only [re_sub, re_add, re_mul, re_of, Rat.intCast_mul, Rat.intCast_add, Rat.intCast_one] at *
        grind
    by_cases hn : b < 0
    · rw [if_pos hn] at r1 r2
      refine key (-(I + 1)) (Re.of b * Re.rt c) (en hn) rfl ?_ ?_
      · refine nn_of (fun k => ?_) r2
        simp only [re_sub, re_mul, re_of, Rat.intCast_neg, Rat.intCast_add, Rat.intCast_one]; grind
      · refine nn_of (fun k => ?_) r1
        simp only [re_sub, re_mul, re_of, Rat.intCast_neg, Rat.intCast_add, Rat.intCast_one]; grind
    · rw [if_neg hn] at r1 r2
      exact key I (Re.of b * Re.rt c) (ep hn) rfl r1 r2
/-- its size -/
theorem flI_sz {k l m : Nat} (ha : Rz k a) (hb : Rz l b) (hc : Rz m c) : Sz (k + (l + l + m)) (flI a b c) := by
  have hs : Sz (k + k + ((l + l + m) + (l + l + m))) ((a.den : Int) * (a.den : Int) * ((b * b * c).num * ((b * b * c).den : Int))) := (ha.d.mul ha.d).mul ((((hb.mul hb).mul hc).n).mul (((hb.mul hb).mul hc).d))
  unfold flI
  generalize (a.den : Int) * (a.den : Int) * ((b * b * c).num * ((b * b * c).den : Int)) = N at *
  have h0 := isqI_nonneg N
  have e : pw (k + k + ((l + l + m) + (l + l + m))) = pw (k + (l + l + m)) * pw (k + (l + l + m)) := by
    unfold pw
    rw [← Int.pow_add]
    congr 1
    omega
  have hp := pw_pos (k + (l + l + m))
  refine ⟨?_, by omega⟩
  by_cases hN : 0 ≤ N
  · have h1 := isqI_le hN
    have h2 := hs.1
    rw [e] at h2
    exact sq_lt_imp (by omega) (Int.lt_of_le_of_lt h1 h2)
  · unfold isqI
    rw [if_pos (by omega)]; omega
theorem flR_sz {k l m : Nat} (ha : Rz k a) (hb : Rz l b) (hc : Rz m c) : Sz (k + (l + l + m) + 2) (flR a b c) := by
  have hi := flI_sz ha hb hc
  have hx : Sz (k + (l + l + m)) (a.num * ((b * b * c).den : Int)) := ha.n.mul ((hb.mul hb).mul hc).d
  have h1 : Sz (k + (l + l + m) + 1) (flI a b c + 1) := hi.add (by
    by_cases h : 1 ≤ k + (l + l + m)
    · exact Sz.one h
    · exfalso
      have : k + (l + l + m) = 0 := by omega
      have hk : k = 0 := by omega
      subst hk
      have h5 := ha.d.1
      have h6 := den_pos a
      rw [pw_zero] at h5
      omega)
  unfold flR
  split
  · exact (ha.n.fdiv).mono (by omega)
  · split
    · unfold flN
      exact (((hx.mono (by omega)).add h1.neg).fdiv).mono (by omega)
    · unfold flN
      exact ((hx.add hi).fdiv).mono (by omega)
def nrR (a b c u : Rat) : Rat := ((flR (a * (1 / u)) (b * (1 / u)) (zc (b * (1 / u)) c) : Int) : Rat) * u
theorem nr_in {u : Rat} (hc : 0 ≤ c) (hu : 0 < u) : leR (Re.of (nrR a b c u)) (val3 a b c) ∧ leR (val3 a b c) (Re.of (nrR a b c u + u)) := by
  obtain ⟨h1, h2⟩ := flR_in (a := a * (1 / u)) (b := b * (1 / u)) (c := zc (b * (1 / u)) c) (zc_nn hc)
  have e0 : Re.of (a * (1 / u)) + Re.of (b * (1 / u)) * Re.rt (zc (b * (1 / u)) c) = Re.of (a * (1 / u)) + Re.of (b * (1 / u)) * Re.rt c := vco_eq _ _ _
  rw [e0] at h1 h2
  have hk : u * (1 / u) = 1 := by grind
  have g1 := leR_scale2 hu h1
  have g2 := leR_scale2 hu h2
  unfold nrR
  generalize flR (a * (1 / u)) (b * (1 / u)) (zc (b * (1 / u)) c) = n at *
  generalize 1 / u = k at *
  refine ⟨nn_of (fun j => ?_) g1, nn_of (fun j => ?_) g2⟩
  · unfold val3; simp only [re_sub, re_add, re_mul, re_of]; grind
  · unfold val3; simp only [re_sub, re_add, re_mul, re_of, Rat.intCast_add, Rat.intCast_one]; grind
theorem s3_val {d : Rat} (hc : 0 ≤ c) (hv : b ≠ 0 → 0 < c ∧ sqR c = false) : s3 (a + -d) b c = sgR (val3 a b c - Re.of d) := by
  rw [s3_sg hc hv]
  refine congrArg sgR (Re.ext fun k => ?_)
  unfold val3; simp only [re_sub, re_add, re_mul, re_of]; grind
theorem nr_lo {u : Rat} (hc : 0 ≤ c) (hv : b ≠ 0 → 0 < c ∧ sqR c = false) (hu : 0 < u) : 0 ≤ s3 (a + -(nrR a b c u - u)) b c := by
  rw [s3_val hc hv]
  have h := (nr_in (a := a) (b := b) hc hu).1
  have h2 : 0 ≤ sgR (Re.of u) := by rw [sgR_of]; exact cmpR_ge (by grind)
  refine nn_of (fun k => ?_) (sgR_nn h h2)
  simp only [re_sub, re_add, re_of]; grind
theorem nr_hi {u : Rat} (hc : 0 ≤ c) (hv : b ≠ 0 → 0 < c ∧ sqR c = false) (hu : 0 < u) : s3 (a + -(nrR a b c u + u)) b c ≤ 0 := by
  rw [s3_val hc hv, sgR_sw (Re.of (nrR a b c u + u))]
  have h := sub_nn (nr_in (a := a) (b := b) hc hu).2
  omega
end
end Go.Proofs.YtcbjmiddangfoaaGreat
/- Plain: what the laws of radicals lean on; the program's Sign and Cmp as the reference's. -/
namespace Go.Proofs.YtcbjmiddangfoaaGreat
open Go Go.RowKit
theorem sgnP_signQ (A B C D M N : Rat) : sgnP A B C D M N = signQ A B C D M N := by
  by_cases h : M < 0 ∨ N < 0
  · rw [sgnP_n h, signQ_n h]
  · have hM : 0 ≤ M := by grind
    have hN : 0 ≤ N := by grind
    rw [sgnP_eq hM hN, signQ_sg hM hN]
theorem xSignQ_ok {A B C D M N : Rat} (hA : Rz 8 A) (hB : Rz 8 B) (hC : Rz 8 C) (hD : Rz 8 D) (hM : Rz 8 M) (hN : Rz 8 N) :
    Ok Tryz.prog 9 [.a (cR A ++ cR B ++ cR C ++ cR D ++ cR M ++ cR N)] [.c (.i .i64 (signQ A B C D M N))] := rcasti (xSign_ok hA hB hC hD hM hN) (sgnP_signQ _ _ _ _ _ _)
theorem xCmpQ_ok {a b c d e f : Rat} (ha : Rz 100 a) (hb : Rz 8 b) (hc : Rz 8 c) (hd : Rz 100 d) (he : Rz 8 e) (hf : Rz 8 f) (h1 : Rz 8 (a - d)) (c0 : 0 ≤ c) (f0 : 0 ≤ f) :
    Ok Tryz.prog 15 [.a (cR a ++ cR b ++ cR c), .a (cR d ++ cR e ++ cR f)] [.c (.i .i64 (signQ (a - d) b (-e) 0 c f))] := rcasti (xCmp_ok ha hb hc hd he hf h1) ((cmpP_eq c0 f0).trans (signQ_val c0 f0).symm)
theorem rcast1 {P : Program} {f : FuncId} {ds : List D0} {x x' : Rat} (h : Ok P f ds [dR x]) (e : x = x') : Ok P f ds [dR x'] := by subst e; exact h
theorem rcast1l {P : Program} {f : FuncId} {ds rs : List D0} {x x' : Rat} (h : Ok P f ds (dR x :: rs)) (e : x = x') : Ok P f ds (dR x' :: rs) := by subst e; exact h
theorem icast1 {P : Program} {f : FuncId} {ds : List D0} {x x' : Int} (h : Ok P f ds [dI x]) (e : x = x') : Ok P f ds [dI x'] := by subst e; exact h
section
variable {P : Program} {f : FuncId} {ds rs : List D0} {x y z x' y' z' : Rat}
end
def invN (a b c : Rat) : Rat := 1 / (a * a - b * b * c)
def rtSg (a b c : Rat) : Int := if cmpR b 0 = 0 ∨ cmpR a 0 = cmpR b 0 then cmpR a 0 else if cmpR a 0 = 0 then cmpR b 0 else cmpR a 0 * cmpR (a * a - b * b * c) 0
section
variable {a b c : Rat}
theorem rtSg_0 (h : (cmpR b 0 == 0) = true) : rtSg a b c = cmpR a 0 := by unfold rtSg; rw [if_pos (.inl (by simpa using h))]
theorem rtSg_e (h : (cmpR a 0 == cmpR b 0) = true) : rtSg a b c = cmpR a 0 := by unfold rtSg; rw [if_pos (.inr (by simpa using h))]
theorem rtSg_z (h : (cmpR b 0 == 0) = false) (h2 : (cmpR a 0 == cmpR b 0) = false) (h3 : (cmpR a 0 == 0) = true) : rtSg a b c = cmpR b 0 := by
  unfold rtSg; rw [if_neg (fun e => e.elim (by simpa using h) (by simpa using h2)), if_pos (by simpa using h3)]
theorem rtSg_n (h : (cmpR b 0 == 0) = false) (h2 : (cmpR a 0 == cmpR b 0) = false) (h3 : (cmpR a 0 == 0) = false) : rtSg a b c = cmpR a 0 * cmpR (a * a - b * b * c) 0 := by
  unfold rtSg; rw [if_neg (fun e => e.elim (by simpa using h) (by simpa using h2)), if_neg (by simpa using h3)]
end
/-- a short number's limbs -/
theorem lim_le {k : Nat} {x : Int} (h : Sz k x) : (lim x.natAbs).length ≤ k := lim_len h
theorem len2 {k : Nat} {x : Int} (h : Sz k x) (m : Int) (hk : (k : Int) ≤ m) : decide (((lim x.natAbs).length : Int) > m) = false := decide_eq_false (by have := lim_le h; omega)
end Go.Proofs.YtcbjmiddangfoaaGreat
/- PointTranslate, PointAt: the laws at all readings. -/
namespace Go.Proofs.YtcbjmiddangfoaaGreat
open Go Go.RowKit
theorem r_cancel (a d : Rat) : a + d + -d = a := by grind
-- no function swarf/swarflaw07.smallVec in this seat
-- no function swarf/swarflaw07.smallVec in this seat
-- no function swarf/swarflaw07.PointTranslate in this seat
-- no function swarf/swarflaw07.PointTranslate in this seat
-- no function swarf/swarflaw07.PointTranslate in this seat
-- no function swarf/swarflaw07.PointTranslate in this seat
-- no function swarf/swarflaw07.PointAt in this seat
-- no function swarf/swarflaw07.PointAt in this seat
-- no function swarf/swarflaw07.PointAt in this seat
-- no function swarf/swarflaw07.PointAt in this seat
-- no function swarf/swarflaw07.PointAt in this seat
end Go.Proofs.YtcbjmiddangfoaaGreat
/- root.Floor, point.Near, PointNear: the law at all readings. -/
namespace Go.Proofs.YtcbjmiddangfoaaGreat
open Go Go.RowKit
theorem dv1 (n : Int) : Rat.divInt n 1 = (n : Rat) := by rw [Rat.divInt_eq_div]; have : ((1 : Int) : Rat) = 1 := rfl; rw [this]; grind
theorem nrR_sz {a b c u : Rat} (ha : Rz 3 a) (hb : Rz 3 b) (hc : Rz 3 c) (hu : Rz 3 u) (u0 : 0 < u) : Rz 34 (nrR a b c u) := by
  have z0 : u ≠ 0 := by grind
  have kk : Rz 4 (1 / u) := (Rz.div (k := 1) (rz_l (by decide +kernel)) hu z0).mono (by decide)
  have fs : Sz 26 (flR (a * (1 / u)) (b * (1 / u)) (zc (b * (1 / u)) c)) := flR_sz (ha.mul kk) (hb.mul kk) (Rz.zc hc (by decide))
  unfold nrR
  exact ((Rz.int fs (by decide)).mul hu).mono (by decide)
theorem zc_val {b b1 b2 c : Rat} (h : vPt b1 b2 c = true) (hb : b ≠ 0 → ¬ (b1 = 0 ∧ b2 = 0)) : b ≠ 0 → 0 < zc b c ∧ sqR (zc b c) = false := by
  intro h0
  rw [zc_f h0]
  unfold vPt at h
  rw [if_neg (hb h0), Bool.and_eq_true] at h
  exact ⟨of_decide_eq_true h.1, by simpa using h.2⟩
theorem zc_val1 {b1 b2 c : Rat} (h : vPt b1 b2 c = true) : b1 ≠ 0 → 0 < zc b1 c ∧ sqR (zc b1 c) = false := zc_val h (fun g e => g e.1)
theorem zc_val2 {b1 b2 c : Rat} (h : vPt b1 b2 c = true) : b2 ≠ 0 → 0 < zc b2 c ∧ sqR (zc b2 c) = false := zc_val h (fun g e => g e.2)
theorem rtZero_ok  : Ok Tryz.prog 108 [] [dR 0] := by
  refine Ok.of (by kernel_rfl) Tryz.func108 rfl rfl ?_
  rw [show Tryz.f108.ntmps = 2 from rfl, show Tryz.f108.results.toList = [.cell 0 26] from rfl]
  refine dw_seq ?_
  -- region 0
  refine dw_region (by kernel_rfl) ?_
  refine dl_new (sem_alloc zc26 rfl) rfl ?_
  refine dl_end ?_
  refine dw_seq ?_
  -- region 1
  refine dw_region (by kernel_rfl) ?_
  refine dl_r (sem_call rfl rfl (pFrom_ok (by omega) (by omega)) rfl) ?_
  refine dl_st (sem_store_a ty26 rfl rfl rfl rfl rfl rfl) ?_
  refine dl_end ?_
  refine dw_ret ?_
  -- path 
  rw [z_int]
  exact ⟨.inr rfl, (resL_cell (us := cR (((0 : Int) : Rat))) ty26 rfl rfl rfl rfl resL_nil)⟩
theorem rtReduced_ok {a b c : Rat} : Ok Tryz.prog 121 [dR a, dR b, dR c] [.a (cR a ++ cR b ++ cR (zc b c))] := by
  refine Ok.of (by kernel_rfl) Tryz.func121 rfl rfl ?_
  rw [show Tryz.f121.ntmps = 15 from rfl, show Tryz.f121.results.toList = [.cell 6 39] from rfl]
  refine dw_seq ?_
  -- region 0
  refine dw_region (by kernel_rfl) ?_
  refine dl_new (sem_box_a rfl rfl) rfl ?_
  refine dl_new (sem_box_a rfl rfl) rfl ?_
  refine dl_new (sem_box_a rfl rfl) rfl ?_
  refine dl_new (sem_alloc zc39 rfl) rfl ?_
  refine dl_end ?_
  refine dw_seq ?_
  refine dw_seq ?_
  -- region 1
  refine dw_region (by kernel_rfl) ?_
  refine dl_r (sem_load (us := cR b) ty26 rfl rfl rfl rfl rfl) ?_
  refine dl_r (sem_call rfl rfl (pSign_ok) rfl) ?_
  refine dl_r (sem_cmp rfl rfl rfl rfl) ?_
  refine dl_end ?_
  refine dw_cond rfl (fun hc1 => ?_) (fun hc1 => ?_)
  · -- region 2
    refine dw_region (by kernel_rfl) ?_
    refine dl_r (sem_call rfl rfl (rtZero_ok) rfl) ?_
    refine dl_st (sem_store_a ty26 rfl rfl rfl rfl rfl rfl) ?_
    refine dl_end ?_
    refine dw_seq ?_
    -- region 3
    refine dw_region (by kernel_rfl) ?_
    refine dl_r (sem_load (us := cR a) ty26 rfl rfl rfl rfl rfl) ?_
    refine dl_r (sem_load (us := cR b) ty26 rfl rfl rfl rfl rfl) ?_
    refine dl_r (sem_load (us := cR 0) ty26 rfl rfl rfl rfl rfl) ?_
    refine dl_r (sem_build (us := (cR a ++ cR b ++ cR 0)) fs39 zc39 rfl rfl rfl) ?_
    refine dl_st (sem_store_a ty39 rfl rfl rfl rfl rfl rfl) ?_
    refine dl_end ?_
    refine dw_ret ?_
    -- path T
    rw [zc_t (r_eq hc1)]
    exact ⟨.inr rfl, (resL_cell (us := (cR a ++ cR b ++ cR 0)) ty39 rfl rfl rfl rfl resL_nil)⟩
  · refine dw_skip ?_
    refine dw_seq ?_
    -- region 3
    refine dw_region (by kernel_rfl) ?_
    refine dl_r (sem_load (us := cR a) ty26 rfl rfl rfl rfl rfl) ?_
    refine dl_r (sem_load (us := cR b) ty26 rfl rfl rfl rfl rfl) ?_
    refine dl_r (sem_load (us := cR c) ty26 rfl rfl rfl rfl rfl) ?_
    refine dl_r (sem_build (us := (cR a ++ cR b ++ cR c)) fs39 zc39 rfl rfl rfl) ?_
    refine dl_st (sem_store_a ty39 rfl rfl rfl rfl rfl rfl) ?_
    refine dl_end ?_
    refine dw_ret ?_
    -- path F
    rw [zc_f (r_ne hc1)]
    exact ⟨.inr rfl, (resL_cell (us := (cR a ++ cR b ++ cR c)) ty39 rfl rfl rfl rfl resL_nil)⟩
theorem rtScale_ok {a b c k : Rat} (ha : Rz 300 a) (hb : Rz 300 b) (hk : Rz 300 k) : Ok Tryz.prog 113 [.a (cR a ++ cR b ++ cR c), dR k] [.a (cR (a * k) ++ cR (b * k) ++ cR (zc (b * k) c))] := by
  refine Ok.of (by kernel_rfl) Tryz.func113 rfl rfl ?_
  rw [show Tryz.f113.ntmps = 16 from rfl, show Tryz.f113.results.toList = [.cell 4 39] from rfl]
  refine dw_seq ?_
  -- region 0
  refine dw_region (by kernel_rfl) ?_
  refine dl_new (sem_box_a rfl rfl) rfl ?_
  refine dl_new (sem_box_a rfl rfl) rfl ?_
  refine dl_new (sem_alloc zc39 rfl) rfl ?_
  refine dl_end ?_
  refine dw_seq ?_
  -- region 1
  refine dw_draw 11 [] follows_mixed (by kernel_rfl) rfl rfl ?_
  refine dq_r (sem_field fd39_0 rfl rfl) ?_
  refine dq_r (sem_load (us := cR a) ty26 rfl rfl rfl rfl rfl) ?_
  refine dq_r (sem_load (us := cR k) ty26 rfl rfl rfl rfl rfl) ?_
  refine dq_r (sem_call rfl rfl (pMul_ok (by first | assumption | exact Rz.mono ha (by decide)) (by first | assumption | exact Rz.mono hk (by decide))) rfl) ?_
  refine dq_r (sem_field fd39_1 rfl rfl) ?_
  refine dq_r (sem_load (us := cR b) ty26 rfl rfl rfl rfl rfl) ?_
  refine dq_r (sem_load (us := cR k) ty26 rfl rfl rfl rfl rfl) ?_
  refine dq_r (sem_call rfl rfl (pMul_ok (by first | assumption | exact Rz.mono hb (by decide)) (by first | assumption | exact Rz.mono hk (by decide))) rfl) ?_
  refine dq_r (sem_field fd39_2 rfl rfl) ?_
  refine dq_r (sem_load (us := cR c) ty26 rfl rfl rfl rfl rfl) ?_
  refine dq_r (sem_call rfl rfl (rtReduced_ok) rfl) ?_
  refine dq_end ?_
  refine dl_start0 ?_
  refine dl_st (sem_store_a ty39 rfl rfl rfl rfl rfl rfl) ?_
  refine dl_end ?_
  refine dw_ret ?_
  -- path 
  exact ⟨.inr rfl, (resL_cell (us := (cR (a * k) ++ cR (b * k) ++ cR (zc (b * k) c))) ty39 rfl rfl rfl rfl resL_nil)⟩
theorem rtFloor_ok {a b c : Rat} (ha : Rz 20 a) (hb : Rz 20 b) (hc : Rz 20 c) : Ok Tryz.prog 82 [.a (cR a ++ cR b ++ cR c)] [dI (flR a b c)] := by
  have hn : (a.den : Int) * ((b * b * c).den : Int) ≠ 0 := mul_ne (den_ne a) (den_ne (b * b * c))
  refine Ok.of (by kernel_rfl) Tryz.func82 rfl rfl ?_
  rw [show Tryz.f82.ntmps = 69 from rfl, show Tryz.f82.results.toList = [.cell 2 24] from rfl]
  refine dw_seq ?_
  -- region 0
  refine dw_region (by kernel_rfl) ?_
  refine dl_new (sem_box_a rfl rfl) rfl ?_
  refine dl_new (sem_alloc zc24 rfl) rfl ?_
  refine dl_end ?_
  refine dw_seq ?_
  refine dw_seq ?_
  -- region 1
  refine dw_region (by kernel_rfl) ?_
  refine dl_r (sem_field fd39_1 rfl rfl) ?_
  refine dl_r (sem_load (us := cR b) ty26 rfl rfl rfl rfl rfl) ?_
  refine dl_r (sem_call rfl rfl (pSign_ok) rfl) ?_
  refine dl_r (sem_cmp rfl rfl rfl rfl) ?_
  refine dl_end ?_
  refine dw_cond rfl (fun hc1 => ?_) (fun hc1 => ?_)
  · refine dw_seq ?_
    -- region 2
    refine dw_region (by kernel_rfl) ?_
    refine dl_r (sem_field fd39_0 rfl rfl) ?_
    refine dl_r (sem_load (us := cR a) ty26 rfl rfl rfl rfl rfl) ?_
    refine dl_r (sem_call rfl rfl (pFloor_ok (by first | assumption | exact Rz.mono ha (by decide))) rfl) ?_
    refine dl_st (sem_store_a ty24 rfl rfl rfl rfl rfl rfl) ?_
    refine dl_end ?_
    refine dw_ret ?_
    -- path T
    rw [flR_0 (r_eq hc1)]
    exact ⟨.inr rfl, (resL_cell (us := cI (a.num.fdiv (a.den : Int))) ty24 rfl rfl rfl rfl resL_nil)⟩
  · refine dw_skip ?_
    refine dw_seq ?_
    -- region 3
    refine dw_draw 9 [] follows_mixed (by kernel_rfl) rfl rfl ?_
    refine dq_r (sem_field fd39_1 rfl rfl) ?_
    refine dq_r (sem_load (us := cR b) ty26 rfl rfl rfl rfl rfl) ?_
    refine dq_r (sem_field fd39_1 rfl rfl) ?_
    refine dq_r (sem_load (us := cR b) ty26 rfl rfl rfl rfl rfl) ?_
    refine dq_r (sem_call rfl rfl (pMul_ok (by first | assumption | exact Rz.mono hb (by decide)) (by first | assumption | exact Rz.mono hb (by decide))) rfl) ?_
    refine dq_r (sem_field fd39_2 rfl rfl) ?_
    refine dq_r (sem_load (us := cR c) ty26 rfl rfl rfl rfl rfl) ?_
    refine dq_r (sem_call rfl rfl (pMul_ok (by first | assumption | exact Rz.mono (Rz.mul hb hb) (by decide)) (by first | assumption | exact Rz.mono hc (by decide))) rfl) ?_
    refine dq_new (sem_alloc zc26 rfl) rfl ?_
    refine dq_end ?_
    refine dl_start1 ?_
    refine dl_st (sem_store_a ty26 rfl rfl rfl rfl rfl rfl) ?_
    refine dl_end ?_
    refine dw_seq ?_
    -- region 4
    refine dw_draw 9 [4, 5] follows_mixed (by kernel_rfl) rfl rfl ?_
    refine dq_r (sem_field fd39_0 rfl rfl) ?_
    refine dq_r (sem_field fd26_1 rfl rfl) ?_
    refine dq_r (sem_load (us := cI (a.den : Int)) ty24 rfl rfl rfl rfl rfl) ?_
    refine dq_r (sem_field fd26_1 rfl rfl) ?_
    refine dq_r (sem_load (us := cI ((((b * b) * c).den : Int))) ty24 rfl rfl rfl rfl rfl) ?_
    refine dq_new (sem_alloc zc24 rfl) rfl ?_
    refine dq_new (sem_alloc zc24 rfl) rfl ?_
    refine dq_sn (sem_store_a ty24 rfl rfl rfl rfl rfl rfl) rfl rfl rfl ?_
    refine dq_sn (sem_store_a ty24 rfl rfl rfl rfl rfl rfl) rfl rfl rfl ?_
    refine dq_end ?_
    refine dl_start4 ?_
    refine dl_end ?_
    refine dw_seq ?_
    -- region 5
    refine dw_draw 9 [] follows_mixed (by kernel_rfl) rfl rfl ?_
    refine dq_r (sem_load (us := cI (a.den : Int)) ty24 rfl rfl rfl rfl rfl) ?_
    refine dq_r (sem_load (us := cI (a.den : Int)) ty24 rfl rfl rfl rfl rfl) ?_
    refine dq_r (sem_call rfl rfl (iMul_ok (by first | assumption | exact Sz.mono (Rz.d ha) (by decide)) (by first | assumption | exact Sz.mono (Rz.d ha) (by decide))) rfl) ?_
    refine dq_r (sem_field fd26_0 rfl rfl) ?_
    refine dq_r (sem_load (us := cI (((b * b) * c).num)) ty24 rfl rfl rfl rfl rfl) ?_
    refine dq_r (sem_load (us := cI ((((b * b) * c).den : Int))) ty24 rfl rfl rfl rfl rfl) ?_
    refine dq_r (sem_call rfl rfl (iMul_ok (by first | assumption | exact Sz.mono (Rz.n (Rz.mul (Rz.mul hb hb) hc)) (by decide)) (by first | assumption | exact Sz.mono (Rz.d (Rz.mul (Rz.mul hb hb) hc)) (by decide))) rfl) ?_
    refine dq_r (sem_call rfl rfl (iMul_ok (by first | assumption | exact Sz.mono (Sz.mul (Rz.d ha) (Rz.d ha)) (by decide)) (by first | assumption | exact Sz.mono (Sz.mul (Rz.n (Rz.mul (Rz.mul hb hb) hc)) (Rz.d (Rz.mul (Rz.mul hb hb) hc))) (by decide))) rfl) ?_
    refine dq_new (sem_alloc zc24 rfl) rfl ?_
    refine dq_end ?_
    refine dl_start1 ?_
    refine dl_st (sem_store_a ty24 rfl rfl rfl rfl rfl rfl) ?_
    refine dl_end ?_
    refine dw_seq ?_
    -- region 6
    refine dw_region (by kernel_rfl) ?_
    refine dl_r (sem_load (us := cI (((a.den : Int) * (a.den : Int)) * ((((b * b) * c).num) * ((((b * b) * c).den : Int))))) ty24 rfl rfl rfl rfl rfl) ?_
    refine dl_r (sem_call rfl rfl (iSqrt_ok (by first | assumption | exact Sz.mono (Sz.mul (Sz.mul (Rz.d ha) (Rz.d ha)) (Sz.mul (Rz.n (Rz.mul (Rz.mul hb hb) hc)) (Rz.d (Rz.mul (Rz.mul hb hb) hc)))) (by decide))) rfl) ?_
    refine dl_r (sem_move rfl rfl) ?_
    refine dl_r (sem_extract rfl rfl rfl) ?_
    refine dl_r (sem_extract rfl rfl rfl) ?_
    refine dl_new (sem_alloc zc24 rfl) rfl ?_
    refine dl_st (sem_store_a ty24 rfl rfl rfl rfl rfl rfl) ?_
    refine dl_r (sem_assign rfl rfl) ?_
    refine dl_end ?_
    refine dw_seq ?_
    refine dw_seq ?_
    -- region 7
    refine dw_region (by kernel_rfl) ?_
    refine dl_r (sem_field fd39_1 rfl rfl) ?_
    refine dl_r (sem_load (us := cR b) ty26 rfl rfl rfl rfl rfl) ?_
    refine dl_r (sem_call rfl rfl (pSign_ok) rfl) ?_
    refine dl_r (sem_cmp rfl rfl rfl rfl) ?_
    refine dl_end ?_
    refine dw_cond rfl (fun hc2 => ?_) (fun hc2 => ?_)
    · -- region 8
      refine dw_draw 4 [] follows_mixed (by kernel_rfl) rfl rfl ?_
      refine dq_r (sem_load (us := cI (isqI (((a.den : Int) * (a.den : Int)) * ((((b * b) * c).num) * ((((b * b) * c).den : Int)))))) ty24 rfl rfl rfl rfl rfl) ?_
      refine dq_r (sem_call rfl rfl (iFrom_ok (by omega) (by omega)) rfl) ?_
      refine dq_r (sem_call rfl rfl (iAdd_ok (by first | assumption | exact Sz.mono (Sz.isq (Sz.mul (Sz.mul (Rz.d ha) (Rz.d ha)) (Sz.mul (Rz.n (Rz.mul (Rz.mul hb hb) hc)) (Rz.d (Rz.mul (Rz.mul hb hb) hc))))) (by decide)) (by first | assumption | exact Sz.mono (Sz.small (k := 3) (by decide) (by decide) (by decide)) (by decide))) rfl) ?_
      refine dq_r (sem_call rfl rfl (iNeg_ok (by first | assumption | exact Sz.mono (Sz.addm (Sz.isq (Sz.mul (Sz.mul (Rz.d ha) (Rz.d ha)) (Sz.mul (Rz.n (Rz.mul (Rz.mul hb hb) hc)) (Rz.d (Rz.mul (Rz.mul hb hb) hc))))) (Sz.small (k := 3) (by decide) (by decide) (by decide))) (by decide))) rfl) ?_
      refine dq_end ?_
      refine dl_start0 ?_
      refine dl_st (sem_store_a ty24 rfl rfl rfl rfl rfl rfl) ?_
      refine dl_end ?_
      refine dw_seq ?_
      -- region 9
      refine dw_draw 20 [9, 10] follows_mixed (by kernel_rfl) rfl rfl ?_
      refine dq_r (sem_field fd39_0 rfl rfl) ?_
      refine dq_r (sem_field fd26_0 rfl rfl) ?_
      refine dq_r (sem_load (us := cI a.num) ty24 rfl rfl rfl rfl rfl) ?_
      refine dq_r (sem_load (us := cI ((((b * b) * c).den : Int))) ty24 rfl rfl rfl rfl rfl) ?_
      refine dq_r (sem_call rfl rfl (iMul_ok (by first | assumption | exact Sz.mono (Rz.n ha) (by decide)) (by first | assumption | exact Sz.mono (Rz.d (Rz.mul (Rz.mul hb hb) hc)) (by decide))) rfl) ?_
      refine dq_r (sem_load (us := cI (-((isqI (((a.den : Int) * (a.den : Int)) * ((((b * b) * c).num) * ((((b * b) * c).den : Int))))) + 1))) ty24 rfl rfl rfl rfl rfl) ?_
      refine dq_r (sem_call rfl rfl (iAdd_ok (by first | assumption | exact Sz.mono (Sz.mul (Rz.n ha) (Rz.d (Rz.mul (Rz.mul hb hb) hc))) (by decide)) (by first | assumption | exact Sz.mono (Sz.neg (Sz.addm (Sz.isq (Sz.mul (Sz.mul (Rz.d ha) (Rz.d ha)) (Sz.mul (Rz.n (Rz.mul (Rz.mul hb hb) hc)) (Rz.d (Rz.mul (Rz.mul hb hb) hc))))) (Sz.small (k := 3) (by decide) (by decide) (by decide)))) (by decide))) rfl) ?_
      refine dq_r (sem_load (us := cI (a.den : Int)) ty24 rfl rfl rfl rfl rfl) ?_
      refine dq_r (sem_load (us := cI ((((b * b) * c).den : Int))) ty24 rfl rfl rfl rfl rfl) ?_
      refine dq_r (sem_call rfl rfl (iMul_ok (by first | assumption | exact Sz.mono (Rz.d ha) (by decide)) (by first | assumption | exact Sz.mono (Rz.d (Rz.mul (Rz.mul hb hb) hc)) (by decide))) rfl) ?_
      refine dq_r (sem_call rfl rfl (iDivMod_ok (by first | assumption | exact Sz.mono (Sz.addm (Sz.mul (Rz.n ha) (Rz.d (Rz.mul (Rz.mul hb hb) hc))) (Sz.neg (Sz.addm (Sz.isq (Sz.mul (Sz.mul (Rz.d ha) (Rz.d ha)) (Sz.mul (Rz.n (Rz.mul (Rz.mul hb hb) hc)) (Rz.d (Rz.mul (Rz.mul hb hb) hc))))) (Sz.small (k := 3) (by decide) (by decide) (by decide))))) (by decide)) (by first | assumption | exact Sz.mono (Sz.mul (Rz.d ha) (Rz.d (Rz.mul (Rz.mul hb hb) hc))) (by decide)) (by assumption)) rfl) ?_
      refine dq_r (sem_move rfl rfl) ?_
      refine dq_r (sem_extract rfl rfl rfl) ?_
      refine dq_r (sem_extract rfl rfl rfl) ?_
      refine dq_r (sem_extract rfl rfl rfl) ?_
      refine dq_new (sem_alloc zc24 rfl) rfl ?_
      refine dq_new (sem_alloc zc24 rfl) rfl ?_
      refine dq_sn (sem_store_a ty24 rfl rfl rfl rfl rfl rfl) rfl rfl rfl ?_
      refine dq_sn (sem_store_a ty24 rfl rfl rfl rfl rfl rfl) rfl rfl rfl ?_
      refine dq_r (sem_assign rfl rfl) ?_
      refine dq_end ?_
      refine dl_start4 ?_
      refine dl_end ?_
      refine dw_seq ?_
      -- region 10
      refine dw_region (by kernel_rfl) ?_
      refine dl_r (sem_load (us := cI (((a.num * ((((b * b) * c).den : Int))) + (-((isqI (((a.den : Int) * (a.den : Int)) * ((((b * b) * c).num) * ((((b * b) * c).den : Int))))) + 1))).fdiv ((a.den : Int) * ((((b * b) * c).den : Int))))) ty24 rfl rfl rfl rfl rfl) ?_
      refine dl_st (sem_store_a ty24 rfl rfl rfl rfl rfl rfl) ?_
      refine dl_end ?_
      refine dw_ret ?_
      -- path FT
      rw [flR_n (r_ne hc1) (r_lt hc2)]
      exact ⟨.inr rfl, (resL_cell (us := cI (((a.num * ((((b * b) * c).den : Int))) + (-((isqI (((a.den : Int) * (a.den : Int)) * ((((b * b) * c).num) * ((((b * b) * c).den : Int))))) + 1))).fdiv ((a.den : Int) * ((((b * b) * c).den : Int))))) ty24 rfl rfl rfl rfl resL_nil)⟩
    · refine dw_skip ?_
      refine dw_seq ?_
      -- region 9
      refine dw_draw 20 [9, 10] follows_mixed (by kernel_rfl) rfl rfl ?_
      refine dq_r (sem_field fd39_0 rfl rfl) ?_
      refine dq_r (sem_field fd26_0 rfl rfl) ?_
      refine dq_r (sem_load (us := cI a.num) ty24 rfl rfl rfl rfl rfl) ?_
      refine dq_r (sem_load (us := cI ((((b * b) * c).den : Int))) ty24 rfl rfl rfl rfl rfl) ?_
      refine dq_r (sem_call rfl rfl (iMul_ok (by first | assumption | exact Sz.mono (Rz.n ha) (by decide)) (by first | assumption | exact Sz.mono (Rz.d (Rz.mul (Rz.mul hb hb) hc)) (by decide))) rfl) ?_
      refine dq_r (sem_load (us := cI (isqI (((a.den : Int) * (a.den : Int)) * ((((b * b) * c).num) * ((((b * b) * c).den : Int)))))) ty24 rfl rfl rfl rfl rfl) ?_
      refine dq_r (sem_call rfl rfl (iAdd_ok (by first | assumption | exact Sz.mono (Sz.mul (Rz.n ha) (Rz.d (Rz.mul (Rz.mul hb hb) hc))) (by decide)) (by first | assumption | exact Sz.mono (Sz.isq (Sz.mul (Sz.mul (Rz.d ha) (Rz.d ha)) (Sz.mul (Rz.n (Rz.mul (Rz.mul hb hb) hc)) (Rz.d (Rz.mul (Rz.mul hb hb) hc))))) (by decide))) rfl) ?_
      refine dq_r (sem_load (us := cI (a.den : Int)) ty24 rfl rfl rfl rfl rfl) ?_
      refine dq_r (sem_load (us := cI ((((b * b) * c).den : Int))) ty24 rfl rfl rfl rfl rfl) ?_
      refine dq_r (sem_call rfl rfl (iMul_ok (by first | assumption | exact Sz.mono (Rz.d ha) (by decide)) (by first | assumption | exact Sz.mono (Rz.d (Rz.mul (Rz.mul hb hb) hc)) (by decide))) rfl) ?_
      refine dq_r (sem_call rfl rfl (iDivMod_ok (by first | assumption | exact Sz.mono (Sz.addm (Sz.mul (Rz.n ha) (Rz.d (Rz.mul (Rz.mul hb hb) hc))) (Sz.isq (Sz.mul (Sz.mul (Rz.d ha) (Rz.d ha)) (Sz.mul (Rz.n (Rz.mul (Rz.mul hb hb) hc)) (Rz.d (Rz.mul (Rz.mul hb hb) hc)))))) (by decide)) (by first | assumption | exact Sz.mono (Sz.mul (Rz.d ha) (Rz.d (Rz.mul (Rz.mul hb hb) hc))) (by decide)) (by assumption)) rfl) ?_
      refine dq_r (sem_move rfl rfl) ?_
      refine dq_r (sem_extract rfl rfl rfl) ?_
      refine dq_r (sem_extract rfl rfl rfl) ?_
      refine dq_r (sem_extract rfl rfl rfl) ?_
      refine dq_new (sem_alloc zc24 rfl) rfl ?_
      refine dq_new (sem_alloc zc24 rfl) rfl ?_
      refine dq_sn (sem_store_a ty24 rfl rfl rfl rfl rfl rfl) rfl rfl rfl ?_
      refine dq_sn (sem_store_a ty24 rfl rfl rfl rfl rfl rfl) rfl rfl rfl ?_
      refine dq_r (sem_assign rfl rfl) ?_
      refine dq_end ?_
      refine dl_start4 ?_
      refine dl_end ?_
      refine dw_seq ?_
      -- region 10
      refine dw_region (by kernel_rfl) ?_
      refine dl_r (sem_load (us := cI (((a.num * ((((b * b) * c).den : Int))) + (isqI (((a.den : Int) * (a.den : Int)) * ((((b * b) * c).num) * ((((b * b) * c).den : Int)))))).fdiv ((a.den : Int) * ((((b * b) * c).den : Int))))) ty24 rfl rfl rfl rfl rfl) ?_
      refine dl_st (sem_store_a ty24 rfl rfl rfl rfl rfl rfl) ?_
      refine dl_end ?_
      refine dw_ret ?_
      -- path FF
      rw [flR_p (r_ne hc1) (r_nlt hc2)]
      exact ⟨.inr rfl, (resL_cell (us := cI (((a.num * ((((b * b) * c).den : Int))) + (isqI (((a.den : Int) * (a.den : Int)) * ((((b * b) * c).num) * ((((b * b) * c).den : Int)))))).fdiv ((a.den : Int) * ((((b * b) * c).den : Int))))) ty24 rfl rfl rfl rfl resL_nil)⟩
-- no function swarf/point.near in this seat
-- no function swarf/point.Near in this seat
-- no function swarf/point.Near in this seat
-- no function swarf/point.Near in this seat
-- no function swarf/swarfref03.CmpRat in this seat
-- no function swarf/swarflaw07.near in this seat
-- no function swarf/swarflaw07.PointNear in this seat
-- no function swarf/swarflaw07.PointNear in this seat
-- no function swarf/swarflaw07.PointNear in this seat
-- no function swarf/swarflaw07.PointNear in this seat
-- no function swarf/swarflaw07.PointNear in this seat
-- no function swarf/swarflaw07.PointNear in this seat
end Go.Proofs.YtcbjmiddangfoaaGreat
/- Layers 3 and 5: what the examples of radicals need. -/
namespace Go.Proofs.YtcbjmiddangfoaaGreat
open Go Go.RowKit
theorem rtFromRat_ok {a : Rat} : Ok Tryz.prog 79 [dR a] [.a (cR a ++ cR 0 ++ cR 0)] := by
  refine Ok.of (by kernel_rfl) Tryz.func79 rfl rfl ?_
  rw [show Tryz.f79.ntmps = 7 from rfl, show Tryz.f79.results.toList = [.cell 2 39] from rfl]
  refine dw_seq ?_
  -- region 0
  refine dw_region (by kernel_rfl) ?_
  refine dl_new (sem_box_a rfl rfl) rfl ?_
  refine dl_new (sem_alloc zc39 rfl) rfl ?_
  refine dl_end ?_
  refine dw_seq ?_
  -- region 1
  refine dw_draw 4 [] follows_mixed (by kernel_rfl) rfl rfl ?_
  refine dq_r (sem_load (us := cR a) ty26 rfl rfl rfl rfl rfl) ?_
  refine dq_r (sem_call rfl rfl (rtZero_ok) rfl) ?_
  refine dq_r (sem_call rfl rfl (rtZero_ok) rfl) ?_
  refine dq_r (sem_build (us := (cR a ++ cR 0 ++ cR 0)) fs39 zc39 rfl rfl rfl) ?_
  refine dq_end ?_
  refine dl_start0 ?_
  refine dl_st (sem_store_a ty39 rfl rfl rfl rfl rfl rfl) ?_
  refine dl_end ?_
  refine dw_ret ?_
  -- path 
  exact ⟨.inr rfl, (resL_cell (us := (cR a ++ cR 0 ++ cR 0)) ty39 rfl rfl rfl rfl resL_nil)⟩
theorem rtNeg_ok {a b c : Rat} (ha : Rz 300 a) (hb : Rz 300 b) : Ok Tryz.prog 49 [.a (cR a ++ cR b ++ cR c)] [.a (cR (-a) ++ cR (-b) ++ cR c)] := by
  refine Ok.of (by kernel_rfl) Tryz.func49 rfl rfl ?_
  rw [show Tryz.f49.ntmps = 12 from rfl, show Tryz.f49.results.toList = [.cell 2 39] from rfl]
  refine dw_seq ?_
  -- region 0
  refine dw_region (by kernel_rfl) ?_
  refine dl_new (sem_box_a rfl rfl) rfl ?_
  refine dl_new (sem_alloc zc39 rfl) rfl ?_
  refine dl_end ?_
  refine dw_seq ?_
  -- region 1
  refine dw_draw 9 [] follows_mixed (by kernel_rfl) rfl rfl ?_
  refine dq_r (sem_field fd39_0 rfl rfl) ?_
  refine dq_r (sem_load (us := cR a) ty26 rfl rfl rfl rfl rfl) ?_
  refine dq_r (sem_call rfl rfl (pNeg_ok (by first | assumption | exact Rz.mono ha (by decide))) rfl) ?_
  refine dq_r (sem_field fd39_1 rfl rfl) ?_
  refine dq_r (sem_load (us := cR b) ty26 rfl rfl rfl rfl rfl) ?_
  refine dq_r (sem_call rfl rfl (pNeg_ok (by first | assumption | exact Rz.mono hb (by decide))) rfl) ?_
  refine dq_r (sem_field fd39_2 rfl rfl) ?_
  refine dq_r (sem_load (us := cR c) ty26 rfl rfl rfl rfl rfl) ?_
  refine dq_r (sem_build (us := (cR (-a) ++ cR (-b) ++ cR c)) fs39 zc39 rfl rfl rfl) ?_
  refine dq_end ?_
  refine dl_start0 ?_
  refine dl_st (sem_store_a ty39 rfl rfl rfl rfl rfl rfl) ?_
  refine dl_end ?_
  refine dw_ret ?_
  -- path 
  exact ⟨.inr rfl, (resL_cell (us := (cR (-a) ++ cR (-b) ++ cR c)) ty39 rfl rfl rfl rfl resL_nil)⟩
theorem rtNorm_ok {a b c : Rat} (ha : Rz 50 a) (hb : Rz 50 b) (hc : Rz 50 c) : Ok Tryz.prog 112 [.a (cR a ++ cR b ++ cR c)] [dR (a * a - b * b * c)] := by
  refine Ok.of (by kernel_rfl) Tryz.func112 rfl rfl ?_
  rw [show Tryz.f112.ntmps = 17 from rfl, show Tryz.f112.results.toList = [.cell 2 26] from rfl]
  refine dw_seq ?_
  -- region 0
  refine dw_region (by kernel_rfl) ?_
  refine dl_new (sem_box_a rfl rfl) rfl ?_
  refine dl_new (sem_alloc zc26 rfl) rfl ?_
  refine dl_end ?_
  refine dw_seq ?_
  -- region 1
  refine dw_draw 14 [] follows_mixed (by kernel_rfl) rfl rfl ?_
  refine dq_r (sem_field fd39_0 rfl rfl) ?_
  refine dq_r (sem_load (us := cR a) ty26 rfl rfl rfl rfl rfl) ?_
  refine dq_r (sem_field fd39_0 rfl rfl) ?_
  refine dq_r (sem_load (us := cR a) ty26 rfl rfl rfl rfl rfl) ?_
  refine dq_r (sem_call rfl rfl (pMul_ok (by first | assumption | exact Rz.mono ha (by decide)) (by first | assumption | exact Rz.mono ha (by decide))) rfl) ?_
  refine dq_r (sem_field fd39_1 rfl rfl) ?_
  refine dq_r (sem_load (us := cR b) ty26 rfl rfl rfl rfl rfl) ?_
  refine dq_r (sem_field fd39_1 rfl rfl) ?_
  refine dq_r (sem_load (us := cR b) ty26 rfl rfl rfl rfl rfl) ?_
  refine dq_r (sem_call rfl rfl (pMul_ok (by first | assumption | exact Rz.mono hb (by decide)) (by first | assumption | exact Rz.mono hb (by decide))) rfl) ?_
  refine dq_r (sem_field fd39_2 rfl rfl) ?_
  refine dq_r (sem_load (us := cR c) ty26 rfl rfl rfl rfl rfl) ?_
  refine dq_r (sem_call rfl rfl (pMul_ok (by first | assumption | exact Rz.mono (Rz.mul hb hb) (by decide)) (by first | assumption | exact Rz.mono hc (by decide))) rfl) ?_
  refine dq_r (sem_call rfl rfl (pSub_ok (by first | assumption | exact Rz.mono (Rz.mul ha ha) (by decide)) (by first | assumption | exact Rz.mono (Rz.mul (Rz.mul hb hb) hc) (by decide))) rfl) ?_
  refine dq_end ?_
  refine dl_start0 ?_
  refine dl_st (sem_store_a ty26 rfl rfl rfl rfl rfl rfl) ?_
  refine dl_end ?_
  refine dw_ret ?_
  -- path 
  exact ⟨.inr rfl, (resL_cell (us := cR ((a * a) - ((b * b) * c))) ty26 rfl rfl rfl rfl resL_nil)⟩
theorem rtSign_ok {a b c : Rat} (ha : Rz 50 a) (hb : Rz 50 b) (hc : Rz 50 c) : Ok Tryz.prog 111 [.a (cR a ++ cR b ++ cR c)] [.c (.i .i64 (rtSg a b c))] := by
  have hp := prod_bd (cmpR_bd a 0) (cmpR_bd (a * a - b * b * c) 0)
  refine Ok.of (by kernel_rfl) Tryz.func111 rfl rfl ?_
  rw [show Tryz.f111.ntmps = 29 from rfl, show Tryz.f111.results.toList = [.tmp 2] from rfl]
  refine dw_seq ?_
  -- region 0
  refine dw_region (by kernel_rfl) ?_
  refine dl_new (sem_box_a rfl rfl) rfl ?_
  refine dl_r (sem_assign rfl rfl) ?_
  refine dl_end ?_
  refine dw_seq ?_
  -- region 1
  refine dw_draw 8 [] follows_mixed (by kernel_rfl) rfl rfl ?_
  refine dq_r (sem_field fd39_0 rfl rfl) ?_
  refine dq_r (sem_load (us := cR a) ty26 rfl rfl rfl rfl rfl) ?_
  refine dq_r (sem_call rfl rfl (pSign_ok) rfl) ?_
  refine dq_r (sem_field fd39_1 rfl rfl) ?_
  refine dq_r (sem_load (us := cR b) ty26 rfl rfl rfl rfl rfl) ?_
  refine dq_r (sem_call rfl rfl (pSign_ok) rfl) ?_
  refine dq_r (sem_assign rfl rfl) ?_
  refine dq_r (sem_assign rfl rfl) ?_
  refine dq_end ?_
  refine dl_start0 ?_
  refine dl_end ?_
  refine dw_seq ?_
  refine dw_block ?_
  refine dw_seq ?_
  -- region 2
  refine dw_region (by kernel_rfl) ?_
  refine dl_r (sem_move rfl rfl) ?_
  refine dl_r (sem_cmp rfl rfl rfl rfl) ?_
  refine dl_rb (sem_move rfl rfl) (fun c1 hb1 => ?_)
  cases c1
  · refine dl_r (sem_move rfl rfl) ?_
    refine dl_r (sem_move rfl rfl) ?_
    refine dl_r (sem_cmp rfl rfl rfl rfl) ?_
    refine dl_r (sem_pick rfl rfl rfl rfl) ?_
    refine dl_r (sem_assign rfl rfl) ?_
    refine dl_end ?_
    refine dw_cond rfl (fun hc2 => ?_) (fun hc2 => ?_)
    · refine dw_seq ?_
      -- region 3
      refine dw_region (by kernel_rfl) ?_
      refine dl_r (sem_move rfl rfl) ?_
      refine dl_r (sem_assign rfl rfl) ?_
      refine dl_end ?_
      refine dw_ret ?_
      -- path fT
      rw [rtSg_e hc2]
      exact ⟨.inr rfl, (resL_tmp rfl resL_nil)⟩
    · refine dw_seq ?_
      -- region 4
      refine dw_region (by kernel_rfl) ?_
      refine dl_r (sem_move rfl rfl) ?_
      refine dl_r (sem_cmp rfl rfl rfl rfl) ?_
      refine dl_r (sem_assign rfl rfl) ?_
      refine dl_end ?_
      refine dw_cond rfl (fun hc3 => ?_) (fun hc3 => ?_)
      · refine dw_seq ?_
        -- region 5
        refine dw_region (by kernel_rfl) ?_
        refine dl_r (sem_move rfl rfl) ?_
        refine dl_r (sem_assign rfl rfl) ?_
        refine dl_end ?_
        refine dw_ret ?_
        -- path fFT
        rw [rtSg_z hb1 hc2 hc3]
        exact ⟨.inr rfl, (resL_tmp rfl resL_nil)⟩
      · refine dw_skip ?_
        refine dw_seq ?_
        -- region 6
        refine dw_region (by kernel_rfl) ?_
        refine dl_r (sem_move rfl rfl) ?_
        refine dl_r (sem_load (us := (cR a ++ cR b ++ cR c)) ty39 rfl rfl rfl rfl rfl) ?_
        refine dl_r (sem_call rfl rfl (rtNorm_ok (by assumption) (by assumption) (by assumption)) rfl) ?_
        refine dl_r (sem_call rfl rfl (pSign_ok) rfl) ?_
        refine dl_r (sem_ari (r := (cmpR a 0) * (cmpR (a * a - b * b * c) 0)) rfl rfl (ari_i64_mul (by omega) (by omega)) rfl) ?_
        refine dl_r (sem_assign rfl rfl) ?_
        refine dl_end ?_
        refine dw_ret ?_
        -- path fFF
        rw [rtSg_n hb1 hc2 hc3]
        exact ⟨.inr rfl, (resL_tmp rfl resL_nil)⟩
  · refine dl_skip (sem_skip rfl) ?_
    refine dl_skip (sem_skip rfl) ?_
    refine dl_skip (sem_skip rfl) ?_
    refine dl_r (sem_pick rfl rfl rfl rfl) ?_
    refine dl_r (sem_assign rfl rfl) ?_
    refine dl_end ?_
    refine dw_true rfl ?_
    refine dw_seq ?_
    -- region 3
    refine dw_region (by kernel_rfl) ?_
    refine dl_r (sem_move rfl rfl) ?_
    refine dl_r (sem_assign rfl rfl) ?_
    refine dl_end ?_
    refine dw_ret ?_
    -- path t
    rw [rtSg_0 hb1]
    exact ⟨.inr rfl, (resL_tmp rfl resL_nil)⟩
theorem xLess_ok {a b c d : Rat} (ha : Rz 300 a) (hd : Rz 300 d) : Ok Tryz.prog 84 [.a (cR a ++ cR b ++ cR c), dR d] [.a (cR (a - d) ++ cR b ++ cR c)] := by
  refine Ok.of (by kernel_rfl) Tryz.func84 rfl rfl ?_
  rw [show Tryz.f84.ntmps = 11 from rfl, show Tryz.f84.results.toList = [.cell 4 39] from rfl]
  refine dw_seq ?_
  -- region 0
  refine dw_region (by kernel_rfl) ?_
  refine dl_new (sem_box_a rfl rfl) rfl ?_
  refine dl_new (sem_box_a rfl rfl) rfl ?_
  refine dl_new (sem_alloc zc39 rfl) rfl ?_
  refine dl_end ?_
  refine dw_seq ?_
  -- region 1
  refine dw_region (by kernel_rfl) ?_
  refine dl_r (sem_field fd39_0 rfl rfl) ?_
  refine dl_r (sem_load (us := cR a) ty26 rfl rfl rfl rfl rfl) ?_
  refine dl_r (sem_load (us := cR d) ty26 rfl rfl rfl rfl rfl) ?_
  refine dl_r (sem_call rfl rfl (pSub_ok (by first | assumption | exact Rz.mono ha (by decide)) (by first | assumption | exact Rz.mono hd (by decide))) rfl) ?_
  refine dl_r (sem_field fd39_0 rfl rfl) ?_
  refine dl_st (sem_store (us := (cR (a - d) ++ cR b ++ cR c)) ty26 rfl rfl rfl rfl (Nat.le_of_ble_eq_true rfl) rfl rfl) ?_
  refine dl_end ?_
  refine dw_seq ?_
  -- region 2
  refine dw_region (by kernel_rfl) ?_
  refine dl_r (sem_load (us := (cR (a - d) ++ cR b ++ cR c)) ty39 rfl rfl rfl rfl rfl) ?_
  refine dl_st (sem_store_a ty39 rfl rfl rfl rfl rfl rfl) ?_
  refine dl_end ?_
  refine dw_ret ?_
  -- path 
  exact ⟨.inr rfl, (resL_cell (us := (cR (a - d) ++ cR b ++ cR c)) ty39 rfl rfl rfl rfl resL_nil)⟩
theorem xEqual_ok {a b c d e f : Rat} (ha : Rz 100 a) (hb : Rz 8 b) (hc : Rz 8 c) (hd : Rz 100 d) (he : Rz 8 e) (hf : Rz 8 f) (h1 : Rz 8 (a - d)) (c0 : 0 ≤ c) (f0 : 0 ≤ f) : Ok Tryz.prog 23 [.a (cR a ++ cR b ++ cR c), .a (cR d ++ cR e ++ cR f)] [.c (.b (signQ (a - d) b (-e) 0 c f == 0))] := by
  refine Ok.of (by kernel_rfl) Tryz.func23 rfl rfl ?_
  rw [show Tryz.f23.ntmps = 9 from rfl, show Tryz.f23.results.toList = [.tmp 4] from rfl]
  refine dw_seq ?_
  -- region 0
  refine dw_region (by kernel_rfl) ?_
  refine dl_new (sem_box_a rfl rfl) rfl ?_
  refine dl_new (sem_box_a rfl rfl) rfl ?_
  refine dl_r (sem_assign rfl rfl) ?_
  refine dl_end ?_
  refine dw_seq ?_
  -- region 1
  refine dw_region (by kernel_rfl) ?_
  refine dl_r (sem_load (us := (cR a ++ cR b ++ cR c)) ty39 rfl rfl rfl rfl rfl) ?_
  refine dl_r (sem_load (us := (cR d ++ cR e ++ cR f)) ty39 rfl rfl rfl rfl rfl) ?_
  refine dl_r (sem_call rfl rfl (xCmpQ_ok (by assumption) (by assumption) (by assumption) (by assumption) (by assumption) (by assumption) (by assumption) (by assumption) (by assumption)) rfl) ?_
  refine dl_r (sem_cmp rfl rfl rfl rfl) ?_
  refine dl_r (sem_assign rfl rfl) ?_
  refine dl_end ?_
  refine dw_ret ?_
  -- path 
  exact ⟨.inr rfl, (resL_tmp rfl resL_nil)⟩
theorem xCmpRat_ok {a b c d : Rat} (ha : Rz 100 a) (hb : Rz 8 b) (hc : Rz 8 c) (hd : Rz 100 d) (h1 : Rz 8 (a - d)) (c0 : 0 ≤ c) : Ok Tryz.prog 46 [.a (cR a ++ cR b ++ cR c), dR d] [.c (.i .i64 (signQ (a - d) b (-0) 0 c 0))] := by
  have z0 : Rz 8 (0 : Rat) := Rz.zero (by decide)
  refine Ok.of (by kernel_rfl) Tryz.func46 rfl rfl ?_
  rw [show Tryz.f46.ntmps = 9 from rfl, show Tryz.f46.results.toList = [.tmp 4] from rfl]
  refine dw_seq ?_
  -- region 0
  refine dw_region (by kernel_rfl) ?_
  refine dl_new (sem_box_a rfl rfl) rfl ?_
  refine dl_new (sem_box_a rfl rfl) rfl ?_
  refine dl_r (sem_assign rfl rfl) ?_
  refine dl_end ?_
  refine dw_seq ?_
  -- region 1
  refine dw_draw 5 [] follows_mixed (by kernel_rfl) rfl rfl ?_
  refine dq_r (sem_load (us := (cR a ++ cR b ++ cR c)) ty39 rfl rfl rfl rfl rfl) ?_
  refine dq_r (sem_load (us := cR d) ty26 rfl rfl rfl rfl rfl) ?_
  refine dq_r (sem_call rfl rfl (rtFromRat_ok) rfl) ?_
  refine dq_r (sem_call rfl rfl (xCmpQ_ok (by assumption) (by assumption) (by assumption) (by assumption) z0 z0 h1 c0 Rat.le_refl) rfl) ?_
  refine dq_r (sem_assign rfl rfl) ?_
  refine dq_end ?_
  refine dl_start0 ?_
  refine dl_end ?_
  refine dw_ret ?_
  -- path 
  exact ⟨.inr rfl, (resL_tmp rfl resL_nil)⟩
end Go.Proofs.YtcbjmiddangfoaaGreat
