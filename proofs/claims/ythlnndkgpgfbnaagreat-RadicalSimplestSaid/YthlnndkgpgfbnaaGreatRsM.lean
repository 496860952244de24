/- Plain: a value and what is left of it behind some steps of the continued fraction: sizes. -/
import Derived.Test.YthlnndkgpgfbnaaGreatRsL
namespace Go.Proofs.YthlnndkgpgfbnaaGreat
open Go Go.RowKit
structure Mob (A0 B0 C : Rat) (p q r s : Int) (A B : Rat) : Prop where
  e1 : ((p : Rat) - (r : Rat) * A0) * A - (r : Rat) * B0 * B * C = (s : Rat) * A0 - (q : Rat)
  e2 : ((p : Rat) - (r : Rat) * A0) * B - (r : Rat) * B0 * A = (s : Rat) * B0
  det : p * s - q * r = 1 ∨ p * s - q * r = -1
theorem mul_div_same {x y : Rat} (h : y ≠ 0) : x * y / y = x := Rat.mul_div_cancel h
section
variable {A0 B0 C A B : Rat} {p q r s : Int}
theorem Mob.init (A0 B0 C : Rat) : Mob A0 B0 C 1 0 0 1 A0 B0 := by
  have h1 : ((1 : Int) : Rat) = 1 := rfl
  have h0 : ((0 : Int) : Rat) = 0 := rfl
  refine ⟨?_, ?_, .inl (by decide)⟩
  · rw [h1, h0]; grind
  · rw [h1, h0]; grind
theorem Mob.shift (h : Mob A0 B0 C p q r s A B) (n : Int) : Mob A0 B0 C p (p * n + q) r (r * n + s) (A - (n : Rat)) B := by
  obtain ⟨e1, e2, hd⟩ := h
  refine ⟨?_, ?_, ?_⟩
  · rw [Rat.intCast_add, Rat.intCast_mul, Rat.intCast_add, Rat.intCast_mul]; grind
  · rw [Rat.intCast_add, Rat.intCast_mul]; grind
  · have : p * (r * n + s) - (p * n + q) * r = p * s - q * r := by grind
    rw [this]; exact hd
theorem Mob.inv (h : Mob A0 B0 C p q r s A B) {w : Rat} (hw : (A * A - B * B * C) * w = 1) : Mob A0 B0 C q p s r (A * w) (-B * w) := by
  obtain ⟨e1, e2, hd⟩ := h
  refine ⟨?_, ?_, ?_⟩
  · have k1 : (((q : Rat) - (s : Rat) * A0) * A + (s : Rat) * B0 * B * C) = ((r : Rat) * A0 - (p : Rat)) * (A * A - B * B * C) := by grind
    have k2 : ((q : Rat) - (s : Rat) * A0) * (A * w) - (s : Rat) * B0 * (-B * w) * C = (((q : Rat) - (s : Rat) * A0) * A + (s : Rat) * B0 * B * C) * w := by grind
    rw [k2, k1, Rat.mul_assoc, hw, Rat.mul_one]
  · have k1 : (-(((q : Rat) - (s : Rat) * A0) * B) - (s : Rat) * B0 * A) = (r : Rat) * B0 * (A * A - B * B * C) := by grind
    have k2 : ((q : Rat) - (s : Rat) * A0) * (-B * w) - (s : Rat) * B0 * (A * w) = (-(((q : Rat) - (s : Rat) * A0) * B) - (s : Rat) * B0 * A) * w := by grind
    rw [k2, k1, Rat.mul_assoc, hw, Rat.mul_one]
  · have : q * r - p * s = -(p * s - q * r) := by omega
    omega
theorem Mob.sol (h : Mob A0 B0 C p q r s A B) : A * (((p : Rat) - (r : Rat) * A0) * ((p : Rat) - (r : Rat) * A0) - (r : Rat) * (r : Rat) * (B0 * B0 * C)) = ((s : Rat) * A0 - (q : Rat)) * ((p : Rat) - (r : Rat) * A0) + (s : Rat) * (r : Rat) * (B0 * B0 * C) ∧
    B * (((p : Rat) - (r : Rat) * A0) * ((p : Rat) - (r : Rat) * A0) - (r : Rat) * (r : Rat) * (B0 * B0 * C)) = B0 * ((p * s - q * r : Int) : Rat) := by
  obtain ⟨e1, e2, hd⟩ := h
  refine ⟨by grind, ?_⟩
  rw [Rat.intCast_sub, Rat.intCast_mul, Rat.intCast_mul]; grind
theorem Mob.ne (h : Mob A0 B0 C p q r s A B) (hv : B0 ≠ 0 → 0 < C ∧ sqR C = false) : ((p : Rat) - (r : Rat) * A0) * ((p : Rat) - (r : Rat) * A0) - (r : Rat) * (r : Rat) * (B0 * B0 * C) ≠ 0 := by
  intro hz
  have hs := h.sol
  obtain ⟨e1, e2, hd⟩ := h
  have hdr : ((p * s - q * r : Int) : Rat) ≠ 0 := by
    rcases hd with hd | hd <;> rw [hd] <;> decide
  by_cases hb : B0 = 0
  · -- p = r A0, q = s A0
    subst hb
    have h1 : ((p : Rat) - (r : Rat) * A0) * ((p : Rat) - (r : Rat) * A0) = 0 := by grind
    have h2 : (p : Rat) - (r : Rat) * A0 = 0 := by
      rcases Rat.mul_eq_zero.1 h1 with h | h <;> exact h
    apply hdr
    rw [Rat.intCast_sub, Rat.intCast_mul, Rat.intCast_mul]
    grind
  · obtain ⟨c0, cs⟩ := hv hb
    have h4 : B0 * ((p * s - q * r : Int) : Rat) = 0 := by rw [← hs.2, hz, Rat.mul_zero]
    rcases Rat.mul_eq_zero.1 h4 with h3 | h3
    · exact hb h3
    · exact hdr h3
theorem Mob.sz (h : Mob A0 B0 C p q r s A B) (hv : B0 ≠ 0 → 0 < C ∧ sqR C = false) {m kp kq kr ks : Nat} (hA : Rz m A0) (hB : Rz m B0) (hC : Rz m C) (hp : Rz kp (p : Rat)) (hq : Rz kq (q : Rat)) (hr : Rz kr (r : Rat)) (hs : Rz ks (s : Rat)) :
    Rz (((ks + m + kq + 1) + (kp + (kr + m) + 1) + (ks + kr + (m + m + m)) + 1) + ((kp + (kr + m) + 1) + (kp + (kr + m) + 1) + (kr + kr + (m + m + m)) + 1)) A ∧ Rz ((m + 1) + ((kp + (kr + m) + 1) + (kp + (kr + m) + 1) + (kr + kr + (m + m + m)) + 1)) B := by
  have hne := h.ne hv
  obtain ⟨s1, s2⟩ := h.sol
  have hd := h.det
  have z1 := hp.sub (hr.mul hA)
  have z2 := (z1.mul z1).sub ((hr.mul hr).mul ((hB.mul hB).mul hC))
  have z3 := (((hs.mul hA).sub hq).mul z1).add ((hs.mul hr).mul ((hB.mul hB).mul hC))
  have z4 : Rz 1 ((p * s - q * r : Int) : Rat) := by rcases hd with hd | hd <;> rw [hd] <;> exact rz_l (by decide +kernel)
  have z5 := (hB.mul z4).div z2 hne
  have z6 := z3.div z2 hne
  rw [← s1, mul_div_same hne] at z6
  rw [← s2, mul_div_same hne] at z5
  exact ⟨z6, z5⟩
theorem Mob.real (h : Mob A0 B0 C p q r s A B) (hc : 0 ≤ C) : sgR (val3 A0 B0 C * (Re.of (r : Rat) * val3 A B C + Re.of (s : Rat)) - (Re.of (p : Rat) * val3 A B C + Re.of (q : Rat))) = 0 := by
  obtain ⟨e1, e2, hd⟩ := h
  rw [show val3 A0 B0 C * (Re.of (r : Rat) * val3 A B C + Re.of (s : Rat)) - (Re.of (p : Rat) * val3 A B C + Re.of (q : Rat)) = Re.of ((r : Rat) * B0 * B) * (Re.rt C * Re.rt C - Re.of C) from Re.ext fun k => by simp only [val3, re_sub, re_add, re_mul, re_of]; grind, sgR_mul, rt_sq hc, Int.mul_zero]
end
theorem null_mul {u : Re} (v : Re) (h : sgR u = 0) : sgR (v * u) = 0 := by rw [sgR_mul, h, Int.mul_zero]
theorem null_neg {u : Re} (h : sgR u = 0) : sgR (-u) = 0 := by rw [sgR_neg, h]; rfl
theorem leR_same_l {x y z : Re} (h : sgR (y - x) = 0) (g : leR x z) : leR y z := by
  unfold leR at *
  rw [sgR_same (x := z - y) (y := z - x) (by rw [show z - y - (z - x) = -(y - x) from Re.ext fun k => by simp only [re_sub, re_neg]; grind]; exact null_neg h)]
  exact g
theorem mul_mono {a b c d : Re} (ha : 0 ≤ sgR c) (h : leR a b) (hb : 0 ≤ sgR b) (g : leR c d) : leR (a * c) (b * d) := by
  have h1 : leR (c * a) (c * b) := leR_mul_r ha h
  have h2 : leR (b * c) (b * d) := leR_mul_r hb g
  rw [show a * c = c * a from Re.ext fun k => by simp only [re_mul]; grind]
  rw [show c * b = b * c from Re.ext fun k => by simp only [re_mul]; grind] at h1
  exact le_tr h1 h2
theorem nn_leR {x : Re} (h : leR (Re.of 0) x) : 0 ≤ sgR x := by
  unfold leR at h
  rw [show x - Re.of 0 = x from Re.ext fun k => by simp only [re_sub, re_of]; grind] at h; exact h
theorem leR_nn {x : Re} (h : 0 ≤ sgR x) : leR (Re.of 0) x := by
  unfold leR
  rw [show x - Re.of 0 = x from Re.ext fun k => by simp only [re_sub, re_of]; grind]; exact h
theorem of_nn {x : Rat} (h : 0 ≤ x) : 0 ≤ sgR (Re.of x) := by rw [sgR_of]; exact cmpR_geI h
theorem ic_nn {n : Int} (h : 0 ≤ n) : (0 : Rat) ≤ (n : Rat) := by
  have : ((0 : Int) : Rat) ≤ (n : Rat) := Rat.intCast_le_intCast.2 h
  exact this
theorem one_over {x : Rat} (h : 0 < x) {y : Rat} : 1 / x * y * x = y := by
  have e : 1 / x * x = 1 := Rat.div_mul_cancel (by grind)
  grind
theorem inv_nn {x : Rat} (h : 0 < x) : 0 ≤ 1 / x := by
  have e : 1 / x * x = 1 := Rat.div_mul_cancel (by grind)
  apply Classical.byContradiction
  intro hc
  have := Rat.mul_le_mul_of_nonneg_right (show 1 / x ≤ 0 by grind) (show 0 ≤ x by grind)
  grind
section
variable {X Y V W Z Z' : Re} {p q r s n : Int}
theorem den_low (hr : 0 ≤ r) (h : leR (Re.of (n : Rat)) X) : leR (Re.of ((r * n + s : Int) : Rat)) (Re.of (r : Rat) * X + Re.of (s : Rat)) := by
  have h1 := leR_mul_r (X := Re.of (r : Rat)) (of_nn (ic_nn hr)) h
  have h2 := sgR_add_le h1 (leR_refl (Re.of (s : Rat)))
  rw [show Re.of (r : Rat) * Re.of (n : Rat) + Re.of (s : Rat) = Re.of ((r * n + s : Int) : Rat) from Re.ext fun k => by simp only [re_add, re_mul, re_of, Rat.intCast_add, Rat.intCast_mul]] at h2
  exact h2
theorem dist_eq (hX : sgR (V * (Re.of (r : Rat) * X + Re.of (s : Rat)) - (Re.of (p : Rat) * X + Re.of (q : Rat))) = 0) (hY : sgR (W * (Re.of (r : Rat) * Y + Re.of (s : Rat)) - (Re.of (p : Rat) * Y + Re.of (q : Rat))) = 0) :
    sgR ((V - W) * ((Re.of (r : Rat) * X + Re.of (s : Rat)) * (Re.of (r : Rat) * Y + Re.of (s : Rat))) - Re.of ((p * s - q * r : Int) : Rat) * (X - Y)) = 0 := by
  rw [show (V - W) * ((Re.of (r : Rat) * X + Re.of (s : Rat)) * (Re.of (r : Rat) * Y + Re.of (s : Rat))) - Re.of ((p * s - q * r : Int) : Rat) * (X - Y) =
    (Re.of (r : Rat) * Y + Re.of (s : Rat)) * (V * (Re.of (r : Rat) * X + Re.of (s : Rat)) - (Re.of (p : Rat) * X + Re.of (q : Rat))) + -((Re.of (r : Rat) * X + Re.of (s : Rat)) * (W * (Re.of (r : Rat) * Y + Re.of (s : Rat)) - (Re.of (p : Rat) * Y + Re.of (q : Rat)))) from
    Re.ext fun k => by simp only [re_sub, re_add, re_mul, re_of, re_neg, Rat.intCast_sub, Rat.intCast_mul]; grind]
  exact sg_null (null_mul _ hX) (null_neg (null_mul _ hY))
theorem one_up {a b : Re} (h1 : leR a (Re.of ((n + 1 : Int) : Rat))) (h2 : leR (Re.of (n : Rat)) b) : leR (a - b) (Re.of 1) := by
  have := sgR_add_le h1 (leR_neg h2)
  rw [show a + -b = a - b from Re.ext fun k => by simp only [re_sub, re_add, re_neg]; try grind, show Re.of ((n + 1 : Int) : Rat) + -Re.of (n : Rat) = Re.of 1 from Re.ext fun k => by
    have h1 : ((1 : Int) : Rat) = 1 := rfl
    simp only [re_add, re_of, re_neg, Rat.intCast_add, h1]; try grind] at this
  exact this
theorem mob_bound {K : Nat} (hr : 0 ≤ r) (hs : 0 ≤ s) (hn : 0 ≤ n) (hd : p * s - q * r = 1 ∨ p * s - q * r = -1)
    (hX : sgR (V * (Re.of (r : Rat) * X + Re.of (s : Rat)) - (Re.of (p : Rat) * X + Re.of (q : Rat))) = 0) (hY : sgR (W * (Re.of (r : Rat) * Y + Re.of (s : Rat)) - (Re.of (p : Rat) * Y + Re.of (q : Rat))) = 0)
    (x0 : leR (Re.of (n : Rat)) X) (x1 : leR X (Re.of ((n + 1 : Int) : Rat))) (y0 : leR (Re.of (n : Rat)) Y) (y1 : leR Y (Re.of ((n + 1 : Int) : Rat)))
    (he : leR (Re.of (1 / ((pw K : Int) : Rat))) (V - W)) : (r * n + s) * (r * n + s) ≤ pw K := by
  have hR0 : 0 ≤ r * n + s := by have := Int.mul_nonneg hr hn; omega
  have e1 := dist_eq hX hY
  have lx := den_low (s := s) hr x0
  have ly := den_low (s := s) hr y0
  have nR := of_nn (ic_nn hR0)
  have zx : 0 ≤ sgR (Re.of (r : Rat) * X + Re.of (s : Rat)) := nn_leR (le_tr (of_le (ic_nn hR0)) lx)
  have m1 := mul_mono nR lx zx ly
  have hp := pwr_pos K
  have ie : (0 : Rat) ≤ 1 / ((pw K : Int) : Rat) := inv_nn hp
  have dp : 0 ≤ sgR (V - W) := nn_leR (le_tr (of_le ie) he)
  have nRR : 0 ≤ sgR (Re.of ((r * n + s : Int) : Rat) * Re.of ((r * n + s : Int) : Rat)) := by rw [sgR_mul]; exact Int.mul_nonneg nR nR
  have m2 := mul_mono nRR he dp m1
  have t1 : leR (Re.of ((p * s - q * r : Int) : Rat) * (X - Y)) (Re.of 1) := by
    rcases hd with hd | hd <;> rw [hd]
    · rw [show Re.of ((1 : Int) : Rat) * (X - Y) = X - Y from Re.ext fun k => by
        have h1 : ((1 : Int) : Rat) = 1 := rfl
        simp only [re_sub, re_mul, re_of, h1]; grind]
      exact one_up x1 y0
    · rw [show Re.of ((-1 : Int) : Rat) * (X - Y) = Y - X from Re.ext fun k => by
        have h1 : ((-1 : Int) : Rat) = -1 := rfl
        simp only [re_sub, re_mul, re_of, h1]; grind]
      exact one_up y1 x0
  have m3 := le_tr m2 (leR_same_l e1 t1)
  rw [of_mul, of_mul, ← Rat.intCast_mul] at m3
  have m4 := of_le_iff m3
  have m5 := Rat.mul_le_mul_of_nonneg_right m4 (nn_of_pos hp)
  rw [one_over hp, Rat.one_mul] at m5
  exact Rat.intCast_le_intCast.1 m5
theorem mob_p {U : Int} (hq : 0 ≤ q) (hs : 0 ≤ s) (hr : 0 ≤ r) (hX : sgR (V * (Re.of (r : Rat) * X + Re.of (s : Rat)) - (Re.of (p : Rat) * X + Re.of (q : Rat))) = 0) (x1 : leR (Re.of 1) X) (v0 : 0 ≤ sgR V) (v1 : leR V (Re.of (U : Rat))) : p ≤ U * (r + s) := by
  have xp : 0 < sgR X := by
    have h1 : leR (Re.of 1) X := x1
    rcases sgR_cases X with h | h | h
    · omega
    · exfalso
      have h2 : leR (Re.of 1) (Re.of 0) := leR_same_r (by rw [show X - Re.of 0 = X from Re.ext fun k => by simp only [re_sub, re_of]; grind]; exact h) h1
      exact absurd (of_le_iff h2) (by decide)
    · exfalso
      have h3 : leR X (Re.of 0) := by unfold leR; rw [show Re.of 0 - X = -X from Re.ext fun k => by simp only [re_sub, re_of, re_neg]; grind, sgR_neg, h]; decide
      exact absurd (of_le_iff (le_tr h1 h3)) (by decide)
  have a1 : leR (Re.of (p : Rat) * X) (Re.of (p : Rat) * X + Re.of (q : Rat)) := by
    unfold leR
    rw [show Re.of (p : Rat) * X + Re.of (q : Rat) - Re.of (p : Rat) * X = Re.of (q : Rat) from Re.ext fun k => by simp only [re_sub, re_add, re_of]; grind]
    exact of_nn (ic_nn hq)
  have a2 := leR_same_r (z := V * (Re.of (r : Rat) * X + Re.of (s : Rat))) (by rw [show Re.of (p : Rat) * X + Re.of (q : Rat) - V * (Re.of (r : Rat) * X + Re.of (s : Rat)) = -(V * (Re.of (r : Rat) * X + Re.of (s : Rat)) - (Re.of (p : Rat) * X + Re.of (q : Rat))) from Re.ext fun k => by simp only [re_sub, re_neg]; grind]; exact null_neg hX) a1
  have a3 : leR (Re.of (r : Rat) * X + Re.of (s : Rat)) (Re.of ((r + s : Int) : Rat) * X) := by
    have h1 := leR_mul_r (X := Re.of (s : Rat)) (of_nn (ic_nn hs)) x1
    have h2 := sgR_add_le (leR_refl (Re.of (r : Rat) * X)) h1
    rw [show Re.of (s : Rat) * Re.of 1 = Re.of (s : Rat) from Re.ext fun k => by simp only [re_mul, re_of]; grind, show Re.of (r : Rat) * X + Re.of (s : Rat) * X = Re.of ((r + s : Int) : Rat) * X from Re.ext fun k => by simp only [re_mul, re_add, re_of, Rat.intCast_add]; grind] at h2
    exact h2
  have a4 := leR_mul_r v0 a3
  have rsX : 0 ≤ sgR (Re.of ((r + s : Int) : Rat) * X) := by rw [sgR_mul]; exact Int.mul_nonneg (of_nn (ic_nn (by omega))) (by omega)
  have a5 : leR (V * (Re.of ((r + s : Int) : Rat) * X)) (Re.of (U : Rat) * (Re.of ((r + s : Int) : Rat) * X)) := by
    have := leR_mul_r rsX v1
    rw [show Re.of ((r + s : Int) : Rat) * X * V = V * (Re.of ((r + s : Int) : Rat) * X) from Re.ext fun k => by simp only [re_mul]; grind, show Re.of ((r + s : Int) : Rat) * X * Re.of (U : Rat) = Re.of (U : Rat) * (Re.of ((r + s : Int) : Rat) * X) from Re.ext fun k => by simp only [re_mul]; grind] at this
    exact this
  have a6 := le_tr a2 (le_tr a4 a5)
  unfold leR at a6
  rw [show Re.of (U : Rat) * (Re.of ((r + s : Int) : Rat) * X) - Re.of (p : Rat) * X = Re.of ((U * (r + s) - p : Int) : Rat) * X from Re.ext fun k => by simp only [re_sub, re_mul, re_of, Rat.intCast_sub, Rat.intCast_mul]; grind, sgR_mul] at a6
  apply Classical.byContradiction
  intro hn
  have h7 : sgR (Re.of ((U * (r + s) - p : Int) : Rat)) = -1 := by
    rw [sgR_of]
    unfold cmpR
    rw [if_pos (by
      have : ((U * (r + s) - p : Int) : Rat) < ((0 : Int) : Rat) := Rat.intCast_lt_intCast.2 (by omega)
      exact this)]
  rw [h7] at a6
  omega
end
def fr (p q : Int) : Rat := (p : Rat) / (q : Rat)
theorem ic_pos {q : Int} (h : 0 < q) : (0 : Rat) < (q : Rat) := Rat.intCast_lt_intCast.2 h
theorem ic_ne {q : Int} (h : q ≠ 0) : (q : Rat) ≠ 0 := fun e => h (Rat.intCast_inj.1 (e.trans Rat.intCast_zero.symm))
theorem fr_mul {p q : Int} (h : 0 < q) : fr p q * (q : Rat) = (p : Rat) := Rat.div_mul_cancel (ic_ne (by omega))
theorem fr_eq {p q : Int} {x : Rat} (h : 0 < q) (e : x * (q : Rat) = (p : Rat)) : fr p q = x := by
  have h1 := fr_mul (p := p) h
  have h2 : (fr p q - x) * (q : Rat) = 0 := by grind
  rcases Rat.mul_eq_zero.1 h2 with h3 | h3
  · grind
  · exact absurd h3 (ic_ne (by omega))
theorem fr_num (x : Rat) : fr x.num (x.den : Int) = x := fr_eq (by have := x.den_pos; omega) (by
  have := Rat.num_divInt_den x
  rw [Rat.divInt_eq_div] at this
  have h2 := Rat.div_mul_cancel (a := (x.num : Rat)) (b := ((x.den : Int) : Rat)) (ic_ne (by have := x.den_pos; omega))
  rw [this] at h2; exact h2)
structure TMin (S : Rat → Prop) (P Q : Int) : Prop where
  p : 0 < P
  q : 0 < Q
  mem : S (fr P Q)
  min : ∀ p q : Int, 0 < q → S (fr p q) → P ≤ p ∧ Q ≤ q
theorem fr_shift {n P Q : Int} (hP : 0 < P) (hQ : 0 < Q) : fr (n * P + Q) P = (n : Rat) + 1 / fr P Q := by
  refine fr_eq hP ?_
  have h1 := fr_mul (p := P) hQ
  have h0 : fr P Q ≠ 0 := by
    intro e
    rw [e] at h1
    have := ic_pos hP
    grind
  have h2 : 1 / fr P Q * fr P Q = 1 := Rat.div_mul_cancel h0
  rw [Rat.intCast_add, Rat.intCast_mul]
  have h3 : 1 / fr P Q * (P : Rat) = (Q : Rat) := by
    rw [← h1, ← Rat.mul_assoc, h2, Rat.one_mul]
  grind
theorem TMin.step {S S' : Rat → Prop} {n P Q : Int} (hn : 0 ≤ n) (h : TMin S' P Q) (h1 : ∀ x, S x ↔ (n : Rat) < x ∧ S' (1 / (x - (n : Rat)))) : TMin S (n * P + Q) P := by
  have hP := h.p
  have hQ := h.q
  have hf := fr_mul (p := P) hQ
  have hfp : 0 < fr P Q := by
    apply Classical.byContradiction
    intro hn
    have := Rat.mul_le_mul_of_nonneg_right (show fr P Q ≤ 0 by grind) (show 0 ≤ (Q : Rat) by have := ic_pos hQ; grind)
    have := ic_pos hP
    grind
  have hi : 1 / fr P Q * fr P Q = 1 := Rat.div_mul_cancel (by grind)
  have hip : 0 < 1 / fr P Q := by
    apply Classical.byContradiction
    intro hn
    have := Rat.mul_le_mul_of_nonneg_right (show 1 / fr P Q ≤ 0 by grind) (show 0 ≤ fr P Q by grind)
    grind
  refine ⟨by have := Int.mul_nonneg hn (show 0 ≤ P by omega); omega, hP, ?_, fun p q hq hs => ?_⟩
  · rw [h1, fr_shift hP hQ]
    refine ⟨by grind, ?_⟩
    rw [show (n : Rat) + 1 / fr P Q - (n : Rat) = 1 / fr P Q by grind]
    rw [show 1 / (1 / fr P Q) = fr P Q from by
      have h2 : 1 / (1 / fr P Q) * (1 / fr P Q) = 1 := Rat.div_mul_cancel (by grind)
      have h3 : 1 / (1 / fr P Q) * (1 / fr P Q) * fr P Q = fr P Q := by rw [h2, Rat.one_mul]
      rw [Rat.mul_assoc, hi, Rat.mul_one] at h3
      exact h3]
    exact h.mem
  · obtain ⟨g1, g2⟩ := (h1 _).1 hs
    have e1 := fr_mul (p := p) hq
    have hqp := ic_pos hq
    have hk : 0 < p - n * q := by
      have := Rat.mul_lt_mul_of_pos_right g1 hqp
      rw [e1, ← Rat.intCast_mul] at this
      have := Rat.intCast_lt_intCast.1 this
      omega
    have e2 : fr q (p - n * q) = 1 / (fr p q - (n : Rat)) := by
      refine fr_eq hk ?_
      have h0 : fr p q - (n : Rat) ≠ 0 := by grind
      have h2 : 1 / (fr p q - (n : Rat)) * (fr p q - (n : Rat)) = 1 := Rat.div_mul_cancel h0
      have h3 : ((p - n * q : Int) : Rat) = (fr p q - (n : Rat)) * (q : Rat) := by
        rw [Rat.intCast_sub, Rat.intCast_mul, ← e1]; grind
      rw [h3, ← Rat.mul_assoc, h2, Rat.one_mul]
    rw [← e2] at g2
    obtain ⟨m1, m2⟩ := h.min q (p - n * q) hk g2
    refine ⟨?_, m1⟩
    have := Int.mul_le_mul_of_nonneg_left m1 hn
    omega
theorem TMin.whole {S : Rat → Prop} {n : Int} (hn : 0 ≤ n) (h1 : S ((n + 1 : Int) : Rat)) (h2 : ∀ x, S x → (n : Rat) < x) : TMin S (n + 1) 1 := by
  refine ⟨by omega, by omega, ?_, fun p q hq hs => ⟨?_, by omega⟩⟩
  · rw [show fr (n + 1) 1 = ((n + 1 : Int) : Rat) from fr_eq (by omega) (by rw [Rat.intCast_one, Rat.mul_one])]; exact h1
  · have e1 := fr_mul (p := p) hq
    have := Rat.mul_lt_mul_of_pos_right (h2 _ hs) (ic_pos hq)
    rw [e1, ← Rat.intCast_mul] at this
    have h3 := Rat.intCast_lt_intCast.1 this
    have := Int.mul_le_mul_of_nonneg_left (show 1 ≤ q by omega) hn
    omega
theorem TMin.den {S : Rat → Prop} {P Q : Int} (h : TMin S P Q) : (fr P Q).num = P ∧ ((fr P Q).den : Int) = Q := by
  have e := fr_num (fr P Q)
  have hd : 0 < ((fr P Q).den : Int) := by have := (fr P Q).den_pos; omega
  have hm := h.min (fr P Q).num ((fr P Q).den : Int) hd (by rw [e]; exact h.mem)
  have h1 := fr_mul (p := P) h.q
  have h2 := fr_mul (p := (fr P Q).num) hd
  rw [e] at h2
  have h3 : P * ((fr P Q).den : Int) = (fr P Q).num * Q := by
    have : ((P * ((fr P Q).den : Int) : Int) : Rat) = (((fr P Q).num * Q : Int) : Rat) := by
      rw [Rat.intCast_mul, Rat.intCast_mul, ← h1, ← h2]; grind
    exact Rat.intCast_inj.1 this
  have h4 : (fr P Q).num.natAbs ∣ P.natAbs * (fr P Q).den := ⟨Q.natAbs, by
    have := congrArg Int.natAbs h3
    rw [Int.natAbs_mul, Int.natAbs_mul, Int.natAbs_natCast] at this
    exact this⟩
  have h5 := Nat.le_of_dvd (by have := h.p; omega) (Nat.Coprime.dvd_of_dvd_mul_right (fr P Q).reduced h4)
  have hP : (fr P Q).num = P := by have := h.p; omega
  refine ⟨hP, ?_⟩
  rw [hP] at h3
  have := h.p
  exact Int.eq_of_mul_eq_mul_left (by omega) h3
theorem least_den {S : Rat → Prop} (hc : ∀ x y z : Rat, S x → S y → x ≤ z → z ≤ y → S z) {m k Q : Int} (hQ : 2 ≤ Q) (hm : S (fr m Q)) (hk : S (fr k Q)) (hmin : ∀ p q : Int, 0 < q → S (fr p q) → Q ≤ q) : m = k := by
  have key : ∀ m k : Int, S (fr m Q) → S (fr k Q) → m < k → False := by
    intro m k hm hk hlt
    have e1 : Q * (m / Q) + m % Q = m := Int.mul_ediv_add_emod m Q
    have r0 : 0 ≤ m % Q := Int.emod_nonneg m (by omega)
    have r1 : m % Q < Q := Int.emod_lt_of_pos m (by omega)
    generalize m / Q = t at e1
    generalize m % Q = r at e1 r0 r1
    have hQ1 : 0 < Q - 1 := by omega
    have hfm := fr_mul (p := m) (q := Q) (by omega)
    have hfk := fr_mul (p := k) (q := Q) (by omega)
    have hfj := fr_mul (p := t * (Q - 1) + r) (q := Q - 1) hQ1
    have p1 := ic_pos (show 0 < Q by omega)
    have p2 := ic_pos hQ1
    have le1 : fr m Q ≤ fr (t * (Q - 1) + r) (Q - 1) := by
      apply Classical.byContradiction
      intro hn
      have h1 := Rat.mul_lt_mul_of_pos_right (show fr (t * (Q - 1) + r) (Q - 1) < fr m Q by grind) (Rat.mul_pos p1 p2)
      have h2 : fr (t * (Q - 1) + r) (Q - 1) * ((Q : Rat) * ((Q - 1 : Int) : Rat)) = (((t * (Q - 1) + r) * Q : Int) : Rat) := by rw [Rat.intCast_mul, ← hfj]; grind
      have h3 : fr m Q * ((Q : Rat) * ((Q - 1 : Int) : Rat)) = ((m * (Q - 1) : Int) : Rat) := by rw [Rat.intCast_mul, ← hfm]; grind
      rw [h2, h3] at h1
      have h4 := Rat.intCast_lt_intCast.1 h1
      have h5 : (t * (Q - 1) + r) * Q = m * (Q - 1) + r := by rw [← e1]; grind
      omega
    have le2 : fr (t * (Q - 1) + r) (Q - 1) ≤ fr k Q := by
      apply Classical.byContradiction
      intro hn
      have h1 := Rat.mul_lt_mul_of_pos_right (show fr k Q < fr (t * (Q - 1) + r) (Q - 1) by grind) (Rat.mul_pos p1 p2)
      have h2 : fr (t * (Q - 1) + r) (Q - 1) * ((Q : Rat) * ((Q - 1 : Int) : Rat)) = (((t * (Q - 1) + r) * Q : Int) : Rat) := by rw [Rat.intCast_mul, ← hfj]; grind
      have h3 : fr k Q * ((Q : Rat) * ((Q - 1 : Int) : Rat)) = ((k * (Q - 1) : Int) : Rat) := by rw [Rat.intCast_mul, ← hfk]; grind
      rw [h2, h3] at h1
      have h4 := Rat.intCast_lt_intCast.1 h1
      have h5 : (t * (Q - 1) + r) * Q = m * (Q - 1) + r := by rw [← e1]; grind
      have h6 := Int.mul_le_mul_of_nonneg_right (show m + 1 ≤ k by omega) (show 0 ≤ Q - 1 by omega)
      rw [Int.add_mul] at h6
      omega
    have := hmin _ _ hQ1 (hc _ _ _ hm hk le1 le2)
    omega
  rcases Int.lt_trichotomy m k with h | h | h
  · exact (key m k hm hk h).elim
  · exact h
  · exact (key k m hk hm h).elim
theorem cmpR_z {x : Rat} (h : cmpR x 0 = 0) : x = 0 := cmpR_t0 (by rw [h]; rfl)
section
variable {x y z : Rat}
theorem rtSg_val (hz : 0 ≤ z) (hv : y ≠ 0 → 0 < z) : rtSg x y z = sgR (val3 x y z) := by
  rw [← plainS_sg hz]
  unfold rtSg plainS comb
  have e : cmpR y 0 * cmpR z 0 = cmpR y 0 := by
    by_cases hy : y = 0
    · subst hy; rw [show cmpR 0 0 = 0 from by decide]; omega
    · rw [show cmpR z 0 = 1 from by unfold cmpR; rw [if_neg (by have := hv hy; grind), if_pos (hv hy)]]; omega
  rw [e, cmpR_sub]
end
section
variable {x y z : Rat}
end
def InR (a b : Re) (x : Rat) : Prop := sgR (Re.of x - a) = 1 ∧ sgR (b - Re.of x) = 1
theorem sg_pos {x : Rat} (h : 0 < x) : sgR (Re.of x) = 1 := by rw [sgR_of]; unfold cmpR; rw [if_neg (by grind), if_pos h]
theorem inv_lt {u u' : Re} (h : sgR (u * u' - Re.of 1) = 0) (hu : sgR u' = 1) {t : Rat} (ht : 0 < t) : sgR (Re.of t - u) = sgR (u' - Re.of (1 / t)) := by
  have e : t * (1 / t) = 1 := by rw [Rat.mul_comm]; exact Rat.div_mul_cancel (by grind)
  have h1 : sgR ((Re.of t - u) * u' - Re.of t * (u' - Re.of (1 / t))) = 0 := by
    rw [show (Re.of t - u) * u' - Re.of t * (u' - Re.of (1 / t)) = -(u * u' - Re.of 1) from Re.ext fun k => by
      simp only [re_sub, re_mul, re_of, re_neg]
      generalize 1 / t = w at e
      grind]
    exact null_neg h
  have h2 := sgR_same h1
  rw [sgR_mul, sgR_mul, hu, sg_pos ht, Int.mul_one, Int.one_mul] at h2
  exact h2
theorem gt_of {a : Re} {n : Int} {x : Rat} (ha : leR (Re.of (n : Rat)) a) (h : sgR (Re.of x - a) = 1) : (n : Rat) < x := by
  have h1 : leR a (Re.of x) := by unfold leR; omega
  have h2 := of_le_iff (le_tr ha h1)
  apply Classical.byContradiction
  intro hn
  have he : x = (n : Rat) := by grind
  subst he
  have h3 : 0 ≤ sgR (a - Re.of (n : Rat)) := ha
  rw [show a - Re.of (n : Rat) = -(Re.of (n : Rat) - a) from Re.ext fun k => by simp only [re_sub, re_neg]; grind, sgR_neg, h] at h3
  omega
section
variable {a b a' b' : Re} {n : Int}
theorem shift_sg (x : Rat) : Re.of x - a = Re.of (x - (n : Rat)) - (a - Re.of (n : Rat)) := Re.ext fun k => by simp only [re_sub, re_of]; grind
theorem shift_sg2 (x : Rat) : b - Re.of x = -(Re.of (x - (n : Rat)) - (b - Re.of (n : Rat))) := Re.ext fun k => by simp only [re_sub, re_of, re_neg]; grind
theorem flip_sg (u v : Re) : sgR (u - v) = -sgR (v - u) := by rw [← sgR_neg]; exact congrArg sgR (Re.ext fun k => by simp only [re_sub, re_neg]; grind)
theorem InR_step (ha : leR (Re.of (n : Rat)) a) (h1 : sgR ((a - Re.of (n : Rat)) * a' - Re.of 1) = 0) (ha' : sgR a' = 1) (h2 : sgR ((b - Re.of (n : Rat)) * b' - Re.of 1) = 0) (hb' : sgR b' = 1) (x : Rat) :
    InR a b x ↔ (n : Rat) < x ∧ InR b' a' (1 / (x - (n : Rat))) := by
  constructor
  · intro ⟨g1, g2⟩
    have hx := gt_of ha g1
    have ht : 0 < x - (n : Rat) := by grind
    refine ⟨hx, ?_, ?_⟩
    · rw [shift_sg2 (n := n), sgR_neg, inv_lt h2 hb' ht] at g2
      rw [flip_sg]; exact g2
    · rw [shift_sg (n := n), inv_lt h1 ha' ht] at g1; exact g1
  · intro ⟨hx, g1, g2⟩
    have ht : 0 < x - (n : Rat) := by grind
    refine ⟨?_, ?_⟩
    · rw [shift_sg (n := n), inv_lt h1 ha' ht]; exact g2
    · rw [shift_sg2 (n := n), sgR_neg, inv_lt h2 hb' ht, ← flip_sg]; exact g1
theorem InR_last (ha : sgR (a - Re.of (n : Rat)) = 0) (h2 : sgR ((b - Re.of (n : Rat)) * b' - Re.of 1) = 0) (hb' : sgR b' = 1) (x : Rat) :
    InR a b x ↔ (n : Rat) < x ∧ sgR (Re.of (1 / (x - (n : Rat))) - b') = 1 := by
  have hl : leR (Re.of (n : Rat)) a := by unfold leR; omega
  constructor
  · intro ⟨g1, g2⟩
    have hx := gt_of hl g1
    have ht : 0 < x - (n : Rat) := by grind
    refine ⟨hx, ?_⟩
    rw [shift_sg2 (n := n), sgR_neg, inv_lt h2 hb' ht] at g2
    rw [flip_sg]; exact g2
  · intro ⟨hx, g1⟩
    have ht : 0 < x - (n : Rat) := by grind
    refine ⟨?_, ?_⟩
    · rw [shift_sg (n := n)]
      have h3 : sgR (Re.of (x - (n : Rat)) - (a - Re.of (n : Rat))) = sgR (Re.of (x - (n : Rat))) := sgR_same (by
        rw [show Re.of (x - (n : Rat)) - (a - Re.of (n : Rat)) - Re.of (x - (n : Rat)) = -(a - Re.of (n : Rat)) from Re.ext fun k => by simp only [re_sub, re_neg]; grind]
        exact null_neg ha)
      rw [h3]; exact sg_pos ht
    · rw [shift_sg2 (n := n), sgR_neg, inv_lt h2 hb' ht, ← flip_sg]; exact g1
theorem TMin_whole (hn : 0 ≤ n) (ha : leR (Re.of (n : Rat)) a) (h1 : sgR (Re.of ((n + 1 : Int) : Rat) - a) = 1) (h2 : sgR (b - Re.of ((n + 1 : Int) : Rat)) = 1) : TMin (InR a b) (n + 1) 1 :=
  TMin.whole hn ⟨h1, h2⟩ fun _x hx => gt_of ha hx.1
theorem TMin_above {m : Int} (hm : 0 ≤ m) (hb : leR (Re.of (m : Rat)) b') (h1 : sgR (Re.of ((m + 1 : Int) : Rat) - b') = 1) : TMin (fun x => sgR (Re.of x - b') = 1) (m + 1) 1 :=
  TMin.whole hm h1 fun _x hx => gt_of hb hx
end
theorem irr_ne {x y z : Rat} (hy : y ≠ 0) (hv : 0 < z ∧ sqR z = false) (m : Rat) : sgR (val3 x y z - Re.of m) ≠ 0 := by
  obtain ⟨z0, zs⟩ := hv
  have hz : 0 ≤ z := by grind
  intro h
  have h8 : sgR (val3 (x - m) y z) = 0 := by
    rw [show val3 (x - m) y z = val3 x y z - Re.of m from Re.ext fun k => by simp only [val3, re_add, re_mul, re_of, re_sub]; grind]
    exact h
  rw [← rtSg_val hz (fun _ => z0)] at h8
  have hyn : cmpR y 0 ≠ 0 := fun e => hy (cmpR_z e)
  unfold rtSg at h8
  split at h8
  · rename_i g
    rcases g with g | g
    · exact hyn g
    · rw [h8] at g; exact hyn g.symm
  · split at h8
    · exact hyn h8
    · rename_i g1 g2
      have h9 : cmpR ((x - m) * (x - m) - y * y * z) 0 = 0 := (Int.mul_eq_zero.1 h8).resolve_left g2
      have h10 := cmpR_z h9
      have h11 : z = (x - m) / y * ((x - m) / y) := by
        have hq : (x - m) / y * y = x - m := Rat.div_mul_cancel hy
        have h12 : y * y * ((x - m) / y * ((x - m) / y)) = y * y * z := by grind
        have h13 : y * y * ((x - m) / y * ((x - m) / y) - z) = 0 := by grind
        rcases Rat.mul_eq_zero.1 h13 with e | e
        · rcases Rat.mul_eq_zero.1 e with e | e <;> exact absurd e hy
        · grind
      rw [h11, sqR_sq] at zs
      cases zs
theorem flR_lt {x y z : Rat} (hz : 0 ≤ z) (hv : y ≠ 0 → 0 < z ∧ sqR z = false) : sgR (Re.of ((flR x y z + 1 : Int) : Rat) - val3 x y z) = 1 := by
  have h := (flR_in (a := x) (b := y) hz).2
  have h0 : 0 ≤ sgR (Re.of ((flR x y z + 1 : Int) : Rat) - val3 x y z) := h
  by_cases hy : y = 0
  · subst hy
    have hd := den_pos x
    rw [flR_0 rfl] at *
    have hf := (fd_le (Z := x.num) hd).2
    rw [show Re.of (((x.num.fdiv (x.den : Int) + 1 : Int)) : Rat) - val3 x 0 z = Re.of (((x.num.fdiv (x.den : Int) + 1 : Int) : Rat) - x) from Re.ext fun k => by simp only [val3, re_sub, re_add, re_mul, re_of]; grind]
    refine sg_pos ?_
    apply Classical.byContradiction
    intro hn
    have h2 := Rat.mul_le_mul_of_nonneg_right (show ((x.num.fdiv (x.den : Int) + 1 : Int) : Rat) ≤ x by grind) (ic_nn (show 0 ≤ (x.den : Int) by omega))
    rw [r_num, ← Rat.intCast_mul] at h2
    have h3 := Rat.intCast_le_intCast.1 h2
    omega
  · have h1 := irr_ne (x := x) hy (hv hy) ((flR x y z + 1 : Int) : Rat)
    rw [flip_sg] at h1
    rcases sgR_cases (Re.of ((flR x y z + 1 : Int) : Rat) - val3 x y z) with g | g | g <;> omega
structure Vl (B C : Rat) : Prop where
  c0 : 0 ≤ C
  v : B ≠ 0 → 0 < C ∧ sqR C = false
  z : B = 0 → C = 0
theorem norm_ne {x y z : Rat} (hv : y ≠ 0 → 0 < z ∧ sqR z = false) (h : sgR (val3 x y z) ≠ 0) : x * x - y * y * z ≠ 0 := by
  intro e
  by_cases hy : y = 0
  · subst hy
    have h1 : x * x = 0 := by grind
    have h2 : x = 0 := by rcases Rat.mul_eq_zero.1 h1 with h | h <;> exact h
    apply h
    rw [h2, show val3 0 0 z = Re.of 0 from Re.ext fun k => by simp only [val3, re_add, re_mul, re_of]; grind, sgR_of]
    decide
  · obtain ⟨_, zs⟩ := hv hy
    have h11 : z = x / y * (x / y) := by
      have hq : x / y * y = x := Rat.div_mul_cancel hy
      have h13 : y * y * (x / y * (x / y) - z) = 0 := by grind
      rcases Rat.mul_eq_zero.1 h13 with e | e
      · rcases Rat.mul_eq_zero.1 e with e | e <;> exact absurd e hy
      · grind
    rw [h11, sqR_sq] at zs
    cases zs
theorem inv_val {x y z w : Rat} (hz : 0 ≤ z) (hw : (x * x - y * y * z) * w = 1) : sgR (val3 x y z * val3 (x * w) (-y * w) z - Re.of 1) = 0 := by
  rw [show val3 x y z * val3 (x * w) (-y * w) z - Re.of 1 = Re.of (-(w * y * y)) * (Re.rt z * Re.rt z - Re.of z) from Re.ext fun k => by simp only [val3, re_sub, re_add, re_mul, re_of]; grind]
  exact null_mul _ (rt_sq hz)
theorem inv_pos {u u' : Re} (h : sgR (u * u' - Re.of 1) = 0) (hu : sgR u = 1) : sgR u' = 1 := by
  have h2 := sgR_same h
  rw [sgR_mul, hu, Int.one_mul, sg_pos (by decide)] at h2
  exact h2
theorem inv_ge {u u' : Re} (h : sgR (u * u' - Re.of 1) = 0) (hu : sgR u = 1) (h1 : leR u (Re.of 1)) : leR (Re.of 1) u' := by
  have hp := inv_pos h hu
  have h2 := leR_mul_r (X := u') (by omega) h1
  have h3 : leR (Re.of 1) (u' * u) := by
    refine leR_same_r (y := Re.of 1) ?_ (leR_refl _)
    rw [flip_sg, show u' * u - Re.of 1 = u * u' - Re.of 1 from Re.ext fun k => by simp only [re_sub, re_mul]; grind, h]; rfl
  have h4 := le_tr h3 h2
  rw [show u' * Re.of 1 = u' from Re.ext fun k => by simp only [re_mul, re_of]; grind] at h4
  exact h4
theorem inv_order {u v u' v' : Re} (h1 : sgR (u * u' - Re.of 1) = 0) (h2 : sgR (v * v' - Re.of 1) = 0) (hu : sgR u = 1) (hv : sgR v = 1) (h : sgR (v - u) = 1) : sgR (u' - v') = 1 := by
  have h3 : sgR (u * v * (u' - v') - (v - u)) = 0 := by
    rw [show u * v * (u' - v') - (v - u) = v * (u * u' - Re.of 1) + -(u * (v * v' - Re.of 1)) from Re.ext fun k => by simp only [re_sub, re_add, re_mul, re_of, re_neg]; grind]
    exact sg_null (null_mul _ h1) (null_neg (null_mul _ h2))
  have h4 := sgR_same h3
  rw [sgR_mul, sgR_mul, hu, hv, h] at h4
  omega
theorem ne_pos {x : Rat} (h : 0 < x) : x ≠ 0 := by grind
theorem inv_p {x : Rat} (h : 0 < x) : 0 < 1 / x := by
  have h1 := inv_nn h
  have e : 1 / x * x = 1 := Rat.div_mul_cancel (ne_pos h)
  apply Classical.byContradiction
  intro hc
  have h2 : 1 / x = 0 := by grind
  rw [h2] at e
  grind
section
variable {A0 B0 C D0 E0 F A B D E : Rat} {p q r s : Int}
theorem Mob.vl (m : Mob A0 B0 C p q r s A B) (h : Vl B0 C) : Vl B C := by
  have hs := m.sol.2
  have hne := m.ne h.v
  have hdr : ((p * s - q * r : Int) : Rat) ≠ 0 := by rcases m.det with hd | hd <;> rw [hd] <;> decide
  refine ⟨h.c0, fun hb => h.v ?_, fun hb => h.z ?_⟩
  · intro e
    have hz := hs.trans (show B0 * ((p * s - q * r : Int) : Rat) = 0 by rw [e, Rat.zero_mul])
    rcases Rat.mul_eq_zero.1 hz with g | g
    · exact hb g
    · exact hne g
  · have hz := hs.symm.trans (show B * (((p : Rat) - (r : Rat) * A0) * ((p : Rat) - (r : Rat) * A0) - (r : Rat) * (r : Rat) * (B0 * B0 * C)) = 0 by rw [hb, Rat.zero_mul])
    rcases Rat.mul_eq_zero.1 hz with g | g
    · exact g
    · exact absurd g hdr
structure BSt (U : Int) (h : Nat) (A0 B0 C D0 E0 F : Rat) (p q r s : Int) (A B D E : Rat) : Prop where
  m1 : Mob A0 B0 C p q r s A B
  m2 : Mob D0 E0 F p q r s D E
  v1 : Vl B0 C
  v2 : Vl E0 F
  p0 : 0 ≤ p
  q0 : 0 ≤ q
  r0 : 0 ≤ r
  s0 : 0 ≤ s
  u1 : 1 ≤ U
  pU : p ≤ U * (r + s)
  qU : q ≤ U * (r + s)
  rh : r ≤ pw h
  sh : s ≤ pw h
  V0 : 0 ≤ sgR (val3 A0 B0 C)
  W0 : 0 ≤ sgR (val3 D0 E0 F)
  VU : leR (val3 A0 B0 C) (Re.of (U : Rat))
  WU : leR (val3 D0 E0 F) (Re.of (U : Rat))
  sep : leR (Re.of (1 / ((pw (h + h) : Int) : Rat))) (val3 A0 B0 C - val3 D0 E0 F) ∨ leR (Re.of (1 / ((pw (h + h) : Int) : Rat))) (val3 D0 E0 F - val3 A0 B0 C)
  a0 : 0 ≤ sgR (val3 A B C)
  au : leR (val3 A B C) (Re.of ((pw (h + h) : Int) : Rat))
  ab : sgR (val3 D E F - val3 A B C) = 1
  st : (r = 0 ∧ s = 1) ∨ (1 ≤ r ∧ leR (Re.of 1) (val3 A B C))
theorem sq_le_pw {x : Int} {h : Nat} (hx : 0 ≤ x) (hs : x * x ≤ pw (h + h)) : x ≤ pw h := by
  rw [pw_add] at hs
  apply Classical.byContradiction
  intro hn
  have hp := pw_pos h
  have h1 : (pw h + 1) * (pw h + 1) ≤ x * x := Int.mul_le_mul (by omega) (by omega) (by omega) (by omega)
  have h2 : (pw h + 1) * (pw h + 1) = pw h * pw h + pw h + pw h + 1 := by grind
  omega
variable {U : Int} {h : Nat} {n : Int}
theorem val3_sub (x y z : Rat) (n : Int) : val3 (x - (n : Rat)) y z = val3 x y z - Re.of (n : Rat) := Re.ext fun k => by simp only [val3, re_sub, re_add, re_mul, re_of]; grind
theorem BSt.n0 (S : BSt U h A0 B0 C D0 E0 F p q r s A B D E) (hx : sgR (Re.of ((n + 1 : Int) : Rat) - val3 A B C) = 1) : 0 ≤ n ∧ (1 ≤ r → 1 ≤ n) := by
  have key : ∀ m : Int, leR (Re.of (m : Rat)) (val3 A B C) → m < n + 1 := by
    intro m hm
    have := gt_of (x := ((n + 1 : Int) : Rat)) hm hx
    exact Rat.intCast_lt_intCast.1 this
  refine ⟨?_, fun hr => ?_⟩
  · have := key 0 (leR_nn S.a0); omega
  · rcases S.st with ⟨e, _⟩ | ⟨_, e⟩
    · omega
    · have := key 1 e; omega
theorem BSt.next_r (S : BSt U h A0 B0 C D0 E0 F p q r s A B D E) (hn : 0 ≤ n) (x0 : leR (Re.of (n : Rat)) (val3 A B C)) (x1 : leR (val3 A B C) (Re.of ((n + 1 : Int) : Rat))) (y1 : leR (val3 D E F) (Re.of ((n + 1 : Int) : Rat))) : r * n + s ≤ pw h := by
  have hR0 : 0 ≤ r * n + s := by have := Int.mul_nonneg S.r0 hn; have := S.s0; omega
  have y0 : leR (Re.of (n : Rat)) (val3 D E F) := le_tr x0 (by unfold leR; have := S.ab; omega)
  refine sq_le_pw hR0 ?_
  rcases S.sep with e | e
  · exact mob_bound S.r0 S.s0 hn S.m1.det (S.m1.real S.v1.c0) (S.m2.real S.v2.c0) x0 x1 y0 y1 e
  · exact mob_bound S.r0 S.s0 hn S.m2.det (S.m2.real S.v2.c0) (S.m1.real S.v1.c0) y0 y1 x0 x1 e
theorem BSt.z1 (S : BSt U h A0 B0 C D0 E0 F p q r s A B D E) {X : Re} (hX : leR (val3 A B C) X) : leR (Re.of 1) (Re.of (r : Rat) * X + Re.of (s : Rat)) := by
  rcases S.st with ⟨e1, e2⟩ | ⟨e1, e2⟩
  · rw [e1, e2]
    have h0 : ((0 : Int) : Rat) = 0 := rfl
    have h1 : ((1 : Int) : Rat) = 1 := rfl
    rw [h0, h1, show Re.of 0 * X + Re.of 1 = Re.of 1 from Re.ext fun k => by simp only [re_add, re_mul, re_of]; grind]
    exact leR_refl _
  · have h1 : ((1 : Int) : Rat) = 1 := rfl
    have := den_low (s := s) (n := 1) S.r0 (le_tr (by rw [h1]; exact e2) hX)
    refine le_tr (of_le ?_) this
    have h2 : ((1 : Int) : Rat) ≤ ((r * 1 + s : Int) : Rat) := Rat.intCast_le_intCast.2 (by have := S.s0; omega)
    exact h2
theorem BSt.gap (S : BSt U h A0 B0 C D0 E0 F p q r s A B D E) : leR (Re.of (1 / ((pw (h + h) : Int) : Rat))) (val3 D E F - val3 A B C) := by
  have hab : leR (val3 A B C) (val3 D E F) := by unfold leR; have := S.ab; omega
  have zx := S.z1 (leR_refl _)
  have zy := S.z1 hab
  have ie : (0 : Rat) ≤ 1 / ((pw (h + h) : Int) : Rat) := inv_nn (pwr_pos _)
  have one0 : 0 ≤ sgR (Re.of 1) := of_nn (by decide)
  have m1 := mul_mono one0 zx (nn_leR (le_tr (of_le (by decide)) zx)) zy
  have e11 : Re.of 1 * Re.of 1 = Re.of 1 := by rw [of_mul, Rat.mul_one]
  rw [e11] at m1
  have main : ∀ {A0 B0 C0 D0 E0 F0 : Rat} {X Y : Re}, sgR (val3 A0 B0 C0 * (Re.of (r : Rat) * X + Re.of (s : Rat)) - (Re.of (p : Rat) * X + Re.of (q : Rat))) = 0 → sgR (val3 D0 E0 F0 * (Re.of (r : Rat) * Y + Re.of (s : Rat)) - (Re.of (p : Rat) * Y + Re.of (q : Rat))) = 0 →
      leR (Re.of 1) ((Re.of (r : Rat) * X + Re.of (s : Rat)) * (Re.of (r : Rat) * Y + Re.of (s : Rat))) → leR (Re.of (1 / ((pw (h + h) : Int) : Rat))) (val3 A0 B0 C0 - val3 D0 E0 F0) → leR (Re.of (1 / ((pw (h + h) : Int) : Rat))) (X - Y) ∨ leR (Re.of (1 / ((pw (h + h) : Int) : Rat))) (Y - X) := by
    intro A0 B0 C0 D0 E0 F0 X Y hX hY hm he
    have e1 := dist_eq hX hY
    have dp : 0 ≤ sgR (val3 A0 B0 C0 - val3 D0 E0 F0) := nn_leR (le_tr (of_le ie) he)
    have m2 := mul_mono one0 he dp hm
    rw [show Re.of (1 / ((pw (h + h) : Int) : Rat)) * Re.of 1 = Re.of (1 / ((pw (h + h) : Int) : Rat)) from by rw [of_mul, Rat.mul_one]] at m2
    have m3 := leR_same_r e1 m2
    rcases S.m1.det with hd | hd <;> rw [hd] at m3
    · left
      rw [show Re.of ((1 : Int) : Rat) * (X - Y) = X - Y from Re.ext fun k => by
        have h1 : ((1 : Int) : Rat) = 1 := rfl
        simp only [re_sub, re_mul, re_of, h1]; grind] at m3
      exact m3
    · right
      rw [show Re.of ((-1 : Int) : Rat) * (X - Y) = Y - X from Re.ext fun k => by
        have h1 : ((-1 : Int) : Rat) = -1 := rfl
        simp only [re_sub, re_mul, re_of, h1]; grind] at m3
      exact m3
  have fin : leR (Re.of (1 / ((pw (h + h) : Int) : Rat))) (val3 A B C - val3 D E F) → leR (Re.of (1 / ((pw (h + h) : Int) : Rat))) (val3 D E F - val3 A B C) := by
    intro hq
    have := nn_leR (le_tr (of_le ie) hq)
    rw [flip_sg, S.ab] at this
    omega
  rcases S.sep with e | e
  · rcases main (S.m1.real S.v1.c0) (S.m2.real S.v2.c0) m1 e with g | g
    · exact fin g
    · exact g
  · have m1' : leR (Re.of 1) ((Re.of (r : Rat) * val3 D E F + Re.of (s : Rat)) * (Re.of (r : Rat) * val3 A B C + Re.of (s : Rat))) := by
      rw [show (Re.of (r : Rat) * val3 D E F + Re.of (s : Rat)) * (Re.of (r : Rat) * val3 A B C + Re.of (s : Rat)) = (Re.of (r : Rat) * val3 A B C + Re.of (s : Rat)) * (Re.of (r : Rat) * val3 D E F + Re.of (s : Rat)) from Re.ext fun k => by simp only [re_mul]; grind]; exact m1
    rcases main (S.m2.real S.v2.c0) (S.m1.real S.v1.c0) m1' e with g | g
    · exact g
    · exact fin g
theorem inv_up {u u' : Re} {K : Nat} (h : sgR (u * u' - Re.of 1) = 0) (hu : sgR u = 1) (h1 : leR (Re.of (1 / ((pw K : Int) : Rat))) u) : leR u' (Re.of ((pw K : Int) : Rat)) := by
  have hp := inv_pos h hu
  have hk := pwr_pos K
  have h2 := leR_mul_r (X := u') (by omega) h1
  have h3 : leR (u' * u) (Re.of 1) := by
    refine leR_same_l (x := Re.of 1) ?_ (leR_refl _)
    rw [show u' * u - Re.of 1 = u * u' - Re.of 1 from Re.ext fun k => by simp only [re_sub, re_mul]; grind]; exact h
  have h4 := le_tr h2 h3
  have e : 1 / ((pw K : Int) : Rat) * ((pw K : Int) : Rat) = 1 := Rat.div_mul_cancel (ne_pos hk)
  refine leR_scale (d := 1 / ((pw K : Int) : Rat)) (inv_p hk) ?_
  rw [of_mul, e, show Re.of (1 / ((pw K : Int) : Rat)) * u' = u' * Re.of (1 / ((pw K : Int) : Rat)) from Re.ext fun k => by simp only [re_mul]; grind]
  exact h4
theorem BSt.step (S : BSt U h A0 B0 C D0 E0 F p q r s A B D E) (x0 : leR (Re.of (n : Rat)) (val3 A B C)) (x1 : sgR (Re.of ((n + 1 : Int) : Rat) - val3 A B C) = 1) (y1 : leR (val3 D E F) (Re.of ((n + 1 : Int) : Rat))) (hz : sgR (val3 A B C - Re.of (n : Rat)) = 1)
    {w1 w2 : Rat} (hw1 : ((A - (n : Rat)) * (A - (n : Rat)) - B * B * C) * w1 = 1) (hw2 : ((D - (n : Rat)) * (D - (n : Rat)) - E * E * F) * w2 = 1) :
    BSt U h D0 E0 F A0 B0 C (p * n + q) p (r * n + s) r ((D - (n : Rat)) * w2) (-E * w2) ((A - (n : Rat)) * w1) (-B * w1) ∧ 2 * r + s < 2 * (r * n + s) + r ∧ 0 ≤ n := by
  obtain ⟨hn, hn1⟩ := S.n0 x1
  have hrn := Int.mul_nonneg S.r0 hn
  have hpn := Int.mul_nonneg S.p0 hn
  have s0 := S.s0
  have r0 := S.r0
  have q0 := S.q0
  have hbn : sgR (val3 D E F - Re.of (n : Rat)) = 1 := by
    have h1 := sgR_add_le (x := Re.of 0) (y := val3 A B C - Re.of (n : Rat)) (u := Re.of 0) (v := val3 D E F - val3 A B C) (leR_nn (by omega)) (leR_nn (by have := S.ab; omega))
    rcases sgR_cases (val3 D E F - Re.of (n : Rat)) with g | g | g
    · exact g
    · exfalso
      have h2 := S.ab
      have h3 : sgR (val3 D E F - val3 A B C - -(val3 A B C - Re.of (n : Rat))) = 0 := by
        rw [show val3 D E F - val3 A B C - -(val3 A B C - Re.of (n : Rat)) = val3 D E F - Re.of (n : Rat) from Re.ext fun k => by simp only [re_sub, re_neg]; grind]; exact g
      have h4 := sgR_same h3
      rw [sgR_neg, hz, h2] at h4
      omega
    · exfalso
      have h2 : leR (val3 D E F) (Re.of (n : Rat)) := by unfold leR; rw [flip_sg, g]; decide
      have h3 := le_tr (le_tr (by unfold leR; have := S.ab; omega : leR (val3 A B C) (val3 D E F)) h2) (leR_refl _)
      have h4 : 0 ≤ sgR (Re.of (n : Rat) - val3 A B C) := h3
      rw [flip_sg, hz] at h4
      omega
  have i1 : sgR ((val3 A B C - Re.of (n : Rat)) * val3 ((A - (n : Rat)) * w1) (-B * w1) C - Re.of 1) = 0 := by
    rw [← val3_sub]; exact inv_val S.v1.c0 hw1
  have i2 : sgR ((val3 D E F - Re.of (n : Rat)) * val3 ((D - (n : Rat)) * w2) (-E * w2) F - Re.of 1) = 0 := by
    rw [← val3_sub]; exact inv_val S.v2.c0 hw2
  have le1 : leR (val3 D E F - Re.of (n : Rat)) (Re.of 1) := by
    refine one_up (n := n) y1 (leR_refl _)
  have t1 := inv_ge i2 hbn le1
  have gb : leR (val3 D E F - val3 A B C) (val3 D E F - Re.of (n : Rat)) := by
    unfold leR
    rw [show val3 D E F - Re.of (n : Rat) - (val3 D E F - val3 A B C) = val3 A B C - Re.of (n : Rat) from Re.ext fun k => by simp only [re_sub]; grind]; omega
  have tp := inv_pos i2 hbn
  have hr1 : 1 ≤ r * n + s := by
    rcases S.st with ⟨e1, e2⟩ | ⟨e1, _⟩
    · rw [e1, e2]; omega
    · have := Int.mul_le_mul e1 (hn1 e1) (by omega) (by omega); omega
  have x1' : leR (val3 A B C) (Re.of ((n + 1 : Int) : Rat)) := by unfold leR; omega
  have hrb := S.next_r hn x0 x1' y1
  have m1' := (S.m2.shift n).inv hw2
  have m2' := (S.m1.shift n).inv hw1
  refine ⟨⟨m1', m2', S.v2, S.v1, by omega, S.p0, by omega, r0, S.u1, ?_, ?_, hrb, S.rh, S.W0, S.V0, S.WU, S.VU, S.sep.symm, by omega, inv_up i2 hbn (le_tr S.gap gb), inv_order i1 i2 hz hbn (by
      rw [show val3 D E F - Re.of (n : Rat) - (val3 A B C - Re.of (n : Rat)) = val3 D E F - val3 A B C from Re.ext fun k => by simp only [re_sub]; grind]; exact S.ab), .inr ⟨hr1, t1⟩⟩, ?_, hn⟩
  · exact mob_p S.p0 r0 (by omega) (m1'.real S.v2.c0) t1 S.W0 S.WU
  · have h1 := Int.mul_le_mul_of_nonneg_left (show r + s ≤ r * n + s + r by omega) (show 0 ≤ U by have := S.u1; omega)
    have := S.pU
    omega
  · rcases S.st with ⟨e1, e2⟩ | ⟨e1, _⟩
    · rw [e1, e2]; omega
    · have := Int.mul_le_mul (Int.le_refl r) (hn1 e1) (by omega) r0; omega
end
theorem pos_of_le {e : Rat} {X : Re} (he : 0 < e) (h : leR (Re.of e) X) : sgR X = 1 := by
  have h0 := nn_leR (le_tr (of_le (show (0 : Rat) ≤ e by grind)) h)
  rcases sgR_cases X with g | g | g
  · exact g
  · exfalso
    have h1 : sgR (X - Re.of e - -(Re.of e)) = 0 := by
      rw [show X - Re.of e - -(Re.of e) = X from Re.ext fun k => by simp only [re_sub, re_neg]; grind]; exact g
    have h2 := sgR_same h1
    rw [sgR_neg, sg_pos he] at h2
    have h3 : 0 ≤ sgR (X - Re.of e) := h
    omega
  · omega
theorem nn_sum {x y : Re} (h : 0 ≤ sgR x) (g : 0 ≤ sgR y) : 0 ≤ sgR (x + y) := by
  have := sgR_add_le (leR_nn h) (leR_nn g)
  rw [show Re.of 0 + Re.of 0 = Re.of 0 from Re.ext fun k => by simp only [re_add, re_of]; grind] at this
  exact nn_leR this
theorem inv_gap {x : Rat} (h : 0 < x) : 1 / (x + 1) < 1 / x := by
  have h1 : 0 < x + 1 := by grind
  have e1 : 1 / x * x = 1 := Rat.div_mul_cancel (ne_pos h)
  have e2 : 1 / (x + 1) * (x + 1) = 1 := Rat.div_mul_cancel (ne_pos h1)
  have p1 := inv_p h1
  generalize 1 / x = u at *
  generalize 1 / (x + 1) = v at *
  apply Classical.byContradiction
  intro hn
  have h2 := Rat.mul_le_mul_of_nonneg_right (show u ≤ v by grind) (show 0 ≤ x by grind)
  grind
theorem fr_next {k N : Int} (h : 0 < N) : fr (k + 1) N = fr k N + 1 / (N : Rat) := by
  refine fr_eq h ?_
  have e1 := fr_mul (p := k) h
  have e2 : 1 / (N : Rat) * (N : Rat) = 1 := Rat.div_mul_cancel (ic_ne (by omega))
  rw [Rat.intCast_add]
  have h1 : ((1 : Int) : Rat) = 1 := rfl
  rw [h1]; grind
theorem pw_one1 (K : Nat) : pw K + 1 < pw (K + 1) := by
  rw [pw_succ]; have := pw_pos K; omega
theorem pw_two (K : Nat) : (pw K + 1) * pw K + 1 < pw (K + K + 1) := by
  rw [pw_succ, pw_add]
  have h := pw_pos K
  have h1 := Int.mul_le_mul_of_nonneg_left h (show 0 ≤ pw K by omega)
  rw [Int.add_mul]
  omega
theorem TMin.bound {x y z : Rat} {b : Re} {P Q : Int} {K : Nat} (hv : Vl y z) (h : TMin (InR (val3 x y z) b) P Q) (au : leR (val3 x y z) (Re.of ((pw K : Int) : Rat))) (gap : leR (Re.of (1 / ((pw K : Int) : Rat))) (b - val3 x y z)) : P < pw (K + K + 1) ∧ Q < pw (K + 1) := by
  have hp := pw_pos K
  have p1 := pw_one1 K
  have p2 := pw_two K
  have hN : 0 < pw K + 1 := by omega
  have hNr := ic_pos hN
  have hK := pwr_pos K
  have eN : ((pw K + 1 : Int) : Rat) = ((pw K : Int) : Rat) + 1 := by rw [Rat.intCast_add]; rfl
  have hg := inv_gap hK
  rw [← eN] at hg
  have hvs : y * ((pw K + 1 : Int) : Rat) ≠ 0 → 0 < z ∧ sqR z = false := fun e => hv.v (by intro e2; apply e; rw [e2, Rat.zero_mul])
  have es : val3 (x * ((pw K + 1 : Int) : Rat)) (y * ((pw K + 1 : Int) : Rat)) z = Re.of ((pw K + 1 : Int) : Rat) * val3 x y z := Re.ext fun i => by simp only [val3, re_add, re_mul, re_of]; grind
  have f1 : leR (Re.of ((flR (x * ((pw K + 1 : Int) : Rat)) (y * ((pw K + 1 : Int) : Rat)) z : Int) : Rat)) (val3 (x * ((pw K + 1 : Int) : Rat)) (y * ((pw K + 1 : Int) : Rat)) z) := (flR_in hv.c0).1
  have f2 := flR_lt (x := x * ((pw K + 1 : Int) : Rat)) (y := y * ((pw K + 1 : Int) : Rat)) hv.c0 hvs
  rw [es] at f1 f2
  have f3 := le_tr f1 (leR_scale2 hNr au)
  rw [of_mul, ← Rat.intCast_mul] at f3
  have f4 := Rat.intCast_le_intCast.1 (of_le_iff f3)
  generalize flR (x * ((pw K + 1 : Int) : Rat)) (y * ((pw K + 1 : Int) : Rat)) z = k at *
  have e0 := fr_mul (p := k) hN
  have e1 := fr_mul (p := k + 1) hN
  have e3 := fr_next (k := k) hN
  have g1 : sgR (Re.of (fr (k + 1) (pw K + 1)) - val3 x y z) = 1 := by
    rw [show Re.of ((k + 1 : Int) : Rat) - Re.of ((pw K + 1 : Int) : Rat) * val3 x y z = Re.of ((pw K + 1 : Int) : Rat) * (Re.of (fr (k + 1) (pw K + 1)) - val3 x y z) from Re.ext fun i => by
      simp only [re_sub, re_mul, re_of]; rw [← e1]; grind, sgR_mul, sg_pos hNr, Int.one_mul] at f2
    exact f2
  have g3 : 0 ≤ sgR (val3 x y z - Re.of (fr k (pw K + 1))) := by
    refine leR_scale (d := ((pw K + 1 : Int) : Rat)) hNr ?_
    rw [of_mul, show ((pw K + 1 : Int) : Rat) * fr k (pw K + 1) = (k : Rat) from by rw [Rat.mul_comm]; exact e0]
    exact f1
  have g2 : sgR (b - Re.of (fr (k + 1) (pw K + 1))) = 1 := by
    have h0 : 0 < 1 / ((pw K : Int) : Rat) - 1 / ((pw K + 1 : Int) : Rat) := by grind
    refine pos_of_le h0 ?_
    have h1 : 0 ≤ sgR (b - val3 x y z - Re.of (1 / ((pw K : Int) : Rat))) := gap
    have h2 := nn_sum h1 g3
    show 0 ≤ sgR _
    rw [e3]
    rw [show b - Re.of (fr k (pw K + 1) + 1 / ((pw K + 1 : Int) : Rat)) - Re.of (1 / ((pw K : Int) : Rat) - 1 / ((pw K + 1 : Int) : Rat)) = b - val3 x y z - Re.of (1 / ((pw K : Int) : Rat)) + (val3 x y z - Re.of (fr k (pw K + 1))) from Re.ext fun i => by
      simp only [re_sub, re_add, re_of]; grind]
    exact h2
  obtain ⟨m1, m2⟩ := h.min (k + 1) (pw K + 1) hN ⟨g1, g2⟩
  exact ⟨by omega, by omega⟩
theorem TMin.rz {S : Rat → Prop} {P Q : Int} {k : Nat} (h : TMin S P Q) (hP : P < pw k) (hQ : Q < pw k) : Rz k (fr P Q) := by
  obtain ⟨e1, e2⟩ := h.den
  have := h.p
  have := h.q
  exact ⟨by rw [e1]; exact ⟨by omega, by omega⟩, by rw [e2]; exact ⟨by omega, by omega⟩⟩
section
variable {A0 B0 C D0 E0 F A B D E : Rat} {p q r s n : Int}
theorem rz_le {k : Nat} {x : Int} (h0 : 0 ≤ x) (h : x ≤ pw k) : Rz (k + 1) (x : Rat) := by
  have := pw_one1 k
  exact Rz.int ⟨by omega, by omega⟩ (by omega)
theorem U_le {r s : Int} (hr : r ≤ pw 59) (hs : s ≤ pw 59) : pw 7 * (r + s) ≤ pw 67 := by
  have h1 := Int.mul_le_mul_of_nonneg_left (show r + s ≤ 2 * pw 59 by omega) (show 0 ≤ pw 7 by have := pw_pos 7; omega)
  have h2 : pw 66 = pw 7 * pw 59 := pw_add 7 59
  have h3 : pw 67 = 1000000000 * pw 66 := pw_succ 66
  have h4 : pw 7 * (2 * pw 59) = 2 * (pw 7 * pw 59) := by grind
  have h5 := pw_pos 66
  generalize pw 7 * (r + s) = z at *
  generalize pw 7 * pw 59 = t at *
  generalize pw 7 * (2 * pw 59) = u at *
  omega
theorem BSt.szs (S : BSt (pw 7) 59 A0 B0 C D0 E0 F p q r s A B D E) (hA : Rz 12 A0) (hB : Rz 12 B0) (hC : Rz 12 C) (hD : Rz 12 D0) (hE : Rz 12 E0) (hF : Rz 12 F) : (Rz 900 A ∧ Rz 900 B) ∧ Rz 900 D ∧ Rz 900 E := by
  have hu := U_le S.rh S.sh
  have rp := rz_le S.p0 (Int.le_trans S.pU hu)
  have rq := rz_le S.q0 (Int.le_trans S.qU hu)
  have rr := rz_le S.r0 S.rh
  have rs := rz_le S.s0 S.sh
  obtain ⟨a1, a2⟩ := S.m1.sz S.v1.v hA hB hC rp rq rr rs
  obtain ⟨b1, b2⟩ := S.m2.sz S.v2.v hD hE hF rp rq rr rs
  exact ⟨⟨a1.mono (by decide), a2.mono (by decide)⟩, b1.mono (by decide), b2.mono (by decide)⟩
theorem BSt.last_sz (S : BSt (pw 7) 59 A0 B0 C D0 E0 F p q r s A B D E) (hD : Rz 12 D0) (hE : Rz 12 E0) (hF : Rz 12 F) (hn : 0 ≤ n) (x0 : leR (Re.of (n : Rat)) (val3 A B C)) (x1 : leR (val3 A B C) (Re.of ((n + 1 : Int) : Rat))) (y1 : leR (val3 D E F) (Re.of ((n + 1 : Int) : Rat)))
    {w2 : Rat} (hw2 : ((D - (n : Rat)) * (D - (n : Rat)) - E * E * F) * w2 = 1) (t1 : leR (Re.of 1) (val3 ((D - (n : Rat)) * w2) (-E * w2) F)) : Rz 900 ((D - (n : Rat)) * w2) ∧ Rz 900 (-E * w2) := by
  have hrn := Int.mul_nonneg S.r0 hn
  have hpn := Int.mul_nonneg S.p0 hn
  have s0 := S.s0
  have r0 := S.r0
  have q0 := S.q0
  have hrb := S.next_r hn x0 x1 y1
  have m1' := (S.m2.shift n).inv hw2
  have hp := mob_p S.p0 r0 (by omega) (m1'.real S.v2.c0) t1 S.W0 S.WU
  have rp := rz_le (show 0 ≤ p * n + q by omega) (Int.le_trans hp (U_le hrb S.rh))
  have rq := rz_le S.p0 (Int.le_trans S.pU (U_le S.rh S.sh))
  have rr := rz_le (show 0 ≤ r * n + s by omega) hrb
  have rs := rz_le S.r0 S.rh
  obtain ⟨a1, a2⟩ := m1'.sz S.v2.v hD hE hF rp rq rr rs
  exact ⟨a1.mono (by decide), a2.mono (by decide)⟩
end
structure Lv (A B C D E F : Rat) (n : Int) : Prop where
  hA : Rz 900 A
  hB : Rz 900 B
  hC : Rz 12 C
  hD : Rz 900 D
  hE : Rz 900 E
  hF : Rz 12 F
  v1 : Vl B C
  v2 : Vl E F
  ab : sgR (val3 D E F - val3 A B C) = 1
  nf : n = flR A B C
  nz : Sz 119 n
section
variable {A B C D E F w : Rat} {n : Int}
theorem Lv.kA (L : Lv A B C D E F n) : Rz 1600 A := L.hA.mono (by decide)
theorem Lv.kB (L : Lv A B C D E F n) : Rz 1600 B := L.hB.mono (by decide)
theorem Lv.kC (L : Lv A B C D E F n) : Rz 1600 C := L.hC.mono (by decide)
theorem Lv.kD (L : Lv A B C D E F n) : Rz 1600 D := L.hD.mono (by decide)
theorem Lv.kE (L : Lv A B C D E F n) : Rz 1600 E := L.hE.mono (by decide)
theorem Lv.kF (L : Lv A B C D E F n) : Rz 1600 F := L.hF.mono (by decide)
theorem Lv.zn (L : Lv A B C D E F n) : Rz 119 (n : Rat) := Rz.int L.nz (by decide)
theorem Lv.zn1 (L : Lv A B C D E F n) : Rz 121 ((n : Rat) + 1) := L.zn.add (l := 1) (rz_l (by decide +kernel))
theorem Lv.dn (L : Lv A B C D E F n) : Rz 1600 (D - (n : Rat)) := (L.hD.sub L.zn).mono (by decide)
theorem Lv.an (L : Lv A B C D E F n) : Rz 1600 (A - (n : Rat)) := (L.hA.sub L.zn).mono (by decide)
theorem Lv.dn1 (L : Lv A B C D E F n) : Rz 1600 (D - ((n : Rat) + 1)) := (L.hD.sub L.zn1).mono (by decide)
theorem cv1 : ((1 : Int) : Rat) = 1 := rfl
theorem of_n1 (n : Int) : Re.of ((n + 1 : Int) : Rat) = Re.of ((n : Rat) + 1) := by rw [Rat.intCast_add]; rfl
theorem val3_r {x y z d : Rat} (hz : 0 ≤ z) : signQ (x - d) y (-0) 0 z 0 = sgR (val3 x y z - Re.of d) := by
  rw [signQ_val (d := d) (e := 0) hz Rat.le_refl]
  exact congrArg sgR (Re.ext fun k => by simp only [val3, re_sub, re_add, re_mul, re_of]; grind)
theorem val3_p {x y z d : Rat} (hz : 0 ≤ z) : plainS (x - d) y z = sgR (val3 x y z - Re.of d) := by
  rw [plainS_sg hz]
  exact congrArg sgR (Re.ext fun k => by simp only [val3, re_sub, re_add, re_mul, re_of]; grind)
theorem inv_w {N w : Rat} (h : N * w = 1) : 1 / N = w ∧ N ≠ 0 := by
  have h0 : N ≠ 0 := fun e => by rw [e, Rat.zero_mul] at h; exact absurd h (by decide)
  have e : 1 / N * N = 1 := Rat.div_mul_cancel h0
  refine ⟨?_, h0⟩
  generalize 1 / N = u at *
  have h1 : u * N * w = w := by rw [e, Rat.one_mul]
  have h2 : u * N * w = u := by rw [Rat.mul_assoc, h, Rat.mul_one]
  exact h2.symm.trans h1
theorem div_w {N w : Rat} (x : Rat) (h : N * w = 1) : x / N = x * w := by
  obtain ⟨_, h0⟩ := inv_w h
  have e : x / N * N = x := Rat.div_mul_cancel h0
  have h1 : x / N * (N * w) = x * w := by rw [← Rat.mul_assoc, e]
  rw [h, Rat.mul_one] at h1
  exact h1
theorem inv_vl {x y z d w : Rat} (hv : Vl y z) (hw : ((x - d) * (x - d) - y * y * z) * w = 1) : Vl (-y * w) z := by
  have hw0 : w ≠ 0 := fun e2 => by rw [e2, Rat.mul_zero] at hw; exact absurd hw (by decide)
  refine ⟨hv.c0, fun e => hv.v fun e2 => e (by rw [e2]; grind), fun e => hv.z ?_⟩
  rcases Rat.mul_eq_zero.1 e with g | g
  · grind
  · exact absurd g hw0
theorem inv_of {x y z d w : Rat} (hv : Vl y z) (hs : sgR (val3 x y z - Re.of d) = 1) (hw : ((x - d) * (x - d) - y * y * z) * w = 1) :
    rtSg (x - d) y z ≠ 0 ∧ (x - d) * (x - d) - y * y * z ≠ 0 ∧ invN (x - d) y z = w ∧ zc (-y * w) z = z := by
  obtain ⟨h1, h2⟩ := inv_w hw
  refine ⟨?_, h2, h1, ?_⟩
  · rw [rtSg_val hv.c0 (fun e => (hv.v e).1), show val3 (x - d) y z = val3 x y z - Re.of d from Re.ext fun k => by simp only [val3, re_sub, re_add, re_mul, re_of]; grind, hs]; decide
  · unfold zc
    split
    · rename_i e
      have hw0 : w ≠ 0 := fun e2 => by rw [e2, Rat.mul_zero] at hw; exact absurd hw (by decide)
      rcases Rat.mul_eq_zero.1 e with g | g
      · exact (hv.z (by grind)).symm
      · exact absurd g hw0
    · rfl
end
inductive Res : Rat → Rat → Rat → Rat → Rat → Rat → Int → Int → Prop
  | whole {A B C D E F : Rat} {n : Int} (L : Lv A B C D E F n) (a0 : 0 ≤ sgR (val3 A B C)) (h : sgR (val3 D E F - Re.of ((n + 1 : Int) : Rat)) = 1) : Res A B C D E F (n + 1) 1
  | last {A B C D E F w : Rat} {n m : Int} (L : Lv A B C D E F n) (a0 : 0 ≤ sgR (val3 A B C)) (h : sgR (val3 D E F - Re.of ((n + 1 : Int) : Rat)) ≤ 0) (hb : sgR (val3 D E F - Re.of (n : Rat)) = 1) (hz : sgR (val3 A B C - Re.of (n : Rat)) = 0)
      (hw : ((D - (n : Rat)) * (D - (n : Rat)) - E * E * F) * w = 1) (hm : m = flR ((D - (n : Rat)) * w) (-E * w) F) (tA : Rz 900 ((D - (n : Rat)) * w)) (tB : Rz 900 (-E * w)) (m0 : 0 ≤ m) (mz : Sz 119 m) : Res A B C D E F (n * (m + 1) + 1) (m + 1)
  | step {A B C D E F w1 w2 : Rat} {n P Q : Int} (L : Lv A B C D E F n) (a0 : 0 ≤ sgR (val3 A B C)) (h : sgR (val3 D E F - Re.of ((n + 1 : Int) : Rat)) ≤ 0) (hb : sgR (val3 D E F - Re.of (n : Rat)) = 1) (hz : sgR (val3 A B C - Re.of (n : Rat)) = 1)
      (hw1 : ((A - (n : Rat)) * (A - (n : Rat)) - B * B * C) * w1 = 1) (hw2 : ((D - (n : Rat)) * (D - (n : Rat)) - E * E * F) * w2 = 1) (R : Res ((D - (n : Rat)) * w2) (-E * w2) F ((A - (n : Rat)) * w1) (-B * w1) C P Q)
      (p0 : 0 < P) (q0 : 0 < Q) (z : Rz 237 (fr P Q)) : Res A B C D E F (n * P + Q) P
section
variable {A0 B0 C D0 E0 F A B D E : Rat} {p q r s : Int}
theorem add_pos {x y : Re} (h : 0 ≤ sgR x) (g : sgR y = 1) : sgR (x + y) = 1 := by
  rcases Int.lt_or_eq_of_le h with e | e
  · have : sgR x = 1 := by rcases sgR_cases x with c | c | c <;> omega
    rw [sgR_adds (by omega)]; exact this
  · rw [show x + y = y + x from Re.ext fun k => by simp only [re_add]; grind, sgR_addz _ e.symm]; exact g
theorem sz119 {x : Int} (h0 : 0 ≤ x) (h : x ≤ pw (59 + 59)) : Sz 119 x := by
  have h1 : pw 118 + 1 < pw 119 := pw_one1 118
  have h2 : x ≤ pw 118 := h
  exact ⟨by omega, by omega⟩
theorem BSt.res (hA : Rz 12 A0) (hB : Rz 12 B0) (hC : Rz 12 C) (hD : Rz 12 D0) (hE : Rz 12 E0) (hF : Rz 12 F) (S : BSt (pw 7) 59 A0 B0 C D0 E0 F p q r s A B D E) (k : Nat) (hk : 3 * pw 59 < 2 * r + s + k) :
    ∃ P Q : Int, Res A B C D E F P Q ∧ TMin (InR (val3 A B C) (val3 D E F)) P Q := by
  induction k generalizing A0 B0 C D0 E0 F p q r s A B D E with
  | zero => exfalso; have := S.rh; have := S.sh; omega
  | succ k ih =>
    obtain ⟨⟨zA, zB⟩, zD, zE⟩ := S.szs hA hB hC hD hE hF
    have vA := S.m1.vl S.v1
    have vD := S.m2.vl S.v2
    have f1 : leR (Re.of ((flR A B C : Int) : Rat)) (val3 A B C) := (flR_in vA.c0).1
    have f2 := flR_lt (x := A) (y := B) vA.c0 vA.v
    obtain ⟨hn0, _⟩ := S.n0 f2
    have hnu := Rat.intCast_le_intCast.1 (of_le_iff (le_tr f1 S.au))
    have L : Lv A B C D E F (flR A B C) := ⟨zA, zB, hC, zD, zE, hF, vA, vD, S.ab, rfl, sz119 hn0 hnu⟩
    generalize flR A B C = n at *
    by_cases hb : sgR (val3 D E F - Re.of ((n + 1 : Int) : Rat)) = 1
    · exact ⟨_, _, .whole L S.a0 hb, TMin_whole hn0 f1 f2 hb⟩
    have hb' : sgR (val3 D E F - Re.of ((n + 1 : Int) : Rat)) ≤ 0 := by rcases sgR_cases (val3 D E F - Re.of ((n + 1 : Int) : Rat)) with c | c | c <;> omega
    have y1 : leR (val3 D E F) (Re.of ((n + 1 : Int) : Rat)) := by unfold leR; rw [flip_sg]; omega
    have hbn : sgR (val3 D E F - Re.of (n : Rat)) = 1 := by
      rw [show val3 D E F - Re.of (n : Rat) = (val3 A B C - Re.of (n : Rat)) + (val3 D E F - val3 A B C) from Re.ext fun k => by simp only [re_sub, re_add]; grind]
      exact add_pos f1 S.ab
    have nb : (D - (n : Rat)) * (D - (n : Rat)) - E * E * F ≠ 0 := norm_ne vD.v (by rw [val3_sub, hbn]; decide)
    have hw2 : ((D - (n : Rat)) * (D - (n : Rat)) - E * E * F) * (1 / ((D - (n : Rat)) * (D - (n : Rat)) - E * E * F)) = 1 := by rw [Rat.mul_comm]; exact Rat.div_mul_cancel nb
    generalize 1 / ((D - (n : Rat)) * (D - (n : Rat)) - E * E * F) = w2 at hw2
    have i2 : sgR ((val3 D E F - Re.of (n : Rat)) * val3 ((D - (n : Rat)) * w2) (-E * w2) F - Re.of 1) = 0 := by
      rw [← val3_sub]; exact inv_val S.v2.c0 hw2
    have b1 := inv_pos i2 hbn
    have gb : leR (Re.of (1 / ((pw (59 + 59) : Int) : Rat))) (val3 D E F - Re.of (n : Rat)) := by
      refine le_tr S.gap ?_
      show 0 ≤ sgR _
      rw [show val3 D E F - Re.of (n : Rat) - (val3 D E F - val3 A B C) = val3 A B C - Re.of (n : Rat) from Re.ext fun k => by simp only [re_sub]; grind]
      exact f1
    have bu := inv_up i2 hbn gb
    by_cases hz : sgR (val3 A B C - Re.of (n : Rat)) = 0
    · have vI : Vl (-E * w2) F := ((S.m2.shift n).inv hw2).vl S.v2
      have g1 : leR (Re.of ((flR ((D - (n : Rat)) * w2) (-E * w2) F : Int) : Rat)) (val3 ((D - (n : Rat)) * w2) (-E * w2) F) := (flR_in vI.c0).1
      have g2 := flR_lt (x := (D - (n : Rat)) * w2) (y := -E * w2) vI.c0 vI.v
      have hmu := Rat.intCast_le_intCast.1 (of_le_iff (le_tr g1 bu))
      have hm0 : 0 ≤ flR ((D - (n : Rat)) * w2) (-E * w2) F := by
        have := gt_of (x := ((flR ((D - (n : Rat)) * w2) (-E * w2) F + 1 : Int) : Rat)) (n := 0) (leR_nn (by omega)) g2
        have := Rat.intCast_lt_intCast.1 this
        omega
      have le1 : leR (val3 D E F - Re.of (n : Rat)) (Re.of 1) := one_up (n := n) y1 (leR_refl _)
      obtain ⟨tA, tB⟩ := S.last_sz hD hE hF hn0 f1 (by unfold leR; omega) y1 hw2 (inv_ge i2 hbn le1)
      have R := Res.last L S.a0 hb' hbn hz hw2 rfl tA tB hm0 (sz119 hm0 hmu)
      refine ⟨_, _, R, ?_⟩
      exact TMin.step hn0 (TMin_above hm0 g1 g2) (InR_last hz i2 b1)
    · have hz1 : sgR (val3 A B C - Re.of (n : Rat)) = 1 := by
        have h0 : 0 ≤ sgR (val3 A B C - Re.of (n : Rat)) := f1
        rcases sgR_cases (val3 A B C - Re.of (n : Rat)) with c | c | c <;> omega
      have na : (A - (n : Rat)) * (A - (n : Rat)) - B * B * C ≠ 0 := norm_ne vA.v (by rw [val3_sub, hz1]; decide)
      have hw1 : ((A - (n : Rat)) * (A - (n : Rat)) - B * B * C) * (1 / ((A - (n : Rat)) * (A - (n : Rat)) - B * B * C)) = 1 := by rw [Rat.mul_comm]; exact Rat.div_mul_cancel na
      generalize 1 / ((A - (n : Rat)) * (A - (n : Rat)) - B * B * C) = w1 at hw1
      have i1 : sgR ((val3 A B C - Re.of (n : Rat)) * val3 ((A - (n : Rat)) * w1) (-B * w1) C - Re.of 1) = 0 := by
        rw [← val3_sub]; exact inv_val S.v1.c0 hw1
      have a1 := inv_pos i1 hz1
      obtain ⟨S', hlt, _⟩ := S.step f1 f2 y1 hz1 hw1 hw2
      obtain ⟨P, Q, R, T⟩ := ih hD hE hF hA hB hC S' (by omega)
      obtain ⟨t1, t2⟩ := T.bound (S'.m1.vl S'.v1) S'.au S'.gap
      have t3 : pw (59 + 59 + 1) ≤ pw (59 + 59 + (59 + 59) + 1) := pw_le (by decide)
      have z := T.rz t1 (Int.lt_of_lt_of_le t2 t3)
      exact ⟨_, _, .step L S.a0 hb' hbn hz1 hw1 hw2 R T.p T.q z, TMin.step hn0 T (InR_step f1 i1 a1 i2 b1)⟩
end
theorem dv1 (n : Int) : Rat.divInt n 1 = (n : Rat) := by rw [Rat.divInt_eq_div]; have : ((1 : Int) : Rat) = 1 := rfl; rw [this]; grind
theorem rtZero_ok  : Ok Tryz.prog 104 [] [dR 0] := by
  refine Ok.of (by kernel_rfl) Tryz.func104 rfl rfl ?_
  rw [show Tryz.f104.ntmps = 2 from rfl, show Tryz.f104.results.toList = [.cell 0 26] from rfl]
  refine dw_seq <| dw_region (by kernel_rfl) <| dl_new (sem_alloc zc26 rfl) rfl <| dl_end <| dw_seq <| dw_region (by kernel_rfl) <| dl_r (sem_call rfl rfl (pFrom_ok (by omega) (by omega)) rfl) <| dl_st (sem_store_a ty26 rfl rfl rfl rfl rfl rfl) ?_
  refine dl_end <| dw_ret ?_
  rw [z_int]
  exact ⟨.inr rfl, (resL_cell (us := cR (((0 : Int) : Rat))) ty26 rfl rfl rfl rfl resL_nil)⟩
theorem rtReduced_ok {a b c : Rat} : Ok Tryz.prog 126 [dR a, dR b, dR c] [.a (cR a ++ cR b ++ cR (zc b c))] := by
  refine Ok.of (by kernel_rfl) Tryz.func126 rfl rfl ?_
  rw [show Tryz.f126.ntmps = 15 from rfl, show Tryz.f126.results.toList = [.cell 6 28] from rfl]
  refine dw_seq <| dw_region (by kernel_rfl) <| dl_new (sem_box_a rfl rfl) rfl <| dl_new (sem_box_a rfl rfl) rfl <| dl_new (sem_box_a rfl rfl) rfl <| dl_new (sem_alloc zc28 rfl) rfl <| dl_end <| dw_seq ?_
  refine dw_seq <| dw_region (by kernel_rfl) <| dl_r (sem_load (us := cR b) ty26 rfl rfl rfl rfl rfl) <| dl_r (sem_call rfl rfl (pSign_ok) rfl) <| dl_r (sem_cmp rfl rfl rfl rfl) <| dl_end ?_
  refine dw_cond rfl (fun hc1 => ?_) (fun hc1 => ?_)
  · -- region 2
    refine dw_region (by kernel_rfl) <| dl_r (sem_call rfl rfl (rtZero_ok) rfl) <| dl_st (sem_store_a ty26 rfl rfl rfl rfl rfl rfl) <| dl_end <| dw_seq <| dw_region (by kernel_rfl) <| dl_r (sem_load (us := cR a) ty26 rfl rfl rfl rfl rfl) <| dl_r (sem_load (us := cR b) ty26 rfl rfl rfl rfl rfl) ?_
    refine dl_r (sem_load (us := cR 0) ty26 rfl rfl rfl rfl rfl) <| dl_r (sem_build (us := (cR a ++ cR b ++ cR 0)) fs28 zc28 rfl rfl rfl) <| dl_st (sem_store_a ty28 rfl rfl rfl rfl rfl rfl) <| dl_end <| dw_ret ?_
    rw [zc_t (r_eq hc1)]
    exact ⟨.inr rfl, (resL_cell (us := (cR a ++ cR b ++ cR 0)) ty28 rfl rfl rfl rfl resL_nil)⟩
  · refine dw_skip <| dw_seq <| dw_region (by kernel_rfl) <| dl_r (sem_load (us := cR a) ty26 rfl rfl rfl rfl rfl) <| dl_r (sem_load (us := cR b) ty26 rfl rfl rfl rfl rfl) <| dl_r (sem_load (us := cR c) ty26 rfl rfl rfl rfl rfl) <| dl_r (sem_build (us := (cR a ++ cR b ++ cR c)) fs28 zc28 rfl rfl rfl) <| dl_st (sem_store_a ty28 rfl rfl rfl rfl rfl rfl) ?_
    refine dl_end <| dw_ret ?_
    rw [zc_f (r_ne hc1)]
    exact ⟨.inr rfl, (resL_cell (us := (cR a ++ cR b ++ cR c)) ty28 rfl rfl rfl rfl resL_nil)⟩
theorem rtScaleL_ok {a b c k : Rat} (ha : Rz 60000 a) (hb : Rz 60000 b) (hk : Rz 60000 k) : Ok Tryz.prog 110 [.a (cR a ++ cR b ++ cR c), dR k] [.a (cR (a * k) ++ cR (b * k) ++ cR (zc (b * k) c))] := by
  refine Ok.of (by kernel_rfl) Tryz.func110 rfl rfl ?_
  rw [show Tryz.f110.ntmps = 16 from rfl, show Tryz.f110.results.toList = [.cell 4 28] from rfl]
  refine dw_seq <| dw_region (by kernel_rfl) <| dl_new (sem_box_a rfl rfl) rfl <| dl_new (sem_box_a rfl rfl) rfl <| dl_new (sem_alloc zc28 rfl) rfl <| dl_end <| dw_seq <| dw_draw 11 [] follows_mixed (by kernel_rfl) rfl rfl ?_
  refine dq_r (sem_field fd28_0 rfl rfl) <| dq_r (sem_load (us := cR a) ty26 rfl rfl rfl rfl rfl) <| dq_r (sem_load (us := cR k) ty26 rfl rfl rfl rfl rfl) ?_
  refine dq_r (sem_call rfl rfl (pMulL_ok (by first | assumption | exact Rz.mono ha (by decide)) (by first | assumption | exact Rz.mono hk (by decide))) rfl) ?_
  refine dq_r (sem_field fd28_1 rfl rfl) <| dq_r (sem_load (us := cR b) ty26 rfl rfl rfl rfl rfl) <| dq_r (sem_load (us := cR k) ty26 rfl rfl rfl rfl rfl) ?_
  refine dq_r (sem_call rfl rfl (pMulL_ok (by first | assumption | exact Rz.mono hb (by decide)) (by first | assumption | exact Rz.mono hk (by decide))) rfl) ?_
  refine dq_r (sem_field fd28_2 rfl rfl) <| dq_r (sem_load (us := cR c) ty26 rfl rfl rfl rfl rfl) <| dq_r (sem_call rfl rfl (rtReduced_ok) rfl) <| dq_end <| dl_start0 <| dl_st (sem_store_a ty28 rfl rfl rfl rfl rfl rfl) <| dl_end <| dw_ret ?_
  exact ⟨.inr rfl, (resL_cell (us := (cR (a * k) ++ cR (b * k) ++ cR (zc (b * k) c))) ty28 rfl rfl rfl rfl resL_nil)⟩
theorem rtFloorL_ok {a b c : Rat} (ha : Rz 4000 a) (hb : Rz 4000 b) (hc : Rz 4000 c) : Ok Tryz.prog 73 [.a (cR a ++ cR b ++ cR c)] [dI (flR a b c)] := by
  have hn : (a.den : Int) * ((b * b * c).den : Int) ≠ 0 := mul_ne (den_ne a) (den_ne (b * b * c))
  refine Ok.of (by kernel_rfl) Tryz.func73 rfl rfl ?_
  rw [show Tryz.f73.ntmps = 69 from rfl, show Tryz.f73.results.toList = [.cell 2 24] from rfl]
  refine dw_seq <| dw_region (by kernel_rfl) <| dl_new (sem_box_a rfl rfl) rfl <| dl_new (sem_alloc zc24 rfl) rfl <| dl_end <| dw_seq <| dw_seq <| dw_region (by kernel_rfl) ?_
  refine dl_r (sem_field fd28_1 rfl rfl) <| dl_r (sem_load (us := cR b) ty26 rfl rfl rfl rfl rfl) <| dl_r (sem_call rfl rfl (pSignL_ok) rfl) <| dl_r (sem_cmp rfl rfl rfl rfl) <| dl_end ?_
  refine dw_cond rfl (fun hc1 => ?_) (fun hc1 => ?_)
  · refine dw_seq <| dw_region (by kernel_rfl) <| dl_r (sem_field fd28_0 rfl rfl) <| dl_r (sem_load (us := cR a) ty26 rfl rfl rfl rfl rfl) ?_
    refine dl_r (sem_call rfl rfl (pFloorL_ok (by first | assumption | exact Rz.mono ha (by decide))) rfl) ?_
    refine dl_st (sem_store_a ty24 rfl rfl rfl rfl rfl rfl) <| dl_end <| dw_ret ?_
    rw [flR_0 (r_eq hc1)]
    exact ⟨.inr rfl, (resL_cell (us := cI (a.num.fdiv (a.den : Int))) ty24 rfl rfl rfl rfl resL_nil)⟩
  · refine dw_skip <| dw_seq <| dw_draw 9 [] follows_mixed (by kernel_rfl) rfl rfl <| dq_r (sem_field fd28_1 rfl rfl) <| dq_r (sem_load (us := cR b) ty26 rfl rfl rfl rfl rfl) <| dq_r (sem_field fd28_1 rfl rfl) <| dq_r (sem_load (us := cR b) ty26 rfl rfl rfl rfl rfl) ?_
    refine dq_r (sem_call rfl rfl (pMulL_ok (by first | assumption | exact Rz.mono hb (by decide)) (by first | assumption | exact Rz.mono hb (by decide))) rfl) ?_
    refine dq_r (sem_field fd28_2 rfl rfl) <| dq_r (sem_load (us := cR c) ty26 rfl rfl rfl rfl rfl) ?_
    refine dq_r (sem_call rfl rfl (pMulL_ok (by first | assumption | exact Rz.mono (Rz.mul hb hb) (by decide)) (by first | assumption | exact Rz.mono hc (by decide))) rfl) ?_
    refine dq_new (sem_alloc zc26 rfl) rfl <| dq_end <| dl_start1 <| dl_st (sem_store_a ty26 rfl rfl rfl rfl rfl rfl) <| dl_end <| dw_seq <| dw_draw 9 [4, 5] follows_mixed (by kernel_rfl) rfl rfl <| dq_r (sem_field fd28_0 rfl rfl) ?_
    refine dq_r (sem_field fd26_1 rfl rfl) <| dq_r (sem_load (us := cI (a.den : Int)) ty24 rfl rfl rfl rfl rfl) <| dq_r (sem_field fd26_1 rfl rfl) <| dq_r (sem_load (us := cI ((((b * b) * c).den : Int))) ty24 rfl rfl rfl rfl rfl) <| dq_new (sem_alloc zc24 rfl) rfl <| dq_new (sem_alloc zc24 rfl) rfl <| dq_sn (sem_store_a ty24 rfl rfl rfl rfl rfl rfl) rfl rfl rfl rfl <| dq_sn (sem_store_a ty24 rfl rfl rfl rfl rfl rfl) rfl rfl rfl rfl ?_
    refine dq_end <| dl_start4 <| dl_end <| dw_seq <| dw_draw 9 [] follows_mixed (by kernel_rfl) rfl rfl <| dq_r (sem_load (us := cI (a.den : Int)) ty24 rfl rfl rfl rfl rfl) <| dq_r (sem_load (us := cI (a.den : Int)) ty24 rfl rfl rfl rfl rfl) ?_
    refine dq_r (sem_call rfl rfl (iMul_ok (by first | assumption | exact Sz.mono (Rz.d ha) (by decide)) (by first | assumption | exact Sz.mono (Rz.d ha) (by decide))) rfl) ?_
    refine dq_r (sem_field fd26_0 rfl rfl) <| dq_r (sem_load (us := cI (((b * b) * c).num)) ty24 rfl rfl rfl rfl rfl) <| dq_r (sem_load (us := cI ((((b * b) * c).den : Int))) ty24 rfl rfl rfl rfl rfl) ?_
    refine dq_r (sem_call rfl rfl (iMul_ok (by first | assumption | exact Sz.mono (Rz.n (Rz.mul (Rz.mul hb hb) hc)) (by decide)) (by first | assumption | exact Sz.mono (Rz.d (Rz.mul (Rz.mul hb hb) hc)) (by decide))) rfl) ?_
    refine dq_r (sem_call rfl rfl (iMul_ok (by first | assumption | exact Sz.mono (Sz.mul (Rz.d ha) (Rz.d ha)) (by decide)) (by first | assumption | exact Sz.mono (Sz.mul (Rz.n (Rz.mul (Rz.mul hb hb) hc)) (Rz.d (Rz.mul (Rz.mul hb hb) hc))) (by decide))) rfl) ?_
    refine dq_new (sem_alloc zc24 rfl) rfl <| dq_end <| dl_start1 <| dl_st (sem_store_a ty24 rfl rfl rfl rfl rfl rfl) <| dl_end <| dw_seq <| dw_region (by kernel_rfl) <| dl_r (sem_load (us := cI (((a.den : Int) * (a.den : Int)) * ((((b * b) * c).num) * ((((b * b) * c).den : Int))))) ty24 rfl rfl rfl rfl rfl) ?_
    refine dl_r (sem_call rfl rfl (iSqrt_ok (by first | assumption | exact Sz.mono (Sz.mul (Sz.mul (Rz.d ha) (Rz.d ha)) (Sz.mul (Rz.n (Rz.mul (Rz.mul hb hb) hc)) (Rz.d (Rz.mul (Rz.mul hb hb) hc)))) (by decide))) rfl) ?_
    refine dl_r (sem_move rfl rfl) <| dl_r (sem_extract rfl rfl rfl) <| dl_r (sem_extract rfl rfl rfl) <| dl_new (sem_alloc zc24 rfl) rfl <| dl_st (sem_store_a ty24 rfl rfl rfl rfl rfl rfl) <| dl_r (sem_assign rfl rfl) <| dl_end <| dw_seq ?_
    refine dw_seq <| dw_region (by kernel_rfl) <| dl_r (sem_field fd28_1 rfl rfl) <| dl_r (sem_load (us := cR b) ty26 rfl rfl rfl rfl rfl) <| dl_r (sem_call rfl rfl (pSignL_ok) rfl) <| dl_r (sem_cmp rfl rfl rfl rfl) <| dl_end ?_
    refine dw_cond rfl (fun hc2 => ?_) (fun hc2 => ?_)
    · -- region 8
      refine dw_draw 4 [] follows_mixed (by kernel_rfl) rfl rfl <| dq_r (sem_load (us := cI (isqI (((a.den : Int) * (a.den : Int)) * ((((b * b) * c).num) * ((((b * b) * c).den : Int)))))) ty24 rfl rfl rfl rfl rfl) <| dq_r (sem_call rfl rfl (iFrom_ok (by omega) (by omega)) rfl) ?_
      refine dq_r (sem_call rfl rfl (iAdd_ok (by first | assumption | exact Sz.mono (Sz.isq (Sz.mul (Sz.mul (Rz.d ha) (Rz.d ha)) (Sz.mul (Rz.n (Rz.mul (Rz.mul hb hb) hc)) (Rz.d (Rz.mul (Rz.mul hb hb) hc))))) (by decide)) (by first | assumption | exact Sz.mono (Sz.small (k := 3) (by decide) (by decide) (by decide)) (by decide))) rfl) ?_
      refine dq_r (sem_call rfl rfl (iNeg_ok (by first | assumption | exact Sz.mono (Sz.addm (Sz.isq (Sz.mul (Sz.mul (Rz.d ha) (Rz.d ha)) (Sz.mul (Rz.n (Rz.mul (Rz.mul hb hb) hc)) (Rz.d (Rz.mul (Rz.mul hb hb) hc))))) (Sz.small (k := 3) (by decide) (by decide) (by decide))) (by decide))) rfl) ?_
      refine dq_end <| dl_start0 <| dl_st (sem_store_a ty24 rfl rfl rfl rfl rfl rfl) <| dl_end <| dw_seq <| dw_draw 20 [9, 10] follows_mixed (by kernel_rfl) rfl rfl <| dq_r (sem_field fd28_0 rfl rfl) <| dq_r (sem_field fd26_0 rfl rfl) ?_
      refine dq_r (sem_load (us := cI a.num) ty24 rfl rfl rfl rfl rfl) <| dq_r (sem_load (us := cI ((((b * b) * c).den : Int))) ty24 rfl rfl rfl rfl rfl) ?_
      refine dq_r (sem_call rfl rfl (iMul_ok (by first | assumption | exact Sz.mono (Rz.n ha) (by decide)) (by first | assumption | exact Sz.mono (Rz.d (Rz.mul (Rz.mul hb hb) hc)) (by decide))) rfl) ?_
      refine dq_r (sem_load (us := cI (-((isqI (((a.den : Int) * (a.den : Int)) * ((((b * b) * c).num) * ((((b * b) * c).den : Int))))) + 1))) ty24 rfl rfl rfl rfl rfl) ?_
      refine dq_r (sem_call rfl rfl (iAdd_ok (by first | assumption | exact Sz.mono (Sz.mul (Rz.n ha) (Rz.d (Rz.mul (Rz.mul hb hb) hc))) (by decide)) (by first | assumption | exact Sz.mono (Sz.neg (Sz.addm (Sz.isq (Sz.mul (Sz.mul (Rz.d ha) (Rz.d ha)) (Sz.mul (Rz.n (Rz.mul (Rz.mul hb hb) hc)) (Rz.d (Rz.mul (Rz.mul hb hb) hc))))) (Sz.small (k := 3) (by decide) (by decide) (by decide)))) (by decide))) rfl) ?_
      refine dq_r (sem_load (us := cI (a.den : Int)) ty24 rfl rfl rfl rfl rfl) <| dq_r (sem_load (us := cI ((((b * b) * c).den : Int))) ty24 rfl rfl rfl rfl rfl) ?_
      refine dq_r (sem_call rfl rfl (iMul_ok (by first | assumption | exact Sz.mono (Rz.d ha) (by decide)) (by first | assumption | exact Sz.mono (Rz.d (Rz.mul (Rz.mul hb hb) hc)) (by decide))) rfl) ?_
      refine dq_r (sem_call rfl rfl (iDivMod_ok (by first | assumption | exact Sz.mono (Sz.addm (Sz.mul (Rz.n ha) (Rz.d (Rz.mul (Rz.mul hb hb) hc))) (Sz.neg (Sz.addm (Sz.isq (Sz.mul (Sz.mul (Rz.d ha) (Rz.d ha)) (Sz.mul (Rz.n (Rz.mul (Rz.mul hb hb) hc)) (Rz.d (Rz.mul (Rz.mul hb hb) hc))))) (Sz.small (k := 3) (by decide) (by decide) (by decide))))) (by decide)) (by first | assumption | exact Sz.mono (Sz.mul (Rz.d ha) (Rz.d (Rz.mul (Rz.mul hb hb) hc))) (by decide)) (by assumption)) rfl) ?_
      refine dq_r (sem_move rfl rfl) <| dq_r (sem_extract rfl rfl rfl) <| dq_r (sem_extract rfl rfl rfl) <| dq_r (sem_extract rfl rfl rfl) <| dq_new (sem_alloc zc24 rfl) rfl <| dq_new (sem_alloc zc24 rfl) rfl <| dq_sn (sem_store_a ty24 rfl rfl rfl rfl rfl rfl) rfl rfl rfl rfl <| dq_sn (sem_store_a ty24 rfl rfl rfl rfl rfl rfl) rfl rfl rfl rfl ?_
      refine dq_r (sem_assign rfl rfl) <| dq_end <| dl_start4 <| dl_end <| dw_seq <| dw_region (by kernel_rfl) <| dl_r (sem_load (us := cI (((a.num * ((((b * b) * c).den : Int))) + (-((isqI (((a.den : Int) * (a.den : Int)) * ((((b * b) * c).num) * ((((b * b) * c).den : Int))))) + 1))).fdiv ((a.den : Int) * ((((b * b) * c).den : Int))))) ty24 rfl rfl rfl rfl rfl) <| dl_st (sem_store_a ty24 rfl rfl rfl rfl rfl rfl) ?_
      refine dl_end <| dw_ret ?_
      rw [flR_n (r_ne hc1) (r_lt hc2)]
      exact ⟨.inr rfl, (resL_cell (us := cI (((a.num * ((((b * b) * c).den : Int))) + (-((isqI (((a.den : Int) * (a.den : Int)) * ((((b * b) * c).num) * ((((b * b) * c).den : Int))))) + 1))).fdiv ((a.den : Int) * ((((b * b) * c).den : Int))))) ty24 rfl rfl rfl rfl resL_nil)⟩
    · refine dw_skip <| dw_seq <| dw_draw 20 [9, 10] follows_mixed (by kernel_rfl) rfl rfl <| dq_r (sem_field fd28_0 rfl rfl) <| dq_r (sem_field fd26_0 rfl rfl) <| dq_r (sem_load (us := cI a.num) ty24 rfl rfl rfl rfl rfl) <| dq_r (sem_load (us := cI ((((b * b) * c).den : Int))) ty24 rfl rfl rfl rfl rfl) ?_
      refine dq_r (sem_call rfl rfl (iMul_ok (by first | assumption | exact Sz.mono (Rz.n ha) (by decide)) (by first | assumption | exact Sz.mono (Rz.d (Rz.mul (Rz.mul hb hb) hc)) (by decide))) rfl) ?_
      refine dq_r (sem_load (us := cI (isqI (((a.den : Int) * (a.den : Int)) * ((((b * b) * c).num) * ((((b * b) * c).den : Int)))))) ty24 rfl rfl rfl rfl rfl) ?_
      refine dq_r (sem_call rfl rfl (iAdd_ok (by first | assumption | exact Sz.mono (Sz.mul (Rz.n ha) (Rz.d (Rz.mul (Rz.mul hb hb) hc))) (by decide)) (by first | assumption | exact Sz.mono (Sz.isq (Sz.mul (Sz.mul (Rz.d ha) (Rz.d ha)) (Sz.mul (Rz.n (Rz.mul (Rz.mul hb hb) hc)) (Rz.d (Rz.mul (Rz.mul hb hb) hc))))) (by decide))) rfl) ?_
      refine dq_r (sem_load (us := cI (a.den : Int)) ty24 rfl rfl rfl rfl rfl) <| dq_r (sem_load (us := cI ((((b * b) * c).den : Int))) ty24 rfl rfl rfl rfl rfl) ?_
      refine dq_r (sem_call rfl rfl (iMul_ok (by first | assumption | exact Sz.mono (Rz.d ha) (by decide)) (by first | assumption | exact Sz.mono (Rz.d (Rz.mul (Rz.mul hb hb) hc)) (by decide))) rfl) ?_
      refine dq_r (sem_call rfl rfl (iDivMod_ok (by first | assumption | exact Sz.mono (Sz.addm (Sz.mul (Rz.n ha) (Rz.d (Rz.mul (Rz.mul hb hb) hc))) (Sz.isq (Sz.mul (Sz.mul (Rz.d ha) (Rz.d ha)) (Sz.mul (Rz.n (Rz.mul (Rz.mul hb hb) hc)) (Rz.d (Rz.mul (Rz.mul hb hb) hc)))))) (by decide)) (by first | assumption | exact Sz.mono (Sz.mul (Rz.d ha) (Rz.d (Rz.mul (Rz.mul hb hb) hc))) (by decide)) (by assumption)) rfl) ?_
      refine dq_r (sem_move rfl rfl) <| dq_r (sem_extract rfl rfl rfl) <| dq_r (sem_extract rfl rfl rfl) <| dq_r (sem_extract rfl rfl rfl) <| dq_new (sem_alloc zc24 rfl) rfl <| dq_new (sem_alloc zc24 rfl) rfl <| dq_sn (sem_store_a ty24 rfl rfl rfl rfl rfl rfl) rfl rfl rfl rfl <| dq_sn (sem_store_a ty24 rfl rfl rfl rfl rfl rfl) rfl rfl rfl rfl ?_
      refine dq_r (sem_assign rfl rfl) <| dq_end <| dl_start4 <| dl_end <| dw_seq <| dw_region (by kernel_rfl) <| dl_r (sem_load (us := cI (((a.num * ((((b * b) * c).den : Int))) + (isqI (((a.den : Int) * (a.den : Int)) * ((((b * b) * c).num) * ((((b * b) * c).den : Int)))))).fdiv ((a.den : Int) * ((((b * b) * c).den : Int))))) ty24 rfl rfl rfl rfl rfl) <| dl_st (sem_store_a ty24 rfl rfl rfl rfl rfl rfl) ?_
      refine dl_end <| dw_ret ?_
      rw [flR_p (r_ne hc1) (r_nlt hc2)]
      exact ⟨.inr rfl, (resL_cell (us := cI (((a.num * ((((b * b) * c).den : Int))) + (isqI (((a.den : Int) * (a.den : Int)) * ((((b * b) * c).num) * ((((b * b) * c).den : Int)))))).fdiv ((a.den : Int) * ((((b * b) * c).den : Int))))) ty24 rfl rfl rfl rfl resL_nil)⟩
theorem rtFloor_ok {a b c : Rat} (ha : Rz 20 a) (hb : Rz 20 b) (hc : Rz 20 c) : Ok Tryz.prog 73 [.a (cR a ++ cR b ++ cR c)] [dI (flR a b c)] := rtFloorL_ok (ha.mono (by decide)) (hb.mono (by decide)) (hc.mono (by decide))
end Go.Proofs.YthlnndkgpgfbnaaGreat
