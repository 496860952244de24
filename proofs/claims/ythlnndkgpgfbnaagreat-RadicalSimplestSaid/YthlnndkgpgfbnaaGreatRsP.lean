/- The simplest number between two values: the program's and the reference's results, all ways. -/
import Derived.Test.YthlnndkgpgfbnaaGreatRsO
namespace Go.Proofs.YthlnndkgpgfbnaaGreat
open Go Go.RowKit
structure Simp (a b : Re) (z : Rat) : Prop where
  mem : InR a b z
  den : ∀ p q : Int, 0 < q → InR a b (fr p q) → (z.den : Int) ≤ q
  near : z.den = 1 → z ≠ 0 → ¬ InR a b (z - ((cmpR z 0 : Int) : Rat))
theorem den_neg (z : Rat) : (-z).den = z.den := Rat.neg_den z
theorem TMin.simp {a b : Re} {P Q : Int} (h : TMin (InR a b) P Q) : Simp a b (fr P Q) := by
  obtain ⟨e1, e2⟩ := h.den
  refine ⟨h.mem, fun p q hq hm => by rw [e2]; exact (h.min p q hq hm).2, fun hd _ hm => ?_⟩
  have hp := h.p
  have hQ : Q = 1 := by rw [← e2, hd]; rfl
  subst hQ
  have hf := fr_mul (p := P) (q := 1) (by decide)
  rw [cv1, Rat.mul_one] at hf
  rw [hf] at hm
  have hc : cmpR (P : Rat) 0 = 1 := by rw [← sgR_of]; exact sg_pos (ic_pos hp)
  rw [hc, cv1] at hm
  have e3 : fr (P - 1) 1 = (P : Rat) - 1 := fr_eq (by decide) (by rw [cv1, Rat.intCast_sub, Rat.mul_one, cv1])
  rw [← e3] at hm
  have := (h.min (P - 1) 1 (by decide) hm).1
  omega
theorem InR_neg {a b : Re} (x : Rat) : InR (-b) (-a) x ↔ InR a b (-x) := by
  have h1 : Re.of x - -b = b - Re.of (-x) := Re.ext fun k => by simp only [re_sub, re_neg, re_of]; grind
  have h2 : -a - Re.of x = Re.of (-x) - a := Re.ext fun k => by simp only [re_sub, re_neg, re_of]; grind
  unfold InR
  rw [h1, h2]
  exact ⟨fun h => ⟨h.2, h.1⟩, fun h => ⟨h.2, h.1⟩⟩
theorem fr_neg {p q : Int} (h : 0 < q) : fr (-p) q = -(fr p q) := fr_eq h (by have := fr_mul (p := p) h; rw [Rat.intCast_neg]; grind)
theorem Simp.neg {a b : Re} {z : Rat} (h : Simp (-b) (-a) z) : Simp a b (-z) := by
  refine ⟨(InR_neg z).1 h.mem, fun p q hq hm => ?_, fun hd hz hm => ?_⟩
  · rw [den_neg]
    refine h.den (-p) q hq ?_
    rw [fr_neg hq, InR_neg, Rat.neg_neg]; exact hm
  · rw [den_neg] at hd
    refine h.near hd (fun e => hz (by rw [e]; rfl)) ?_
    rw [InR_neg]
    have e : cmpR (-z) 0 = -cmpR z 0 := by
      rw [← sgR_of, ← sgR_of, ← sgR_neg]
      exact congrArg sgR (Re.ext fun k => by simp only [re_neg, re_of])
    rw [e] at hm
    rw [show -(z - ((cmpR z 0 : Int) : Rat)) = -z - ((-cmpR z 0 : Int) : Rat) from by rw [Rat.intCast_neg]; grind]
    exact hm
theorem Vl.neg {y z : Rat} (h : Vl y z) : Vl (-y) z := ⟨h.c0, fun e => h.v fun e2 => e (by rw [e2]; rfl), fun e => h.z (by grind)⟩
section
variable {A B C D E F : Rat}
theorem BSt.start (v1 : Vl B C) (v2 : Vl E F) (a0 : 0 ≤ sgR (val3 A B C)) (ab : sgR (val3 D E F - val3 A B C) = 1) (VU : leR (val3 A B C) (Re.of ((pw 7 : Int) : Rat))) (WU : leR (val3 D E F) (Re.of ((pw 7 : Int) : Rat)))
    (gap : leR (Re.of (1 / ((pw (59 + 59) : Int) : Rat))) (val3 D E F - val3 A B C)) : BSt (pw 7) 59 A B C D E F 1 0 0 1 A B D E := by
  have p7 := pw_pos 7
  have p59 := pw_pos 59
  have b0 : 0 ≤ sgR (val3 D E F) := by
    rw [show val3 D E F = val3 A B C + (val3 D E F - val3 A B C) from Re.ext fun k => by simp only [re_sub, re_add]; grind]
    have := add_pos a0 ab
    omega
  exact ⟨Mob.init A B C, Mob.init D E F, v1, v2, by decide, by decide, by decide, by decide, p7, by omega, by omega, by omega, p59, a0, b0, VU, WU, .inr gap, a0, le_tr VU (leR_cast (pw_le (by decide))), ab, .inl ⟨rfl, rfl⟩⟩
theorem gap_of (hA : Rz 2 A) (hB : Rz 2 B) (hC : Rz 2 C) (hD : Rz 2 D) (hE : Rz 2 E) (hF : Rz 2 F) (cC : 0 ≤ C) (cF : 0 ≤ F) (ab : sgR (val3 D E F - val3 A B C) = 1) : leR (Re.of (1 / ((pw (59 + 59) : Int) : Rat))) (val3 D E F - val3 A B C) := by
  have e : val6 (D - A) E (-B) 0 F C = val3 D E F - val3 A B C := Re.ext fun k => by simp only [val6, val3, re_sub, re_add, re_mul, re_of]; grind
  have h := sep4 (hD.sub hA) hE hB.neg hF hC cF cC (by rw [e]; exact ab)
  rw [e] at h
  exact le_tr (of_le (pw_inv (by decide))) h
theorem val_up (hA : Rz 2 A) (hB : Rz 2 B) (hC : Rz 2 C) (cC : 0 ≤ C) : leR (val3 A B C) (Re.of ((pw 7 : Int) : Rat)) ∧ leR (-(val3 A B C)) (Re.of ((pw 7 : Int) : Rat)) := val3_bd hA hB hC cC (sum_pw 2 2 2)
theorem BSt.go (hA : Rz 12 A) (hB : Rz 12 B) (hC : Rz 12 C) (hD : Rz 12 D) (hE : Rz 12 E) (hF : Rz 12 F) (S : BSt (pw 7) 59 A B C D E F 1 0 0 1 A B D E) : ∃ P Q : Int, Res A B C D E F P Q ∧ TMin (InR (val3 A B C) (val3 D E F)) P Q ∧ Rz 237 (fr P Q) := by
  obtain ⟨P, Q, R, T⟩ := S.res hA hB hC hD hE hF (3 * pw 59).toNat (by have := pw_pos 59; omega)
  obtain ⟨t1, t2⟩ := T.bound S.v1 S.au S.gap
  have t3 : pw (59 + 59 + 1) ≤ pw (59 + 59 + (59 + 59) + 1) := pw_le (by decide)
  exact ⟨P, Q, R, T, T.rz t1 (Int.lt_of_lt_of_le t2 t3)⟩
theorem frac_eq {a b : Re} {n P Q P2 Q2 : Int} (T : TMin (InR (-b) (-a)) P Q) (T2 : TMin (InR (a - Re.of (n : Rat)) (b - Re.of (n : Rat))) P2 Q2) (a0 : leR (Re.of (n : Rat)) a) (b1 : leR b (Re.of ((n + 1 : Int) : Rat))) : -(fr P Q) = (n : Rat) + fr P2 Q2 := by
  have sh : ∀ x : Rat, InR (a - Re.of (n : Rat)) (b - Re.of (n : Rat)) x ↔ InR a b ((n : Rat) + x) := by
    intro x
    have h1 : Re.of x - (a - Re.of (n : Rat)) = Re.of ((n : Rat) + x) - a := Re.ext fun k => by simp only [re_sub, re_of]; grind
    have h2 : b - Re.of (n : Rat) - Re.of x = b - Re.of ((n : Rat) + x) := Re.ext fun k => by simp only [re_sub, re_of]; grind
    unfold InR
    rw [h1, h2]
  have hq := T.q
  have hq2 := T2.q
  have f1 := fr_mul (p := P) hq
  have f2 := fr_mul (p := P2) hq2
  have e2 : fr (-(n * Q2) - P2) Q2 = -((n : Rat) + fr P2 Q2) := fr_eq hq2 (by rw [Rat.intCast_sub, Rat.intCast_neg, Rat.intCast_mul, ← f2]; grind)
  have e1 : fr (-P - n * Q) Q = -(fr P Q) - (n : Rat) := fr_eq hq (by rw [Rat.intCast_sub, Rat.intCast_neg, Rat.intCast_mul, ← f1]; grind)
  have m2 : InR (-b) (-a) (fr (-(n * Q2) - P2) Q2) := by
    rw [e2, InR_neg, Rat.neg_neg]
    exact (sh _).1 T2.mem
  have m1 : InR (a - Re.of (n : Rat)) (b - Re.of (n : Rat)) (fr (-P - n * Q) Q) := by
    rw [e1, sh, show (n : Rat) + (-(fr P Q) - (n : Rat)) = -(fr P Q) by grind]
    exact (InR_neg _).1 T.mem
  have g1 := (T.min _ _ hq2 m2).2
  have g2 := (T2.min _ _ hq m1).2
  have hQ : Q2 = Q := by omega
  subst hQ
  by_cases h1 : Q2 = 1
  · exfalso
    subst h1
    obtain ⟨i1, i2⟩ := (sh _).1 T2.mem
    have k1 := gt_of a0 i1
    rw [cv1, Rat.mul_one] at f2
    rw [f2] at k1 i2
    have k2 : ((n + P2 : Int) : Rat) ≤ ((n + 1 : Int) : Rat) := by
      rw [Rat.intCast_add]
      exact of_le_iff (le_tr (by unfold leR; omega) b1)
    have k3 := Rat.intCast_le_intCast.1 k2
    have k4 : ((n : Int) : Rat) < ((n + P2 : Int) : Rat) := by rw [Rat.intCast_add]; exact k1
    have k5 := Rat.intCast_lt_intCast.1 k4
    have k6 : P2 = 1 := by omega
    subst k6
    have k7 : 0 ≤ sgR (Re.of ((n : Rat) + ((1 : Int) : Rat)) - b) := by
      rw [← Rat.intCast_add]; exact b1
    rw [flip_sg, i2] at k7
    omega
  · have hc : ∀ x y z : Rat, InR (-b) (-a) x → InR (-b) (-a) y → x ≤ z → z ≤ y → InR (-b) (-a) z := by
      intro x y z hx hy hxz hzy
      refine ⟨?_, ?_⟩
      · rw [show Re.of z - -b = (Re.of z - Re.of x) + (Re.of x - -b) from Re.ext fun k => by simp only [re_sub, re_add]; grind]
        exact add_pos (of_le hxz) hx.1
      · rw [show -a - Re.of z = (Re.of y - Re.of z) + (-a - Re.of y) from Re.ext fun k => by simp only [re_sub, re_add]; grind]
        exact add_pos (of_le hzy) hy.2
    have hk := least_den hc (by omega) T.mem m2 fun p q hq hm => (T.min p q hq hm).2
    rw [hk, e2, Rat.neg_neg]
theorem top_int {a b : Re} {z P Q : Int} (hb : sgR (b - Re.of (z : Rat)) = 1) (hl : ∀ k : Int, sgR (b - Re.of (k : Rat)) = 1 → k ≤ z) (ha : sgR (Re.of (z : Rat) - a) = 1) (T : TMin (InR (-b) (-a)) P Q) : -(fr P Q) = (z : Rat) := by
  have e : fr (-z) 1 = -(z : Rat) := fr_eq (by decide) (by rw [cv1, Rat.intCast_neg, Rat.mul_one])
  obtain ⟨m1, m2⟩ := T.min (-z) 1 (by decide) (by rw [e, InR_neg, Rat.neg_neg]; exact ⟨ha, hb⟩)
  have hq := T.q
  have hQ : Q = 1 := by omega
  subst hQ
  have hf := fr_mul (p := P) (q := 1) (by decide)
  rw [cv1, Rat.mul_one] at hf
  have hm := (InR_neg _).1 T.mem
  rw [hf, ← Rat.intCast_neg] at hm
  have := hl _ hm.2
  have h2 : P = -z := by omega
  rw [hf, h2, Rat.intCast_neg, Rat.neg_neg]
theorem rz8 {n : Int} (h1 : -pw 7 ≤ n + 1) (h2 : n ≤ 0) : Sz 8 n := by
  have h3 : pw 7 + 1 < pw 8 := pw_one1 7
  exact ⟨by omega, by omega⟩
theorem ybt_frac {n P2 Q2 : Int} (L : Lv A B C D E F n) (aN : sgR (val3 A B C) < 0) (bN : sgR (val3 D E F) ≤ 0) (hb : sgR (val3 D E F - Re.of ((n + 1 : Int) : Rat)) ≤ 0) (R : Res (A - (n : Rat)) B C (D - (n : Rat)) E F P2 Q2) (x1 : sgR (Re.of ((n + 1 : Int) : Rat) - val3 A B C) = 1) :
    Ok Tryz.prog 12 [.a (cR A ++ cR B ++ cR C), .a (cR D ++ cR E ++ cR F)] [dR ((n : Rat) + fr P2 Q2)] := by
  have c0 : ((0 : Int) : Rat) = 0 := rfl
  have nz : ∀ {k : Int}, Lv (A - (n : Rat)) B C (D - (n : Rat)) E F k → 0 ≤ sgR (val3 (A - (n : Rat)) B C) → k = 0 := by
    intro k L2 a0
    have f1 : leR (Re.of ((flR (A - (n : Rat)) B C : Int) : Rat)) (val3 (A - (n : Rat)) B C) := (flR_in L2.v1.c0).1
    have f2 := flR_lt (x := A - (n : Rat)) (y := B) L2.v1.c0 L2.v1.v
    rw [← L2.nf] at f1 f2
    have k1 := gt_of (n := 0) (leR_nn a0) f2
    have k2 := Rat.intCast_lt_intCast.1 k1
    have x2 : sgR (Re.of ((1 : Int) : Rat) - val3 (A - (n : Rat)) B C) = 1 := by
      rw [show Re.of ((1 : Int) : Rat) - val3 (A - (n : Rat)) B C = Re.of ((n + 1 : Int) : Rat) - val3 A B C from Re.ext fun k => by
        simp only [val3, re_sub, re_add, re_mul, re_of, Rat.intCast_add]; grind]; exact x1
    have k3 := gt_of f1 x2
    have k4 := Rat.intCast_lt_intCast.1 k3
    omega
  have eD : D - (n : Rat) - ((0 : Int) : Rat) = D - (n : Rat) := by rw [c0]; grind
  have eA : A - (n : Rat) - ((0 : Int) : Rat) = A - (n : Rat) := by rw [c0]; grind
  have o0 : Re.of ((0 : Int) : Rat) = Re.of 0 := rfl
  have hg : decide (plainS (D - ((n : Rat) + 1)) E F > 0) = false := decide_eq_false (by rw [val3_p L.v2.c0, ← of_n1]; omega)
  cases R with
  | whole L2 a0 h =>
    exfalso
    have e := nz L2 a0
    subst e
    rw [show val3 (D - (n : Rat)) E F - Re.of ((0 + 1 : Int) : Rat) = val3 D E F - Re.of ((n + 1 : Int) : Rat) from Re.ext fun k => by
      simp only [val3, re_sub, re_add, re_mul, re_of, Rat.intCast_add, c0]; grind] at h
    omega
  | @last _ _ _ _ _ _ w k m L2 a0 h hbn hz hw hm tA tB m0 mz =>
    have e := nz L2 a0
    subst e
    rw [eD] at hw hm tA
    rw [o0, of0] at hz
    have oT := yFloor_ok (tA.mono (by decide)) (tB.mono (by decide)) L.kF (inv_vl L.v2 hw)
    rw [← hm] at oT
    rw [fr_last 0 m0, c0, Rat.zero_add]
    exact ybt_nl L (val3_0 L.v1.c0) (decide_eq_true aN) (decide_eq_false (by omega)) (val3_0 L.v2.c0) (decide_eq_false (by omega)) L.flA rfl hg (L.sh.trans (by rw [← val3_sub, hz])) (d := 0) rfl hw mz oT (m1_ne m0)
  | @step _ _ _ _ _ _ w1 w2 k P Q L2 a0 h hbn hz hw1 hw2 R p0 q0 z =>
    have e := nz L2 a0
    subst e
    rw [eD] at hw2 R
    rw [eA] at hw1 R
    rw [o0, of0] at hz
    rw [fr_shift p0 q0, c0, Rat.zero_add]
    exact ybt_ns L (val3_0 L.v1.c0) (decide_eq_true aN) (decide_eq_false (by omega)) (val3_0 L.v2.c0) (decide_eq_false (by omega)) L.flA rfl hg (L.sh.trans (by rw [← val3_sub, hz])) (d := 1) rfl hw2 hw1 (ybt_of R) z (fr_ne p0 q0)
theorem btw_main (hA : Rz 2 A) (hB : Rz 2 B) (hC : Rz 2 C) (hD : Rz 2 D) (hE : Rz 2 E) (hF : Rz 2 F) (v1 : Vl B C) (v2 : Vl E F) (ab : sgR (val3 D E F - val3 A B C) = 1) :
    ∃ z : Rat, Rz 237 z ∧ Ok Tryz.prog 7 [.a (cR A ++ cR B ++ cR C), .a (cR D ++ cR E ++ cR F)] [dR z, .c (.i .i64 0)] ∧
      Ok Tryz.prog 12 [.a (cR A ++ cR B ++ cR C), .a (cR D ++ cR E ++ cR F)] [dR z] ∧ Simp (val3 A B C) (val3 D E F) z := by
  have mA : Rz 12 A := hA.mono (by decide)
  have mB : Rz 12 B := hB.mono (by decide)
  have mC : Rz 12 C := hC.mono (by decide)
  have mD : Rz 12 D := hD.mono (by decide)
  have mE : Rz 12 E := hE.mono (by decide)
  have mF : Rz 12 F := hF.mono (by decide)
  have gap := gap_of hA hB hC hD hE hF v1.c0 v2.c0 ab
  obtain ⟨uA, lA⟩ := val_up hA hB hC v1.c0
  obtain ⟨uD, lD⟩ := val_up hD hE hF v2.c0
  have e1 : signQ (A - D) B (-E) 0 C F = sgR (val3 A B C - val3 D E F) := signQ_val v1.c0 v2.c0
  have g1 : decide (sgR (val3 A B C - val3 D E F) ≥ 0) = false := decide_eq_false (by rw [flip_sg, ab]; decide)
  have ea : signQ (A - 0) B (-0) 0 C 0 = sgR (val3 A B C) := by rw [val3_r v1.c0, of0]
  have eb : signQ (D - 0) E (-0) 0 F 0 = sgR (val3 D E F) := by rw [val3_r v2.c0, of0]
  by_cases aN : sgR (val3 A B C) < 0
  · by_cases bP : sgR (val3 D E F) > 0
    · -- 0 lies between
      have i1 : InR (val3 A B C) (val3 D E F) 0 := by
        refine ⟨?_, ?_⟩
        · rw [flip_sg, of0]; have := sgR_cases (val3 A B C); omega
        · rw [of0]; have := sgR_cases (val3 D E F); omega
      exact ⟨0, Rz.zero (by decide), xBB_z mA mB mC mD mE mF v1.c0 v2.c0 e1 g1 ea (decide_eq_true aN) eb (decide_eq_true bP), ybt_z mA mB mC mD mE mF v1.c0 v2.c0 (val3_0 v1.c0) (decide_eq_true aN) (val3_0 v2.c0) (decide_eq_true bP), ⟨i1, fun p q hq _ => by rw [Rat.zero_den]; exact hq, fun _ h _ => h rfl⟩⟩
    · -- both are not positive
      have bN : sgR (val3 D E F) ≤ 0 := by omega
      have nb0 : 0 ≤ sgR (val3 (-D) (-E) F) := by rw [val3_neg, sgR_neg]; omega
      have nab : sgR (val3 (-A) (-B) C - val3 (-D) (-E) F) = 1 := by
        rw [val3_neg, val3_neg, show -(val3 A B C) - -(val3 D E F) = val3 D E F - val3 A B C from Re.ext fun k => by simp only [re_sub, re_neg]; grind]; exact ab
      have ngap : leR (Re.of (1 / ((pw (59 + 59) : Int) : Rat))) (val3 (-A) (-B) C - val3 (-D) (-E) F) := by
        rw [val3_neg, val3_neg, show -(val3 A B C) - -(val3 D E F) = val3 D E F - val3 A B C from Re.ext fun k => by simp only [re_sub, re_neg]; grind]; exact gap
      obtain ⟨P, Q, R, T, z⟩ := (BSt.start v2.neg v1.neg nb0 nab (by rw [val3_neg]; exact lD) (by rw [val3_neg]; exact lA) ngap).go mD.neg mE.neg mF mA.neg mB.neg mC
      rw [val3_neg, val3_neg] at T
      have oP := xBB_n mA mB mC mD mE mF v1.c0 v2.c0 e1 g1 ea (decide_eq_true aN) eb (decide_eq_false bP) (decide_eq_true bN) (z.mono (by decide)) (xbt_of R)
      refine ⟨-(fr P Q), z.neg, oP, ?_, T.simp.neg⟩
      have f1 : leR (Re.of ((flR A B C : Int) : Rat)) (val3 A B C) := (flR_in v1.c0).1
      have f2 := flR_lt (x := A) (y := B) v1.c0 v1.v
      have hn1 : flR A B C ≤ 0 := by
        have h0 : leR (val3 A B C) (Re.of ((0 : Int) : Rat)) := by
          show 0 ≤ sgR (Re.of 0 - val3 A B C)
          rw [flip_sg, of0]; omega
        exact Rat.intCast_le_intCast.1 (of_le_iff (le_tr f1 h0))
      have hn2 : -pw 7 ≤ flR A B C + 1 := by
        have h0 : leR (Re.of ((-pw 7 : Int) : Rat)) (val3 A B C) := by
          refine nn_of (fun k => ?_) lA
          simp only [re_sub, re_neg, re_of, Rat.intCast_neg]; grind
        have := Rat.intCast_lt_intCast.1 (gt_of h0 f2)
        omega
      have nz := rz8 hn2 hn1
      have L : Lv A B C D E F (flR A B C) := ⟨hA.mono (by decide), hB.mono (by decide), mC, hD.mono (by decide), hE.mono (by decide), mF, v1, v2, ab, rfl, nz.mono (by decide)⟩
      generalize flR A B C = n at *
      by_cases hb : sgR (val3 D E F - Re.of ((n + 1 : Int) : Rat)) = 1
      · have hg : decide (plainS (D - ((n : Rat) + 1)) E F > 0) = true := decide_eq_true (by rw [val3_p v2.c0, ← of_n1, hb]; decide)
        have q1 : leR (Re.of ((flR D E F : Int) : Rat)) (val3 D E F) := (flR_in v2.c0).1
        have q2 := flR_lt (x := D) (y := E) v2.c0 v2.v
        have hm1 : n + 1 < flR D E F + 1 := by
          have h0 : leR (Re.of ((n + 1 : Int) : Rat)) (val3 D E F) := by unfold leR; omega
          exact Rat.intCast_lt_intCast.1 (gt_of h0 q2)
        have hm2 : flR D E F ≤ 0 := by
          have h0 : leR (val3 D E F) (Re.of ((0 : Int) : Rat)) := by
            show 0 ≤ sgR (Re.of 0 - val3 D E F)
            rw [flip_sg, of0]; omega
          exact Rat.intCast_le_intCast.1 (of_le_iff (le_tr q1 h0))
        have oT : Ok Tryz.prog 19 [.a (cR D ++ cR E ++ cR F)] [dR ((flR D E F : Int) : Rat)] := yFloor_ok L.kD L.kE L.kF v2
        generalize flR D E F = m at *
        have mz : Sz 119 m := (rz8 (by omega) hm2).mono (by decide)
        have up : ∀ k : Int, n + 1 ≤ k → sgR (Re.of (k : Rat) - val3 A B C) = 1 := by
          intro k hk
          rw [show Re.of (k : Rat) - val3 A B C = (Re.of (k : Rat) - Re.of ((n + 1 : Int) : Rat)) + (Re.of ((n + 1 : Int) : Rat) - val3 A B C) from Re.ext fun k => by simp only [re_sub, re_add]; grind]
          exact add_pos (leR_cast hk) f2
        by_cases he : sgR (val3 D E F - Re.of (m : Rat)) = 0
        · have hlt : n + 1 < m := by
            have h0 : leR (val3 D E F) (Re.of (m : Rat)) := by unfold leR; rw [flip_sg]; omega
            have h1 : sgR (Re.of (m : Rat) - Re.of ((n + 1 : Int) : Rat)) = 1 := by
              rw [show Re.of (m : Rat) - Re.of ((n + 1 : Int) : Rat) = (Re.of (m : Rat) - val3 D E F) + (val3 D E F - Re.of ((n + 1 : Int) : Rat)) from Re.ext fun k => by simp only [re_sub, re_add]; grind]
              exact add_pos h0 hb
            exact Rat.intCast_lt_intCast.1 (gt_of (leR_refl _) h1)
          have eI := top_int (z := m - 1) (b := val3 D E F) (a := val3 A B C) (by
            rw [show val3 D E F - Re.of ((m - 1 : Int) : Rat) = (val3 D E F - Re.of (m : Rat)) + Re.of 1 from Re.ext fun k => by simp only [re_sub, re_add, re_of, Rat.intCast_sub, cv1]; grind]
            exact add_pos (by omega) (sg_pos (by decide))) (fun k hk => by
              have h1 : sgR (Re.of (m : Rat) - Re.of (k : Rat)) = 1 := by
                rw [show Re.of (m : Rat) - Re.of (k : Rat) = (Re.of (m : Rat) - val3 D E F) + (val3 D E F - Re.of (k : Rat)) from Re.ext fun k => by simp only [re_sub, re_add]; grind]
                exact add_pos (by rw [flip_sg]; omega) hk
              have := Rat.intCast_lt_intCast.1 (gt_of (leR_refl _) h1)
              omega) (up _ (by omega)) T
          rw [eI, Rat.intCast_sub, cv1]
          exact ybt_nwe L (val3_0 v1.c0) (decide_eq_true aN) (decide_eq_false (by omega)) (val3_0 v2.c0) (decide_eq_false (by omega)) L.flA rfl hg mz oT ((val3_p v2.c0).trans he) rfl
        · have hp : sgR (val3 D E F - Re.of (m : Rat)) = 1 := by
            have h0 : 0 ≤ sgR (val3 D E F - Re.of (m : Rat)) := q1
            have := sgR_cases (val3 D E F - Re.of (m : Rat))
            omega
          have eI := top_int (z := m) (b := val3 D E F) (a := val3 A B C) hp (fun k hk => by
              have h0 : leR (Re.of (k : Rat)) (val3 D E F) := by unfold leR; omega
              have := Rat.intCast_lt_intCast.1 (gt_of h0 q2)
              omega) (up _ (by omega)) T
          rw [eI]
          exact ybt_nwu L (val3_0 v1.c0) (decide_eq_true aN) (decide_eq_false (by omega)) (val3_0 v2.c0) (decide_eq_false (by omega)) L.flA rfl hg mz oT ((val3_p v2.c0).trans hp) rfl
      · have hb' : sgR (val3 D E F - Re.of ((n + 1 : Int) : Rat)) ≤ 0 := by have := sgR_cases (val3 D E F - Re.of ((n + 1 : Int) : Rat)); omega
        have b1 : leR (val3 D E F) (Re.of ((n + 1 : Int) : Rat)) := by unfold leR; rw [flip_sg]; omega
        have sA : Rz 12 (A - (n : Rat)) := (hA.sub (Rz.int nz (by decide))).mono (by decide)
        have sD : Rz 12 (D - (n : Rat)) := (hD.sub (Rz.int nz (by decide))).mono (by decide)
        have one7 : leR (Re.of 1) (Re.of ((pw 7 : Int) : Rat)) := by
          have := leR_cast (pw_pos 7)
          exact this
        have xab : sgR (val3 (D - (n : Rat)) E F - val3 (A - (n : Rat)) B C) = 1 := by
          rw [val3_sub, val3_sub, show val3 D E F - Re.of (n : Rat) - (val3 A B C - Re.of (n : Rat)) = val3 D E F - val3 A B C from Re.ext fun k => by simp only [re_sub]; grind]; exact ab
        have xgap : leR (Re.of (1 / ((pw (59 + 59) : Int) : Rat))) (val3 (D - (n : Rat)) E F - val3 (A - (n : Rat)) B C) := by
          rw [val3_sub, val3_sub, show val3 D E F - Re.of (n : Rat) - (val3 A B C - Re.of (n : Rat)) = val3 D E F - val3 A B C from Re.ext fun k => by simp only [re_sub]; grind]; exact gap
        have x0 : 0 ≤ sgR (val3 (A - (n : Rat)) B C) := by rw [val3_sub]; exact f1
        have y1 : leR (val3 (D - (n : Rat)) E F) (Re.of 1) := by rw [val3_sub]; exact one_up (n := n) b1 (leR_refl _)
        have a1 : leR (val3 (A - (n : Rat)) B C) (Re.of 1) := le_tr (by unfold leR; omega) y1
        obtain ⟨P2, Q2, R2, T2, _⟩ := (BSt.start v1 v2 x0 xab (le_tr a1 one7) (le_tr y1 one7) xgap).go sA mB mC sD mE mF
        rw [val3_sub, val3_sub] at T2
        rw [frac_eq T T2 f1 b1]
        exact ybt_frac L aN bN hb' R2 f2
  · -- both are not negative
    have a0 : 0 ≤ sgR (val3 A B C) := by omega
    have b0 : ¬ sgR (val3 D E F) ≤ 0 := by
      have h := add_pos a0 ab
      rw [show val3 A B C + (val3 D E F - val3 A B C) = val3 D E F from Re.ext fun k => by simp only [re_sub, re_add]; grind] at h
      omega
    obtain ⟨P, Q, R, T, z⟩ := (BSt.start v1 v2 a0 ab uA uD gap).go mA mB mC mD mE mF
    exact ⟨fr P Q, z, xBB_p mA mB mC mD mE mF v1.c0 v2.c0 e1 g1 ea (decide_eq_false aN) eb (decide_eq_false b0) (xbt_of R), ybt_of R, T.simp⟩
end
theorem few3_0 {r0 r1 r2 : RN} (wr0 : r0.Wf) (hk : r0.s 2 = false) : Ok Tryz.prog 26 [.c (.s 3 (cN r0 ++ cN r1 ++ cN r2))] [.c (.b false)] := by
  refine Ok.of (by kernel_rfl) Tryz.func26 rfl rfl ?_
  rw [show Tryz.f26.ntmps = 36 from rfl, show Tryz.f26.results.toList = [.tmp 2] from rfl]
  refine dw_seq <| dw_region (by kernel_rfl) <| dl_r (sem_assign rfl rfl) <| dl_end <| dw_seq <| dw_seq <| dw_region (by kernel_rfl) <| dl_r (sem_assign rfl rfl) ?_
  refine dl_end <| dw_block ?_
  refine dw_loop (ι := Nat) (fun i => match i with | _ => ⟨36, [(0, .v (.c (.s 3 (cN r0 ++ cN r1 ++ cN r2)))), (2, .v (.c (.b false))), (3, .v (.c (.i .i64 0)))], []⟩) (fun i => 0 - i) 0 (sub_of ⟨rfl, rfl, rfl, trivial⟩ trivial rfl) ?_
  intro i
  match i with
  | _ =>
    show Dw _ _ ⟨36, [(0, .v (.c (.s 3 (cN r0 ++ cN r1 ++ cN r2)))), (2, .v (.c (.b false))), (3, .v (.c (.i .i64 0)))], []⟩ _
    refine dw_seq <| dw_seq <| dw_region (by kernel_rfl) <| dl_r (sem_move rfl rfl) <| dl_r (sem_move rfl rfl) <| dl_r (sem_len sl78 rfl rfl) <| dl_r (sem_cmp rfl rfl rfl rfl) <| dl_end ?_
    refine dw_true rfl <| dw_skip <| dw_seq <| dw_block <| dw_seq <| dw_region (by kernel_rfl) <| dl_r (sem_move rfl rfl) <| dl_r (sem_move rfl rfl) ?_
    refine dl_r (sem_index sl78 rfl rfl (by decide) rfl rfl rfl) <| dl_r (sem_fieldq fd26_0 rfl rfl rfl) <| dl_r (sem_fieldq fd24_1 rfl rfl rfl) <| dl_r (sem_loadq1 ty22 rfl rfl rfl) <| dl_r (sem_len sl22 rfl rfl) <| dl_r (sem_cmp rfl rfl rfl rfl) ?_
    refine dl_rb (sem_move rfl rfl) (fun c1 hb1 => ?_)
    cases c1
    · refine dl_r (sem_move rfl rfl) <| dl_r (sem_move rfl rfl) <| dl_r (sem_index sl78 rfl rfl (by decide) rfl rfl rfl) <| dl_r (sem_fieldq fd26_1 rfl rfl rfl) <| dl_r (sem_fieldq fd24_1 rfl rfl rfl) <| dl_r (sem_loadq1 ty22 rfl rfl rfl) <| dl_r (sem_len sl22 rfl rfl) <| dl_r (sem_cmp rfl rfl rfl rfl) ?_
      refine dl_r (sem_pick rfl rfl rfl rfl) ?_
      refine dl_rb (sem_move rfl rfl) (fun c2 hb2 => ?_)
      cases c2
      · have q1 := dec_f hb1
        have q2 := dec_f hb2
        refine dl_r (sem_move rfl rfl) <| dl_r (sem_move rfl rfl) <| dl_r (sem_index sl78 rfl rfl (by decide) rfl rfl rfl) <| dl_r (sem_loadq (us := cN r0) ty26 rfl rfl rfl rfl) <| dl_r (sem_call rfl rfl (sValid_ok (by assumption) (by omega) (by omega)) rfl) <| dl_r (sem_not rfl rfl) <| dl_r (sem_pick rfl rfl rfl rfl) <| dl_end ?_
        refine dw_cond rfl (fun hc3 => ?_) (fun hc3 => ?_)
        · refine dw_seq <| dw_region (by kernel_rfl) <| dl_r (sem_assign rfl rfl) <| dl_end <| dw_ret ?_
          exact ⟨.inr rfl, (resL_tmp rfl resL_nil)⟩
        · exact absurd hk (by unfold RN.s; rw [not_f hc3, decide_eq_true (show (r0.x1.length : Int) ≤ 2 by omega), decide_eq_true (show (r0.x2.length : Int) ≤ 2 by omega)]; decide)
      · refine dl_skip (sem_skip rfl) <| dl_skip (sem_skip rfl) <| dl_skip (sem_skip rfl) <| dl_skip (sem_skip rfl) <| dl_skip (sem_skip rfl) <| dl_skip (sem_skip rfl) <| dl_r (sem_pick rfl rfl rfl rfl) <| dl_end ?_
        refine dw_true rfl <| dw_seq <| dw_region (by kernel_rfl) <| dl_r (sem_assign rfl rfl) <| dl_end <| dw_ret ?_
        exact ⟨.inr rfl, (resL_tmp rfl resL_nil)⟩
    · refine dl_skip (sem_skip rfl) <| dl_skip (sem_skip rfl) <| dl_skip (sem_skip rfl) <| dl_skip (sem_skip rfl) <| dl_skip (sem_skip rfl) <| dl_skip (sem_skip rfl) <| dl_skip (sem_skip rfl) <| dl_skip (sem_skip rfl) ?_
      refine dl_r (sem_pick rfl rfl rfl rfl) <| dl_r (sem_move rfl rfl) <| dl_skip (sem_skip rfl) <| dl_skip (sem_skip rfl) <| dl_skip (sem_skip rfl) <| dl_skip (sem_skip rfl) <| dl_skip (sem_skip rfl) <| dl_skip (sem_skip rfl) ?_
      refine dl_r (sem_pick rfl rfl rfl rfl) <| dl_end <| dw_true rfl <| dw_seq <| dw_region (by kernel_rfl) <| dl_r (sem_assign rfl rfl) <| dl_end <| dw_ret ?_
      exact ⟨.inr rfl, (resL_tmp rfl resL_nil)⟩
theorem few3_1 {f0 : Rat} (hf0 : Rz 2 f0) {r1 r2 : RN} (wr1 : r1.Wf) (hk : r1.s 2 = false) : Ok Tryz.prog 26 [.c (.s 3 (cR f0 ++ cN r1 ++ cN r2))] [.c (.b false)] := by
  refine Ok.of (by kernel_rfl) Tryz.func26 rfl rfl ?_
  rw [show Tryz.f26.ntmps = 36 from rfl, show Tryz.f26.results.toList = [.tmp 2] from rfl]
  refine dw_seq <| dw_region (by kernel_rfl) <| dl_r (sem_assign rfl rfl) <| dl_end <| dw_seq <| dw_seq <| dw_region (by kernel_rfl) <| dl_r (sem_assign rfl rfl) ?_
  refine dl_end <| dw_block ?_
  refine dw_loop (ι := Nat) (fun i => match i with | 0 => ⟨36, [(0, .v (.c (.s 3 (cR f0 ++ cN r1 ++ cN r2)))), (2, .v (.c (.b false))), (3, .v (.c (.i .i64 0)))], []⟩ | _ + 1 => ⟨36, [(0, .v (.c (.s 3 (cR f0 ++ cN r1 ++ cN r2)))), (2, .v (.c (.b false))), (3, .v (.c (.i .i64 1)))], []⟩) (fun i => 1 - i) 0 (sub_of ⟨rfl, rfl, rfl, trivial⟩ trivial rfl) ?_
  intro i
  match i with
  | 0 =>
    show Dw _ _ ⟨36, [(0, .v (.c (.s 3 (cR f0 ++ cN r1 ++ cN r2)))), (2, .v (.c (.b false))), (3, .v (.c (.i .i64 0)))], []⟩ _
    refine dw_seq <| dw_seq <| dw_region (by kernel_rfl) <| dl_r (sem_move rfl rfl) <| dl_r (sem_move rfl rfl) <| dl_r (sem_len sl78 rfl rfl) <| dl_r (sem_cmp rfl rfl rfl rfl) <| dl_end ?_
    refine dw_true rfl <| dw_skip <| dw_seq <| dw_block <| dw_seq <| dw_region (by kernel_rfl) <| dl_r (sem_move rfl rfl) <| dl_r (sem_move rfl rfl) ?_
    refine dl_r (sem_index sl78 rfl rfl (by decide) rfl rfl rfl) <| dl_r (sem_fieldq fd26_0 rfl rfl rfl) <| dl_r (sem_fieldq fd24_1 rfl rfl rfl) <| dl_r (sem_loadq1 ty22 rfl rfl rfl) <| dl_r (sem_len sl22 rfl rfl) <| dl_r (sem_castb (sem_cmp rfl rfl rfl rfl) (len2 hf0.n 2 (by decide))) <| dl_r (sem_move rfl rfl) <| dl_r (sem_move rfl rfl) ?_
    refine dl_r (sem_move rfl rfl) <| dl_r (sem_index sl78 rfl rfl (by decide) rfl rfl rfl) <| dl_r (sem_fieldq fd26_1 rfl rfl rfl) <| dl_r (sem_fieldq fd24_1 rfl rfl rfl) <| dl_r (sem_loadq1 ty22 rfl rfl rfl) <| dl_r (sem_len sl22 rfl rfl) <| dl_r (sem_castb (sem_cmp rfl rfl rfl rfl) (len2 hf0.d 2 (by decide))) <| dl_r (sem_pick rfl rfl rfl rfl) ?_
    refine dl_r (sem_move rfl rfl) <| dl_r (sem_move rfl rfl) <| dl_r (sem_move rfl rfl) <| dl_r (sem_index sl78 rfl rfl (by decide) rfl rfl rfl) <| dl_r (sem_loadq (us := cR f0) ty26 rfl rfl rfl rfl) <| dl_r (sem_call rfl rfl (sValid_R (hf0.mono (by decide))) rfl) <| dl_r (sem_not rfl rfl) <| dl_r (sem_pick rfl rfl rfl rfl) ?_
    refine dl_end <| dw_false rfl <| dw_skip <| dw_region (by kernel_rfl) <| dl_r (sem_move rfl rfl) <| dl_r (sem_ari (r := 1) rfl rfl rfl rfl) <| dl_r (sem_assign rfl rfl) <| dl_end ?_
    exact ⟨1, sub_of ⟨rfl, rfl, rfl, trivial⟩ trivial rfl, by show 1 - 1 < 1 - 0; decide⟩
  | z + 1 =>
    show Dw _ _ ⟨36, [(0, .v (.c (.s 3 (cR f0 ++ cN r1 ++ cN r2)))), (2, .v (.c (.b false))), (3, .v (.c (.i .i64 1)))], []⟩ _
    refine dw_seq <| dw_seq <| dw_region (by kernel_rfl) <| dl_r (sem_move rfl rfl) <| dl_r (sem_move rfl rfl) <| dl_r (sem_len sl78 rfl rfl) <| dl_r (sem_cmp rfl rfl rfl rfl) <| dl_end ?_
    refine dw_true rfl <| dw_skip <| dw_seq <| dw_block <| dw_seq <| dw_region (by kernel_rfl) <| dl_r (sem_move rfl rfl) <| dl_r (sem_move rfl rfl) ?_
    refine dl_r (sem_index sl78 rfl rfl (by decide) rfl rfl rfl) <| dl_r (sem_fieldq fd26_0 rfl rfl rfl) <| dl_r (sem_fieldq fd24_1 rfl rfl rfl) <| dl_r (sem_loadq1 ty22 rfl rfl rfl) <| dl_r (sem_len sl22 rfl rfl) <| dl_r (sem_cmp rfl rfl rfl rfl) ?_
    refine dl_rb (sem_move rfl rfl) (fun c1 hb1 => ?_)
    cases c1
    · refine dl_r (sem_move rfl rfl) <| dl_r (sem_move rfl rfl) <| dl_r (sem_index sl78 rfl rfl (by decide) rfl rfl rfl) <| dl_r (sem_fieldq fd26_1 rfl rfl rfl) <| dl_r (sem_fieldq fd24_1 rfl rfl rfl) <| dl_r (sem_loadq1 ty22 rfl rfl rfl) <| dl_r (sem_len sl22 rfl rfl) <| dl_r (sem_cmp rfl rfl rfl rfl) ?_
      refine dl_r (sem_pick rfl rfl rfl rfl) ?_
      refine dl_rb (sem_move rfl rfl) (fun c2 hb2 => ?_)
      cases c2
      · have q1 := dec_f hb1
        have q2 := dec_f hb2
        refine dl_r (sem_move rfl rfl) <| dl_r (sem_move rfl rfl) <| dl_r (sem_index sl78 rfl rfl (by decide) rfl rfl rfl) <| dl_r (sem_loadq (us := cN r1) ty26 rfl rfl rfl rfl) <| dl_r (sem_call rfl rfl (sValid_ok (by assumption) (by omega) (by omega)) rfl) <| dl_r (sem_not rfl rfl) <| dl_r (sem_pick rfl rfl rfl rfl) <| dl_end ?_
        refine dw_cond rfl (fun hc3 => ?_) (fun hc3 => ?_)
        · refine dw_seq <| dw_region (by kernel_rfl) <| dl_r (sem_assign rfl rfl) <| dl_end <| dw_ret ?_
          exact ⟨.inr rfl, (resL_tmp rfl resL_nil)⟩
        · exact absurd hk (by unfold RN.s; rw [not_f hc3, decide_eq_true (show (r1.x1.length : Int) ≤ 2 by omega), decide_eq_true (show (r1.x2.length : Int) ≤ 2 by omega)]; decide)
      · refine dl_skip (sem_skip rfl) <| dl_skip (sem_skip rfl) <| dl_skip (sem_skip rfl) <| dl_skip (sem_skip rfl) <| dl_skip (sem_skip rfl) <| dl_skip (sem_skip rfl) <| dl_r (sem_pick rfl rfl rfl rfl) <| dl_end ?_
        refine dw_true rfl <| dw_seq <| dw_region (by kernel_rfl) <| dl_r (sem_assign rfl rfl) <| dl_end <| dw_ret ?_
        exact ⟨.inr rfl, (resL_tmp rfl resL_nil)⟩
    · refine dl_skip (sem_skip rfl) <| dl_skip (sem_skip rfl) <| dl_skip (sem_skip rfl) <| dl_skip (sem_skip rfl) <| dl_skip (sem_skip rfl) <| dl_skip (sem_skip rfl) <| dl_skip (sem_skip rfl) <| dl_skip (sem_skip rfl) ?_
      refine dl_r (sem_pick rfl rfl rfl rfl) <| dl_r (sem_move rfl rfl) <| dl_skip (sem_skip rfl) <| dl_skip (sem_skip rfl) <| dl_skip (sem_skip rfl) <| dl_skip (sem_skip rfl) <| dl_skip (sem_skip rfl) <| dl_skip (sem_skip rfl) ?_
      refine dl_r (sem_pick rfl rfl rfl rfl) <| dl_end <| dw_true rfl <| dw_seq <| dw_region (by kernel_rfl) <| dl_r (sem_assign rfl rfl) <| dl_end <| dw_ret ?_
      exact ⟨.inr rfl, (resL_tmp rfl resL_nil)⟩
theorem few3_2 {f0 f1 : Rat} (hf0 : Rz 2 f0) (hf1 : Rz 2 f1) {r2 : RN} (wr2 : r2.Wf) (hk : r2.s 2 = false) : Ok Tryz.prog 26 [.c (.s 3 (cR f0 ++ cR f1 ++ cN r2))] [.c (.b false)] := by
  refine Ok.of (by kernel_rfl) Tryz.func26 rfl rfl ?_
  rw [show Tryz.f26.ntmps = 36 from rfl, show Tryz.f26.results.toList = [.tmp 2] from rfl]
  refine dw_seq <| dw_region (by kernel_rfl) <| dl_r (sem_assign rfl rfl) <| dl_end <| dw_seq <| dw_seq <| dw_region (by kernel_rfl) <| dl_r (sem_assign rfl rfl) ?_
  refine dl_end <| dw_block ?_
  refine dw_loop (ι := Nat) (fun i => match i with | 0 => ⟨36, [(0, .v (.c (.s 3 (cR f0 ++ cR f1 ++ cN r2)))), (2, .v (.c (.b false))), (3, .v (.c (.i .i64 0)))], []⟩ | 1 => ⟨36, [(0, .v (.c (.s 3 (cR f0 ++ cR f1 ++ cN r2)))), (2, .v (.c (.b false))), (3, .v (.c (.i .i64 1)))], []⟩ | _ + 2 => ⟨36, [(0, .v (.c (.s 3 (cR f0 ++ cR f1 ++ cN r2)))), (2, .v (.c (.b false))), (3, .v (.c (.i .i64 2)))], []⟩) (fun i => 2 - i) 0 (sub_of ⟨rfl, rfl, rfl, trivial⟩ trivial rfl) ?_
  intro i
  match i with
  | 0 =>
    show Dw _ _ ⟨36, [(0, .v (.c (.s 3 (cR f0 ++ cR f1 ++ cN r2)))), (2, .v (.c (.b false))), (3, .v (.c (.i .i64 0)))], []⟩ _
    refine dw_seq <| dw_seq <| dw_region (by kernel_rfl) <| dl_r (sem_move rfl rfl) <| dl_r (sem_move rfl rfl) <| dl_r (sem_len sl78 rfl rfl) <| dl_r (sem_cmp rfl rfl rfl rfl) <| dl_end ?_
    refine dw_true rfl <| dw_skip <| dw_seq <| dw_block <| dw_seq <| dw_region (by kernel_rfl) <| dl_r (sem_move rfl rfl) <| dl_r (sem_move rfl rfl) ?_
    refine dl_r (sem_index sl78 rfl rfl (by decide) rfl rfl rfl) <| dl_r (sem_fieldq fd26_0 rfl rfl rfl) <| dl_r (sem_fieldq fd24_1 rfl rfl rfl) <| dl_r (sem_loadq1 ty22 rfl rfl rfl) <| dl_r (sem_len sl22 rfl rfl) <| dl_r (sem_castb (sem_cmp rfl rfl rfl rfl) (len2 hf0.n 2 (by decide))) <| dl_r (sem_move rfl rfl) <| dl_r (sem_move rfl rfl) ?_
    refine dl_r (sem_move rfl rfl) <| dl_r (sem_index sl78 rfl rfl (by decide) rfl rfl rfl) <| dl_r (sem_fieldq fd26_1 rfl rfl rfl) <| dl_r (sem_fieldq fd24_1 rfl rfl rfl) <| dl_r (sem_loadq1 ty22 rfl rfl rfl) <| dl_r (sem_len sl22 rfl rfl) <| dl_r (sem_castb (sem_cmp rfl rfl rfl rfl) (len2 hf0.d 2 (by decide))) <| dl_r (sem_pick rfl rfl rfl rfl) ?_
    refine dl_r (sem_move rfl rfl) <| dl_r (sem_move rfl rfl) <| dl_r (sem_move rfl rfl) <| dl_r (sem_index sl78 rfl rfl (by decide) rfl rfl rfl) <| dl_r (sem_loadq (us := cR f0) ty26 rfl rfl rfl rfl) <| dl_r (sem_call rfl rfl (sValid_R (hf0.mono (by decide))) rfl) <| dl_r (sem_not rfl rfl) <| dl_r (sem_pick rfl rfl rfl rfl) ?_
    refine dl_end <| dw_false rfl <| dw_skip <| dw_region (by kernel_rfl) <| dl_r (sem_move rfl rfl) <| dl_r (sem_ari (r := 1) rfl rfl rfl rfl) <| dl_r (sem_assign rfl rfl) <| dl_end ?_
    exact ⟨1, sub_of ⟨rfl, rfl, rfl, trivial⟩ trivial rfl, by show 2 - 1 < 2 - 0; decide⟩
  | 1 =>
    show Dw _ _ ⟨36, [(0, .v (.c (.s 3 (cR f0 ++ cR f1 ++ cN r2)))), (2, .v (.c (.b false))), (3, .v (.c (.i .i64 1)))], []⟩ _
    refine dw_seq <| dw_seq <| dw_region (by kernel_rfl) <| dl_r (sem_move rfl rfl) <| dl_r (sem_move rfl rfl) <| dl_r (sem_len sl78 rfl rfl) <| dl_r (sem_cmp rfl rfl rfl rfl) <| dl_end ?_
    refine dw_true rfl <| dw_skip <| dw_seq <| dw_block <| dw_seq <| dw_region (by kernel_rfl) <| dl_r (sem_move rfl rfl) <| dl_r (sem_move rfl rfl) ?_
    refine dl_r (sem_index sl78 rfl rfl (by decide) rfl rfl rfl) <| dl_r (sem_fieldq fd26_0 rfl rfl rfl) <| dl_r (sem_fieldq fd24_1 rfl rfl rfl) <| dl_r (sem_loadq1 ty22 rfl rfl rfl) <| dl_r (sem_len sl22 rfl rfl) <| dl_r (sem_castb (sem_cmp rfl rfl rfl rfl) (len2 hf1.n 2 (by decide))) <| dl_r (sem_move rfl rfl) <| dl_r (sem_move rfl rfl) ?_
    refine dl_r (sem_move rfl rfl) <| dl_r (sem_index sl78 rfl rfl (by decide) rfl rfl rfl) <| dl_r (sem_fieldq fd26_1 rfl rfl rfl) <| dl_r (sem_fieldq fd24_1 rfl rfl rfl) <| dl_r (sem_loadq1 ty22 rfl rfl rfl) <| dl_r (sem_len sl22 rfl rfl) <| dl_r (sem_castb (sem_cmp rfl rfl rfl rfl) (len2 hf1.d 2 (by decide))) <| dl_r (sem_pick rfl rfl rfl rfl) ?_
    refine dl_r (sem_move rfl rfl) <| dl_r (sem_move rfl rfl) <| dl_r (sem_move rfl rfl) <| dl_r (sem_index sl78 rfl rfl (by decide) rfl rfl rfl) <| dl_r (sem_loadq (us := cR f1) ty26 rfl rfl rfl rfl) <| dl_r (sem_call rfl rfl (sValid_R (hf1.mono (by decide))) rfl) <| dl_r (sem_not rfl rfl) <| dl_r (sem_pick rfl rfl rfl rfl) ?_
    refine dl_end <| dw_false rfl <| dw_skip <| dw_region (by kernel_rfl) <| dl_r (sem_move rfl rfl) <| dl_r (sem_ari (r := 2) rfl rfl rfl rfl) <| dl_r (sem_assign rfl rfl) <| dl_end ?_
    exact ⟨2, sub_of ⟨rfl, rfl, rfl, trivial⟩ trivial rfl, by show 2 - 2 < 2 - 1; decide⟩
  | z + 2 =>
    show Dw _ _ ⟨36, [(0, .v (.c (.s 3 (cR f0 ++ cR f1 ++ cN r2)))), (2, .v (.c (.b false))), (3, .v (.c (.i .i64 2)))], []⟩ _
    refine dw_seq <| dw_seq <| dw_region (by kernel_rfl) <| dl_r (sem_move rfl rfl) <| dl_r (sem_move rfl rfl) <| dl_r (sem_len sl78 rfl rfl) <| dl_r (sem_cmp rfl rfl rfl rfl) <| dl_end ?_
    refine dw_true rfl <| dw_skip <| dw_seq <| dw_block <| dw_seq <| dw_region (by kernel_rfl) <| dl_r (sem_move rfl rfl) <| dl_r (sem_move rfl rfl) ?_
    refine dl_r (sem_index sl78 rfl rfl (by decide) rfl rfl rfl) <| dl_r (sem_fieldq fd26_0 rfl rfl rfl) <| dl_r (sem_fieldq fd24_1 rfl rfl rfl) <| dl_r (sem_loadq1 ty22 rfl rfl rfl) <| dl_r (sem_len sl22 rfl rfl) <| dl_r (sem_cmp rfl rfl rfl rfl) ?_
    refine dl_rb (sem_move rfl rfl) (fun c1 hb1 => ?_)
    cases c1
    · refine dl_r (sem_move rfl rfl) <| dl_r (sem_move rfl rfl) <| dl_r (sem_index sl78 rfl rfl (by decide) rfl rfl rfl) <| dl_r (sem_fieldq fd26_1 rfl rfl rfl) <| dl_r (sem_fieldq fd24_1 rfl rfl rfl) <| dl_r (sem_loadq1 ty22 rfl rfl rfl) <| dl_r (sem_len sl22 rfl rfl) <| dl_r (sem_cmp rfl rfl rfl rfl) ?_
      refine dl_r (sem_pick rfl rfl rfl rfl) ?_
      refine dl_rb (sem_move rfl rfl) (fun c2 hb2 => ?_)
      cases c2
      · have q1 := dec_f hb1
        have q2 := dec_f hb2
        refine dl_r (sem_move rfl rfl) <| dl_r (sem_move rfl rfl) <| dl_r (sem_index sl78 rfl rfl (by decide) rfl rfl rfl) <| dl_r (sem_loadq (us := cN r2) ty26 rfl rfl rfl rfl) <| dl_r (sem_call rfl rfl (sValid_ok (by assumption) (by omega) (by omega)) rfl) <| dl_r (sem_not rfl rfl) <| dl_r (sem_pick rfl rfl rfl rfl) <| dl_end ?_
        refine dw_cond rfl (fun hc3 => ?_) (fun hc3 => ?_)
        · refine dw_seq <| dw_region (by kernel_rfl) <| dl_r (sem_assign rfl rfl) <| dl_end <| dw_ret ?_
          exact ⟨.inr rfl, (resL_tmp rfl resL_nil)⟩
        · exact absurd hk (by unfold RN.s; rw [not_f hc3, decide_eq_true (show (r2.x1.length : Int) ≤ 2 by omega), decide_eq_true (show (r2.x2.length : Int) ≤ 2 by omega)]; decide)
      · refine dl_skip (sem_skip rfl) <| dl_skip (sem_skip rfl) <| dl_skip (sem_skip rfl) <| dl_skip (sem_skip rfl) <| dl_skip (sem_skip rfl) <| dl_skip (sem_skip rfl) <| dl_r (sem_pick rfl rfl rfl rfl) <| dl_end ?_
        refine dw_true rfl <| dw_seq <| dw_region (by kernel_rfl) <| dl_r (sem_assign rfl rfl) <| dl_end <| dw_ret ?_
        exact ⟨.inr rfl, (resL_tmp rfl resL_nil)⟩
    · refine dl_skip (sem_skip rfl) <| dl_skip (sem_skip rfl) <| dl_skip (sem_skip rfl) <| dl_skip (sem_skip rfl) <| dl_skip (sem_skip rfl) <| dl_skip (sem_skip rfl) <| dl_skip (sem_skip rfl) <| dl_skip (sem_skip rfl) ?_
      refine dl_r (sem_pick rfl rfl rfl rfl) <| dl_r (sem_move rfl rfl) <| dl_skip (sem_skip rfl) <| dl_skip (sem_skip rfl) <| dl_skip (sem_skip rfl) <| dl_skip (sem_skip rfl) <| dl_skip (sem_skip rfl) <| dl_skip (sem_skip rfl) ?_
      refine dl_r (sem_pick rfl rfl rfl rfl) <| dl_end <| dw_true rfl <| dw_seq <| dw_region (by kernel_rfl) <| dl_r (sem_assign rfl rfl) <| dl_end <| dw_ret ?_
      exact ⟨.inr rfl, (resL_tmp rfl resL_nil)⟩
theorem few3_all {f0 f1 f2 : Rat} (hf0 : Rz 2 f0) (hf1 : Rz 2 f1) (hf2 : Rz 2 f2)  : Ok Tryz.prog 26 [.c (.s 3 (cR f0 ++ cR f1 ++ cR f2))] [.c (.b true)] := by
  refine Ok.of (by kernel_rfl) Tryz.func26 rfl rfl ?_
  rw [show Tryz.f26.ntmps = 36 from rfl, show Tryz.f26.results.toList = [.tmp 2] from rfl]
  refine dw_seq <| dw_region (by kernel_rfl) <| dl_r (sem_assign rfl rfl) <| dl_end <| dw_seq <| dw_seq <| dw_region (by kernel_rfl) <| dl_r (sem_assign rfl rfl) ?_
  refine dl_end <| dw_block ?_
  refine dw_loop (ι := Nat) (fun i => match i with | 0 => ⟨36, [(0, .v (.c (.s 3 (cR f0 ++ cR f1 ++ cR f2)))), (2, .v (.c (.b false))), (3, .v (.c (.i .i64 0)))], []⟩ | 1 => ⟨36, [(0, .v (.c (.s 3 (cR f0 ++ cR f1 ++ cR f2)))), (2, .v (.c (.b false))), (3, .v (.c (.i .i64 1)))], []⟩ | 2 => ⟨36, [(0, .v (.c (.s 3 (cR f0 ++ cR f1 ++ cR f2)))), (2, .v (.c (.b false))), (3, .v (.c (.i .i64 2)))], []⟩ | _ + 3 => ⟨36, [(0, .v (.c (.s 3 (cR f0 ++ cR f1 ++ cR f2)))), (2, .v (.c (.b false))), (3, .v (.c (.i .i64 3)))], []⟩) (fun i => 3 - i) 0 (sub_of ⟨rfl, rfl, rfl, trivial⟩ trivial rfl) ?_
  intro i
  match i with
  | 0 =>
    show Dw _ _ ⟨36, [(0, .v (.c (.s 3 (cR f0 ++ cR f1 ++ cR f2)))), (2, .v (.c (.b false))), (3, .v (.c (.i .i64 0)))], []⟩ _
    refine dw_seq <| dw_seq <| dw_region (by kernel_rfl) <| dl_r (sem_move rfl rfl) <| dl_r (sem_move rfl rfl) <| dl_r (sem_len sl78 rfl rfl) <| dl_r (sem_cmp rfl rfl rfl rfl) <| dl_end ?_
    refine dw_true rfl <| dw_skip <| dw_seq <| dw_block <| dw_seq <| dw_region (by kernel_rfl) <| dl_r (sem_move rfl rfl) <| dl_r (sem_move rfl rfl) ?_
    refine dl_r (sem_index sl78 rfl rfl (by decide) rfl rfl rfl) <| dl_r (sem_fieldq fd26_0 rfl rfl rfl) <| dl_r (sem_fieldq fd24_1 rfl rfl rfl) <| dl_r (sem_loadq1 ty22 rfl rfl rfl) <| dl_r (sem_len sl22 rfl rfl) <| dl_r (sem_castb (sem_cmp rfl rfl rfl rfl) (len2 hf0.n 2 (by decide))) <| dl_r (sem_move rfl rfl) <| dl_r (sem_move rfl rfl) ?_
    refine dl_r (sem_move rfl rfl) <| dl_r (sem_index sl78 rfl rfl (by decide) rfl rfl rfl) <| dl_r (sem_fieldq fd26_1 rfl rfl rfl) <| dl_r (sem_fieldq fd24_1 rfl rfl rfl) <| dl_r (sem_loadq1 ty22 rfl rfl rfl) <| dl_r (sem_len sl22 rfl rfl) <| dl_r (sem_castb (sem_cmp rfl rfl rfl rfl) (len2 hf0.d 2 (by decide))) <| dl_r (sem_pick rfl rfl rfl rfl) ?_
    refine dl_r (sem_move rfl rfl) <| dl_r (sem_move rfl rfl) <| dl_r (sem_move rfl rfl) <| dl_r (sem_index sl78 rfl rfl (by decide) rfl rfl rfl) <| dl_r (sem_loadq (us := cR f0) ty26 rfl rfl rfl rfl) <| dl_r (sem_call rfl rfl (sValid_R (hf0.mono (by decide))) rfl) <| dl_r (sem_not rfl rfl) <| dl_r (sem_pick rfl rfl rfl rfl) ?_
    refine dl_end <| dw_false rfl <| dw_skip <| dw_region (by kernel_rfl) <| dl_r (sem_move rfl rfl) <| dl_r (sem_ari (r := 1) rfl rfl rfl rfl) <| dl_r (sem_assign rfl rfl) <| dl_end ?_
    exact ⟨1, sub_of ⟨rfl, rfl, rfl, trivial⟩ trivial rfl, by show 3 - 1 < 3 - 0; decide⟩
  | 1 =>
    show Dw _ _ ⟨36, [(0, .v (.c (.s 3 (cR f0 ++ cR f1 ++ cR f2)))), (2, .v (.c (.b false))), (3, .v (.c (.i .i64 1)))], []⟩ _
    refine dw_seq <| dw_seq <| dw_region (by kernel_rfl) <| dl_r (sem_move rfl rfl) <| dl_r (sem_move rfl rfl) <| dl_r (sem_len sl78 rfl rfl) <| dl_r (sem_cmp rfl rfl rfl rfl) <| dl_end ?_
    refine dw_true rfl <| dw_skip <| dw_seq <| dw_block <| dw_seq <| dw_region (by kernel_rfl) <| dl_r (sem_move rfl rfl) <| dl_r (sem_move rfl rfl) ?_
    refine dl_r (sem_index sl78 rfl rfl (by decide) rfl rfl rfl) <| dl_r (sem_fieldq fd26_0 rfl rfl rfl) <| dl_r (sem_fieldq fd24_1 rfl rfl rfl) <| dl_r (sem_loadq1 ty22 rfl rfl rfl) <| dl_r (sem_len sl22 rfl rfl) <| dl_r (sem_castb (sem_cmp rfl rfl rfl rfl) (len2 hf1.n 2 (by decide))) <| dl_r (sem_move rfl rfl) <| dl_r (sem_move rfl rfl) ?_
    refine dl_r (sem_move rfl rfl) <| dl_r (sem_index sl78 rfl rfl (by decide) rfl rfl rfl) <| dl_r (sem_fieldq fd26_1 rfl rfl rfl) <| dl_r (sem_fieldq fd24_1 rfl rfl rfl) <| dl_r (sem_loadq1 ty22 rfl rfl rfl) <| dl_r (sem_len sl22 rfl rfl) <| dl_r (sem_castb (sem_cmp rfl rfl rfl rfl) (len2 hf1.d 2 (by decide))) <| dl_r (sem_pick rfl rfl rfl rfl) ?_
    refine dl_r (sem_move rfl rfl) <| dl_r (sem_move rfl rfl) <| dl_r (sem_move rfl rfl) <| dl_r (sem_index sl78 rfl rfl (by decide) rfl rfl rfl) <| dl_r (sem_loadq (us := cR f1) ty26 rfl rfl rfl rfl) <| dl_r (sem_call rfl rfl (sValid_R (hf1.mono (by decide))) rfl) <| dl_r (sem_not rfl rfl) <| dl_r (sem_pick rfl rfl rfl rfl) ?_
    refine dl_end <| dw_false rfl <| dw_skip <| dw_region (by kernel_rfl) <| dl_r (sem_move rfl rfl) <| dl_r (sem_ari (r := 2) rfl rfl rfl rfl) <| dl_r (sem_assign rfl rfl) <| dl_end ?_
    exact ⟨2, sub_of ⟨rfl, rfl, rfl, trivial⟩ trivial rfl, by show 3 - 2 < 3 - 1; decide⟩
  | 2 =>
    show Dw _ _ ⟨36, [(0, .v (.c (.s 3 (cR f0 ++ cR f1 ++ cR f2)))), (2, .v (.c (.b false))), (3, .v (.c (.i .i64 2)))], []⟩ _
    refine dw_seq <| dw_seq <| dw_region (by kernel_rfl) <| dl_r (sem_move rfl rfl) <| dl_r (sem_move rfl rfl) <| dl_r (sem_len sl78 rfl rfl) <| dl_r (sem_cmp rfl rfl rfl rfl) <| dl_end ?_
    refine dw_true rfl <| dw_skip <| dw_seq <| dw_block <| dw_seq <| dw_region (by kernel_rfl) <| dl_r (sem_move rfl rfl) <| dl_r (sem_move rfl rfl) ?_
    refine dl_r (sem_index sl78 rfl rfl (by decide) rfl rfl rfl) <| dl_r (sem_fieldq fd26_0 rfl rfl rfl) <| dl_r (sem_fieldq fd24_1 rfl rfl rfl) <| dl_r (sem_loadq1 ty22 rfl rfl rfl) <| dl_r (sem_len sl22 rfl rfl) <| dl_r (sem_castb (sem_cmp rfl rfl rfl rfl) (len2 hf2.n 2 (by decide))) <| dl_r (sem_move rfl rfl) <| dl_r (sem_move rfl rfl) ?_
    refine dl_r (sem_move rfl rfl) <| dl_r (sem_index sl78 rfl rfl (by decide) rfl rfl rfl) <| dl_r (sem_fieldq fd26_1 rfl rfl rfl) <| dl_r (sem_fieldq fd24_1 rfl rfl rfl) <| dl_r (sem_loadq1 ty22 rfl rfl rfl) <| dl_r (sem_len sl22 rfl rfl) <| dl_r (sem_castb (sem_cmp rfl rfl rfl rfl) (len2 hf2.d 2 (by decide))) <| dl_r (sem_pick rfl rfl rfl rfl) ?_
    refine dl_r (sem_move rfl rfl) <| dl_r (sem_move rfl rfl) <| dl_r (sem_move rfl rfl) <| dl_r (sem_index sl78 rfl rfl (by decide) rfl rfl rfl) <| dl_r (sem_loadq (us := cR f2) ty26 rfl rfl rfl rfl) <| dl_r (sem_call rfl rfl (sValid_R (hf2.mono (by decide))) rfl) <| dl_r (sem_not rfl rfl) <| dl_r (sem_pick rfl rfl rfl rfl) ?_
    refine dl_end <| dw_false rfl <| dw_skip <| dw_region (by kernel_rfl) <| dl_r (sem_move rfl rfl) <| dl_r (sem_ari (r := 3) rfl rfl rfl rfl) <| dl_r (sem_assign rfl rfl) <| dl_end ?_
    exact ⟨3, sub_of ⟨rfl, rfl, rfl, trivial⟩ trivial rfl, by show 3 - 3 < 3 - 2; decide⟩
  | z + 3 =>
    show Dw _ _ ⟨36, [(0, .v (.c (.s 3 (cR f0 ++ cR f1 ++ cR f2)))), (2, .v (.c (.b false))), (3, .v (.c (.i .i64 3)))], []⟩ _
    refine dw_seq <| dw_seq <| dw_region (by kernel_rfl) <| dl_r (sem_move rfl rfl) <| dl_r (sem_move rfl rfl) <| dl_r (sem_len sl78 rfl rfl) <| dl_r (sem_cmp rfl rfl rfl rfl) <| dl_end ?_
    refine dw_false rfl <| dw_exit <| dw_seq <| dw_region (by kernel_rfl) <| dl_r (sem_assign rfl rfl) <| dl_end <| dw_ret ?_
    exact ⟨.inr rfl, (resL_tmp rfl resL_nil)⟩
theorem few3 {r0 r1 r2 : RN} (wr0 : r0.Wf) (wr1 : r1.Wf) (wr2 : r2.Wf) : Ok Tryz.prog 26 [.c (.s 3 (cN r0 ++ cN r1 ++ cN r2))] [.c (.b false)] ∨ ∃ f0 f1 f2 : Rat, Rz 2 f0 ∧ Rz 2 f1 ∧ Rz 2 f2 ∧ cN r0 = cR f0 ∧ cN r1 = cR f1 ∧ cN r2 = cR f2 ∧ Ok Tryz.prog 26 [.c (.s 3 (cR f0 ++ cR f1 ++ cR f2))] [.c (.b true)] := by
  cases h0 : r0.s 2 with
  | false => exact .inl (by exact few3_0  wr0 h0)
  | true =>
  obtain ⟨f0, g0, e0⟩ := s2_of wr0 h0
  cases h1 : r1.s 2 with
  | false => exact .inl (by rw [e0]; exact few3_1 g0 wr1 h1)
  | true =>
  obtain ⟨f1, g1, e1⟩ := s2_of wr1 h1
  cases h2 : r2.s 2 with
  | false => exact .inl (by rw [e0, e1]; exact few3_2 g0 g1 wr2 h2)
  | true =>
  obtain ⟨f2, g2, e2⟩ := s2_of wr2 h2
  exact .inr ⟨f0, f1, f2, g0, g1, g2, e0, e1, e2, few3_all g0 g1 g2⟩
theorem ySmall5_A {x y z : RN} (oF : Ok Tryz.prog 26 [.c (.s 3 (cN x ++ cN y ++ cN z))] [.c (.b false)]) : Ok Tryz.prog 6 [.a (cN x ++ cN y ++ cN z)] [.c (.b false)] := by
  refine Ok.of (by kernel_rfl) Tryz.func6 rfl rfl ?_
  rw [show Tryz.f6.ntmps = 48 from rfl, show Tryz.f6.results.toList = [.tmp 2] from rfl]
  refine dw_seq <| dw_region (by kernel_rfl) <| dl_new (sem_box_a rfl rfl) rfl <| dl_r (sem_assign rfl rfl) <| dl_end <| dw_seq <| dw_seq <| dw_region (by kernel_rfl) ?_
  refine dl_r (sem_field fd28_0 rfl rfl) <| dl_r (sem_load (us := cN x) ty26 rfl rfl rfl rfl rfl) <| dl_r (sem_field fd28_1 rfl rfl) <| dl_r (sem_load (us := cN y) ty26 rfl rfl rfl rfl rfl) <| dl_r (sem_field fd28_2 rfl rfl) <| dl_r (sem_load (us := cN z) ty26 rfl rfl rfl rfl rfl) <| dl_r (sem_slit_D (n := 3) (us := cN x ++ cN y ++ cN z) el78 rfl rfl rfl (by decide) (by decide) rfl) <| dl_r (sem_call rfl rfl (oF) rfl) ?_
  refine dl_r (sem_not rfl rfl) <| dl_end <| dw_true rfl <| dw_seq <| dw_region (by kernel_rfl) <| dl_r (sem_assign rfl rfl) <| dl_end <| dw_ret ?_
  exact ⟨.inr rfl, (resL_tmp rfl resL_nil)⟩
theorem ySmall5_R {a b c : Rat} (_ha : Rz 2 a) (hb : Rz 2 b) (hc : Rz 2 c) (oF : Ok Tryz.prog 26 [.c (.s 3 (cR a ++ cR b ++ cR c))] [.c (.b true)]) : Ok Tryz.prog 6 [.a (cR a ++ cR b ++ cR c)] [.c (.b (vRoot b c))] := by
  have kb : Rz 300 b := hb.mono (by decide)
  have kc : Rz 300 c := hc.mono (by decide)
  refine Ok.of (by kernel_rfl) Tryz.func6 rfl rfl ?_
  rw [show Tryz.f6.ntmps = 48 from rfl, show Tryz.f6.results.toList = [.tmp 2] from rfl]
  refine dw_seq <| dw_region (by kernel_rfl) <| dl_new (sem_box_a rfl rfl) rfl <| dl_r (sem_assign rfl rfl) <| dl_end <| dw_seq <| dw_seq <| dw_region (by kernel_rfl) ?_
  refine dl_r (sem_field fd28_0 rfl rfl) <| dl_r (sem_load (us := cR a) ty26 rfl rfl rfl rfl rfl) <| dl_r (sem_field fd28_1 rfl rfl) <| dl_r (sem_load (us := cR b) ty26 rfl rfl rfl rfl rfl) <| dl_r (sem_field fd28_2 rfl rfl) <| dl_r (sem_load (us := cR c) ty26 rfl rfl rfl rfl rfl) <| dl_r (sem_slit_D (n := 3) (us := cR a ++ cR b ++ cR c) el78 rfl rfl rfl (by decide) (by decide) rfl) <| dl_r (sem_call rfl rfl (oF) rfl) ?_
  refine dl_r (sem_not rfl rfl) <| dl_end <| dw_false rfl <| dw_skip <| dw_seq <| dw_seq <| dw_region (by kernel_rfl) <| dl_r (sem_field fd28_1 rfl rfl) ?_
  refine dl_r (sem_load (us := cR b) ty26 rfl rfl rfl rfl rfl) <| dl_r (sem_call rfl rfl (sSign_ok) rfl) <| dl_r (sem_cmp rfl rfl rfl rfl) ?_
  refine dl_rb (sem_move rfl rfl) (fun c1 hb1 => ?_)
  cases c1
  · refine dl_r (sem_field fd28_2 rfl rfl) <| dl_r (sem_load (us := cR c) ty26 rfl rfl rfl rfl rfl) <| dl_r (sem_call rfl rfl (sSign_ok) rfl) <| dl_r (sem_cmp rfl rfl rfl rfl) <| dl_r (sem_pick rfl rfl rfl rfl) <| dl_end ?_
    refine dw_cond rfl (fun hc2 => ?_) (fun hc2 => ?_)
    · refine dw_seq <| dw_region (by kernel_rfl) <| dl_r (sem_field fd28_1 rfl rfl) <| dl_r (sem_load (us := cR b) ty26 rfl rfl rfl rfl rfl) <| dl_r (sem_call rfl rfl (sSign_ok) rfl) <| dl_r (sem_cmp rfl rfl rfl rfl) ?_
      refine dl_rb (sem_move rfl rfl) (fun c3 hb3 => ?_)
      cases c3
      · refine dl_skip (sem_skip rfl) <| dl_skip (sem_skip rfl) <| dl_skip (sem_skip rfl) <| dl_skip (sem_skip rfl) <| dl_r (sem_pick rfl rfl rfl rfl) <| dl_r (sem_assign rfl rfl) <| dl_end <| dw_ret ?_
        rw [vRoot_c hb1 hc2]
        exact ⟨.inr rfl, (resL_tmp rfl resL_nil)⟩
      · exact absurd hb3 (by rw [hb1]; decide)
    · refine dw_skip <| dw_seq <| dw_region (by kernel_rfl) <| dl_r (sem_field fd28_2 rfl rfl) <| dl_r (sem_load (us := cR c) ty26 rfl rfl rfl rfl rfl) ?_
      refine dl_r (sem_call rfl rfl (sSqrt_ok (by first | assumption | exact Rz.mono hc (by decide))) rfl) ?_
      refine dl_r (sem_move rfl rfl) <| dl_r (sem_extract rfl rfl rfl) <| dl_r (sem_extract rfl rfl rfl) <| dl_new (sem_alloc zc26 rfl) rfl <| dl_st (sem_store_a ty26 rfl rfl rfl rfl rfl rfl) <| dl_r (sem_assign rfl rfl) <| dl_end <| dw_seq ?_
      refine dw_region (by kernel_rfl) <| dl_r (sem_field fd28_2 rfl rfl) <| dl_r (sem_load (us := cR c) ty26 rfl rfl rfl rfl rfl) <| dl_r (sem_call rfl rfl (sSign_ok) rfl) <| dl_r (sem_cmp rfl rfl rfl rfl) ?_
      refine dl_rb (sem_move rfl rfl) (fun c4 hb4 => ?_)
      cases c4
      · refine dl_skip (sem_skip rfl) <| dl_skip (sem_skip rfl) <| dl_r (sem_pick rfl rfl rfl rfl) <| dl_r (sem_assign rfl rfl) <| dl_end <| dw_ret ?_
        rw [vRoot_n hb1 hc2, hb4, Bool.false_and]
        exact ⟨.inr rfl, (resL_tmp rfl resL_nil)⟩
      · refine dl_r (sem_move rfl rfl) <| dl_r (sem_not rfl rfl) <| dl_r (sem_pick rfl rfl rfl rfl) <| dl_r (sem_assign rfl rfl) <| dl_end <| dw_ret ?_
        rw [vRoot_n hb1 hc2, hb4, Bool.true_and]
        exact ⟨.inr rfl, (resL_tmp rfl resL_nil)⟩
  · refine dl_skip (sem_skip rfl) <| dl_skip (sem_skip rfl) <| dl_skip (sem_skip rfl) <| dl_skip (sem_skip rfl) <| dl_r (sem_pick rfl rfl rfl rfl) <| dl_end <| dw_true rfl <| dw_seq ?_
    refine dw_region (by kernel_rfl) <| dl_r (sem_field fd28_1 rfl rfl) <| dl_r (sem_load (us := cR b) ty26 rfl rfl rfl rfl rfl) <| dl_r (sem_call rfl rfl (sSign_ok) rfl) <| dl_r (sem_cmp rfl rfl rfl rfl) ?_
    refine dl_rb (sem_move rfl rfl) (fun c5 hb5 => ?_)
    cases c5
    · exact absurd hb1 (by rw [hb5]; decide)
    · refine dl_r (sem_field fd28_2 rfl rfl) <| dl_r (sem_load (us := cR c) ty26 rfl rfl rfl rfl rfl) <| dl_r (sem_call rfl rfl (sSign_ok) rfl) <| dl_r (sem_cmp rfl rfl rfl rfl) <| dl_r (sem_pick rfl rfl rfl rfl) <| dl_r (sem_assign rfl rfl) <| dl_end <| dw_ret ?_
      rw [vRoot_b hb1]
      exact ⟨.inr rfl, (resL_tmp rfl resL_nil)⟩
theorem small5_ex {x y z : RN} (w1 : x.Wf) (w2 : y.Wf) (w3 : z.Wf) : Ok Tryz.prog 6 [.a (cN x ++ cN y ++ cN z)] [.c (.b false)] ∨
    (Ok Tryz.prog 6 [.a (cN x ++ cN y ++ cN z)] [.c (.b true)] ∧ ∃ a b c : Rat, Rz 2 a ∧ Rz 2 b ∧ Rz 2 c ∧ vRoot b c = true ∧ (cN x ++ cN y ++ cN z) = (cR a ++ cR b ++ cR c)) := by
  rcases few3 w1 w2 w3 with h | ⟨a, b, c, g1, g2, g3, e1, e2, e3, h⟩
  · exact .inl (ySmall5_A h)
  · have h1 := ySmall5_R g1 g2 g3 h
    cases hv : vRoot b c with
    | false => rw [hv] at h1; rw [e1, e2, e3]; exact .inl h1
    | true => rw [hv] at h1; rw [e1, e2, e3]; exact .inr ⟨h1, a, b, c, g1, g2, g3, hv, rfl⟩
theorem cmp_ngt {x y : Int} (h : x ≤ y) : decide (cmpI x y > 0) = false := decide_eq_false (by
  unfold cmpI
  split
  · decide
  · rw [if_neg (by omega)]; decide)
theorem nI64_b {x : Int} (hx : Sz 1000 x) (_h0 : 1 ≤ x) (h1 : 9223372036854775807 < x) : Ok Tryz.prog 13 [dI x] [.c (.i .i64 0), .c (.b false)] := by
  refine Ok.of (by kernel_rfl) Tryz.func13 rfl rfl ?_
  rw [show Tryz.f13.ntmps = 29 from rfl, show Tryz.f13.results.toList = [.tmp 2, .tmp 3] from rfl]
  refine dw_seq <| dw_region (by kernel_rfl) <| dl_new (sem_box_a rfl rfl) rfl <| dl_r (sem_assign rfl rfl) <| dl_r (sem_assign rfl rfl) <| dl_end <| dw_seq <| dw_region (by kernel_rfl) ?_
  refine dl_r (sem_call rfl rfl (nFrom_ok (by decide) (by decide)) rfl) <| dl_r (sem_call rfl rfl (nFrom_ok (by decide) (by decide)) rfl) <| dl_new (sem_alloc zc24 rfl) rfl <| dl_new (sem_alloc zc24 rfl) rfl <| dl_st (sem_store_a ty24 rfl rfl rfl rfl rfl rfl) <| dl_st (sem_store_a ty24 rfl rfl rfl rfl rfl rfl) <| dl_end <| dw_seq ?_
  refine dw_seq <| dw_region (by kernel_rfl) <| dl_r (sem_load (us := cI x) ty24 rfl rfl rfl rfl rfl) <| dl_r (sem_load (us := cI (-9223372036854775808)) ty24 rfl rfl rfl rfl rfl) <| dl_r (sem_call rfl rfl (nCmp_ok (hx.mono (by decide)) (Sz.small (by decide) (by decide) (by decide))) rfl) <| dl_r (sem_castb (sem_cmp rfl rfl rfl rfl) (decide_eq_false (by rw [cmp_gt (by omega)]; decide))) <| dl_r (sem_move rfl rfl) <| dl_r (sem_load (us := cI x) ty24 rfl rfl rfl rfl rfl) ?_
  refine dl_r (sem_load (us := cI 9223372036854775807) ty24 rfl rfl rfl rfl rfl) <| dl_r (sem_call rfl rfl (nCmp_ok (hx.mono (by decide)) (Sz.small (by decide) (by decide) (by decide))) rfl) <| dl_r (sem_castb (sem_cmp rfl rfl rfl rfl) (decide_eq_true (by rw [cmp_gt (by omega)]; decide))) <| dl_r (sem_pick rfl rfl rfl rfl) <| dl_end <| dw_true rfl <| dw_seq <| dw_region (by kernel_rfl) ?_
  refine dl_r (sem_assign rfl rfl) <| dl_r (sem_assign rfl rfl) <| dl_end <| dw_ret ?_
  exact ⟨.inr rfl, (resL_tmp rfl (resL_tmp rfl resL_nil))⟩
theorem nI64_p {x : Int} (hx : Sz 1000 x) (h0 : 1 ≤ x) (h1 : x ≤ 9223372036854775807) : Ok Tryz.prog 13 [dI x] [.c (.i .i64 (((x.natAbs : Nat) : Int))), .c (.b true)] := by
  refine Ok.of (by kernel_rfl) Tryz.func13 rfl rfl ?_
  rw [show Tryz.f13.ntmps = 29 from rfl, show Tryz.f13.results.toList = [.tmp 2, .tmp 3] from rfl]
  refine dw_seq <| dw_region (by kernel_rfl) <| dl_new (sem_box_a rfl rfl) rfl <| dl_r (sem_assign rfl rfl) <| dl_r (sem_assign rfl rfl) <| dl_end <| dw_seq <| dw_region (by kernel_rfl) ?_
  refine dl_r (sem_call rfl rfl (nFrom_ok (by decide) (by decide)) rfl) <| dl_r (sem_call rfl rfl (nFrom_ok (by decide) (by decide)) rfl) <| dl_new (sem_alloc zc24 rfl) rfl <| dl_new (sem_alloc zc24 rfl) rfl <| dl_st (sem_store_a ty24 rfl rfl rfl rfl rfl rfl) <| dl_st (sem_store_a ty24 rfl rfl rfl rfl rfl rfl) <| dl_end <| dw_seq ?_
  refine dw_seq <| dw_region (by kernel_rfl) <| dl_r (sem_load (us := cI x) ty24 rfl rfl rfl rfl rfl) <| dl_r (sem_load (us := cI (-9223372036854775808)) ty24 rfl rfl rfl rfl rfl) <| dl_r (sem_call rfl rfl (nCmp_ok (hx.mono (by decide)) (Sz.small (by decide) (by decide) (by decide))) rfl) <| dl_r (sem_castb (sem_cmp rfl rfl rfl rfl) (decide_eq_false (by rw [cmp_gt (by omega)]; decide))) <| dl_r (sem_move rfl rfl) <| dl_r (sem_load (us := cI x) ty24 rfl rfl rfl rfl rfl) ?_
  refine dl_r (sem_load (us := cI 9223372036854775807) ty24 rfl rfl rfl rfl rfl) <| dl_r (sem_call rfl rfl (nCmp_ok (hx.mono (by decide)) (Sz.small (by decide) (by decide) (by decide))) rfl) <| dl_r (sem_castb (sem_cmp rfl rfl rfl rfl) (cmp_ngt h1)) <| dl_r (sem_pick rfl rfl rfl rfl) <| dl_end <| dw_false rfl <| dw_skip <| dw_seq ?_
  refine dw_region (by kernel_rfl) <| dl_r (sem_field fd24_1 rfl rfl) <| dl_r (sem_load1 ty22 rfl rfl rfl rfl) <| dl_r (sem_call rfl rfl (rShort_c (by omega)) rfl) <| dl_r (sem_assign rfl rfl) <| dl_end <| dw_seq <| dw_seq ?_
  refine dw_region (by kernel_rfl) <| dl_r (sem_field fd24_0 rfl rfl) <| dl_r (sem_load1 ty4 rfl rfl rfl rfl) <| dl_end ?_
  refine dw_cond rfl (fun hc1 => ?_) (fun hc1 => ?_)
  · exact absurd (of_decide_eq_true hc1) (by omega)
  · refine dw_skip <| dw_seq <| dw_region (by kernel_rfl) <| dl_r (sem_move rfl rfl) <| dl_r (sem_conv' (r := ((x.natAbs : Nat) : Int)) und69 und2 rfl (nw64 (by omega) (by omega)) rfl) <| dl_r (sem_assign rfl rfl) <| dl_r (sem_assign rfl rfl) <| dl_end ?_
    refine dw_ret ?_
    exact ⟨.inr rfl, (resL_tmp rfl (resL_tmp rfl resL_nil))⟩
end Go.Proofs.YthlnndkgpgfbnaaGreat
