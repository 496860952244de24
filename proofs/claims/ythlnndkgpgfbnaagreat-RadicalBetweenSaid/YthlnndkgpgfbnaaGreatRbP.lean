/- The simplest number between two values: the program's and the reference's results, all ways. -/
import Derived.Test.YthlnndkgpgfbnaaGreatRbO
import Derived.Test.YthlnndkgpgfbnaaGreatRows
import Derived.Deep.Slices
import Derived.ProofKit
import Derived.OpenShut
import Derived.Carry
namespace Go.Proofs.YthlnndkgpgfbnaaGreat
open Go Go.RowKit
structure Simp (a b : Re) (z : Rat) : Prop where
  mem : InR a b z
  den : ∀ p q : Int, 0 < q → InR a b (fr p q) → (z.den : Int) ≤ q
  near : z.den = 1 → z ≠ 0 → ¬ InR a b (z - ((cmpR z 0 : Int) : Rat))
theorem den_neg (z : Rat) : (-z).den = z.den := Rat.neg_den z
theorem TMin.simp {a b : Re} {P Q : Int} (h : TMin (InR a b) P Q) : Simp a b (fr P Q) := by
  obtain ⟨e1, e2⟩ := h.den
  refine ⟨h.mem, fun p q hq hm => by rw [e2]; exact (h.min p q hq hm).2, fun hd _ hm => ?_⟩
  have hp := h.p
  have hQ : Q = 1 := by rw [← e2, hd]; rfl
  subst hQ
  have hf := fr_mul (p := P) (q := 1) (by decide)
  rw [cv1, Rat.mul_one] at hf
  rw [hf] at hm
  have hc : cmpR (P : Rat) 0 = 1 := by rw [← sgR_of]; exact sg_pos (ic_pos hp)
  rw [hc, cv1] at hm
  have e3 : fr (P - 1) 1 = (P : Rat) - 1 := fr_eq (by decide) (by rw [cv1, Rat.intCast_sub, Rat.mul_one, cv1])
  rw [← e3] at hm
  have := (h.min (P - 1) 1 (by decide) hm).1
  omega
theorem InR_neg {a b : Re} (x : Rat) : InR (-b) (-a) x ↔ InR a b (-x) := by
  have h1 : Re.of x - -b = b - Re.of (-x) := Re.ext fun k => by simp only [re_sub, re_neg, re_of]; grind
  have h2 : -a - Re.of x = Re.of (-x) - a := Re.ext fun k => by simp only [re_sub, re_neg, re_of]; grind
  unfold InR
  rw [h1, h2]
  exact ⟨fun h => ⟨h.2, h.1⟩, fun h => ⟨h.2, h.1⟩⟩
theorem fr_neg {p q : Int} (h : 0 < q) : fr (-p) q = -(fr p q) := fr_eq h (by have := fr_mul (p := p) h; rw [Rat.intCast_neg]; grind)
theorem Simp.neg {a b : Re} {z : Rat} (h : Simp (-b) (-a) z) : Simp a b (-z) := by
  refine ⟨(InR_neg z).1 h.mem, fun p q hq hm => ?_, fun hd hz hm => ?_⟩
  · rw [den_neg]
    refine h.den (-p) q hq ?_
    rw [fr_neg hq, InR_neg, Rat.neg_neg]; exact hm
  · rw [den_neg] at hd
    refine h.near hd (fun e => hz (by rw [e]; rfl)) ?_
    rw [InR_neg]
    have e : cmpR (-z) 0 = -cmpR z 0 := by
      rw [← sgR_of, ← sgR_of, ← sgR_neg]
      exact congrArg sgR (Re.ext fun k => by simp only [re_neg, re_of])
    rw [e] at hm
    rw [show -(z - ((cmpR z 0 : Int) : Rat)) = -z - ((-cmpR z 0 : Int) : Rat) from by rw [Rat.intCast_neg]; grind]
    exact hm
theorem Vl.neg {y z : Rat} (h : Vl y z) : Vl (-y) z := ⟨h.c0, fun e => h.v fun e2 => e (by rw [e2]; rfl), fun e => h.z (by grind)⟩
section
variable {A B C D E F : Rat}
theorem BSt.start (v1 : Vl B C) (v2 : Vl E F) (a0 : 0 ≤ sgR (val3 A B C)) (ab : sgR (val3 D E F - val3 A B C) = 1) (VU : leR (val3 A B C) (Re.of ((pw 7 : Int) : Rat))) (WU : leR (val3 D E F) (Re.of ((pw 7 : Int) : Rat)))
    (gap : leR (Re.of (1 / ((pw (59 + 59) : Int) : Rat))) (val3 D E F - val3 A B C)) : BSt (pw 7) 59 A B C D E F 1 0 0 1 A B D E := by
  have p7 := pw_pos 7
  have p59 := pw_pos 59
  have b0 : 0 ≤ sgR (val3 D E F) := by
    rw [show val3 D E F = val3 A B C + (val3 D E F - val3 A B C) from Re.ext fun k => by simp only [re_sub, re_add]; grind]
    have := add_pos a0 ab
    omega
  exact ⟨Mob.init A B C, Mob.init D E F, v1, v2, by decide, by decide, by decide, by decide, p7, by omega, by omega, by omega, p59, a0, b0, VU, WU, .inr gap, a0, le_tr VU (leR_cast (pw_le (by decide))), ab, .inl ⟨rfl, rfl⟩⟩
theorem gap_of (hA : Rz 2 A) (hB : Rz 2 B) (hC : Rz 2 C) (hD : Rz 2 D) (hE : Rz 2 E) (hF : Rz 2 F) (cC : 0 ≤ C) (cF : 0 ≤ F) (ab : sgR (val3 D E F - val3 A B C) = 1) : leR (Re.of (1 / ((pw (59 + 59) : Int) : Rat))) (val3 D E F - val3 A B C) := by
  have e : val6 (D - A) E (-B) 0 F C = val3 D E F - val3 A B C := Re.ext fun k => by simp only [val6, val3, re_sub, re_add, re_mul, re_of]; grind
  have h := sep4 (hD.sub hA) hE hB.neg hF hC cF cC (by rw [e]; exact ab)
  rw [e] at h
  exact le_tr (of_le (pw_inv (by decide))) h
theorem val_up (hA : Rz 2 A) (hB : Rz 2 B) (hC : Rz 2 C) (cC : 0 ≤ C) : leR (val3 A B C) (Re.of ((pw 7 : Int) : Rat)) ∧ leR (-(val3 A B C)) (Re.of ((pw 7 : Int) : Rat)) := val3_bd hA hB hC cC (sum_pw 2 2 2)
theorem BSt.go (hA : Rz 12 A) (hB : Rz 12 B) (hC : Rz 12 C) (hD : Rz 12 D) (hE : Rz 12 E) (hF : Rz 12 F) (S : BSt (pw 7) 59 A B C D E F 1 0 0 1 A B D E) : ∃ P Q : Int, Res A B C D E F P Q ∧ TMin (InR (val3 A B C) (val3 D E F)) P Q ∧ Rz 237 (fr P Q) := by
  obtain ⟨P, Q, R, T⟩ := S.res hA hB hC hD hE hF (3 * pw 59).toNat (by have := pw_pos 59; omega)
  obtain ⟨t1, t2⟩ := T.bound S.v1 S.au S.gap
  have t3 : pw (59 + 59 + 1) ≤ pw (59 + 59 + (59 + 59) + 1) := pw_le (by decide)
  exact ⟨P, Q, R, T, T.rz t1 (Int.lt_of_lt_of_le t2 t3)⟩
theorem frac_eq {a b : Re} {n P Q P2 Q2 : Int} (T : TMin (InR (-b) (-a)) P Q) (T2 : TMin (InR (a - Re.of (n : Rat)) (b - Re.of (n : Rat))) P2 Q2) (a0 : leR (Re.of (n : Rat)) a) (b1 : leR b (Re.of ((n + 1 : Int) : Rat))) : -(fr P Q) = (n : Rat) + fr P2 Q2 := by
  have sh : ∀ x : Rat, InR (a - Re.of (n : Rat)) (b - Re.of (n : Rat)) x ↔ InR a b ((n : Rat) + x) := by
    intro x
    have h1 : Re.of x - (a - Re.of (n : Rat)) = Re.of ((n : Rat) + x) - a := Re.ext fun k => by simp only [re_sub, re_of]; grind
    have h2 : b - Re.of (n : Rat) - Re.of x = b - Re.of ((n : Rat) + x) := Re.ext fun k => by simp only [re_sub, re_of]; grind
    unfold InR
    rw [h1, h2]
  have hq := T.q
  have hq2 := T2.q
  have f1 := fr_mul (p := P) hq
  have f2 := fr_mul (p := P2) hq2
  have e2 : fr (-(n * Q2) - P2) Q2 = -((n : Rat) + fr P2 Q2) := fr_eq hq2 (by rw [Rat.intCast_sub, Rat.intCast_neg, Rat.intCast_mul, ← f2]; grind)
  have e1 : fr (-P - n * Q) Q = -(fr P Q) - (n : Rat) := fr_eq hq (by rw [Rat.intCast_sub, Rat.intCast_neg, Rat.intCast_mul, ← f1]; grind)
  have m2 : InR (-b) (-a) (fr (-(n * Q2) - P2) Q2) := by
    rw [e2, InR_neg, Rat.neg_neg]
    exact (sh _).1 T2.mem
  have m1 : InR (a - Re.of (n : Rat)) (b - Re.of (n : Rat)) (fr (-P - n * Q) Q) := by
    rw [e1, sh, show (n : Rat) + (-(fr P Q) - (n : Rat)) = -(fr P Q) by grind]
    exact (InR_neg _).1 T.mem
  have g1 := (T.min _ _ hq2 m2).2
  have g2 := (T2.min _ _ hq m1).2
  have hQ : Q2 = Q := by omega
  subst hQ
  by_cases h1 : Q2 = 1
  · exfalso
    subst h1
    obtain ⟨i1, i2⟩ := (sh _).1 T2.mem
    have k1 := gt_of a0 i1
    rw [cv1, Rat.mul_one] at f2
    rw [f2] at k1 i2
    have k2 : ((n + P2 : Int) : Rat) ≤ ((n + 1 : Int) : Rat) := by
      rw [Rat.intCast_add]
      exact of_le_iff (le_tr (by unfold leR; omega) b1)
    have k3 := Rat.intCast_le_intCast.1 k2
    have k4 : ((n : Int) : Rat) < ((n + P2 : Int) : Rat) := by rw [Rat.intCast_add]; exact k1
    have k5 := Rat.intCast_lt_intCast.1 k4
    have k6 : P2 = 1 := by omega
    subst k6
    have k7 : 0 ≤ sgR (Re.of ((n : Rat) + ((1 : Int) : Rat)) - b) := by
      rw [← Rat.intCast_add]; exact b1
    rw [flip_sg, i2] at k7
    omega
  · have hc : ∀ x y z : Rat, InR (-b) (-a) x → InR (-b) (-a) y → x ≤ z → z ≤ y → InR (-b) (-a) z := by
      intro x y z hx hy hxz hzy
      refine ⟨?_, ?_⟩
      · rw [show Re.of z - -b = (Re.of z - Re.of x) + (Re.of x - -b) from Re.ext fun k => by simp only [re_sub, re_add]; grind]
        exact add_pos (of_le hxz) hx.1
      · rw [show -a - Re.of z = (Re.of y - Re.of z) + (-a - Re.of y) from Re.ext fun k => by simp only [re_sub, re_add]; grind]
        exact add_pos (of_le hzy) hy.2
    have hk := least_den hc (by omega) T.mem m2 fun p q hq hm => (T.min p q hq hm).2
    rw [hk, e2, Rat.neg_neg]
theorem top_int {a b : Re} {z P Q : Int} (hb : sgR (b - Re.of (z : Rat)) = 1) (hl : ∀ k : Int, sgR (b - Re.of (k : Rat)) = 1 → k ≤ z) (ha : sgR (Re.of (z : Rat) - a) = 1) (T : TMin (InR (-b) (-a)) P Q) : -(fr P Q) = (z : Rat) := by
  have e : fr (-z) 1 = -(z : Rat) := fr_eq (by decide) (by rw [cv1, Rat.intCast_neg, Rat.mul_one])
  obtain ⟨m1, m2⟩ := T.min (-z) 1 (by decide) (by rw [e, InR_neg, Rat.neg_neg]; exact ⟨ha, hb⟩)
  have hq := T.q
  have hQ : Q = 1 := by omega
  subst hQ
  have hf := fr_mul (p := P) (q := 1) (by decide)
  rw [cv1, Rat.mul_one] at hf
  have hm := (InR_neg _).1 T.mem
  rw [hf, ← Rat.intCast_neg] at hm
  have := hl _ hm.2
  have h2 : P = -z := by omega
  rw [hf, h2, Rat.intCast_neg, Rat.neg_neg]
theorem rz8 {n : Int} (h1 : -pw 7 ≤ n + 1) (h2 : n ≤ 0) : Sz 8 n := by
  have h3 : pw 7 + 1 < pw 8 := pw_one1 7
  exact ⟨by omega, by omega⟩
theorem ybt_frac {n P2 Q2 : Int} (L : Lv A B C D E F n) (aN : sgR (val3 A B C) < 0) (bN : sgR (val3 D E F) ≤ 0) (hb : sgR (val3 D E F - Re.of ((n + 1 : Int) : Rat)) ≤ 0) (R : Res (A - (n : Rat)) B C (D - (n : Rat)) E F P2 Q2) (x1 : sgR (Re.of ((n + 1 : Int) : Rat) - val3 A B C) = 1) :
    Ok Tryz.prog 12 [.a (cR A ++ cR B ++ cR C), .a (cR D ++ cR E ++ cR F)] [dR ((n : Rat) + fr P2 Q2)] := by
  have c0 : ((0 : Int) : Rat) = 0 := rfl
  have nz : ∀ {k : Int}, Lv (A - (n : Rat)) B C (D - (n : Rat)) E F k → 0 ≤ sgR (val3 (A - (n : Rat)) B C) → k = 0 := by
    intro k L2 a0
    have f1 : leR (Re.of ((flR (A - (n : Rat)) B C : Int) : Rat)) (val3 (A - (n : Rat)) B C) := (flR_in L2.v1.c0).1
    have f2 := flR_lt (x := A - (n : Rat)) (y := B) L2.v1.c0 L2.v1.v
    rw [← L2.nf] at f1 f2
    have k1 := gt_of (n := 0) (leR_nn a0) f2
    have k2 := Rat.intCast_lt_intCast.1 k1
    have x2 : sgR (Re.of ((1 : Int) : Rat) - val3 (A - (n : Rat)) B C) = 1 := by
      rw [show Re.of ((1 : Int) : Rat) - val3 (A - (n : Rat)) B C = Re.of ((n + 1 : Int) : Rat) - val3 A B C from Re.ext fun k => by
        simp only [val3, re_sub, re_add, re_mul, re_of, Rat.intCast_add]; grind]; exact x1
    have k3 := gt_of f1 x2
    have k4 := Rat.intCast_lt_intCast.1 k3
    omega
  have eD : D - (n : Rat) - ((0 : Int) : Rat) = D - (n : Rat) := by rw [c0]; grind
  have eA : A - (n : Rat) - ((0 : Int) : Rat) = A - (n : Rat) := by rw [c0]; grind
  have o0 : Re.of ((0 : Int) : Rat) = Re.of 0 := rfl
  have hg : decide (plainS (D - ((n : Rat) + 1)) E F > 0) = false := decide_eq_false (by rw [val3_p L.v2.c0, ← of_n1]; omega)
  cases R with
  | whole L2 a0 h =>
    exfalso
    have e := nz L2 a0
    subst e
    rw [show val3 (D - (n : Rat)) E F - Re.of ((0 + 1 : Int) : Rat) = val3 D E F - Re.of ((n + 1 : Int) : Rat) from Re.ext fun k => by
      simp only [val3, re_sub, re_add, re_mul, re_of, Rat.intCast_add, c0]; grind] at h
    omega
  | @last _ _ _ _ _ _ w k m L2 a0 h hbn hz hw hm tA tB m0 mz =>
    have e := nz L2 a0
    subst e
    rw [eD] at hw hm tA
    rw [o0, of0] at hz
    have oT := yFloor_ok (tA.mono (by decide)) (tB.mono (by decide)) L.kF (inv_vl L.v2 hw)
    rw [← hm] at oT
    rw [fr_last 0 m0, c0, Rat.zero_add]
    exact ybt_nl L (val3_0 L.v1.c0) (decide_eq_true aN) (decide_eq_false (by omega)) (val3_0 L.v2.c0) (decide_eq_false (by omega)) L.flA rfl hg (L.sh.trans (by rw [← val3_sub, hz])) (d := 0) rfl hw mz oT (m1_ne m0)
  | @step _ _ _ _ _ _ w1 w2 k P Q L2 a0 h hbn hz hw1 hw2 R p0 q0 z =>
    have e := nz L2 a0
    subst e
    rw [eD] at hw2 R
    rw [eA] at hw1 R
    rw [o0, of0] at hz
    rw [fr_shift p0 q0, c0, Rat.zero_add]
    exact ybt_ns L (val3_0 L.v1.c0) (decide_eq_true aN) (decide_eq_false (by omega)) (val3_0 L.v2.c0) (decide_eq_false (by omega)) L.flA rfl hg (L.sh.trans (by rw [← val3_sub, hz])) (d := 1) rfl hw2 hw1 (ybt_of R) z (fr_ne p0 q0)
theorem btw_main (hA : Rz 2 A) (hB : Rz 2 B) (hC : Rz 2 C) (hD : Rz 2 D) (hE : Rz 2 E) (hF : Rz 2 F) (v1 : Vl B C) (v2 : Vl E F) (ab : sgR (val3 D E F - val3 A B C) = 1) :
    ∃ z : Rat, Rz 237 z ∧ Ok Tryz.prog 7 [.a (cR A ++ cR B ++ cR C), .a (cR D ++ cR E ++ cR F)] [dR z, .c (.i .i64 0)] ∧
      Ok Tryz.prog 12 [.a (cR A ++ cR B ++ cR C), .a (cR D ++ cR E ++ cR F)] [dR z] ∧ Simp (val3 A B C) (val3 D E F) z := by
  have mA : Rz 12 A := hA.mono (by decide)
  have mB : Rz 12 B := hB.mono (by decide)
  have mC : Rz 12 C := hC.mono (by decide)
  have mD : Rz 12 D := hD.mono (by decide)
  have mE : Rz 12 E := hE.mono (by decide)
  have mF : Rz 12 F := hF.mono (by decide)
  have gap := gap_of hA hB hC hD hE hF v1.c0 v2.c0 ab
  obtain ⟨uA, lA⟩ := val_up hA hB hC v1.c0
  obtain ⟨uD, lD⟩ := val_up hD hE hF v2.c0
  have e1 : signQ (A - D) B (-E) 0 C F = sgR (val3 A B C - val3 D E F) := signQ_val v1.c0 v2.c0
  have g1 : decide (sgR (val3 A B C - val3 D E F) ≥ 0) = false := decide_eq_false (by rw [flip_sg, ab]; decide)
  have ea : signQ (A - 0) B (-0) 0 C 0 = sgR (val3 A B C) := by rw [val3_r v1.c0, of0]
  have eb : signQ (D - 0) E (-0) 0 F 0 = sgR (val3 D E F) := by rw [val3_r v2.c0, of0]
  by_cases aN : sgR (val3 A B C) < 0
  · by_cases bP : sgR (val3 D E F) > 0
    · -- 0 lies between
      have i1 : InR (val3 A B C) (val3 D E F) 0 := by
        refine ⟨?_, ?_⟩
        · rw [flip_sg, of0]; have := sgR_cases (val3 A B C); omega
        · rw [of0]; have := sgR_cases (val3 D E F); omega
      exact ⟨0, Rz.zero (by decide), xBB_z mA mB mC mD mE mF v1.c0 v2.c0 e1 g1 ea (decide_eq_true aN) eb (decide_eq_true bP), ybt_z mA mB mC mD mE mF v1.c0 v2.c0 (val3_0 v1.c0) (decide_eq_true aN) (val3_0 v2.c0) (decide_eq_true bP), ⟨i1, fun p q hq _ => by rw [Rat.zero_den]; exact hq, fun _ h _ => h rfl⟩⟩
    · -- both are not positive
      have bN : sgR (val3 D E F) ≤ 0 := by omega
      have nb0 : 0 ≤ sgR (val3 (-D) (-E) F) := by rw [val3_neg, sgR_neg]; omega
      have nab : sgR (val3 (-A) (-B) C - val3 (-D) (-E) F) = 1 := by
        rw [val3_neg, val3_neg, show -(val3 A B C) - -(val3 D E F) = val3 D E F - val3 A B C from Re.ext fun k => by simp only [re_sub, re_neg]; grind]; exact ab
      have ngap : leR (Re.of (1 / ((pw (59 + 59) : Int) : Rat))) (val3 (-A) (-B) C - val3 (-D) (-E) F) := by
        rw [val3_neg, val3_neg, show -(val3 A B C) - -(val3 D E F) = val3 D E F - val3 A B C from Re.ext fun k => by simp only [re_sub, re_neg]; grind]; exact gap
      obtain ⟨P, Q, R, T, z⟩ := (BSt.start v2.neg v1.neg nb0 nab (by rw [val3_neg]; exact lD) (by rw [val3_neg]; exact lA) ngap).go mD.neg mE.neg mF mA.neg mB.neg mC
      rw [val3_neg, val3_neg] at T
      have oP := xBB_n mA mB mC mD mE mF v1.c0 v2.c0 e1 g1 ea (decide_eq_true aN) eb (decide_eq_false bP) (decide_eq_true bN) (z.mono (by decide)) (xbt_of R)
      refine ⟨-(fr P Q), z.neg, oP, ?_, T.simp.neg⟩
      have f1 : leR (Re.of ((flR A B C : Int) : Rat)) (val3 A B C) := (flR_in v1.c0).1
      have f2 := flR_lt (x := A) (y := B) v1.c0 v1.v
      have hn1 : flR A B C ≤ 0 := by
        have h0 : leR (val3 A B C) (Re.of ((0 : Int) : Rat)) := by
          show 0 ≤ sgR (Re.of 0 - val3 A B C)
          rw [flip_sg, of0]; omega
        exact Rat.intCast_le_intCast.1 (of_le_iff (le_tr f1 h0))
      have hn2 : -pw 7 ≤ flR A B C + 1 := by
        have h0 : leR (Re.of ((-pw 7 : Int) : Rat)) (val3 A B C) := by
          refine nn_of (fun k => ?_) lA
          simp only [re_sub, re_neg, re_of, Rat.intCast_neg]; grind
        have := Rat.intCast_lt_intCast.1 (gt_of h0 f2)
        omega
      have nz := rz8 hn2 hn1
      have L : Lv A B C D E F (flR A B C) := ⟨hA.mono (by decide), hB.mono (by decide), mC, hD.mono (by decide), hE.mono (by decide), mF, v1, v2, ab, rfl, nz.mono (by decide)⟩
      generalize flR A B C = n at *
      by_cases hb : sgR (val3 D E F - Re.of ((n + 1 : Int) : Rat)) = 1
      · have hg : decide (plainS (D - ((n : Rat) + 1)) E F > 0) = true := decide_eq_true (by rw [val3_p v2.c0, ← of_n1, hb]; decide)
        have q1 : leR (Re.of ((flR D E F : Int) : Rat)) (val3 D E F) := (flR_in v2.c0).1
        have q2 := flR_lt (x := D) (y := E) v2.c0 v2.v
        have hm1 : n + 1 < flR D E F + 1 := by
          have h0 : leR (Re.of ((n + 1 : Int) : Rat)) (val3 D E F) := by unfold leR; omega
          exact Rat.intCast_lt_intCast.1 (gt_of h0 q2)
        have hm2 : flR D E F ≤ 0 := by
          have h0 : leR (val3 D E F) (Re.of ((0 : Int) : Rat)) := by
            show 0 ≤ sgR (Re.of 0 - val3 D E F)
            rw [flip_sg, of0]; omega
          exact Rat.intCast_le_intCast.1 (of_le_iff (le_tr q1 h0))
        have oT : Ok Tryz.prog 19 [.a (cR D ++ cR E ++ cR F)] [dR ((flR D E F : Int) : Rat)] := yFloor_ok L.kD L.kE L.kF v2
        generalize flR D E F = m at *
        have mz : Sz 119 m := (rz8 (by omega) hm2).mono (by decide)
        have up : ∀ k : Int, n + 1 ≤ k → sgR (Re.of (k : Rat) - val3 A B C) = 1 := by
          intro k hk
          rw [show Re.of (k : Rat) - val3 A B C = (Re.of (k : Rat) - Re.of ((n + 1 : Int) : Rat)) + (Re.of ((n + 1 : Int) : Rat) - val3 A B C) from Re.ext fun k => by simp only [re_sub, re_add]; grind]
          exact add_pos (leR_cast hk) f2
        by_cases he : sgR (val3 D E F - Re.of (m : Rat)) = 0
        · have hlt : n + 1 < m := by
            have h0 : leR (val3 D E F) (Re.of (m : Rat)) := by unfold leR; rw [flip_sg]; omega
            have h1 : sgR (Re.of (m : Rat) - Re.of ((n + 1 : Int) : Rat)) = 1 := by
              rw [show Re.of (m : Rat) - Re.of ((n + 1 : Int) : Rat) = (Re.of (m : Rat) - val3 D E F) + (val3 D E F - Re.of ((n + 1 : Int) : Rat)) from Re.ext fun k => by simp only [re_sub, re_add]; grind]
              exact add_pos h0 hb
            exact Rat.intCast_lt_intCast.1 (gt_of (leR_refl _) h1)
          have eI := top_int (z := m - 1) (b := val3 D E F) (a := val3 A B C) (by
            rw [show val3 D E F - Re.of ((m - 1 : Int) : Rat) = (val3 D E F - Re.of (m : Rat)) + Re.of 1 from Re.ext fun k => by simp only [re_sub, re_add, re_of, Rat.intCast_sub, cv1]; grind]
            exact add_pos (by omega) (sg_pos (by decide))) (fun k hk => by
              have h1 : sgR (Re.of (m : Rat) - Re.of (k : Rat)) = 1 := by
                rw [show Re.of (m : Rat) - Re.of (k : Rat) = (Re.of (m : Rat) - val3 D E F) + (val3 D E F - Re.of (k : Rat)) from Re.ext fun k => by simp only [re_sub, re_add]; grind]
                exact add_pos (by rw [flip_sg]; omega) hk
              have := Rat.intCast_lt_intCast.1 (gt_of (leR_refl _) h1)
              omega) (up _ (by omega)) T
          rw [eI, Rat.intCast_sub, cv1]
          exact ybt_nwe L (val3_0 v1.c0) (decide_eq_true aN) (decide_eq_false (by omega)) (val3_0 v2.c0) (decide_eq_false (by omega)) L.flA rfl hg mz oT ((val3_p v2.c0).trans he) rfl
        · have hp : sgR (val3 D E F - Re.of (m : Rat)) = 1 := by
            have h0 : 0 ≤ sgR (val3 D E F - Re.of (m : Rat)) := q1
            have := sgR_cases (val3 D E F - Re.of (m : Rat))
            omega
          have eI := top_int (z := m) (b := val3 D E F) (a := val3 A B C) hp (fun k hk => by
              have h0 : leR (Re.of (k : Rat)) (val3 D E F) := by unfold leR; omega
              have := Rat.intCast_lt_intCast.1 (gt_of h0 q2)
              omega) (up _ (by omega)) T
          rw [eI]
          exact ybt_nwu L (val3_0 v1.c0) (decide_eq_true aN) (decide_eq_false (by omega)) (val3_0 v2.c0) (decide_eq_false (by omega)) L.flA rfl hg mz oT ((val3_p v2.c0).trans hp) rfl
      · have hb' : sgR (val3 D E F - Re.of ((n + 1 : Int) : Rat)) ≤ 0 := by have := sgR_cases (val3 D E F - Re.of ((n + 1 : Int) : Rat)); omega
        have b1 : leR (val3 D E F) (Re.of ((n + 1 : Int) : Rat)) := by unfold leR; rw [flip_sg]; omega
        have sA : Rz 12 (A - (n : Rat)) := (hA.sub (Rz.int nz (by decide))).mono (by decide)
        have sD : Rz 12 (D - (n : Rat)) := (hD.sub (Rz.int nz (by decide))).mono (by decide)
        have one7 : leR (Re.of 1) (Re.of ((pw 7 : Int) : Rat)) := by
          have := leR_cast (pw_pos 7)
          exact this
        have xab : sgR (val3 (D - (n : Rat)) E F - val3 (A - (n : Rat)) B C) = 1 := by
          rw [val3_sub, val3_sub, show val3 D E F - Re.of (n : Rat) - (val3 A B C - Re.of (n : Rat)) = val3 D E F - val3 A B C from Re.ext fun k => by simp only [re_sub]; grind]; exact ab
        have xgap : leR (Re.of (1 / ((pw (59 + 59) : Int) : Rat))) (val3 (D - (n : Rat)) E F - val3 (A - (n : Rat)) B C) := by
          rw [val3_sub, val3_sub, show val3 D E F - Re.of (n : Rat) - (val3 A B C - Re.of (n : Rat)) = val3 D E F - val3 A B C from Re.ext fun k => by simp only [re_sub]; grind]; exact gap
        have x0 : 0 ≤ sgR (val3 (A - (n : Rat)) B C) := by rw [val3_sub]; exact f1
        have y1 : leR (val3 (D - (n : Rat)) E F) (Re.of 1) := by rw [val3_sub]; exact one_up (n := n) b1 (leR_refl _)
        have a1 : leR (val3 (A - (n : Rat)) B C) (Re.of 1) := le_tr (by unfold leR; omega) y1
        obtain ⟨P2, Q2, R2, T2, _⟩ := (BSt.start v1 v2 x0 xab (le_tr a1 one7) (le_tr y1 one7) xgap).go sA mB mC sD mE mF
        rw [val3_sub, val3_sub] at T2
        rw [frac_eq T T2 f1 b1]
        exact ybt_frac L aN bN hb' R2 f2
  · -- both are not negative
    have a0 : 0 ≤ sgR (val3 A B C) := by omega
    have b0 : ¬ sgR (val3 D E F) ≤ 0 := by
      have h := add_pos a0 ab
      rw [show val3 A B C + (val3 D E F - val3 A B C) = val3 D E F from Re.ext fun k => by simp only [re_sub, re_add]; grind] at h
      omega
    obtain ⟨P, Q, R, T, z⟩ := (BSt.start v1 v2 a0 ab uA uD gap).go mA mB mC mD mE mF
    exact ⟨fr P Q, z, xBB_p mA mB mC mD mE mF v1.c0 v2.c0 e1 g1 ea (decide_eq_false aN) eb (decide_eq_false b0) (xbt_of R), ybt_of R, T.simp⟩
end
theorem few3_0 {r0 r1 r2 : RN} (wr0 : r0.Wf) (hk : r0.s 2 = false) : Ok Tryz.prog 26 [.c (.s 3 (cN r0 ++ cN r1 ++ cN r2))] [.c (.b false)] := by
  refine Ok.of (by kernel_rfl) Tryz.func26 rfl rfl ?_
  rw [show Tryz.f26.ntmps = 36 from rfl, show Tryz.f26.results.toList = [.tmp 2] from rfl]
  refine dw_seq <| dw_region (by kernel_rfl) <| dl_r (sem_assign rfl rfl) <| dl_end <| dw_seq <| dw_seq <| dw_region (by kernel_rfl) <| dl_r (sem_assign rfl rfl) ?_
  refine dl_end <| dw_block ?_
  refine dw_loop (ι := Nat) (fun i => match i with | _ => ⟨36, [(0, .v (.c (.s 3 (cN r0 ++ cN r1 ++ cN r2)))), (2, .v (.c (.b false))), (3, .v (.c (.i .i64 0)))], []⟩) (fun i => 0 - i) 0 (sub_of ⟨rfl, rfl, rfl, trivial⟩ trivial rfl) ?_
  intro i
  match i with
  | _ =>
    show Dw _ _ ⟨36, [(0, .v (.c (.s 3 (cN r0 ++ cN r1 ++ cN r2)))), (2, .v (.c (.b false))), (3, .v (.c (.i .i64 0)))], []⟩ _
    refine dw_seq <| dw_seq <| dw_region (by kernel_rfl) <| dl_r (sem_move rfl rfl) <| dl_r (sem_move rfl rfl) <| dl_r (sem_len sl78 rfl rfl) <| dl_r (sem_cmp rfl rfl rfl rfl) <| dl_end ?_
    refine dw_true rfl <| dw_skip <| dw_seq <| dw_block <| dw_seq <| dw_region (by kernel_rfl) <| dl_r (sem_move rfl rfl) <| dl_r (sem_move rfl rfl) ?_
    refine dl_r (sem_index sl78 rfl rfl (by decide) rfl rfl rfl) <| dl_r (sem_fieldq fd26_0 rfl rfl rfl) <| dl_r (sem_fieldq fd24_1 rfl rfl rfl) <| dl_r (sem_loadq1 ty22 rfl rfl rfl) <| dl_r (sem_len sl22 rfl rfl) <| dl_r (sem_cmp rfl rfl rfl rfl) ?_
    refine dl_rb (sem_move rfl rfl) (fun c1 hb1 => ?_)
    cases c1
    · refine dl_r (sem_move rfl rfl) <| dl_r (sem_move rfl rfl) <| dl_r (sem_index sl78 rfl rfl (by decide) rfl rfl rfl) <| dl_r (sem_fieldq fd26_1 rfl rfl rfl) <| dl_r (sem_fieldq fd24_1 rfl rfl rfl) <| dl_r (sem_loadq1 ty22 rfl rfl rfl) <| dl_r (sem_len sl22 rfl rfl) <| dl_r (sem_cmp rfl rfl rfl rfl) ?_
      refine dl_r (sem_pick rfl rfl rfl rfl) ?_
      refine dl_rb (sem_move rfl rfl) (fun c2 hb2 => ?_)
      cases c2
      · have q1 := dec_f hb1
        have q2 := dec_f hb2
        refine dl_r (sem_move rfl rfl) <| dl_r (sem_move rfl rfl) <| dl_r (sem_index sl78 rfl rfl (by decide) rfl rfl rfl) <| dl_r (sem_loadq (us := cN r0) ty26 rfl rfl rfl rfl) <| dl_r (sem_call rfl rfl (sValid_ok (by assumption) (by omega) (by omega)) rfl) <| dl_r (sem_not rfl rfl) <| dl_r (sem_pick rfl rfl rfl rfl) <| dl_end ?_
        refine dw_cond rfl (fun hc3 => ?_) (fun hc3 => ?_)
        · refine dw_seq <| dw_region (by kernel_rfl) <| dl_r (sem_assign rfl rfl) <| dl_end <| dw_ret ?_
          exact ⟨.inr rfl, (resL_tmp rfl resL_nil)⟩
        · exact absurd hk (by unfold RN.s; rw [not_f hc3, decide_eq_true (show (r0.x1.length : Int) ≤ 2 by omega), decide_eq_true (show (r0.x2.length : Int) ≤ 2 by omega)]; decide)
      · refine dl_skip (sem_skip rfl) <| dl_skip (sem_skip rfl) <| dl_skip (sem_skip rfl) <| dl_skip (sem_skip rfl) <| dl_skip (sem_skip rfl) <| dl_skip (sem_skip rfl) <| dl_r (sem_pick rfl rfl rfl rfl) <| dl_end ?_
        refine dw_true rfl <| dw_seq <| dw_region (by kernel_rfl) <| dl_r (sem_assign rfl rfl) <| dl_end <| dw_ret ?_
        exact ⟨.inr rfl, (resL_tmp rfl resL_nil)⟩
    · refine dl_skip (sem_skip rfl) <| dl_skip (sem_skip rfl) <| dl_skip (sem_skip rfl) <| dl_skip (sem_skip rfl) <| dl_skip (sem_skip rfl) <| dl_skip (sem_skip rfl) <| dl_skip (sem_skip rfl) <| dl_skip (sem_skip rfl) ?_
      refine dl_r (sem_pick rfl rfl rfl rfl) <| dl_r (sem_move rfl rfl) <| dl_skip (sem_skip rfl) <| dl_skip (sem_skip rfl) <| dl_skip (sem_skip rfl) <| dl_skip (sem_skip rfl) <| dl_skip (sem_skip rfl) <| dl_skip (sem_skip rfl) ?_
      refine dl_r (sem_pick rfl rfl rfl rfl) <| dl_end <| dw_true rfl <| dw_seq <| dw_region (by kernel_rfl) <| dl_r (sem_assign rfl rfl) <| dl_end <| dw_ret ?_
      exact ⟨.inr rfl, (resL_tmp rfl resL_nil)⟩
theorem few3_1 {f0 : Rat} (hf0 : Rz 2 f0) {r1 r2 : RN} (wr1 : r1.Wf) (hk : r1.s 2 = false) : Ok Tryz.prog 26 [.c (.s 3 (cR f0 ++ cN r1 ++ cN r2))] [.c (.b false)] := by
  refine Ok.of (by kernel_rfl) Tryz.func26 rfl rfl ?_
  rw [show Tryz.f26.ntmps = 36 from rfl, show Tryz.f26.results.toList = [.tmp 2] from rfl]
  refine dw_seq <| dw_region (by kernel_rfl) <| dl_r (sem_assign rfl rfl) <| dl_end <| dw_seq <| dw_seq <| dw_region (by kernel_rfl) <| dl_r (sem_assign rfl rfl) ?_
  refine dl_end <| dw_block ?_
  refine dw_loop (ι := Nat) (fun i => match i with | 0 => ⟨36, [(0, .v (.c (.s 3 (cR f0 ++ cN r1 ++ cN r2)))), (2, .v (.c (.b false))), (3, .v (.c (.i .i64 0)))], []⟩ | _ + 1 => ⟨36, [(0, .v (.c (.s 3 (cR f0 ++ cN r1 ++ cN r2)))), (2, .v (.c (.b false))), (3, .v (.c (.i .i64 1)))], []⟩) (fun i => 1 - i) 0 (sub_of ⟨rfl, rfl, rfl, trivial⟩ trivial rfl) ?_
  intro i
  match i with
  | 0 =>
    show Dw _ _ ⟨36, [(0, .v (.c (.s 3 (cR f0 ++ cN r1 ++ cN r2)))), (2, .v (.c (.b false))), (3, .v (.c (.i .i64 0)))], []⟩ _
    refine dw_seq <| dw_seq <| dw_region (by kernel_rfl) <| dl_r (sem_move rfl rfl) <| dl_r (sem_move rfl rfl) <| dl_r (sem_len sl78 rfl rfl) <| dl_r (sem_cmp rfl rfl rfl rfl) <| dl_end ?_
    refine dw_true rfl <| dw_skip <| dw_seq <| dw_block <| dw_seq <| dw_region (by kernel_rfl) <| dl_r (sem_move rfl rfl) <| dl_r (sem_move rfl rfl) ?_
    refine dl_r (sem_index sl78 rfl rfl (by decide) rfl rfl rfl) <| dl_r (sem_fieldq fd26_0 rfl rfl rfl) <| dl_r (sem_fieldq fd24_1 rfl rfl rfl) <| dl_r (sem_loadq1 ty22 rfl rfl rfl) <| dl_r (sem_len sl22 rfl rfl) <| dl_r (sem_castb (sem_cmp rfl rfl rfl rfl) (len2 hf0.n 2 (by decide))) <| dl_r (sem_move rfl rfl) <| dl_r (sem_move rfl rfl) ?_
    refine dl_r (sem_move rfl rfl) <| dl_r (sem_index sl78 rfl rfl (by decide) rfl rfl rfl) <| dl_r (sem_fieldq fd26_1 rfl rfl rfl) <| dl_r (sem_fieldq fd24_1 rfl rfl rfl) <| dl_r (sem_loadq1 ty22 rfl rfl rfl) <| dl_r (sem_len sl22 rfl rfl) <| dl_r (sem_castb (sem_cmp rfl rfl rfl rfl) (len2 hf0.d 2 (by decide))) <| dl_r (sem_pick rfl rfl rfl rfl) ?_
    refine dl_r (sem_move rfl rfl) <| dl_r (sem_move rfl rfl) <| dl_r (sem_move rfl rfl) <| dl_r (sem_index sl78 rfl rfl (by decide) rfl rfl rfl) <| dl_r (sem_loadq (us := cR f0) ty26 rfl rfl rfl rfl) <| dl_r (sem_call rfl rfl (sValid_R (hf0.mono (by decide))) rfl) <| dl_r (sem_not rfl rfl) <| dl_r (sem_pick rfl rfl rfl rfl) ?_
    refine dl_end <| dw_false rfl <| dw_skip <| dw_region (by kernel_rfl) <| dl_r (sem_move rfl rfl) <| dl_r (sem_ari (r := 1) rfl rfl rfl rfl) <| dl_r (sem_assign rfl rfl) <| dl_end ?_
    exact ⟨1, sub_of ⟨rfl, rfl, rfl, trivial⟩ trivial rfl, by show 1 - 1 < 1 - 0; decide⟩
  | z + 1 =>
    show Dw _ _ ⟨36, [(0, .v (.c (.s 3 (cR f0 ++ cN r1 ++ cN r2)))), (2, .v (.c (.b false))), (3, .v (.c (.i .i64 1)))], []⟩ _
    refine dw_seq <| dw_seq <| dw_region (by kernel_rfl) <| dl_r (sem_move rfl rfl) <| dl_r (sem_move rfl rfl) <| dl_r (sem_len sl78 rfl rfl) <| dl_r (sem_cmp rfl rfl rfl rfl) <| dl_end ?_
    refine dw_true rfl <| dw_skip <| dw_seq <| dw_block <| dw_seq <| dw_region (by kernel_rfl) <| dl_r (sem_move rfl rfl) <| dl_r (sem_move rfl rfl) ?_
    refine dl_r (sem_index sl78 rfl rfl (by decide) rfl rfl rfl) <| dl_r (sem_fieldq fd26_0 rfl rfl rfl) <| dl_r (sem_fieldq fd24_1 rfl rfl rfl) <| dl_r (sem_loadq1 ty22 rfl rfl rfl) <| dl_r (sem_len sl22 rfl rfl) <| dl_r (sem_cmp rfl rfl rfl rfl) ?_
    refine dl_rb (sem_move rfl rfl) (fun c1 hb1 => ?_)
    cases c1
    · refine dl_r (sem_move rfl rfl) <| dl_r (sem_move rfl rfl) <| dl_r (sem_index sl78 rfl rfl (by decide) rfl rfl rfl) <| dl_r (sem_fieldq fd26_1 rfl rfl rfl) <| dl_r (sem_fieldq fd24_1 rfl rfl rfl) <| dl_r (sem_loadq1 ty22 rfl rfl rfl) <| dl_r (sem_len sl22 rfl rfl) <| dl_r (sem_cmp rfl rfl rfl rfl) ?_
      refine dl_r (sem_pick rfl rfl rfl rfl) ?_
      refine dl_rb (sem_move rfl rfl) (fun c2 hb2 => ?_)
      cases c2
      · have q1 := dec_f hb1
        have q2 := dec_f hb2
        refine dl_r (sem_move rfl rfl) <| dl_r (sem_move rfl rfl) <| dl_r (sem_index sl78 rfl rfl (by decide) rfl rfl rfl) <| dl_r (sem_loadq (us := cN r1) ty26 rfl rfl rfl rfl) <| dl_r (sem_call rfl rfl (sValid_ok (by assumption) (by omega) (by omega)) rfl) <| dl_r (sem_not rfl rfl) <| dl_r (sem_pick rfl rfl rfl rfl) <| dl_end ?_
        refine dw_cond rfl (fun hc3 => ?_) (fun hc3 => ?_)
        · refine dw_seq <| dw_region (by kernel_rfl) <| dl_r (sem_assign rfl rfl) <| dl_end <| dw_ret ?_
          exact ⟨.inr rfl, (resL_tmp rfl resL_nil)⟩
        · exact absurd hk (by unfold RN.s; rw [not_f hc3, decide_eq_true (show (r1.x1.length : Int) ≤ 2 by omega), decide_eq_true (show (r1.x2.length : Int) ≤ 2 by omega)]; decide)
      · refine dl_skip (sem_skip rfl) <| dl_skip (sem_skip rfl) <| dl_skip (sem_skip rfl) <| dl_skip (sem_skip rfl) <| dl_skip (sem_skip rfl) <| dl_skip (sem_skip rfl) <| dl_r (sem_pick rfl rfl rfl rfl) <| dl_end ?_
        refine dw_true rfl <| dw_seq <| dw_region (by kernel_rfl) <| dl_r (sem_assign rfl rfl) <| dl_end <| dw_ret ?_
        exact ⟨.inr rfl, (resL_tmp rfl resL_nil)⟩
    · refine dl_skip (sem_skip rfl) <| dl_skip (sem_skip rfl) <| dl_skip (sem_skip rfl) <| dl_skip (sem_skip rfl) <| dl_skip (sem_skip rfl) <| dl_skip (sem_skip rfl) <| dl_skip (sem_skip rfl) <| dl_skip (sem_skip rfl) ?_
      refine dl_r (sem_pick rfl rfl rfl rfl) <| dl_r (sem_move rfl rfl) <| dl_skip (sem_skip rfl) <| dl_skip (sem_skip rfl) <| dl_skip (sem_skip rfl) <| dl_skip (sem_skip rfl) <| dl_skip (sem_skip rfl) <| dl_skip (sem_skip rfl) ?_
      refine dl_r (sem_pick rfl rfl rfl rfl) <| dl_end <| dw_true rfl <| dw_seq <| dw_region (by kernel_rfl) <| dl_r (sem_assign rfl rfl) <| dl_end <| dw_ret ?_
      exact ⟨.inr rfl, (resL_tmp rfl resL_nil)⟩
theorem few3_2 {f0 f1 : Rat} (hf0 : Rz 2 f0) (hf1 : Rz 2 f1) {r2 : RN} (wr2 : r2.Wf) (hk : r2.s 2 = false) : Ok Tryz.prog 26 [.c (.s 3 (cR f0 ++ cR f1 ++ cN r2))] [.c (.b false)] := by
  refine Ok.of (by kernel_rfl) Tryz.func26 rfl rfl ?_
  rw [show Tryz.f26.ntmps = 36 from rfl, show Tryz.f26.results.toList = [.tmp 2] from rfl]
  refine dw_seq <| dw_region (by kernel_rfl) <| dl_r (sem_assign rfl rfl) <| dl_end <| dw_seq <| dw_seq <| dw_region (by kernel_rfl) <| dl_r (sem_assign rfl rfl) ?_
  refine dl_end <| dw_block ?_
  refine dw_loop (ι := Nat) (fun i => match i with | 0 => ⟨36, [(0, .v (.c (.s 3 (cR f0 ++ cR f1 ++ cN r2)))), (2, .v (.c (.b false))), (3, .v (.c (.i .i64 0)))], []⟩ | 1 => ⟨36, [(0, .v (.c (.s 3 (cR f0 ++ cR f1 ++ cN r2)))), (2, .v (.c (.b false))), (3, .v (.c (.i .i64 1)))], []⟩ | _ + 2 => ⟨36, [(0, .v (.c (.s 3 (cR f0 ++ cR f1 ++ cN r2)))), (2, .v (.c (.b false))), (3, .v (.c (.i .i64 2)))], []⟩) (fun i => 2 - i) 0 (sub_of ⟨rfl, rfl, rfl, trivial⟩ trivial rfl) ?_
  intro i
  match i with
  | 0 =>
    show Dw _ _ ⟨36, [(0, .v (.c (.s 3 (cR f0 ++ cR f1 ++ cN r2)))), (2, .v (.c (.b false))), (3, .v (.c (.i .i64 0)))], []⟩ _
    refine dw_seq <| dw_seq <| dw_region (by kernel_rfl) <| dl_r (sem_move rfl rfl) <| dl_r (sem_move rfl rfl) <| dl_r (sem_len sl78 rfl rfl) <| dl_r (sem_cmp rfl rfl rfl rfl) <| dl_end ?_
    refine dw_true rfl <| dw_skip <| dw_seq <| dw_block <| dw_seq <| dw_region (by kernel_rfl) <| dl_r (sem_move rfl rfl) <| dl_r (sem_move rfl rfl) ?_
    refine dl_r (sem_index sl78 rfl rfl (by decide) rfl rfl rfl) <| dl_r (sem_fieldq fd26_0 rfl rfl rfl) <| dl_r (sem_fieldq fd24_1 rfl rfl rfl) <| dl_r (sem_loadq1 ty22 rfl rfl rfl) <| dl_r (sem_len sl22 rfl rfl) <| dl_r (sem_castb (sem_cmp rfl rfl rfl rfl) (len2 hf0.n 2 (by decide))) <| dl_r (sem_move rfl rfl) <| dl_r (sem_move rfl rfl) ?_
    refine dl_r (sem_move rfl rfl) <| dl_r (sem_index sl78 rfl rfl (by decide) rfl rfl rfl) <| dl_r (sem_fieldq fd26_1 rfl rfl rfl) <| dl_r (sem_fieldq fd24_1 rfl rfl rfl) <| dl_r (sem_loadq1 ty22 rfl rfl rfl) <| dl_r (sem_len sl22 rfl rfl) <| dl_r (sem_castb (sem_cmp rfl rfl rfl rfl) (len2 hf0.d 2 (by decide))) <| dl_r (sem_pick rfl rfl rfl rfl) ?_
    refine dl_r (sem_move rfl rfl) <| dl_r (sem_move rfl rfl) <| dl_r (sem_move rfl rfl) <| dl_r (sem_index sl78 rfl rfl (by decide) rfl rfl rfl) <| dl_r (sem_loadq (us := cR f0) ty26 rfl rfl rfl rfl) <| dl_r (sem_call rfl rfl (sValid_R (hf0.mono (by decide))) rfl) <| dl_r (sem_not rfl rfl) <| dl_r (sem_pick rfl rfl rfl rfl) ?_
    refine dl_end <| dw_false rfl <| dw_skip <| dw_region (by kernel_rfl) <| dl_r (sem_move rfl rfl) <| dl_r (sem_ari (r := 1) rfl rfl rfl rfl) <| dl_r (sem_assign rfl rfl) <| dl_end ?_
    exact ⟨1, sub_of ⟨rfl, rfl, rfl, trivial⟩ trivial rfl, by show 2 - 1 < 2 - 0; decide⟩
  | 1 =>
    show Dw _ _ ⟨36, [(0, .v (.c (.s 3 (cR f0 ++ cR f1 ++ cN r2)))), (2, .v (.c (.b false))), (3, .v (.c (.i .i64 1)))], []⟩ _
    refine dw_seq <| dw_seq <| dw_region (by kernel_rfl) <| dl_r (sem_move rfl rfl) <| dl_r (sem_move rfl rfl) <| dl_r (sem_len sl78 rfl rfl) <| dl_r (sem_cmp rfl rfl rfl rfl) <| dl_end ?_
    refine dw_true rfl <| dw_skip <| dw_seq <| dw_block <| dw_seq <| dw_region (by kernel_rfl) <| dl_r (sem_move rfl rfl) <| dl_r (sem_move rfl rfl) ?_
    refine dl_r (sem_index sl78 rfl rfl (by decide) rfl rfl rfl) <| dl_r (sem_fieldq fd26_0 rfl rfl rfl) <| dl_r (sem_fieldq fd24_1 rfl rfl rfl) <| dl_r (sem_loadq1 ty22 rfl rfl rfl) <| dl_r (sem_len sl22 rfl rfl) <| dl_r (sem_castb (sem_cmp rfl rfl rfl rfl) (len2 hf1.n 2 (by decide))) <| dl_r (sem_move rfl rfl) <| dl_r (sem_move rfl rfl) ?_
    refine dl_r (sem_move rfl rfl) <| dl_r (sem_index sl78 rfl rfl (by decide) rfl rfl rfl) <| dl_r (sem_fieldq fd26_1 rfl rfl rfl) <| dl_r (sem_fieldq fd24_1 rfl rfl rfl) <| dl_r (sem_loadq1 ty22 rfl rfl rfl) <| dl_r (sem_len sl22 rfl rfl) <| dl_r (sem_castb (sem_cmp rfl rfl rfl rfl) (len2 hf1.d 2 (by decide))) <| dl_r (sem_pick rfl rfl rfl rfl) ?_
    refine dl_r (sem_move rfl rfl) <| dl_r (sem_move rfl rfl) <| dl_r (sem_move rfl rfl) <| dl_r (sem_index sl78 rfl rfl (by decide) rfl rfl rfl) <| dl_r (sem_loadq (us := cR f1) ty26 rfl rfl rfl rfl) <| dl_r (sem_call rfl rfl (sValid_R (hf1.mono (by decide))) rfl) <| dl_r (sem_not rfl rfl) <| dl_r (sem_pick rfl rfl rfl rfl) ?_
    refine dl_end <| dw_false rfl <| dw_skip <| dw_region (by kernel_rfl) <| dl_r (sem_move rfl rfl) <| dl_r (sem_ari (r := 2) rfl rfl rfl rfl) <| dl_r (sem_assign rfl rfl) <| dl_end ?_
    exact ⟨2, sub_of ⟨rfl, rfl, rfl, trivial⟩ trivial rfl, by show 2 - 2 < 2 - 1; decide⟩
  | z + 2 =>
    show Dw _ _ ⟨36, [(0, .v (.c (.s 3 (cR f0 ++ cR f1 ++ cN r2)))), (2, .v (.c (.b false))), (3, .v (.c (.i .i64 2)))], []⟩ _
    refine dw_seq <| dw_seq <| dw_region (by kernel_rfl) <| dl_r (sem_move rfl rfl) <| dl_r (sem_move rfl rfl) <| dl_r (sem_len sl78 rfl rfl) <| dl_r (sem_cmp rfl rfl rfl rfl) <| dl_end ?_
    refine dw_true rfl <| dw_skip <| dw_seq <| dw_block <| dw_seq <| dw_region (by kernel_rfl) <| dl_r (sem_move rfl rfl) <| dl_r (sem_move rfl rfl) ?_
    refine dl_r (sem_index sl78 rfl rfl (by decide) rfl rfl rfl) <| dl_r (sem_fieldq fd26_0 rfl rfl rfl) <| dl_r (sem_fieldq fd24_1 rfl rfl rfl) <| dl_r (sem_loadq1 ty22 rfl rfl rfl) <| dl_r (sem_len sl22 rfl rfl) <| dl_r (sem_cmp rfl rfl rfl rfl) ?_
    refine dl_rb (sem_move rfl rfl) (fun c1 hb1 => ?_)
    cases c1
    · refine dl_r (sem_move rfl rfl) <| dl_r (sem_move rfl rfl) <| dl_r (sem_index sl78 rfl rfl (by decide) rfl rfl rfl) <| dl_r (sem_fieldq fd26_1 rfl rfl rfl) <| dl_r (sem_fieldq fd24_1 rfl rfl rfl) <| dl_r (sem_loadq1 ty22 rfl rfl rfl) <| dl_r (sem_len sl22 rfl rfl) <| dl_r (sem_cmp rfl rfl rfl rfl) ?_
      refine dl_r (sem_pick rfl rfl rfl rfl) ?_
      refine dl_rb (sem_move rfl rfl) (fun c2 hb2 => ?_)
      cases c2
      · have q1 := dec_f hb1
        have q2 := dec_f hb2
        refine dl_r (sem_move rfl rfl) <| dl_r (sem_move rfl rfl) <| dl_r (sem_index sl78 rfl rfl (by decide) rfl rfl rfl) <| dl_r (sem_loadq (us := cN r2) ty26 rfl rfl rfl rfl) <| dl_r (sem_call rfl rfl (sValid_ok (by assumption) (by omega) (by omega)) rfl) <| dl_r (sem_not rfl rfl) <| dl_r (sem_pick rfl rfl rfl rfl) <| dl_end ?_
        refine dw_cond rfl (fun hc3 => ?_) (fun hc3 => ?_)
        · refine dw_seq <| dw_region (by kernel_rfl) <| dl_r (sem_assign rfl rfl) <| dl_end <| dw_ret ?_
          exact ⟨.inr rfl, (resL_tmp rfl resL_nil)⟩
        · exact absurd hk (by unfold RN.s; rw [not_f hc3, decide_eq_true (show (r2.x1.length : Int) ≤ 2 by omega), decide_eq_true (show (r2.x2.length : Int) ≤ 2 by omega)]; decide)
      · refine dl_skip (sem_skip rfl) <| dl_skip (sem_skip rfl) <| dl_skip (sem_skip rfl) <| dl_skip (sem_skip rfl) <| dl_skip (sem_skip rfl) <| dl_skip (sem_skip rfl) <| dl_r (sem_pick rfl rfl rfl rfl) <| dl_end ?_
        refine dw_true rfl <| dw_seq <| dw_region (by kernel_rfl) <| dl_r (sem_assign rfl rfl) <| dl_end <| dw_ret ?_
        exact ⟨.inr rfl, (resL_tmp rfl resL_nil)⟩
    · refine dl_skip (sem_skip rfl) <| dl_skip (sem_skip rfl) <| dl_skip (sem_skip rfl) <| dl_skip (sem_skip rfl) <| dl_skip (sem_skip rfl) <| dl_skip (sem_skip rfl) <| dl_skip (sem_skip rfl) <| dl_skip (sem_skip rfl) ?_
      refine dl_r (sem_pick rfl rfl rfl rfl) <| dl_r (sem_move rfl rfl) <| dl_skip (sem_skip rfl) <| dl_skip (sem_skip rfl) <| dl_skip (sem_skip rfl) <| dl_skip (sem_skip rfl) <| dl_skip (sem_skip rfl) <| dl_skip (sem_skip rfl) ?_
      refine dl_r (sem_pick rfl rfl rfl rfl) <| dl_end <| dw_true rfl <| dw_seq <| dw_region (by kernel_rfl) <| dl_r (sem_assign rfl rfl) <| dl_end <| dw_ret ?_
      exact ⟨.inr rfl, (resL_tmp rfl resL_nil)⟩
theorem few3_all {f0 f1 f2 : Rat} (hf0 : Rz 2 f0) (hf1 : Rz 2 f1) (hf2 : Rz 2 f2)  : Ok Tryz.prog 26 [.c (.s 3 (cR f0 ++ cR f1 ++ cR f2))] [.c (.b true)] := by
  refine Ok.of (by kernel_rfl) Tryz.func26 rfl rfl ?_
  rw [show Tryz.f26.ntmps = 36 from rfl, show Tryz.f26.results.toList = [.tmp 2] from rfl]
  refine dw_seq <| dw_region (by kernel_rfl) <| dl_r (sem_assign rfl rfl) <| dl_end <| dw_seq <| dw_seq <| dw_region (by kernel_rfl) <| dl_r (sem_assign rfl rfl) ?_
  refine dl_end <| dw_block ?_
  refine dw_loop (ι := Nat) (fun i => match i with | 0 => ⟨36, [(0, .v (.c (.s 3 (cR f0 ++ cR f1 ++ cR f2)))), (2, .v (.c (.b false))), (3, .v (.c (.i .i64 0)))], []⟩ | 1 => ⟨36, [(0, .v (.c (.s 3 (cR f0 ++ cR f1 ++ cR f2)))), (2, .v (.c (.b false))), (3, .v (.c (.i .i64 1)))], []⟩ | 2 => ⟨36, [(0, .v (.c (.s 3 (cR f0 ++ cR f1 ++ cR f2)))), (2, .v (.c (.b false))), (3, .v (.c (.i .i64 2)))], []⟩ | _ + 3 => ⟨36, [(0, .v (.c (.s 3 (cR f0 ++ cR f1 ++ cR f2)))), (2, .v (.c (.b false))), (3, .v (.c (.i .i64 3)))], []⟩) (fun i => 3 - i) 0 (sub_of ⟨rfl, rfl, rfl, trivial⟩ trivial rfl) ?_
  intro i
  match i with
  | 0 =>
    show Dw _ _ ⟨36, [(0, .v (.c (.s 3 (cR f0 ++ cR f1 ++ cR f2)))), (2, .v (.c (.b false))), (3, .v (.c (.i .i64 0)))], []⟩ _
    refine dw_seq <| dw_seq <| dw_region (by kernel_rfl) <| dl_r (sem_move rfl rfl) <| dl_r (sem_move rfl rfl) <| dl_r (sem_len sl78 rfl rfl) <| dl_r (sem_cmp rfl rfl rfl rfl) <| dl_end ?_
    refine dw_true rfl <| dw_skip <| dw_seq <| dw_block <| dw_seq <| dw_region (by kernel_rfl) <| dl_r (sem_move rfl rfl) <| dl_r (sem_move rfl rfl) ?_
    refine dl_r (sem_index sl78 rfl rfl (by decide) rfl rfl rfl) <| dl_r (sem_fieldq fd26_0 rfl rfl rfl) <| dl_r (sem_fieldq fd24_1 rfl rfl rfl) <| dl_r (sem_loadq1 ty22 rfl rfl rfl) <| dl_r (sem_len sl22 rfl rfl) <| dl_r (sem_castb (sem_cmp rfl rfl rfl rfl) (len2 hf0.n 2 (by decide))) <| dl_r (sem_move rfl rfl) <| dl_r (sem_move rfl rfl) ?_
    refine dl_r (sem_move rfl rfl) <| dl_r (sem_index sl78 rfl rfl (by decide) rfl rfl rfl) <| dl_r (sem_fieldq fd26_1 rfl rfl rfl) <| dl_r (sem_fieldq fd24_1 rfl rfl rfl) <| dl_r (sem_loadq1 ty22 rfl rfl rfl) <| dl_r (sem_len sl22 rfl rfl) <| dl_r (sem_castb (sem_cmp rfl rfl rfl rfl) (len2 hf0.d 2 (by decide))) <| dl_r (sem_pick rfl rfl rfl rfl) ?_
    refine dl_r (sem_move rfl rfl) <| dl_r (sem_move rfl rfl) <| dl_r (sem_move rfl rfl) <| dl_r (sem_index sl78 rfl rfl (by decide) rfl rfl rfl) <| dl_r (sem_loadq (us := cR f0) ty26 rfl rfl rfl rfl) <| dl_r (sem_call rfl rfl (sValid_R (hf0.mono (by decide))) rfl) <| dl_r (sem_not rfl rfl) <| dl_r (sem_pick rfl rfl rfl rfl) ?_
    refine dl_end <| dw_false rfl <| dw_skip <| dw_region (by kernel_rfl) <| dl_r (sem_move rfl rfl) <| dl_r (sem_ari (r := 1) rfl rfl rfl rfl) <| dl_r (sem_assign rfl rfl) <| dl_end ?_
    exact ⟨1, sub_of ⟨rfl, rfl, rfl, trivial⟩ trivial rfl, by show 3 - 1 < 3 - 0; decide⟩
  | 1 =>
    show Dw _ _ ⟨36, [(0, .v (.c (.s 3 (cR f0 ++ cR f1 ++ cR f2)))), (2, .v (.c (.b false))), (3, .v (.c (.i .i64 1)))], []⟩ _
    refine dw_seq <| dw_seq <| dw_region (by kernel_rfl) <| dl_r (sem_move rfl rfl) <| dl_r (sem_move rfl rfl) <| dl_r (sem_len sl78 rfl rfl) <| dl_r (sem_cmp rfl rfl rfl rfl) <| dl_end ?_
    refine dw_true rfl <| dw_skip <| dw_seq <| dw_block <| dw_seq <| dw_region (by kernel_rfl) <| dl_r (sem_move rfl rfl) <| dl_r (sem_move rfl rfl) ?_
    refine dl_r (sem_index sl78 rfl rfl (by decide) rfl rfl rfl) <| dl_r (sem_fieldq fd26_0 rfl rfl rfl) <| dl_r (sem_fieldq fd24_1 rfl rfl rfl) <| dl_r (sem_loadq1 ty22 rfl rfl rfl) <| dl_r (sem_len sl22 rfl rfl) <| dl_r (sem_castb (sem_cmp rfl rfl rfl rfl) (len2 hf1.n 2 (by decide))) <| dl_r (sem_move rfl rfl) <| dl_r (sem_move rfl rfl) ?_
    refine dl_r (sem_move rfl rfl) <| dl_r (sem_index sl78 rfl rfl (by decide) rfl rfl rfl) <| dl_r (sem_fieldq fd26_1 rfl rfl rfl) <| dl_r (sem_fieldq fd24_1 rfl rfl rfl) <| dl_r (sem_loadq1 ty22 rfl rfl rfl) <| dl_r (sem_len sl22 rfl rfl) <| dl_r (sem_castb (sem_cmp rfl rfl rfl rfl) (len2 hf1.d 2 (by decide))) <| dl_r (sem_pick rfl rfl rfl rfl) ?_
    refine dl_r (sem_move rfl rfl) <| dl_r (sem_move rfl rfl) <| dl_r (sem_move rfl rfl) <| dl_r (sem_index sl78 rfl rfl (by decide) rfl rfl rfl) <| dl_r (sem_loadq (us := cR f1) ty26 rfl rfl rfl rfl) <| dl_r (sem_call rfl rfl (sValid_R (hf1.mono (by decide))) rfl) <| dl_r (sem_not rfl rfl) <| dl_r (sem_pick rfl rfl rfl rfl) ?_
    refine dl_end <| dw_false rfl <| dw_skip <| dw_region (by kernel_rfl) <| dl_r (sem_move rfl rfl) <| dl_r (sem_ari (r := 2) rfl rfl rfl rfl) <| dl_r (sem_assign rfl rfl) <| dl_end ?_
    exact ⟨2, sub_of ⟨rfl, rfl, rfl, trivial⟩ trivial rfl, by show 3 - 2 < 3 - 1; decide⟩
  | 2 =>
    show Dw _ _ ⟨36, [(0, .v (.c (.s 3 (cR f0 ++ cR f1 ++ cR f2)))), (2, .v (.c (.b false))), (3, .v (.c (.i .i64 2)))], []⟩ _
    refine dw_seq <| dw_seq <| dw_region (by kernel_rfl) <| dl_r (sem_move rfl rfl) <| dl_r (sem_move rfl rfl) <| dl_r (sem_len sl78 rfl rfl) <| dl_r (sem_cmp rfl rfl rfl rfl) <| dl_end ?_
    refine dw_true rfl <| dw_skip <| dw_seq <| dw_block <| dw_seq <| dw_region (by kernel_rfl) <| dl_r (sem_move rfl rfl) <| dl_r (sem_move rfl rfl) ?_
    refine dl_r (sem_index sl78 rfl rfl (by decide) rfl rfl rfl) <| dl_r (sem_fieldq fd26_0 rfl rfl rfl) <| dl_r (sem_fieldq fd24_1 rfl rfl rfl) <| dl_r (sem_loadq1 ty22 rfl rfl rfl) <| dl_r (sem_len sl22 rfl rfl) <| dl_r (sem_castb (sem_cmp rfl rfl rfl rfl) (len2 hf2.n 2 (by decide))) <| dl_r (sem_move rfl rfl) <| dl_r (sem_move rfl rfl) ?_
    refine dl_r (sem_move rfl rfl) <| dl_r (sem_index sl78 rfl rfl (by decide) rfl rfl rfl) <| dl_r (sem_fieldq fd26_1 rfl rfl rfl) <| dl_r (sem_fieldq fd24_1 rfl rfl rfl) <| dl_r (sem_loadq1 ty22 rfl rfl rfl) <| dl_r (sem_len sl22 rfl rfl) <| dl_r (sem_castb (sem_cmp rfl rfl rfl rfl) (len2 hf2.d 2 (by decide))) <| dl_r (sem_pick rfl rfl rfl rfl) ?_
    refine dl_r (sem_move rfl rfl) <| dl_r (sem_move rfl rfl) <| dl_r (sem_move rfl rfl) <| dl_r (sem_index sl78 rfl rfl (by decide) rfl rfl rfl) <| dl_r (sem_loadq (us := cR f2) ty26 rfl rfl rfl rfl) <| dl_r (sem_call rfl rfl (sValid_R (hf2.mono (by decide))) rfl) <| dl_r (sem_not rfl rfl) <| dl_r (sem_pick rfl rfl rfl rfl) ?_
    refine dl_end <| dw_false rfl <| dw_skip <| dw_region (by kernel_rfl) <| dl_r (sem_move rfl rfl) <| dl_r (sem_ari (r := 3) rfl rfl rfl rfl) <| dl_r (sem_assign rfl rfl) <| dl_end ?_
    exact ⟨3, sub_of ⟨rfl, rfl, rfl, trivial⟩ trivial rfl, by show 3 - 3 < 3 - 2; decide⟩
  | z + 3 =>
    show Dw _ _ ⟨36, [(0, .v (.c (.s 3 (cR f0 ++ cR f1 ++ cR f2)))), (2, .v (.c (.b false))), (3, .v (.c (.i .i64 3)))], []⟩ _
    refine dw_seq <| dw_seq <| dw_region (by kernel_rfl) <| dl_r (sem_move rfl rfl) <| dl_r (sem_move rfl rfl) <| dl_r (sem_len sl78 rfl rfl) <| dl_r (sem_cmp rfl rfl rfl rfl) <| dl_end ?_
    refine dw_false rfl <| dw_exit <| dw_seq <| dw_region (by kernel_rfl) <| dl_r (sem_assign rfl rfl) <| dl_end <| dw_ret ?_
    exact ⟨.inr rfl, (resL_tmp rfl resL_nil)⟩
theorem few3 {r0 r1 r2 : RN} (wr0 : r0.Wf) (wr1 : r1.Wf) (wr2 : r2.Wf) : Ok Tryz.prog 26 [.c (.s 3 (cN r0 ++ cN r1 ++ cN r2))] [.c (.b false)] ∨ ∃ f0 f1 f2 : Rat, Rz 2 f0 ∧ Rz 2 f1 ∧ Rz 2 f2 ∧ cN r0 = cR f0 ∧ cN r1 = cR f1 ∧ cN r2 = cR f2 ∧ Ok Tryz.prog 26 [.c (.s 3 (cR f0 ++ cR f1 ++ cR f2))] [.c (.b true)] := by
  cases h0 : r0.s 2 with
  | false => exact .inl (by exact few3_0  wr0 h0)
  | true =>
  obtain ⟨f0, g0, e0⟩ := s2_of wr0 h0
  cases h1 : r1.s 2 with
  | false => exact .inl (by rw [e0]; exact few3_1 g0 wr1 h1)
  | true =>
  obtain ⟨f1, g1, e1⟩ := s2_of wr1 h1
  cases h2 : r2.s 2 with
  | false => exact .inl (by rw [e0, e1]; exact few3_2 g0 g1 wr2 h2)
  | true =>
  obtain ⟨f2, g2, e2⟩ := s2_of wr2 h2
  exact .inr ⟨f0, f1, f2, g0, g1, g2, e0, e1, e2, few3_all g0 g1 g2⟩
theorem ySmall5_A {x y z : RN} (oF : Ok Tryz.prog 26 [.c (.s 3 (cN x ++ cN y ++ cN z))] [.c (.b false)]) : Ok Tryz.prog 6 [.a (cN x ++ cN y ++ cN z)] [.c (.b false)] := by
  refine Ok.of (by kernel_rfl) Tryz.func6 rfl rfl ?_
  rw [show Tryz.f6.ntmps = 48 from rfl, show Tryz.f6.results.toList = [.tmp 2] from rfl]
  refine dw_seq <| dw_region (by kernel_rfl) <| dl_new (sem_box_a rfl rfl) rfl <| dl_r (sem_assign rfl rfl) <| dl_end <| dw_seq <| dw_seq <| dw_region (by kernel_rfl) ?_
  refine dl_r (sem_field fd28_0 rfl rfl) <| dl_r (sem_load (us := cN x) ty26 rfl rfl rfl rfl rfl) <| dl_r (sem_field fd28_1 rfl rfl) <| dl_r (sem_load (us := cN y) ty26 rfl rfl rfl rfl rfl) <| dl_r (sem_field fd28_2 rfl rfl) <| dl_r (sem_load (us := cN z) ty26 rfl rfl rfl rfl rfl) <| dl_r (sem_slit_D (n := 3) (us := cN x ++ cN y ++ cN z) el78 rfl rfl rfl (by decide) (by decide) rfl) <| dl_r (sem_call rfl rfl (oF) rfl) ?_
  refine dl_r (sem_not rfl rfl) <| dl_end <| dw_true rfl <| dw_seq <| dw_region (by kernel_rfl) <| dl_r (sem_assign rfl rfl) <| dl_end <| dw_ret ?_
  exact ⟨.inr rfl, (resL_tmp rfl resL_nil)⟩
theorem ySmall5_R {a b c : Rat} (_ha : Rz 2 a) (hb : Rz 2 b) (hc : Rz 2 c) (oF : Ok Tryz.prog 26 [.c (.s 3 (cR a ++ cR b ++ cR c))] [.c (.b true)]) : Ok Tryz.prog 6 [.a (cR a ++ cR b ++ cR c)] [.c (.b (vRoot b c))] := by
  have kb : Rz 300 b := hb.mono (by decide)
  have kc : Rz 300 c := hc.mono (by decide)
  refine Ok.of (by kernel_rfl) Tryz.func6 rfl rfl ?_
  rw [show Tryz.f6.ntmps = 48 from rfl, show Tryz.f6.results.toList = [.tmp 2] from rfl]
  refine dw_seq <| dw_region (by kernel_rfl) <| dl_new (sem_box_a rfl rfl) rfl <| dl_r (sem_assign rfl rfl) <| dl_end <| dw_seq <| dw_seq <| dw_region (by kernel_rfl) ?_
  refine dl_r (sem_field fd28_0 rfl rfl) <| dl_r (sem_load (us := cR a) ty26 rfl rfl rfl rfl rfl) <| dl_r (sem_field fd28_1 rfl rfl) <| dl_r (sem_load (us := cR b) ty26 rfl rfl rfl rfl rfl) <| dl_r (sem_field fd28_2 rfl rfl) <| dl_r (sem_load (us := cR c) ty26 rfl rfl rfl rfl rfl) <| dl_r (sem_slit_D (n := 3) (us := cR a ++ cR b ++ cR c) el78 rfl rfl rfl (by decide) (by decide) rfl) <| dl_r (sem_call rfl rfl (oF) rfl) ?_
  refine dl_r (sem_not rfl rfl) <| dl_end <| dw_false rfl <| dw_skip <| dw_seq <| dw_seq <| dw_region (by kernel_rfl) <| dl_r (sem_field fd28_1 rfl rfl) ?_
  refine dl_r (sem_load (us := cR b) ty26 rfl rfl rfl rfl rfl) <| dl_r (sem_call rfl rfl (sSign_ok) rfl) <| dl_r (sem_cmp rfl rfl rfl rfl) ?_
  refine dl_rb (sem_move rfl rfl) (fun c1 hb1 => ?_)
  cases c1
  · refine dl_r (sem_field fd28_2 rfl rfl) <| dl_r (sem_load (us := cR c) ty26 rfl rfl rfl rfl rfl) <| dl_r (sem_call rfl rfl (sSign_ok) rfl) <| dl_r (sem_cmp rfl rfl rfl rfl) <| dl_r (sem_pick rfl rfl rfl rfl) <| dl_end ?_
    refine dw_cond rfl (fun hc2 => ?_) (fun hc2 => ?_)
    · refine dw_seq <| dw_region (by kernel_rfl) <| dl_r (sem_field fd28_1 rfl rfl) <| dl_r (sem_load (us := cR b) ty26 rfl rfl rfl rfl rfl) <| dl_r (sem_call rfl rfl (sSign_ok) rfl) <| dl_r (sem_cmp rfl rfl rfl rfl) ?_
      refine dl_rb (sem_move rfl rfl) (fun c3 hb3 => ?_)
      cases c3
      · refine dl_skip (sem_skip rfl) <| dl_skip (sem_skip rfl) <| dl_skip (sem_skip rfl) <| dl_skip (sem_skip rfl) <| dl_r (sem_pick rfl rfl rfl rfl) <| dl_r (sem_assign rfl rfl) <| dl_end <| dw_ret ?_
        rw [vRoot_c hb1 hc2]
        exact ⟨.inr rfl, (resL_tmp rfl resL_nil)⟩
      · exact absurd hb3 (by rw [hb1]; decide)
    · refine dw_skip <| dw_seq <| dw_region (by kernel_rfl) <| dl_r (sem_field fd28_2 rfl rfl) <| dl_r (sem_load (us := cR c) ty26 rfl rfl rfl rfl rfl) ?_
      refine dl_r (sem_call rfl rfl (sSqrt_ok (by first | assumption | exact Rz.mono hc (by decide))) rfl) ?_
      refine dl_r (sem_move rfl rfl) <| dl_r (sem_extract rfl rfl rfl) <| dl_r (sem_extract rfl rfl rfl) <| dl_new (sem_alloc zc26 rfl) rfl <| dl_st (sem_store_a ty26 rfl rfl rfl rfl rfl rfl) <| dl_r (sem_assign rfl rfl) <| dl_end <| dw_seq ?_
      refine dw_region (by kernel_rfl) <| dl_r (sem_field fd28_2 rfl rfl) <| dl_r (sem_load (us := cR c) ty26 rfl rfl rfl rfl rfl) <| dl_r (sem_call rfl rfl (sSign_ok) rfl) <| dl_r (sem_cmp rfl rfl rfl rfl) ?_
      refine dl_rb (sem_move rfl rfl) (fun c4 hb4 => ?_)
      cases c4
      · refine dl_skip (sem_skip rfl) <| dl_skip (sem_skip rfl) <| dl_r (sem_pick rfl rfl rfl rfl) <| dl_r (sem_assign rfl rfl) <| dl_end <| dw_ret ?_
        rw [vRoot_n hb1 hc2, hb4, Bool.false_and]
        exact ⟨.inr rfl, (resL_tmp rfl resL_nil)⟩
      · refine dl_r (sem_move rfl rfl) <| dl_r (sem_not rfl rfl) <| dl_r (sem_pick rfl rfl rfl rfl) <| dl_r (sem_assign rfl rfl) <| dl_end <| dw_ret ?_
        rw [vRoot_n hb1 hc2, hb4, Bool.true_and]
        exact ⟨.inr rfl, (resL_tmp rfl resL_nil)⟩
  · refine dl_skip (sem_skip rfl) <| dl_skip (sem_skip rfl) <| dl_skip (sem_skip rfl) <| dl_skip (sem_skip rfl) <| dl_r (sem_pick rfl rfl rfl rfl) <| dl_end <| dw_true rfl <| dw_seq ?_
    refine dw_region (by kernel_rfl) <| dl_r (sem_field fd28_1 rfl rfl) <| dl_r (sem_load (us := cR b) ty26 rfl rfl rfl rfl rfl) <| dl_r (sem_call rfl rfl (sSign_ok) rfl) <| dl_r (sem_cmp rfl rfl rfl rfl) ?_
    refine dl_rb (sem_move rfl rfl) (fun c5 hb5 => ?_)
    cases c5
    · exact absurd hb1 (by rw [hb5]; decide)
    · refine dl_r (sem_field fd28_2 rfl rfl) <| dl_r (sem_load (us := cR c) ty26 rfl rfl rfl rfl rfl) <| dl_r (sem_call rfl rfl (sSign_ok) rfl) <| dl_r (sem_cmp rfl rfl rfl rfl) <| dl_r (sem_pick rfl rfl rfl rfl) <| dl_r (sem_assign rfl rfl) <| dl_end <| dw_ret ?_
      rw [vRoot_b hb1]
      exact ⟨.inr rfl, (resL_tmp rfl resL_nil)⟩
theorem small5_ex {x y z : RN} (w1 : x.Wf) (w2 : y.Wf) (w3 : z.Wf) : Ok Tryz.prog 6 [.a (cN x ++ cN y ++ cN z)] [.c (.b false)] ∨
    (Ok Tryz.prog 6 [.a (cN x ++ cN y ++ cN z)] [.c (.b true)] ∧ ∃ a b c : Rat, Rz 2 a ∧ Rz 2 b ∧ Rz 2 c ∧ vRoot b c = true ∧ (cN x ++ cN y ++ cN z) = (cR a ++ cR b ++ cR c)) := by
  rcases few3 w1 w2 w3 with h | ⟨a, b, c, g1, g2, g3, e1, e2, e3, h⟩
  · exact .inl (ySmall5_A h)
  · have h1 := ySmall5_R g1 g2 g3 h
    cases hv : vRoot b c with
    | false => rw [hv] at h1; rw [e1, e2, e3]; exact .inl h1
    | true => rw [hv] at h1; rw [e1, e2, e3]; exact .inr ⟨h1, a, b, c, g1, g2, g3, hv, rfl⟩
theorem lwBt_0 {x1 x2 x3 y1 y2 y3 : RN} (oS1 : Ok Tryz.prog 6 [.a (cN x1 ++ cN x2 ++ cN x3)] [.c (.b false)]) : Ok Tryz.prog 3 [.a (cN x1 ++ cN x2 ++ cN x3), .a (cN y1 ++ cN y2 ++ cN y3)] [.c (.b true)] := by
  refine Ok.of (by kernel_rfl) Tryz.func3 rfl rfl ?_
  rw [show Tryz.f3.ntmps = 64 from rfl, show Tryz.f3.results.toList = [.tmp 4] from rfl]
  refine dw_seq <| dw_region (by kernel_rfl) <| dl_new (sem_box_a rfl rfl) rfl <| dl_new (sem_box_a rfl rfl) rfl <| dl_r (sem_assign rfl rfl) <| dl_end <| dw_seq <| dw_seq ?_
  refine dw_region (by kernel_rfl) <| dl_r (sem_call rfl rfl (awake5_ok) rfl) <| dl_r (sem_not rfl rfl) <| dl_r (sem_move rfl rfl) <| dl_r (sem_load (us := (cN x1 ++ cN x2 ++ cN x3)) ty28 rfl rfl rfl rfl rfl) <| dl_r (sem_call rfl rfl (oS1) rfl) <| dl_r (sem_not rfl rfl) <| dl_r (sem_pick rfl rfl rfl rfl) ?_
  refine dl_r (sem_move rfl rfl) <| dl_skip (sem_skip rfl) <| dl_skip (sem_skip rfl) <| dl_skip (sem_skip rfl) <| dl_r (sem_pick rfl rfl rfl rfl) <| dl_end <| dw_true rfl <| dw_seq ?_
  refine dw_region (by kernel_rfl) <| dl_r (sem_call rfl rfl (awake5_ok) rfl) <| dl_r (sem_assign rfl rfl) <| dl_end <| dw_ret ?_
  exact ⟨.inr rfl, (resL_tmp rfl resL_nil)⟩
theorem lwBt_1 {x1 x2 x3 y1 y2 y3 : RN} (oS1 : Ok Tryz.prog 6 [.a (cN x1 ++ cN x2 ++ cN x3)] [.c (.b true)]) (oS2 : Ok Tryz.prog 6 [.a (cN y1 ++ cN y2 ++ cN y3)] [.c (.b false)]) : Ok Tryz.prog 3 [.a (cN x1 ++ cN x2 ++ cN x3), .a (cN y1 ++ cN y2 ++ cN y3)] [.c (.b true)] := by
  refine Ok.of (by kernel_rfl) Tryz.func3 rfl rfl ?_
  rw [show Tryz.f3.ntmps = 64 from rfl, show Tryz.f3.results.toList = [.tmp 4] from rfl]
  refine dw_seq <| dw_region (by kernel_rfl) <| dl_new (sem_box_a rfl rfl) rfl <| dl_new (sem_box_a rfl rfl) rfl <| dl_r (sem_assign rfl rfl) <| dl_end <| dw_seq <| dw_seq ?_
  refine dw_region (by kernel_rfl) <| dl_r (sem_call rfl rfl (awake5_ok) rfl) <| dl_r (sem_not rfl rfl) <| dl_r (sem_move rfl rfl) <| dl_r (sem_load (us := (cN x1 ++ cN x2 ++ cN x3)) ty28 rfl rfl rfl rfl rfl) <| dl_r (sem_call rfl rfl (oS1) rfl) <| dl_r (sem_not rfl rfl) <| dl_r (sem_pick rfl rfl rfl rfl) ?_
  refine dl_r (sem_move rfl rfl) <| dl_r (sem_load (us := (cN y1 ++ cN y2 ++ cN y3)) ty28 rfl rfl rfl rfl rfl) <| dl_r (sem_call rfl rfl (oS2) rfl) <| dl_r (sem_not rfl rfl) <| dl_r (sem_pick rfl rfl rfl rfl) <| dl_end <| dw_true rfl <| dw_seq ?_
  refine dw_region (by kernel_rfl) <| dl_r (sem_call rfl rfl (awake5_ok) rfl) <| dl_r (sem_assign rfl rfl) <| dl_end <| dw_ret ?_
  exact ⟨.inr rfl, (resL_tmp rfl resL_nil)⟩
theorem lwBt_ge {A B C D E F : Rat} (hA : Rz 2 A) (hB : Rz 2 B) (hC : Rz 2 C) (hD : Rz 2 D) (hE : Rz 2 E) (hF : Rz 2 F) (cC : 0 ≤ C) (cF : 0 ≤ F) (oS1 : Ok Tryz.prog 6 [.a (cR A ++ cR B ++ cR C)] [.c (.b true)]) (oS2 : Ok Tryz.prog 6 [.a (cR D ++ cR E ++ cR F)] [.c (.b true)]) {n1 : Int} (e1 : signQ (A - D) B (-E) 0 C F = n1) (g1 : decide (n1 ≥ 0) = true)  : Ok Tryz.prog 3 [.a (cR A ++ cR B ++ cR C), .a (cR D ++ cR E ++ cR F)] [.c (.b true)] := by
  refine Ok.of (by kernel_rfl) Tryz.func3 rfl rfl ?_
  rw [show Tryz.f3.ntmps = 64 from rfl, show Tryz.f3.results.toList = [.tmp 4] from rfl]
  refine dw_seq <| dw_region (by kernel_rfl) <| dl_new (sem_box_a rfl rfl) rfl <| dl_new (sem_box_a rfl rfl) rfl <| dl_r (sem_assign rfl rfl) <| dl_end <| dw_seq <| dw_seq ?_
  refine dw_region (by kernel_rfl) <| dl_r (sem_call rfl rfl (awake5_ok) rfl) <| dl_r (sem_not rfl rfl) <| dl_r (sem_move rfl rfl) <| dl_r (sem_load (us := (cR A ++ cR B ++ cR C)) ty28 rfl rfl rfl rfl rfl) <| dl_r (sem_call rfl rfl (oS1) rfl) <| dl_r (sem_not rfl rfl) <| dl_r (sem_pick rfl rfl rfl rfl) ?_
  refine dl_r (sem_move rfl rfl) <| dl_r (sem_load (us := (cR D ++ cR E ++ cR F)) ty28 rfl rfl rfl rfl rfl) <| dl_r (sem_call rfl rfl (oS2) rfl) <| dl_r (sem_not rfl rfl) <| dl_r (sem_pick rfl rfl rfl rfl) <| dl_end <| dw_false rfl <| dw_skip ?_
  refine dw_seq <| dw_region (by kernel_rfl) <| dl_r (sem_load (us := (cR A ++ cR B ++ cR C)) ty28 rfl rfl rfl rfl rfl) <| dl_r (sem_load (us := (cR D ++ cR E ++ cR F)) ty28 rfl rfl rfl rfl rfl) <| dl_r (sem_call rfl rfl (xBB_ge (hA.mono (by decide)) (hB.mono (by decide)) (hC.mono (by decide)) (hD.mono (by decide)) (hE.mono (by decide)) (hF.mono (by decide)) cC cF e1 g1) rfl) <| dl_r (sem_move rfl rfl) <| dl_r (sem_extract rfl rfl rfl) <| dl_r (sem_extract rfl rfl rfl) ?_
  refine dl_new (sem_alloc zc26 rfl) rfl <| dl_st (sem_store_a ty26 rfl rfl rfl rfl rfl rfl) <| dl_r (sem_assign rfl rfl) <| dl_end <| dw_seq <| dw_seq <| dw_region (by kernel_rfl) <| dl_r (sem_load (us := (cR A ++ cR B ++ cR C)) ty28 rfl rfl rfl rfl rfl) ?_
  refine dl_r (sem_load (us := (cR D ++ cR E ++ cR F)) ty28 rfl rfl rfl rfl rfl) <| dl_r (sem_call rfl rfl (rcasti (yCmp_ok (hA.mono (by decide)) (hB.mono (by decide)) (hC.mono (by decide)) (hD.mono (by decide)) (hE.mono (by decide)) (hF.mono (by decide))) e1) rfl) <| dl_r (sem_castb (sem_cmp rfl rfl rfl rfl) g1) <| dl_end <| dw_true rfl <| dw_seq <| dw_region (by kernel_rfl) <| dl_r (sem_move rfl rfl) ?_
  refine dl_r (sem_cmp rfl rfl rfl rfl) <| dl_r (sem_move rfl rfl) <| dl_r (sem_field fd26_1 rfl rfl) <| dl_r (sem_field fd24_1 rfl rfl) <| dl_r (sem_load1 ty22 rfl rfl rfl rfl) <| dl_r (sem_len sl22 rfl rfl) <| dl_r (sem_cmp rfl rfl rfl rfl) <| dl_r (sem_pick rfl rfl rfl rfl) ?_
  refine dl_r (sem_assign rfl rfl) <| dl_end <| dw_ret ?_
  exact ⟨.inr rfl, (resL_tmp rfl resL_nil)⟩
theorem lwBt_lt {A B C D E F : Rat} (hA : Rz 2 A) (hB : Rz 2 B) (hC : Rz 2 C) (hD : Rz 2 D) (hE : Rz 2 E) (hF : Rz 2 F) (_cC : 0 ≤ C) (_cF : 0 ≤ F) (oS1 : Ok Tryz.prog 6 [.a (cR A ++ cR B ++ cR C)] [.c (.b true)]) (oS2 : Ok Tryz.prog 6 [.a (cR D ++ cR E ++ cR F)] [.c (.b true)]) {n1 : Int} (e1 : signQ (A - D) B (-E) 0 C F = n1) (g1 : decide (n1 ≥ 0) = false) {z : Rat} (kz : Rz 237 z) (oP : Ok Tryz.prog 7 [.a (cR A ++ cR B ++ cR C), .a (cR D ++ cR E ++ cR F)] [dR z, .c (.i .i64 0)]) (oR : Ok Tryz.prog 12 [.a (cR A ++ cR B ++ cR C), .a (cR D ++ cR E ++ cR F)] [dR z]) {na nb : Int} (ea : plainS (A - z) B C = na) (ga : decide (na < 0) = true) (eb : plainS (D - z) E F = nb) (gb : decide (nb > 0) = true) : Ok Tryz.prog 3 [.a (cR A ++ cR B ++ cR C), .a (cR D ++ cR E ++ cR F)] [.c (.b true)] := by
  refine Ok.of (by kernel_rfl) Tryz.func3 rfl rfl ?_
  rw [show Tryz.f3.ntmps = 64 from rfl, show Tryz.f3.results.toList = [.tmp 4] from rfl]
  refine dw_seq <| dw_region (by kernel_rfl) <| dl_new (sem_box_a rfl rfl) rfl <| dl_new (sem_box_a rfl rfl) rfl <| dl_r (sem_assign rfl rfl) <| dl_end <| dw_seq <| dw_seq ?_
  refine dw_region (by kernel_rfl) <| dl_r (sem_call rfl rfl (awake5_ok) rfl) <| dl_r (sem_not rfl rfl) <| dl_r (sem_move rfl rfl) <| dl_r (sem_load (us := (cR A ++ cR B ++ cR C)) ty28 rfl rfl rfl rfl rfl) <| dl_r (sem_call rfl rfl (oS1) rfl) <| dl_r (sem_not rfl rfl) <| dl_r (sem_pick rfl rfl rfl rfl) ?_
  refine dl_r (sem_move rfl rfl) <| dl_r (sem_load (us := (cR D ++ cR E ++ cR F)) ty28 rfl rfl rfl rfl rfl) <| dl_r (sem_call rfl rfl (oS2) rfl) <| dl_r (sem_not rfl rfl) <| dl_r (sem_pick rfl rfl rfl rfl) <| dl_end <| dw_false rfl <| dw_skip ?_
  refine dw_seq <| dw_region (by kernel_rfl) <| dl_r (sem_load (us := (cR A ++ cR B ++ cR C)) ty28 rfl rfl rfl rfl rfl) <| dl_r (sem_load (us := (cR D ++ cR E ++ cR F)) ty28 rfl rfl rfl rfl rfl) <| dl_r (sem_call rfl rfl (oP) rfl) <| dl_r (sem_move rfl rfl) <| dl_r (sem_extract rfl rfl rfl) <| dl_r (sem_extract rfl rfl rfl) ?_
  refine dl_new (sem_alloc zc26 rfl) rfl <| dl_st (sem_store_a ty26 rfl rfl rfl rfl rfl rfl) <| dl_r (sem_assign rfl rfl) <| dl_end <| dw_seq <| dw_seq <| dw_region (by kernel_rfl) <| dl_r (sem_load (us := (cR A ++ cR B ++ cR C)) ty28 rfl rfl rfl rfl rfl) ?_
  refine dl_r (sem_load (us := (cR D ++ cR E ++ cR F)) ty28 rfl rfl rfl rfl rfl) <| dl_r (sem_call rfl rfl (rcasti (yCmp_ok (hA.mono (by decide)) (hB.mono (by decide)) (hC.mono (by decide)) (hD.mono (by decide)) (hE.mono (by decide)) (hF.mono (by decide))) e1) rfl) <| dl_r (sem_castb (sem_cmp rfl rfl rfl rfl) g1) <| dl_end <| dw_false rfl <| dw_skip <| dw_seq <| dw_draw 26 [] follows_mixed (by kernel_rfl) rfl rfl ?_
  refine dq_r (sem_move rfl rfl) <| dq_r (sem_cmp rfl rfl rfl rfl) <| dq_r (sem_move rfl rfl) <| dq_r (sem_load (us := cR z) ty26 rfl rfl rfl rfl rfl) <| dq_r (sem_call rfl rfl (sValid_R (kz.mono (by decide))) rfl) <| dq_r (sem_pick rfl rfl rfl rfl) <| dq_r (sem_move rfl rfl) <| dq_r (sem_load (us := (cR A ++ cR B ++ cR C)) ty28 rfl rfl rfl rfl rfl) ?_
  refine dq_r (sem_load (us := cR z) ty26 rfl rfl rfl rfl rfl) <| dq_r (sem_call rfl rfl (rcasti (yCmpRat_ok (hA.mono (by decide)) (kz.mono (by decide)) ((hA.sub kz).mono (by decide)) (hB.mono (by decide)) (hC.mono (by decide))) ea) rfl) <| dq_r (sem_castb (sem_cmp rfl rfl rfl rfl) ga) <| dq_r (sem_pick rfl rfl rfl rfl) <| dq_r (sem_move rfl rfl) <| dq_r (sem_load (us := (cR D ++ cR E ++ cR F)) ty28 rfl rfl rfl rfl rfl) <| dq_r (sem_load (us := cR z) ty26 rfl rfl rfl rfl rfl) <| dq_r (sem_call rfl rfl (rcasti (yCmpRat_ok (hD.mono (by decide)) (kz.mono (by decide)) ((hD.sub kz).mono (by decide)) (hE.mono (by decide)) (hF.mono (by decide))) eb) rfl) ?_
  refine dq_r (sem_castb (sem_cmp rfl rfl rfl rfl) gb) <| dq_r (sem_pick rfl rfl rfl rfl) <| dq_r (sem_move rfl rfl) <| dq_r (sem_load (us := cR z) ty26 rfl rfl rfl rfl rfl) <| dq_r (sem_load (us := (cR A ++ cR B ++ cR C)) ty28 rfl rfl rfl rfl rfl) <| dq_r (sem_load (us := (cR D ++ cR E ++ cR F)) ty28 rfl rfl rfl rfl rfl) <| dq_r (sem_call rfl rfl (oR) rfl) <| dq_r (sem_call rfl rfl (rcastb (sSame_ok (kz.mono (by decide)) (kz.mono (by decide))) (decide_eq_true rfl)) rfl) ?_
  refine dq_r (sem_pick rfl rfl rfl rfl) <| dq_r (sem_assign rfl rfl) <| dq_end <| dl_start0 <| dl_end <| dw_ret ?_
  exact ⟨.inr rfl, (resL_tmp rfl resL_nil)⟩
end Go.Proofs.YthlnndkgpgfbnaaGreat
namespace Go.Proofs.YthlnndkgpgfbnaaGreat
open Go.ChangeShapes Go.WideShapes Go.ChangeAt Go.RowKit Go.Deep
theorem own : ownKnob Tryz.prog.godebug = none := by kernel_rfl
theorem laidOut : laidOutB Tryz.prog = true := by kernel_rfl
def NoB : Nat → Prop := fun _ => False
section
variable {H : Type} {enc : TypeId × Value → H} {w : World} {base : Nat} {spare : Nat → Bool} {held : Bool}
theorem olist_of {α : Type} {p : Nat → α → Prop} : ∀ (n : Nat), (∀ i, i < n → ∃ a, p i a) → ∃ l : List α, l.length = n ∧ ∀ i a, l[i]? = some a → p i a
  | 0, _ => ⟨[], rfl, fun i a h => by simp at h⟩
  | n + 1, h => by
    obtain ⟨l, hl, hp⟩ := olist_of n (fun i hi => h i (by omega))
    obtain ⟨a, ha⟩ := h n (by omega)
    refine ⟨l ++ [a], by simp [hl], fun i b hb => ?_⟩
    rcases Nat.lt_or_ge i n with h1 | h1
    · rw [List.getElem?_append_left (by omega)] at hb; exact hp i b hb
    · rw [List.getElem?_append_right (by omega)] at hb
      have : i = n := by
        rcases Nat.lt_or_ge (i - l.length) 1 with h2 | h2
        · omega
        · rw [List.getElem?_eq_none (by simpa using h2)] at hb; cases hb
      subst this
      rw [hl] at hb; simp at hb; subst hb; exact ha
theorem oadd_at (a : Addr) (k : Nat) (v : Value) (h : w.cell? (a.add k) = some v) : w.cell? ⟨a.block, a.off + k, none⟩ = some v := by
  obtain ⟨b, off, spot⟩ := a
  by_cases hk : k = 0
  · subst hk
    have hs : spot = none := by simpa [Addr.add] using World.cell?_spot h
    subst hs
    simpa [Addr.add] using h
  · simpa [Addr.add, hk] using h
theorem ospot_of (a : Addr) (v : Value) (h : w.cell? (a.add 0) = some v) : a = ⟨a.block, a.off, none⟩ := by
  obtain ⟨b, off, spot⟩ := a
  have hs : spot = none := by simpa [Addr.add] using World.cell?_spot h
  subst hs; rfl
theorem olt_of (b off : Nat) (v : Value) (h : w.cell? ⟨b, off, none⟩ = some v) : b < w.heap.size := World.block_lt_of_cell? w _ h
theorem limbs_of {fuel : Nat} {v : Value} {x : DataW H × List MemPlace} (h : DataW.trod enc Tryz.prog w base spare held fuel 22 [v] = some x) : ∃ xs, U32s xs ∧ RdC NoB w v (cM xs) := by
  rcases open_slice1 (P := Tryz.prog) Tryz.underlying22 (by kernel_rfl) h with ⟨hcs, _⟩ | ⟨a, len, cap, m, n, V, D, Pl, hcs, _, hl, hm, hmm, _, hi⟩
  · simp at hcs; subst hcs
    exact ⟨[], fun x hx => (by cases hx), .s0 none 0 (by omega)⟩
  · simp at hcs; subst hcs
    unfold maxLen at hm
    have key : ∀ i, i < len → ∃ z : Int, w.cell? (a.add i) = some (.int .u32 z) ∧ 0 ≤ z ∧ z < 4294967296 := by
      intro i hil
      obtain ⟨hc, ht⟩ := hi i (by rw [hmm]; split <;> omega)
      obtain ⟨z, e, _, hw⟩ := DataW.trod_int (P := Tryz.prog) Tryz.underlying89 ht
      simp at e
      simp [Lit.wf, IntKind.min, IntKind.max, IntKind.signed, IntKind.bits] at hw
      exact ⟨z, by rw [hc, e], by omega, by omega⟩
    obtain ⟨xs, hxl, hxs⟩ := olist_of len key
    refine ⟨xs, fun z hz => ?_, ?_⟩
    · obtain ⟨i, hi', rfl⟩ := List.mem_iff_getElem.1 hz
      have := hxs i _ (List.getElem?_eq_getElem hi')
      omega
    · unfold cM
      rw [hxl]
      refine rdc_of_rdi (xs := xs) ⟨by simp [hxl], fun h0 => ?_⟩ hl (by omega) (fun _ _ _ h => h)
      have h00 := (hxs 0 _ (List.getElem?_eq_getElem (by omega))).1
      have ea := ospot_of a _ h00
      refine ⟨a.block, a.off, by rw [← ea], olt_of _ _ _ (oadd_at a 0 _ h00), fun j u hu => ?_⟩
      rw [List.getElem?_map] at hu
      cases hj : xs[j]? with
      | none => rw [hj] at hu; cases hu
      | some z =>
        rw [hj] at hu
        simp at hu
        subst hu
        exact oadd_at a j _ (hxs j z hj).1
set_option maxRecDepth 100000 in
theorem int_of {fuel : Nat} {cs : List Value} {x : DataW H × List MemPlace} (h : DataW.trod enc Tryz.prog w base spare held fuel 24 cs = some x) : ∃ neg xs, U32s xs ∧ RdCs NoB w cs ([.b neg] ++ [cM xs]) := by
  obtain ⟨xs, n, _, _, hcl, hxl, hf⟩ := DataW.trod_struct (P := Tryz.prog) Tryz.underlying24 h
  have hcl : cs.length = 2 := hcl.trans (by kernel_rfl)
  have hxl : xs.length = 2 := hxl.trans (by kernel_rfl)
  match cs, hcl with
  | [c0, c1], _ =>
    have h0 : DataW.trod enc Tryz.prog w base spare held n 4 [c0] = xs[0]? := hf 0 _ rfl
    have h1 : DataW.trod enc Tryz.prog w base spare held n 22 [c1] = xs[1]? := hf 1 _ rfl
    rw [List.getElem?_eq_getElem (by omega)] at h0 h1
    obtain ⟨b, e, _⟩ := DataW.trod_bool (P := Tryz.prog) Tryz.underlying4 h0
    obtain ⟨zs, hz, hr⟩ := limbs_of h1
    simp at e
    subst e
    exact ⟨b, zs, hz, RdCs.cons (.b b) (RdCs.cons hr RdCs.nil)⟩
set_option maxRecDepth 100000 in
theorem rat_of {fuel : Nat} {cs : List Value} {x : DataW H × List MemPlace} (h : DataW.trod enc Tryz.prog w base spare held fuel 26 cs = some x) : ∃ r : RN, r.Wf ∧ RdCs NoB w cs (cN r) := by
  obtain ⟨xs, n, _, _, hcl, hxl, hf⟩ := DataW.trod_struct (P := Tryz.prog) Tryz.underlying26 h
  have hcl : cs.length = 4 := hcl.trans (by kernel_rfl)
  have hxl : xs.length = 2 := hxl.trans (by kernel_rfl)
  match cs, hcl with
  | [c0, c1, c2, c3], _ =>
    have h0 : DataW.trod enc Tryz.prog w base spare held n 24 [c0, c1] = xs[0]? := hf 0 _ rfl
    have h1 : DataW.trod enc Tryz.prog w base spare held n 24 [c2, c3] = xs[1]? := hf 1 _ rfl
    rw [List.getElem?_eq_getElem (by omega)] at h0 h1
    obtain ⟨b, zs, hz, hr⟩ := int_of h0
    obtain ⟨b', zs', hz', hr'⟩ := int_of h1
    exact ⟨⟨b, zs, b', zs'⟩, ⟨hz, hz'⟩, RdCs.append hr hr'⟩
set_option maxRecDepth 100000 in
theorem root_of {fuel : Nat} {cs : List Value} {x : DataW H × List MemPlace} (h : DataW.trod enc Tryz.prog w base spare held fuel 28 cs = some x) : ∃ r s t : RN, r.Wf ∧ s.Wf ∧ t.Wf ∧ RdCs NoB w cs (cN r ++ cN s ++ cN t) := by
  obtain ⟨xs, n, _, _, hcl, hxl, hf⟩ := DataW.trod_struct (P := Tryz.prog) Tryz.underlying28 h
  have hcl : cs.length = 12 := hcl.trans (by kernel_rfl)
  have hxl : xs.length = 3 := hxl.trans (by kernel_rfl)
  match cs, hcl with
  | [c0, c1, c2, c3, c4, c5, c6, c7, c8, c9, c10, c11], _ =>
    have h0 : DataW.trod enc Tryz.prog w base spare held n 26 [c0, c1, c2, c3] = xs[0]? := hf 0 _ rfl
    have h1 : DataW.trod enc Tryz.prog w base spare held n 26 [c4, c5, c6, c7] = xs[1]? := hf 1 _ rfl
    have h2 : DataW.trod enc Tryz.prog w base spare held n 26 [c8, c9, c10, c11] = xs[2]? := hf 2 _ rfl
    rw [List.getElem?_eq_getElem (by omega)] at h0 h1 h2
    obtain ⟨r, hz, hr⟩ := rat_of h0
    obtain ⟨s, hz', hr'⟩ := rat_of h1
    obtain ⟨t, hz2, hr2⟩ := rat_of h2
    exact ⟨r, s, t, hz, hz', hz2, RdCs.append (RdCs.append hr hr') hr2⟩
theorem law_of {f : FuncId} {ds : List D0} {vs : Array Value} {W : World} (h : Ok Tryz.prog f ds [.c (.b true)]) (hr : RdL NoB W vs.toList ds) : Calls Tryz.prog f vs W fun e W' => e = .returned (.bool true) ∧ Below W.heap.size W W' :=
  (h.run NoB vs W (fun _ h => h.elim) hr).mono fun e w' ⟨v, e1, h1, h2⟩ => by
    have := RdC.bool_eq h1
    subst this
    exact ⟨e1, h2⟩
end
end Go.Proofs.YthlnndkgpgfbnaaGreat
namespace Go.Proofs.YthlnndkgpgfbnaaGreat
open Go Go.RowKit
end Go.Proofs.YthlnndkgpgfbnaaGreat
namespace Go.Proofs.YthlnndkgpgfbnaaGreat
open Go.ChangeShapes Go.WideShapes Go.ChangeAt Go.RowKit Go.Deep
section
variable {H : Type} {enc : TypeId × Value → H} {w : World} {base : Nat} {spare : Nat → Bool} {held : Bool}
end
end Go.Proofs.YthlnndkgpgfbnaaGreat
namespace Go.Proofs.YthlnndkgpgfbnaaGreat
open Go.ChangeShapes Go.WideShapes Go.ChangeAt Go.RowKit
theorem vl_of {b c : Rat} (h : vRoot b c = true) : Vl b c := by
  unfold vRoot at h
  split at h
  · rw [decide_eq_true_eq] at h
    exact ⟨by rw [h.2]; exact Rat.le_refl, fun e => absurd h.1 e, fun _ => h.2⟩
  · rename_i hn
    rw [Bool.and_eq_true, decide_eq_true_eq, Bool.not_eq_true'] at h
    exact ⟨Rat.le_of_lt h.1, fun _ => h, fun e => absurd (.inl e) hn⟩
theorem law_between5 {x1 x2 x3 y1 y2 y3 : RN} (w1 : x1.Wf) (w2 : x2.Wf) (w3 : x3.Wf) (w4 : y1.Wf) (w5 : y2.Wf) (w6 : y3.Wf) :
    Ok Tryz.prog 3 [.a (cN x1 ++ cN x2 ++ cN x3), .a (cN y1 ++ cN y2 ++ cN y3)] [.c (.b true)] := by
  rcases small5_ex w1 w2 w3 with h | ⟨h1, a, b, c, ha, hb, hc, v1, q1⟩
  · exact lwBt_0 h
  rcases small5_ex w4 w5 w6 with h | ⟨h2, d, e, f, hd, he, hf, v2, q2⟩
  · exact lwBt_1 h1 h
  rw [q1] at h1 ⊢
  rw [q2] at h2 ⊢
  have u1 := vl_of v1
  have u2 := vl_of v2
  have e1 : signQ (a - d) b (-e) 0 c f = sgR (val3 a b c - val3 d e f) := signQ_val u1.c0 u2.c0
  by_cases hg : sgR (val3 a b c - val3 d e f) ≥ 0
  · exact lwBt_ge ha hb hc hd he hf u1.c0 u2.c0 h1 h2 e1 (decide_eq_true hg)
  · have ab : sgR (val3 d e f - val3 a b c) = 1 := by
      rw [flip_sg]; have := sgR_cases (val3 a b c - val3 d e f); omega
    obtain ⟨z, kz, oP, oR, S⟩ := btw_main ha hb hc hd he hf u1 u2 ab
    exact lwBt_lt ha hb hc hd he hf u1.c0 u2.c0 h1 h2 e1 (decide_eq_false hg) kz oP oR rfl (decide_eq_true (by rw [val3_p u1.c0, flip_sg, S.mem.1]; decide)) rfl (decide_eq_true (by rw [val3_p u2.c0, S.mem.2]; decide))
set_option maxRecDepth 100000 in
theorem between5_lifted (os : Os) (started : os.Started) (H : Type) (enc : TypeId × Value → H) :
    ReturnsInHanded {} Tryz.checked os 3 .any (Rows.radicalBetweenSpec.pre6 enc Tryz.prog Tryz.f3 Rows.radicalBetweenRow.domain false) (Rows.radicalBetweenSpec.post enc Tryz.prog Tryz.f3 false true false false) := by
  refine returnsInHanded_of_change (C := Tryz.checked) own started (by kernel_rfl) Tryz.func3
    (ChangeSpec.witness6 (enc := enc) (C := Tryz.checked) false ⟨#[], #[.agg (Array.replicate 6 #[Value.bool false, .slice none 0 0]).flatten, .agg (Array.replicate 6 #[Value.bool false, .slice none 0 0]).flatten], []⟩ 8 (by kernel_rfl) (by kernel_rfl) (by kernel_rfl) (by kernel_rfl)) ?_
  intro W base args ds gs before hval0 hW hcnd _
  have hval : ∀ (j : Nat) t v, Tryz.f3.params[j]? = some t → args[j]? = some v → Value.okWide Tryz.prog W .any base t v := hval0
  have hW' := hW
  obtain ⟨p, q, hA0, hV, rfl, hfz, hnd⟩ := hW
  have hA : DataW.TrodAll enc Tryz.prog W 0 (fun _ => true) true Tryz.f3.params.toList args.toList ds p := hA0
  rw [Tryz.params3] at hA hval
  obtain ⟨v0, vs0, d0, ds0, p0, q0, hargs, rfl, rfl, h0, r0⟩ := trodAll_cons hA
  obtain ⟨v1, vs1, d1, ds1, p1, q1, rfl, rfl, rfl, h1, r1⟩ := trodAll_cons r0
  obtain ⟨rfl, rfl, rfl⟩ := trodAll_nil r1
  obtain rfl : args = #[v0, v1] := by cases args; simp_all
  obtain ⟨rfl, rfl⟩ := trodVars_none hV
  obtain ⟨a0, rfl, _⟩ := okWide_struct Tryz.underlying28 (hval 0 28 v0 rfl rfl)
  have k0 := h0
  have lt0 : ∀ x ∈ p0, x.block < W.heap.size := by obtain ⟨m, hm⟩ := k0; exact DataW.trod_lt m _ _ _ hm
  obtain ⟨a1, rfl, _⟩ := okWide_struct Tryz.underlying28 (hval 1 28 v1 rfl rfl)
  have k1 := h1
  have lt1 : ∀ x ∈ p1, x.block < W.heap.size := by obtain ⟨m, hm⟩ := k1; exact DataW.trod_lt m _ _ _ hm
  obtain ⟨e00, e01, e02, w00, w01, w02, hr0⟩ := root_of (show DataW.trod enc Tryz.prog W 0 _ _ h0.choose 28 a0.toList = some _ from h0.choose_spec)
  obtain ⟨e10, e11, e12, w10, w11, w12, hr1⟩ := root_of (show DataW.trod enc Tryz.prog W 0 _ _ h1.choose 28 a1.toList = some _ from h1.choose_spec)
  clear hA0 hval0
  refine (law_of (law_between5 w00 w01 w02 w10 w11 w12) (RdL.cons ⟨a0, rfl, hr0⟩ (RdL.cons ⟨a1, rfl, hr1⟩ RdL.nil))).mono fun e W' ⟨he, bel⟩ => ?_
  subst he
  exact ⟨_, rfl, _, _, _, [], _, [], hW', trodAll_mk1 (shut_bool Tryz.underlying4 _), (trodAll_cons_mk (Below.trod laidOut (by kernel_rfl) (of_decide_eq_true (by kernel_rfl)) k0 bel lt0) (trodAll_cons_mk (Below.trod laidOut (by kernel_rfl) (of_decide_eq_true (by kernel_rfl)) k1 bel lt1) trodAll_mk0)), rfl, bel.frame _, fun h => by cases h⟩
theorem between5_proved : Rows.RadicalBetweenSaid :=
  OpenClaim.holds_of_wide 3 Tryz.f3 rfl rfl rfl rfl rfl rfl rfl ⟨rfl, rfl, rfl, rfl, rfl⟩ rfl rfl rfl rfl rfl (by kernel_rfl) Tryz.func3 (by kernel_rfl)
    (of_decide_eq_true (by kernel_rfl)) (by unfold Func.isWrapper; first | (rw [if_pos (by decide +kernel)]; kernel_rfl) | (rw [if_neg (by decide +kernel)]; exact ⟨rfl, rfl⟩))
    (fun os started H enc _ => between5_lifted os started H enc)
end Go.Proofs.YthlnndkgpgfbnaaGreat
