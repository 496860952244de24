/- Plain: intervals hold what they were made for; the program's signs and orders are those of the sums. -/
import Derived.Test.YthpalcfhhicmgaaGreatPxA
namespace Go.Proofs.YthpalcfhhicmgaaGreat
open Go Go.RowKit
def leR (x y : Re) : Prop := 0 ≤ sgR (y - x)
theorem le_tr {x y z : Re} (h : leR x y) (g : leR y z) : leR x z := by
  unfold leR at *
  have e : z - x = (z - y) + (y - x) := Re.ext fun k => by simp only [re_sub, re_add]; grind
  rw [e]; exact sgR_nn g h
theorem of_le {p q : Rat} (h : p ≤ q) : leR (Re.of p) (Re.of q) := by
  unfold leR
  rw [of_sub, sgR_of]
  unfold cmpR
  rw [if_neg (by grind)]
  split <;> omega
theorem nn_of {x y : Re} (h : ∀ k, x.s k = y.s k) (g : 0 ≤ sgR x) : 0 ≤ sgR y := by rw [← Re.ext h]; exact g
def InI (lo hi : Int) (x : Re) : Prop := leR (Re.of (lo : Rat)) (Re.of 65536 * x) ∧ leR (Re.of 65536 * x) (Re.of (hi : Rat))
theorem sgR_add_le {x y u v : Re} (h : leR x y) (g : leR u v) : leR (x + u) (y + v) := by
  unfold leR at *
  exact nn_of (fun k => by simp only [re_sub, re_add]; grind) (sgR_nn h g)
theorem fl_le (y : Rat) : ((y.num.fdiv (y.den : Int) : Int) : Rat) ≤ y := by
  have hd := den_pos y
  have h1 := r_num y
  have hp : (0 : Rat) < ((y.den : Int) : Rat) := Rat.intCast_pos.2 hd
  refine q_cancel hp ?_
  rw [h1, ← Rat.intCast_mul]
  refine Rat.intCast_le_intCast.2 ?_
  rw [Int.fdiv_eq_ediv_of_nonneg _ (by omega), Int.mul_comm]
  have := Int.mul_ediv_add_emod y.num (y.den : Int)
  have := Int.emod_nonneg y.num (show (y.den : Int) ≠ 0 by omega)
  omega
theorem in_fr (a : Rat) : InI (frLo a) (frHi a) (Re.of a) := by
  have h1 := fl_le (a * ((65536 : Int) : Rat))
  have h2 := fl_le (-(a * ((65536 : Int) : Rat)))
  have e : ((65536 : Int) : Rat) = 65536 := rfl
  rw [e] at h1 h2
  refine ⟨?_, ?_⟩
  · rw [of_mul]
    refine of_le ?_
    unfold frLo
    rw [e]
    grind
  · rw [of_mul]
    refine of_le ?_
    unfold frHi
    rw [e, Rat.intCast_neg]
    grind
theorem in_g {a : Rat} (h : frOk a = true) : InI (gL a) (gH a) (Re.of a) := by
  unfold gL gH; rw [h, if_pos rfl, if_pos rfl]; exact in_fr a
theorem sq_le_re {p q : Re} (_hp : 0 ≤ sgR p) (hq : 0 ≤ sgR q) (h : 0 ≤ sgR (q * q - p * p)) : leR p q := by
  unfold leR
  rcases sgR_cases (q - p) with a | a | a
  · omega
  · omega
  · exfalso
    have h1 : 0 < sgR (p - q) := by
      have e : p - q = -(q - p) := Re.ext fun k => by simp only [re_sub, re_neg]; grind
      rw [e, sgR_neg, a]; decide
    have h2 : 0 < sgR (p + q) := by
      have e : p + q = (p - q) + (q + q) := Re.ext fun k => by simp only [re_sub, re_add]; grind
      rw [e]; exact sgR_pn h1 (sgR_nn hq hq)
    have h3 : sgR ((q - p) * (p + q)) = sgR (q * q - p * p) := congrArg sgR (Re.ext fun k => by simp only [re_sub, re_add, re_mul]; grind)
    rw [sgR_mul, a] at h3
    omega
theorem nn_cast {n : Int} (h : 0 ≤ n) : 0 ≤ sgR (Re.of (n : Rat)) := by
  have := of_le (Rat.intCast_nonneg.2 h)
  unfold leR at this
  refine nn_of (fun k => ?_) this
  simp only [re_sub, re_of]; grind
theorem of_le_iff {p q : Rat} (h : leR (Re.of p) (Re.of q)) : p ≤ q := by
  unfold leR at h
  rw [of_sub, sgR_of] at h
  unfold cmpR at h
  apply Classical.byContradiction
  intro hn
  rw [if_pos (by grind)] at h
  omega
theorem rt65_nn (m : Rat) : 0 ≤ sgR (Re.of 65536 * Re.rt m) := by
  have h1 := rt_nn m
  have h2 : sgR (Re.of 65536) = 1 := by rw [sgR_of]; decide +kernel
  rw [sgR_mul, h2]; omega
theorem rt65_sq {m : Rat} (h : 0 ≤ m) (q : Rat) : sgR (Re.of 65536 * Re.rt m * (Re.of 65536 * Re.rt m) - Re.of q) = cmpR (65536 * 65536 * m) q := by
  rw [← cmpR_sub, ← sgR_of]
  refine sgR_same ?_
  have e : Re.of 65536 * Re.rt m * (Re.of 65536 * Re.rt m) - Re.of q - Re.of (65536 * 65536 * m - q) = Re.of (65536 * 65536) * (Re.rt m * Re.rt m - Re.of m) := Re.ext fun k => by
    simp only [re_sub, re_mul, re_of]; grind
  rw [e, sgR_mul, rt_sq h, Int.mul_zero]
theorem cmpR_ge {x y : Rat} (h : y ≤ x) : 0 ≤ cmpR x y := by unfold cmpR; rw [if_neg (by grind)]; split <;> omega
theorem cmpR_le {x y : Rat} (h : x ≤ y) : cmpR x y ≤ 0 := by
  unfold cmpR
  split
  · omega
  · rw [if_neg (by grind)]; omega
theorem in_sq {m : Rat} (hm : 0 ≤ m) {lo hi : Int} (h : InI lo hi (Re.of m)) : InI (sqLo lo) (sqHi hi) (Re.rt m) := by
  obtain ⟨h1, h2⟩ := h
  rw [of_mul] at h1 h2
  have g1 := of_le_iff h1
  have g2 := of_le_iff h2
  have hq : (0 : Rat) ≤ 65536 * m := Rat.mul_nonneg (by decide) hm
  refine ⟨?_, ?_⟩
  · refine sq_le_re (nn_cast (isqI_nonneg _)) (rt65_nn m) ?_
    rw [of_mul, rt65_sq hm]
    refine cmpR_ge ?_
    have h3 := isqI_le (x := max lo 0 * 65536) (by omega)
    have h4 : ((isqI (max lo 0 * 65536) * isqI (max lo 0 * 65536) : Int) : Rat) ≤ ((max lo 0 * 65536 : Int) : Rat) := Rat.intCast_le_intCast.2 h3
    rw [Rat.intCast_mul, Rat.intCast_mul] at h4
    have e65 : ((65536 : Int) : Rat) = 65536 := rfl
    have h5 : ((max lo 0 : Int) : Rat) ≤ 65536 * m := by
      by_cases hl : 0 ≤ lo
      · rw [show max lo 0 = lo from by omega]; exact g1
      · rw [show max lo 0 = 0 from by omega]; simpa using hq
    rw [e65] at h4
    unfold sqLo
    grind
  · refine sq_le_re (rt65_nn m) (nn_cast ?_) ?_
    · unfold sqHi; have := isqI_nonneg (hi * 65536); split <;> omega
    have h3 : 0 ≤ -sgR (Re.of 65536 * Re.rt m * (Re.of 65536 * Re.rt m) - Re.of (((sqHi hi : Int) : Rat) * ((sqHi hi : Int) : Rat))) := by
      rw [rt65_sq hm]
      have hh : (0 : Int) ≤ hi := by
        have : (0 : Rat) ≤ (hi : Rat) := by grind
        exact Rat.intCast_nonneg.1 this
      have h4 : hi * 65536 ≤ sqHi hi * sqHi hi := by
        unfold sqHi
        split
        · rename_i hs
          unfold sqI at hs
          have := beq_iff_eq.1 hs
          omega
        · have := isqI_lt (x := hi * 65536) (by omega)
          omega
      have h5 : ((hi * 65536 : Int) : Rat) ≤ ((sqHi hi * sqHi hi : Int) : Rat) := Rat.intCast_le_intCast.2 h4
      rw [Rat.intCast_mul, Rat.intCast_mul] at h5
      have e65 : ((65536 : Int) : Rat) = 65536 := rfl
      rw [e65] at h5
      have := cmpR_le (x := 65536 * 65536 * m) (y := ((sqHi hi : Int) : Rat) * ((sqHi hi : Int) : Rat)) (by grind)
      omega
    rw [← sgR_neg] at h3
    refine nn_of (fun k => ?_) h3
    simp only [re_neg, re_sub, re_mul, re_of]; grind
/-- a line at its ends -/
theorem lin_nn {k u v U L : Re} (h1 : 0 ≤ sgR (k * u - L)) (h2 : 0 ≤ sgR (k * v - L)) (g1 : leR u U) (g2 : leR U v) : 0 ≤ sgR (k * U - L) := by
  unfold leR at *
  have e : (v - u) * (k * U - L) = (v - U) * (k * u - L) + (U - u) * (k * v - L) := Re.ext fun j => by simp only [re_sub, re_mul, re_add]; grind
  have hr : 0 ≤ sgR ((v - U) * (k * u - L) + (U - u) * (k * v - L)) := by
    refine sgR_nn ?_ ?_
    · rw [sgR_mul]; exact Int.mul_nonneg g2 h1
    · rw [sgR_mul]; exact Int.mul_nonneg g1 h2
  rw [← e, sgR_mul] at hr
  have e2 : sgR (v - u) = sgR ((v - U) + (U - u)) := congrArg sgR (Re.ext fun j => by simp only [re_sub, re_add]; grind)
  rcases sgR_cases (v - u) with a | a | a
  · rw [a] at hr; omega
  · rcases sgR_cases (U - u) with b | b | b
    · have := sgR_pn (x := U - u) (y := v - U) (by omega) g2
      rw [re_addc] at this
      omega
    · have e3 : k * U - L = (k * u - L) + k * (U - u) := Re.ext fun j => by simp only [re_sub, re_add, re_mul]; grind
      rw [e3, sgR_addz _ (by rw [sgR_mul, b, Int.mul_zero])]
      exact h1
    · omega
  · have := sgR_nn g2 g1
    omega
theorem bil_nn {x y u v X U L : Re} (h1 : 0 ≤ sgR (x * u - L)) (h2 : 0 ≤ sgR (x * v - L)) (h3 : 0 ≤ sgR (y * u - L)) (h4 : 0 ≤ sgR (y * v - L)) (g1 : leR x X) (g2 : leR X y) (g3 : leR u U) (g4 : leR U v) : 0 ≤ sgR (X * U - L) := by
  have a := lin_nn h1 h2 g3 g4
  have b := lin_nn h3 h4 g3 g4
  rw [re_mulc x U] at a
  rw [re_mulc y U] at b
  have := lin_nn a b g1 g2
  rw [re_mulc U X] at this
  exact this
theorem sc_lo (a b : Int) : scLo a b * 65536 ≤ a * b ∧ a * b ≤ scHi a b * 65536 := by
  have e : a * b = if (!(decide (a < 0) == decide (b < 0))) = true then -scP a b else scP a b := by
    unfold scP
    by_cases ha : a < 0 <;> by_cases hb : b < 0
    · have h1 : (a.natAbs : Int) = -a := by omega
      have h2 : (b.natAbs : Int) = -b := by omega
      simp [ha, hb, h1, h2]; try grind
    · have h1 : (a.natAbs : Int) = -a := by omega
      have h2 : (b.natAbs : Int) = b := by omega
      simp [ha, hb, h1, h2]; try grind
    · have h1 : (a.natAbs : Int) = a := by omega
      have h2 : (b.natAbs : Int) = -b := by omega
      simp [ha, hb, h1, h2]; try grind
    · have h1 : (a.natAbs : Int) = a := by omega
      have h2 : (b.natAbs : Int) = b := by omega
      simp [ha, hb, h1, h2]
  rw [e]
  unfold scLo scHi
  generalize scP a b = p
  have hu : p ≤ scUp p * 65536 := by unfold scUp; split <;> omega
  generalize scUp p = u at *
  by_cases hc : (!(decide (a < 0) == decide (b < 0))) = true
  · rw [if_pos hc, if_pos hc, if_pos hc]; omega
  · rw [if_neg hc, if_neg hc, if_neg hc]; omega
theorem in_mul {x y u v : Int} {X U : Re} (h : InI x y X) (g : InI u v U) : InI (loN x y u v 4) (hiN x y u v 4) (X * U) := by
  have lo : ∀ a b : Int, loN x y u v 4 ≤ scLo a b → 0 ≤ sgR (Re.of (a : Rat) * Re.of (b : Rat) - Re.of ((loN x y u v 4 * 65536 : Int) : Rat)) := by
    intro a b hl
    rw [of_mul]
    refine of_le ?_
    rw [← Rat.intCast_mul]
    exact Rat.intCast_le_intCast.2 (by have := (sc_lo a b).1; omega)
  have hi : ∀ a b : Int, scHi a b ≤ hiN x y u v 4 → 0 ≤ sgR (-Re.of (a : Rat) * Re.of (b : Rat) - Re.of (-((hiN x y u v 4 * 65536 : Int) : Rat))) := by
    intro a b hl
    rw [of_neg, of_mul]
    refine of_le ?_
    have h1 : ((a * b : Int) : Rat) ≤ ((hiN x y u v 4 * 65536 : Int) : Rat) := Rat.intCast_le_intCast.2 (by have := (sc_lo a b).2; omega)
    rw [Rat.intCast_mul] at h1
    grind
  have hlo : loN x y u v 4 = min (min (min (min 2305843009213693952 (scLo x u)) (scLo x v)) (scLo y u)) (scLo y v) := rfl
  have hhi : hiN x y u v 4 = max (max (max (max (-2305843009213693952) (scHi x u)) (scHi x v)) (scHi y u)) (scHi y v) := rfl
  have e65 : ((65536 : Int) : Rat) = 65536 := rfl
  have p65 : sgR (Re.of 65536) = 1 := by rw [sgR_of]; decide +kernel
  refine ⟨?_, ?_⟩
  · have hb := bil_nn (lo x u (by omega)) (lo x v (by omega)) (lo y u (by omega)) (lo y v (by omega)) h.1 h.2 g.1 g.2
    have e : sgR (Re.of 65536 * (Re.of 65536 * (X * U) - Re.of ((loN x y u v 4 : Int) : Rat))) = sgR (Re.of 65536 * X * (Re.of 65536 * U) - Re.of ((loN x y u v 4 * 65536 : Int) : Rat)) := congrArg sgR (Re.ext fun k => by
      simp only [re_sub, re_mul, re_of, Rat.intCast_mul, e65]; grind)
    rw [← e, sgR_mul, p65, Int.one_mul] at hb
    exact hb
  · have n1 : leR (-Re.of (y : Rat)) (-(Re.of 65536 * X)) := nn_of (fun k => by simp only [re_sub, re_neg]; grind) h.2
    have n2 : leR (-(Re.of 65536 * X)) (-Re.of (x : Rat)) := nn_of (fun k => by simp only [re_sub, re_neg]; grind) h.1
    have hb := bil_nn (hi y u (by omega)) (hi y v (by omega)) (hi x u (by omega)) (hi x v (by omega)) n1 n2 g.1 g.2
    have e : sgR (Re.of 65536 * (Re.of ((hiN x y u v 4 : Int) : Rat) - Re.of 65536 * (X * U))) = sgR (-(Re.of 65536 * X) * (Re.of 65536 * U) - Re.of (-((hiN x y u v 4 * 65536 : Int) : Rat))) := congrArg sgR (Re.ext fun k => by
      simp only [re_sub, re_mul, re_of, re_neg, Rat.intCast_mul, e65]; grind)
    rw [← e, sgR_mul, p65, Int.one_mul] at hb
    exact hb
theorem in_p {x y u v : Int} {X U : Re} (h : InI x y X) (g : InI u v U) (hk : okN x y u v 4 = true) : InI (pL x y u v) (pH x y u v) (X * U) := by
  unfold pL pH; rw [hk, if_pos rfl, if_pos rfl]; exact in_mul h g
theorem in_add {x y u v : Int} {X U : Re} (h : InI x y X) (g : InI u v U) : InI (x + u) (y + v) (X + U) := by
  have a := sgR_add_le h.1 g.1
  have b := sgR_add_le h.2 g.2
  refine ⟨nn_of (fun k => ?_) a, nn_of (fun k => ?_) b⟩
  · simp only [re_sub, re_add, re_mul, re_of, Rat.intCast_add]; grind
  · simp only [re_sub, re_add, re_mul, re_of, Rat.intCast_add]; grind
theorem in_a {x y u v : Int} {X U : Re} (h : InI x y X) (g : InI u v U) (hk : okI (x + u) (y + v) = true) : InI (aL x y u v) (aH x y u v) (X + U) := by
  unfold aL aH; rw [hk, if_pos rfl, if_pos rfl]; exact in_add h g
theorem sg65 (X : Re) : sgR (Re.of 65536 * X) = sgR X := by
  have p65 : sgR (Re.of 65536) = 1 := by rw [sgR_of]; decide +kernel
  rw [sgR_mul, p65, Int.one_mul]
theorem pos_cast {n : Int} (h : 0 < n) : 0 < sgR (Re.of (n : Rat)) := by
  rw [sgR_of]
  have h1 : (0 : Rat) < (n : Rat) := Rat.intCast_pos.2 h
  unfold cmpR
  rw [if_neg (by grind), if_pos h1]; decide
theorem in_lo {lo hi : Int} {X : Re} (h : InI lo hi X) (hl : 0 < lo) : sgR X = 1 := by
  have h1 := sgR_pn (pos_cast hl) h.1
  have e : sgR (Re.of (lo : Rat) + (Re.of 65536 * X - Re.of (lo : Rat))) = sgR (Re.of 65536 * X) := congrArg sgR (Re.ext fun k => by simp only [re_sub, re_add]; grind)
  rw [e, sg65] at h1
  have := sgR_cases X
  omega
theorem in_hi {lo hi : Int} {X : Re} (h : InI lo hi X) (hl : hi < 0) : sgR X = -1 := by
  have h0 : 0 < sgR (-Re.of (hi : Rat)) := by
    rw [of_neg, ← Rat.intCast_neg]; exact pos_cast (by omega)
  have h1 := sgR_pn h0 h.2
  have e : sgR (-Re.of (hi : Rat) + (Re.of (hi : Rat) - Re.of 65536 * X)) = sgR (-(Re.of 65536 * X)) := congrArg sgR (Re.ext fun k => by simp only [re_sub, re_add, re_neg]; grind)
  rw [e, sgR_neg, sg65] at h1
  have := sgR_cases X
  omega
theorem in_zero {X : Re} (h : InI 0 0 X) : sgR X = 0 := by
  have h1 := h.1
  have h2 := h.2
  unfold leR at h1 h2
  have e1 : sgR (Re.of 65536 * X - Re.of ((0 : Int) : Rat)) = sgR (Re.of 65536 * X) := congrArg sgR (Re.ext fun k => by simp only [re_sub, re_of]; grind)
  have e2 : sgR (Re.of ((0 : Int) : Rat) - Re.of 65536 * X) = sgR (-(Re.of 65536 * X)) := congrArg sgR (Re.ext fun k => by simp only [re_sub, re_of, re_neg]; grind)
  rw [e1, sg65] at h1
  rw [e2, sgR_neg, sg65] at h2
  omega
theorem in_sign {lo hi : Int} {X : Re} (h : InI lo hi X) (hs : skI lo hi = true) : sgI lo hi = sgR X := by
  unfold skI at hs
  simp only [Bool.or_eq_true, decide_eq_true_eq, Bool.and_eq_true, beq_iff_eq] at hs
  unfold sgI
  by_cases h1 : lo > 0
  · rw [if_pos h1, in_lo h h1]
  · rw [if_neg h1]
    by_cases h2 : hi < 0
    · rw [if_pos h2, in_hi h h2]
    · rw [if_neg h2]
      rcases hs with hs | hs | ⟨hs, hs'⟩
      · omega
      · omega
      · subst hs hs'
        exact (in_zero h).symm
/-- quick tells the sign -/
theorem qk_sign {A B C D M N : Rat} (hM : 0 ≤ M) (hN : 0 ≤ N) (h : qkK A B C D M N = true) : qkS A B C D M N = sgR (val6 A B C D M N) := by
  unfold qkK at h
  rw [Bool.and_eq_true] at h
  obtain ⟨h3, hs⟩ := h
  rw [(qk_yes h3).1]
  unfold qK3 qK2 qK1 at h3
  simp only [Bool.and_eq_true] at h3
  obtain ⟨⟨⟨k1, k2⟩, k3, k4, k5, k6, k7, k8, k9⟩, k10, k11, k12, k13⟩ := h3
  have im := in_sq hM (in_g k1)
  have in_ := in_sq hN (in_g k2)
  have ib : InI (qbL B M) (qbH B M) _ := in_p (in_g k3) im k4
  have ic : InI (qbL C N) (qbH C N) _ := in_p (in_g k5) in_ k6
  have imn : InI (qmnL M N) (qmnH M N) _ := in_p im in_ k8
  have id' : InI (qdL D M N) (qdH D M N) _ := in_p (in_g k7) imn k9
  have iab : InI (qabL A B M) (qabH A B M) _ := in_a (in_g k10) ib k11
  have icd : InI (qcdL C D M N) (qcdH C D M N) _ := in_a ic id' k12
  have is' : InI (qsL A B C D M N) (qsH A B C D M N) _ := in_a iab icd k13
  rw [in_sign is' hs]
  refine congrArg sgR (Re.ext fun k => ?_)
  unfold val6 val3
  simp only [re_add, re_mul, re_of]; grind
theorem sgnP_eq {A B C D M N : Rat} (hM : 0 ≤ M) (hN : 0 ≤ N) : sgnP A B C D M N = sgR (val6 A B C D M N) := by
  unfold sgnP
  rw [if_neg (by rintro (h | h) <;> grind)]
  split
  · rename_i h; exact qk_sign hM hN h
  · exact signQ_sg hM hN
/-- the interval of a root -/
theorem in_rt {a b c : Rat} (h : rtOk a b c = true) : InI (rtLo a b c) (rtHi a b c) (val3 a b c) := by
  have h0 := h
  unfold rtOk at h
  rw [Bool.and_eq_true] at h
  obtain ⟨h1, h2⟩ := h
  cases hb : (cmpR b 0 == 0) with
  | true =>
    obtain ⟨e1, e2, _⟩ := rt_b (c := c) h1 hb
    rw [e1, e2]
    have hb0 : b = 0 := r_eq hb
    subst hb0
    have := in_fr a
    have e : val3 a 0 c = Re.of a := Re.ext fun k => by unfold val3; simp only [re_add, re_mul, re_of]; grind
    rw [e]; exact this
  | false =>
    rw [hb, Bool.false_or] at h2
    unfold rtX at h2
    simp only [Bool.and_eq_true, Bool.not_eq_true'] at h2
    obtain ⟨g1, g2, g3, g4, g5⟩ := h2
    have hc : 0 ≤ c := Rat.not_lt.1 (r_nlt g3)
    obtain ⟨e1, e2, _⟩ := rt_f h1 hb g1 g2 g3 g4
    have ir := in_sq hc (in_fr c)
    have im := in_mul (in_fr b) ir
    have := in_add (in_fr a) im
    unfold rtLo rtHi
    rw [h0, if_pos rfl, if_pos rfl, hb, if_neg (by decide), if_neg (by decide)]
    exact this
theorem ap_sign {a b c d e f : Rat} (h : apK (rtOk a b c) (rtOk d e f) (rtLo a b c) (rtHi a b c) (rtLo d e f) (rtHi d e f) = true) :
    apS (rtOk a b c) (rtOk d e f) (rtLo a b c) (rtHi a b c) (rtLo d e f) (rtHi d e f) = sgR (val3 a b c - val3 d e f) := by
  unfold apK at h
  simp only [Bool.and_eq_true, Bool.or_eq_true, decide_eq_true_eq] at h
  obtain ⟨⟨k1, k2⟩, hs⟩ := h
  have i1 := in_rt k1
  have i2 := in_rt k2
  have i3 : InI (rtLo a b c - rtHi d e f) (rtHi a b c - rtLo d e f) (val3 a b c - val3 d e f) := by
    have n := sgR_add_le i1.1 (nn_of (y := -(Re.of 65536 * val3 d e f) - -Re.of ((rtHi d e f : Int) : Rat)) (fun k => by simp only [re_sub, re_neg]; grind) i2.2)
    have m := sgR_add_le i1.2 (nn_of (y := -Re.of ((rtLo d e f : Int) : Rat) - -(Re.of 65536 * val3 d e f)) (fun k => by simp only [re_sub, re_neg]; grind) i2.1)
    refine ⟨nn_of (fun k => ?_) n, nn_of (fun k => ?_) m⟩
    · simp only [re_sub, re_add, re_mul, re_of, re_neg, Rat.intCast_sub]; grind
    · simp only [re_sub, re_add, re_mul, re_of, re_neg, Rat.intCast_sub]; grind
  unfold apS
  rw [k1, k2, Bool.and_self, if_pos rfl]
  by_cases h1 : rtHi a b c < rtLo d e f
  · rw [if_pos (decide_eq_true h1), in_hi i3 (by omega)]
  · rw [if_neg (by simpa using h1)]
    rcases hs with hs | hs
    · omega
    · rw [if_pos (decide_eq_true hs), in_lo i3 (by omega)]
/-- THE PROGRAM'S ORDER OF ROOTS is that of their values -/
theorem cmpP_eq {a b c d e f : Rat} (hc : 0 ≤ c) (hf : 0 ≤ f) : cmpP a b c d e f = sgR (val3 a b c - val3 d e f) := by
  unfold cmpP
  split
  · rename_i h
    have hb : b = 0 := r_eq h.1
    have he : e = 0 := r_eq h.2
    subst hb he
    rw [← cmpR_sub, ← sgR_of]
    refine congrArg sgR (Re.ext fun k => ?_)
    unfold val3; simp only [re_sub, re_add, re_mul, re_of]; grind
  · split
    · rename_i h; exact ap_sign h
    · split
      · rename_i h
        have e1 : c = f := cmpR_eq0.1 (by simpa using h)
        subst e1
        rw [plainS_sg hc]
        refine congrArg sgR (Re.ext fun k => ?_)
        unfold val3; simp only [re_sub, re_add, re_mul, re_of]; grind
      · rw [sgnP_eq hc hf]
        refine congrArg sgR (Re.ext fun k => ?_)
        unfold val6 val3; simp only [re_sub, re_add, re_mul, re_of]; grind
end Go.Proofs.YthpalcfhhicmgaaGreat
/- Plain: the order of points, program and reference; opposite orders. -/
namespace Go.Proofs.YthpalcfhhicmgaaGreat
open Go Go.RowKit
theorem vPt_c {b1 b2 c : Rat} (h : vPt b1 b2 c = true) : 0 ≤ c := by
  unfold vPt at h
  split at h
  · have := of_decide_eq_true h; subst this; exact Rat.le_refl
  · rw [Bool.and_eq_true] at h
    have := of_decide_eq_true h.1
    grind
theorem zc_nn {b c : Rat} (h : 0 ≤ c) : 0 ≤ zc b c := by unfold zc; split <;> grind
/-- a coordinate's value -/
def vco (a b c : Rat) : Re := val3 a b (zc b c)
theorem cmpC_v {a b c p q r : Rat} (hc : 0 ≤ c) (hr : 0 ≤ r) : cmpC a b c p q r = sgR (vco a b c - vco p q r) := signQ_val (zc_nn hc) (zc_nn hr)
theorem cmpP_v {a b c p q r : Rat} (hc : 0 ≤ c) (hr : 0 ≤ r) : cmpP a b (zc b c) p q (zc q r) = sgR (vco a b c - vco p q r) := cmpP_eq (zc_nn hc) (zc_nn hr)
section
variable {a1 b1 a2 b2 c p1 q1 p2 q2 r : Rat}
theorem cmpPP_pt (hc : 0 ≤ c) (hr : 0 ≤ r) : cmpPP a1 b1 a2 b2 c p1 q1 p2 q2 r = cmpPt a1 b1 a2 b2 c p1 q1 p2 q2 r := by
  unfold cmpPP cmpPt
  rw [cmpP_v hc hr, cmpP_v hc hr, cmpC_v hc hr, cmpC_v hc hr]
theorem sgR_sw (x y : Re) : sgR (y - x) = -sgR (x - y) := by
  rw [← sgR_neg]
  exact congrArg sgR (Re.ext fun k => by simp only [re_sub, re_neg]; grind)
theorem sgR_sub0 (x : Re) : sgR (x - x) = 0 := by
  have h := sgR_sw x x
  omega
theorem cmpPt_anti (hc : 0 ≤ c) (hr : 0 ≤ r) : cmpPt p1 q1 p2 q2 r a1 b1 a2 b2 c = -cmpPt a1 b1 a2 b2 c p1 q1 p2 q2 r := by
  unfold cmpPt
  rw [cmpC_v hc hr, cmpC_v hc hr, cmpC_v hr hc, cmpC_v hr hc, sgR_sw (vco a1 b1 c), sgR_sw (vco a2 b2 c)]
  by_cases h : sgR (vco a1 b1 c - vco p1 q1 r) = 0
  · rw [h]; simp
  · rw [if_pos (by omega), if_pos h]
theorem cmpPt_refl (hc : 0 ≤ c) : cmpPt a1 b1 a2 b2 c a1 b1 a2 b2 c = 0 := by
  unfold cmpPt
  rw [cmpC_v hc hc, cmpC_v hc hc, sgR_sub0, sgR_sub0]; simp
theorem cmpPt_cases (hc : 0 ≤ c) (hr : 0 ≤ r) : cmpPt a1 b1 a2 b2 c p1 q1 p2 q2 r = 1 ∨ cmpPt a1 b1 a2 b2 c p1 q1 p2 q2 r = 0 ∨ cmpPt a1 b1 a2 b2 c p1 q1 p2 q2 r = -1 := by
  unfold cmpPt
  rw [cmpC_v hc hr, cmpC_v hc hr]
  split
  · exact sgR_cases _
  · exact sgR_cases _
end
end Go.Proofs.YthpalcfhhicmgaaGreat
/- PointCompare: the law at all readings. -/
namespace Go.Proofs.YthpalcfhhicmgaaGreat
open Go Go.RowKit
theorem lwCm_A {x1 x2 x3 x4 x5 : RN} (wx1 : x1.Wf) (wx2 : x2.Wf) (wx3 : x3.Wf) (wx4 : x4.Wf) (wx5 : x5.Wf) (hv : (x1.s 3 && (x2.s 3 && (x3.s 3 && (x4.s 3 && x5.s 3)))) = false) {y1 y2 y3 y4 y5 : RN} : Ok Tryz.prog 4 [.a (cN x1 ++ cN x2 ++ cN x3 ++ cN x4 ++ cN x5), .a (cN y1 ++ cN y2 ++ cN y3 ++ cN y4 ++ cN y5)] [.c (.b true)] := by
  refine Ok.of (by kernel_rfl) Tryz.func4 rfl rfl ?_
  rw [show Tryz.f4.ntmps = 45 from rfl, show Tryz.f4.results.toList = [.tmp 4] from rfl]
  refine dw_seq ?_
  -- region 0
  refine dw_region (by kernel_rfl) ?_
  refine dl_new (sem_box_a rfl rfl) rfl ?_
  refine dl_new (sem_box_a rfl rfl) rfl ?_
  refine dl_r (sem_assign rfl rfl) ?_
  refine dl_end ?_
  refine dw_seq ?_
  refine dw_seq ?_
  -- region 1
  refine dw_region (by kernel_rfl) ?_
  refine dl_r (sem_call rfl rfl (awake_ok) rfl) ?_
  refine dl_r (sem_not rfl rfl) ?_
  refine dl_r (sem_move rfl rfl) ?_
  refine dl_r (sem_load (us := (cN x1 ++ cN x2 ++ cN x3 ++ cN x4 ++ cN x5)) ty32 rfl rfl rfl rfl rfl) ?_
  refine dl_r (sem_load (us := (cN y1 ++ cN y2 ++ cN y3 ++ cN y4 ++ cN y5)) ty32 rfl rfl rfl rfl rfl) ?_
  refine dl_r (sem_slit_D (n := 2) (us := (cN x1 ++ cN x2 ++ cN x3 ++ cN x4 ++ cN x5) ++ (cN y1 ++ cN y2 ++ cN y3 ++ cN y4 ++ cN y5)) el82 rfl rfl rfl (by decide) (by decide) rfl) ?_
  refine dl_r (sem_call rfl rfl (sm2_A wx1 wx2 wx3 wx4 wx5 hv) rfl) ?_
  refine dl_r (sem_not rfl rfl) ?_
  refine dl_r (sem_pick rfl rfl rfl rfl) ?_
  refine dl_end ?_
  refine dw_true rfl ?_
  refine dw_seq ?_
  -- region 2
  refine dw_region (by kernel_rfl) ?_
  refine dl_r (sem_call rfl rfl (awake_ok) rfl) ?_
  refine dl_r (sem_assign rfl rfl) ?_
  refine dl_end ?_
  refine dw_ret ?_
  -- path 
  exact ⟨.inr rfl, (resL_tmp rfl resL_nil)⟩
theorem lwCm_B {a1 b1 a2 b2 c : Rat} (ha1 : Rz 3 a1) (hb1 : Rz 3 b1) (ha2 : Rz 3 a2) (hb2 : Rz 3 b2) (hc : Rz 3 c) (v1 : vPt b1 b2 c = false) {y1 y2 y3 y4 y5 : RN} : Ok Tryz.prog 4 [.a (cR a1 ++ cR b1 ++ cR a2 ++ cR b2 ++ cR c), .a (cN y1 ++ cN y2 ++ cN y3 ++ cN y4 ++ cN y5)] [.c (.b true)] := by
  refine Ok.of (by kernel_rfl) Tryz.func4 rfl rfl ?_
  rw [show Tryz.f4.ntmps = 45 from rfl, show Tryz.f4.results.toList = [.tmp 4] from rfl]
  refine dw_seq ?_
  -- region 0
  refine dw_region (by kernel_rfl) ?_
  refine dl_new (sem_box_a rfl rfl) rfl ?_
  refine dl_new (sem_box_a rfl rfl) rfl ?_
  refine dl_r (sem_assign rfl rfl) ?_
  refine dl_end ?_
  refine dw_seq ?_
  refine dw_seq ?_
  -- region 1
  refine dw_region (by kernel_rfl) ?_
  refine dl_r (sem_call rfl rfl (awake_ok) rfl) ?_
  refine dl_r (sem_not rfl rfl) ?_
  refine dl_r (sem_move rfl rfl) ?_
  refine dl_r (sem_load (us := (cR a1 ++ cR b1 ++ cR a2 ++ cR b2 ++ cR c)) ty32 rfl rfl rfl rfl rfl) ?_
  refine dl_r (sem_load (us := (cN y1 ++ cN y2 ++ cN y3 ++ cN y4 ++ cN y5)) ty32 rfl rfl rfl rfl rfl) ?_
  refine dl_r (sem_slit_D (n := 2) (us := (cR a1 ++ cR b1 ++ cR a2 ++ cR b2 ++ cR c) ++ (cN y1 ++ cN y2 ++ cN y3 ++ cN y4 ++ cN y5)) el82 rfl rfl rfl (by decide) (by decide) rfl) ?_
  refine dl_r (sem_call rfl rfl (sm2_B ha1 hb1 ha2 hb2 hc v1) rfl) ?_
  refine dl_r (sem_not rfl rfl) ?_
  refine dl_r (sem_pick rfl rfl rfl rfl) ?_
  refine dl_end ?_
  refine dw_true rfl ?_
  refine dw_seq ?_
  -- region 2
  refine dw_region (by kernel_rfl) ?_
  refine dl_r (sem_call rfl rfl (awake_ok) rfl) ?_
  refine dl_r (sem_assign rfl rfl) ?_
  refine dl_end ?_
  refine dw_ret ?_
  -- path 
  exact ⟨.inr rfl, (resL_tmp rfl resL_nil)⟩
theorem lwCm_C {a1 b1 a2 b2 c : Rat} (ha1 : Rz 3 a1) (hb1 : Rz 3 b1) (ha2 : Rz 3 a2) (hb2 : Rz 3 b2) (hc : Rz 3 c) (v1 : vPt b1 b2 c = true) {y1 y2 y3 y4 y5 : RN} (wy1 : y1.Wf) (wy2 : y2.Wf) (wy3 : y3.Wf) (wy4 : y4.Wf) (wy5 : y5.Wf) (hv : (y1.s 3 && (y2.s 3 && (y3.s 3 && (y4.s 3 && y5.s 3)))) = false) : Ok Tryz.prog 4 [.a (cR a1 ++ cR b1 ++ cR a2 ++ cR b2 ++ cR c), .a (cN y1 ++ cN y2 ++ cN y3 ++ cN y4 ++ cN y5)] [.c (.b true)] := by
  refine Ok.of (by kernel_rfl) Tryz.func4 rfl rfl ?_
  rw [show Tryz.f4.ntmps = 45 from rfl, show Tryz.f4.results.toList = [.tmp 4] from rfl]
  refine dw_seq ?_
  -- region 0
  refine dw_region (by kernel_rfl) ?_
  refine dl_new (sem_box_a rfl rfl) rfl ?_
  refine dl_new (sem_box_a rfl rfl) rfl ?_
  refine dl_r (sem_assign rfl rfl) ?_
  refine dl_end ?_
  refine dw_seq ?_
  refine dw_seq ?_
  -- region 1
  refine dw_region (by kernel_rfl) ?_
  refine dl_r (sem_call rfl rfl (awake_ok) rfl) ?_
  refine dl_r (sem_not rfl rfl) ?_
  refine dl_r (sem_move rfl rfl) ?_
  refine dl_r (sem_load (us := (cR a1 ++ cR b1 ++ cR a2 ++ cR b2 ++ cR c)) ty32 rfl rfl rfl rfl rfl) ?_
  refine dl_r (sem_load (us := (cN y1 ++ cN y2 ++ cN y3 ++ cN y4 ++ cN y5)) ty32 rfl rfl rfl rfl rfl) ?_
  refine dl_r (sem_slit_D (n := 2) (us := (cR a1 ++ cR b1 ++ cR a2 ++ cR b2 ++ cR c) ++ (cN y1 ++ cN y2 ++ cN y3 ++ cN y4 ++ cN y5)) el82 rfl rfl rfl (by decide) (by decide) rfl) ?_
  refine dl_r (sem_call rfl rfl (sm2_C wy1 wy2 wy3 wy4 wy5 ha1 hb1 ha2 hb2 hc v1 hv) rfl) ?_
  refine dl_r (sem_not rfl rfl) ?_
  refine dl_r (sem_pick rfl rfl rfl rfl) ?_
  refine dl_end ?_
  refine dw_true rfl ?_
  refine dw_seq ?_
  -- region 2
  refine dw_region (by kernel_rfl) ?_
  refine dl_r (sem_call rfl rfl (awake_ok) rfl) ?_
  refine dl_r (sem_assign rfl rfl) ?_
  refine dl_end ?_
  refine dw_ret ?_
  -- path 
  exact ⟨.inr rfl, (resL_tmp rfl resL_nil)⟩
theorem lwCm_D {a1 b1 a2 b2 c : Rat} (ha1 : Rz 3 a1) (hb1 : Rz 3 b1) (ha2 : Rz 3 a2) (hb2 : Rz 3 b2) (hc : Rz 3 c){p1 q1 p2 q2 r : Rat} (hp1 : Rz 3 p1) (hq1 : Rz 3 q1) (hp2 : Rz 3 p2) (hq2 : Rz 3 q2) (hr : Rz 3 r) (v1 : vPt b1 b2 c = true) (v2 : vPt q1 q2 r = false) : Ok Tryz.prog 4 [.a (cR a1 ++ cR b1 ++ cR a2 ++ cR b2 ++ cR c), .a (cR p1 ++ cR q1 ++ cR p2 ++ cR q2 ++ cR r)] [.c (.b true)] := by
  refine Ok.of (by kernel_rfl) Tryz.func4 rfl rfl ?_
  rw [show Tryz.f4.ntmps = 45 from rfl, show Tryz.f4.results.toList = [.tmp 4] from rfl]
  refine dw_seq ?_
  -- region 0
  refine dw_region (by kernel_rfl) ?_
  refine dl_new (sem_box_a rfl rfl) rfl ?_
  refine dl_new (sem_box_a rfl rfl) rfl ?_
  refine dl_r (sem_assign rfl rfl) ?_
  refine dl_end ?_
  refine dw_seq ?_
  refine dw_seq ?_
  -- region 1
  refine dw_region (by kernel_rfl) ?_
  refine dl_r (sem_call rfl rfl (awake_ok) rfl) ?_
  refine dl_r (sem_not rfl rfl) ?_
  refine dl_r (sem_move rfl rfl) ?_
  refine dl_r (sem_load (us := (cR a1 ++ cR b1 ++ cR a2 ++ cR b2 ++ cR c)) ty32 rfl rfl rfl rfl rfl) ?_
  refine dl_r (sem_load (us := (cR p1 ++ cR q1 ++ cR p2 ++ cR q2 ++ cR r)) ty32 rfl rfl rfl rfl rfl) ?_
  refine dl_r (sem_slit_D (n := 2) (us := (cR a1 ++ cR b1 ++ cR a2 ++ cR b2 ++ cR c) ++ (cR p1 ++ cR q1 ++ cR p2 ++ cR q2 ++ cR r)) el82 rfl rfl rfl (by decide) (by decide) rfl) ?_
  refine dl_r (sem_call rfl rfl (sm2_false ha1 hb1 ha2 hb2 hc hp1 hq1 hp2 hq2 hr v1 v2) rfl) ?_
  refine dl_r (sem_not rfl rfl) ?_
  refine dl_r (sem_pick rfl rfl rfl rfl) ?_
  refine dl_end ?_
  refine dw_true rfl ?_
  refine dw_seq ?_
  -- region 2
  refine dw_region (by kernel_rfl) ?_
  refine dl_r (sem_call rfl rfl (awake_ok) rfl) ?_
  refine dl_r (sem_assign rfl rfl) ?_
  refine dl_end ?_
  refine dw_ret ?_
  -- path 
  exact ⟨.inr rfl, (resL_tmp rfl resL_nil)⟩
theorem lwCm_P {a1 b1 a2 b2 c : Rat} (ha1 : Rz 3 a1) (hb1 : Rz 3 b1) (ha2 : Rz 3 a2) (hb2 : Rz 3 b2) (hc : Rz 3 c){p1 q1 p2 q2 r : Rat} (hp1 : Rz 3 p1) (hq1 : Rz 3 q1) (hp2 : Rz 3 p2) (hq2 : Rz 3 q2) (hr : Rz 3 r) (v1 : vPt b1 b2 c = true) (v2 : vPt q1 q2 r = true) (hn : cmpPt a1 b1 a2 b2 c p1 q1 p2 q2 r = 1) : Ok Tryz.prog 4 [.a (cR a1 ++ cR b1 ++ cR a2 ++ cR b2 ++ cR c), .a (cR p1 ++ cR q1 ++ cR p2 ++ cR q2 ++ cR r)] [.c (.b true)] := by
  have ia1 : Rz 100 a1 := ha1.mono (by decide)
  have ja1 : Rz 8 a1 := ha1.mono (by decide)
  have ib1 : Rz 100 b1 := hb1.mono (by decide)
  have jb1 : Rz 8 b1 := hb1.mono (by decide)
  have ia2 : Rz 100 a2 := ha2.mono (by decide)
  have ja2 : Rz 8 a2 := ha2.mono (by decide)
  have ib2 : Rz 100 b2 := hb2.mono (by decide)
  have jb2 : Rz 8 b2 := hb2.mono (by decide)
  have ic : Rz 100 c := hc.mono (by decide)
  have jc : Rz 8 c := hc.mono (by decide)
  have ip1 : Rz 100 p1 := hp1.mono (by decide)
  have jp1 : Rz 8 p1 := hp1.mono (by decide)
  have iq1 : Rz 100 q1 := hq1.mono (by decide)
  have jq1 : Rz 8 q1 := hq1.mono (by decide)
  have ip2 : Rz 100 p2 := hp2.mono (by decide)
  have jp2 : Rz 8 p2 := hp2.mono (by decide)
  have iq2 : Rz 100 q2 := hq2.mono (by decide)
  have jq2 : Rz 8 q2 := hq2.mono (by decide)
  have ir : Rz 100 r := hr.mono (by decide)
  have jr : Rz 8 r := hr.mono (by decide)
  have s0 : Rz 8 (a1 - p1) := (ha1.sub hp1).mono (by decide)
  have s1 : Rz 8 (a2 - p2) := (ha2.sub hp2).mono (by decide)
  have s2 : Rz 8 (p1 - a1) := (hp1.sub ha1).mono (by decide)
  have s3 : Rz 8 (p2 - a2) := (hp2.sub ha2).mono (by decide)
  have s4 : Rz 8 (a1 - a1) := (ha1.sub ha1).mono (by decide)
  have s5 : Rz 8 (a2 - a2) := (ha2.sub ha2).mono (by decide)
  have cA := vPt_c v1
  have cB := vPt_c v2
  refine Ok.of (by kernel_rfl) Tryz.func4 rfl rfl ?_
  rw [show Tryz.f4.ntmps = 45 from rfl, show Tryz.f4.results.toList = [.tmp 4] from rfl]
  refine dw_seq ?_
  -- region 0
  refine dw_region (by kernel_rfl) ?_
  refine dl_new (sem_box_a rfl rfl) rfl ?_
  refine dl_new (sem_box_a rfl rfl) rfl ?_
  refine dl_r (sem_assign rfl rfl) ?_
  refine dl_end ?_
  refine dw_seq ?_
  refine dw_seq ?_
  -- region 1
  refine dw_region (by kernel_rfl) ?_
  refine dl_r (sem_call rfl rfl (awake_ok) rfl) ?_
  refine dl_r (sem_not rfl rfl) ?_
  refine dl_r (sem_move rfl rfl) ?_
  refine dl_r (sem_load (us := (cR a1 ++ cR b1 ++ cR a2 ++ cR b2 ++ cR c)) ty32 rfl rfl rfl rfl rfl) ?_
  refine dl_r (sem_load (us := (cR p1 ++ cR q1 ++ cR p2 ++ cR q2 ++ cR r)) ty32 rfl rfl rfl rfl rfl) ?_
  refine dl_r (sem_slit_D (n := 2) (us := (cR a1 ++ cR b1 ++ cR a2 ++ cR b2 ++ cR c) ++ (cR p1 ++ cR q1 ++ cR p2 ++ cR q2 ++ cR r)) el82 rfl rfl rfl (by decide) (by decide) rfl) ?_
  refine dl_r (sem_call rfl rfl (sm2_true ha1 hb1 ha2 hb2 hc hp1 hq1 hp2 hq2 hr v1 v2) rfl) ?_
  refine dl_r (sem_not rfl rfl) ?_
  refine dl_r (sem_pick rfl rfl rfl rfl) ?_
  refine dl_end ?_
  refine dw_false rfl ?_
  refine dw_skip ?_
  refine dw_seq ?_
  -- region 3
  refine dw_region (by kernel_rfl) ?_
  refine dl_r (sem_load (us := (cR a1 ++ cR b1 ++ cR a2 ++ cR b2 ++ cR c)) ty32 rfl rfl rfl rfl rfl) ?_
  refine dl_r (sem_load (us := (cR p1 ++ cR q1 ++ cR p2 ++ cR q2 ++ cR r)) ty32 rfl rfl rfl rfl rfl) ?_
  refine dl_r (sem_call rfl rfl (rcasti (ptCompare_ok (by assumption) (by assumption) (by assumption) (by assumption) (by assumption) (by assumption) (by assumption) (by assumption) (by assumption) (by assumption) (by assumption) (by assumption)) ((cmpPP_pt cA cB).trans hn)) rfl) ?_
  refine dl_r (sem_assign rfl rfl) ?_
  refine dl_end ?_
  refine dw_seq ?_
  -- region 4
  refine dw_region (by kernel_rfl) ?_
  refine dl_r (sem_move rfl rfl) ?_
  refine dl_r (sem_load (us := (cR a1 ++ cR b1 ++ cR a2 ++ cR b2 ++ cR c)) ty32 rfl rfl rfl rfl rfl) ?_
  refine dl_r (sem_load (us := (cR p1 ++ cR q1 ++ cR p2 ++ cR q2 ++ cR r)) ty32 rfl rfl rfl rfl rfl) ?_
  refine dl_r (sem_call rfl rfl (rcasti (rpCompare_ok (by assumption) (by assumption) (by assumption) (by assumption) (by assumption) (by assumption) (by assumption) (by assumption) (by assumption) (by assumption)) hn) rfl) ?_
  refine dl_r (sem_cmp rfl rfl rfl rfl) ?_
  refine dl_r (sem_move rfl rfl) ?_
  refine dl_r (sem_load (us := (cR p1 ++ cR q1 ++ cR p2 ++ cR q2 ++ cR r)) ty32 rfl rfl rfl rfl rfl) ?_
  refine dl_r (sem_load (us := (cR a1 ++ cR b1 ++ cR a2 ++ cR b2 ++ cR c)) ty32 rfl rfl rfl rfl rfl) ?_
  refine dl_r (sem_call rfl rfl (rcasti (ptCompare_ok (by assumption) (by assumption) (by assumption) (by assumption) (by assumption) (by assumption) (by assumption) (by assumption) (by assumption) (by assumption) (by assumption) (by assumption)) ((cmpPP_pt cB cA).trans ((cmpPt_anti cA cB).trans (by (rw [hn]; try rfl))))) rfl) ?_
  refine dl_r (sem_move rfl rfl) ?_
  refine dl_r (sem_neg' (r := -1) rfl (by decide) rfl) ?_
  refine dl_r (sem_cmp rfl rfl rfl rfl) ?_
  refine dl_r (sem_pick rfl rfl rfl rfl) ?_
  refine dl_r (sem_move rfl rfl) ?_
  refine dl_r (sem_load (us := (cR a1 ++ cR b1 ++ cR a2 ++ cR b2 ++ cR c)) ty32 rfl rfl rfl rfl rfl) ?_
  refine dl_r (sem_load (us := (cR p1 ++ cR q1 ++ cR p2 ++ cR q2 ++ cR r)) ty32 rfl rfl rfl rfl rfl) ?_
  refine dl_r (sem_call rfl rfl (rcastb (ptEqual_ok (by assumption) (by assumption) (by assumption) (by assumption) (by assumption) (by assumption) (by assumption) (by assumption) (by assumption) (by assumption) (by assumption) (by assumption)) (by (rw [cmpPP_pt cA cB, hn]; try rfl))) rfl) ?_
  refine dl_r (sem_move rfl rfl) ?_
  refine dl_r (sem_cmp rfl rfl rfl rfl) ?_
  refine dl_r (sem_beql rfl rfl ty_bool rfl) ?_
  refine dl_r (sem_pick rfl rfl rfl rfl) ?_
  refine dl_r (sem_move rfl rfl) ?_
  refine dl_r (sem_load (us := (cR a1 ++ cR b1 ++ cR a2 ++ cR b2 ++ cR c)) ty32 rfl rfl rfl rfl rfl) ?_
  refine dl_r (sem_load (us := (cR a1 ++ cR b1 ++ cR a2 ++ cR b2 ++ cR c)) ty32 rfl rfl rfl rfl rfl) ?_
  refine dl_r (sem_call rfl rfl (rcastb (ptEqual_ok (by assumption) (by assumption) (by assumption) (by assumption) (by assumption) (by assumption) (by assumption) (by assumption) (by assumption) (by assumption) (by assumption) (by assumption)) (by (rw [cmpPP_pt cA cA, cmpPt_refl cA]; try rfl))) rfl) ?_
  refine dl_r (sem_pick rfl rfl rfl rfl) ?_
  refine dl_r (sem_assign rfl rfl) ?_
  refine dl_end ?_
  refine dw_ret ?_
  -- path 
  exact ⟨.inr rfl, (resL_tmp rfl resL_nil)⟩
theorem lwCm_Z {a1 b1 a2 b2 c : Rat} (ha1 : Rz 3 a1) (hb1 : Rz 3 b1) (ha2 : Rz 3 a2) (hb2 : Rz 3 b2) (hc : Rz 3 c){p1 q1 p2 q2 r : Rat} (hp1 : Rz 3 p1) (hq1 : Rz 3 q1) (hp2 : Rz 3 p2) (hq2 : Rz 3 q2) (hr : Rz 3 r) (v1 : vPt b1 b2 c = true) (v2 : vPt q1 q2 r = true) (hn : cmpPt a1 b1 a2 b2 c p1 q1 p2 q2 r = 0) : Ok Tryz.prog 4 [.a (cR a1 ++ cR b1 ++ cR a2 ++ cR b2 ++ cR c), .a (cR p1 ++ cR q1 ++ cR p2 ++ cR q2 ++ cR r)] [.c (.b true)] := by
  have ia1 : Rz 100 a1 := ha1.mono (by decide)
  have ja1 : Rz 8 a1 := ha1.mono (by decide)
  have ib1 : Rz 100 b1 := hb1.mono (by decide)
  have jb1 : Rz 8 b1 := hb1.mono (by decide)
  have ia2 : Rz 100 a2 := ha2.mono (by decide)
  have ja2 : Rz 8 a2 := ha2.mono (by decide)
  have ib2 : Rz 100 b2 := hb2.mono (by decide)
  have jb2 : Rz 8 b2 := hb2.mono (by decide)
  have ic : Rz 100 c := hc.mono (by decide)
  have jc : Rz 8 c := hc.mono (by decide)
  have ip1 : Rz 100 p1 := hp1.mono (by decide)
  have jp1 : Rz 8 p1 := hp1.mono (by decide)
  have iq1 : Rz 100 q1 := hq1.mono (by decide)
  have jq1 : Rz 8 q1 := hq1.mono (by decide)
  have ip2 : Rz 100 p2 := hp2.mono (by decide)
  have jp2 : Rz 8 p2 := hp2.mono (by decide)
  have iq2 : Rz 100 q2 := hq2.mono (by decide)
  have jq2 : Rz 8 q2 := hq2.mono (by decide)
  have ir : Rz 100 r := hr.mono (by decide)
  have jr : Rz 8 r := hr.mono (by decide)
  have s0 : Rz 8 (a1 - p1) := (ha1.sub hp1).mono (by decide)
  have s1 : Rz 8 (a2 - p2) := (ha2.sub hp2).mono (by decide)
  have s2 : Rz 8 (p1 - a1) := (hp1.sub ha1).mono (by decide)
  have s3 : Rz 8 (p2 - a2) := (hp2.sub ha2).mono (by decide)
  have s4 : Rz 8 (a1 - a1) := (ha1.sub ha1).mono (by decide)
  have s5 : Rz 8 (a2 - a2) := (ha2.sub ha2).mono (by decide)
  have cA := vPt_c v1
  have cB := vPt_c v2
  refine Ok.of (by kernel_rfl) Tryz.func4 rfl rfl ?_
  rw [show Tryz.f4.ntmps = 45 from rfl, show Tryz.f4.results.toList = [.tmp 4] from rfl]
  refine dw_seq ?_
  -- region 0
  refine dw_region (by kernel_rfl) ?_
  refine dl_new (sem_box_a rfl rfl) rfl ?_
  refine dl_new (sem_box_a rfl rfl) rfl ?_
  refine dl_r (sem_assign rfl rfl) ?_
  refine dl_end ?_
  refine dw_seq ?_
  refine dw_seq ?_
  -- region 1
  refine dw_region (by kernel_rfl) ?_
  refine dl_r (sem_call rfl rfl (awake_ok) rfl) ?_
  refine dl_r (sem_not rfl rfl) ?_
  refine dl_r (sem_move rfl rfl) ?_
  refine dl_r (sem_load (us := (cR a1 ++ cR b1 ++ cR a2 ++ cR b2 ++ cR c)) ty32 rfl rfl rfl rfl rfl) ?_
  refine dl_r (sem_load (us := (cR p1 ++ cR q1 ++ cR p2 ++ cR q2 ++ cR r)) ty32 rfl rfl rfl rfl rfl) ?_
  refine dl_r (sem_slit_D (n := 2) (us := (cR a1 ++ cR b1 ++ cR a2 ++ cR b2 ++ cR c) ++ (cR p1 ++ cR q1 ++ cR p2 ++ cR q2 ++ cR r)) el82 rfl rfl rfl (by decide) (by decide) rfl) ?_
  refine dl_r (sem_call rfl rfl (sm2_true ha1 hb1 ha2 hb2 hc hp1 hq1 hp2 hq2 hr v1 v2) rfl) ?_
  refine dl_r (sem_not rfl rfl) ?_
  refine dl_r (sem_pick rfl rfl rfl rfl) ?_
  refine dl_end ?_
  refine dw_false rfl ?_
  refine dw_skip ?_
  refine dw_seq ?_
  -- region 3
  refine dw_region (by kernel_rfl) ?_
  refine dl_r (sem_load (us := (cR a1 ++ cR b1 ++ cR a2 ++ cR b2 ++ cR c)) ty32 rfl rfl rfl rfl rfl) ?_
  refine dl_r (sem_load (us := (cR p1 ++ cR q1 ++ cR p2 ++ cR q2 ++ cR r)) ty32 rfl rfl rfl rfl rfl) ?_
  refine dl_r (sem_call rfl rfl (rcasti (ptCompare_ok (by assumption) (by assumption) (by assumption) (by assumption) (by assumption) (by assumption) (by assumption) (by assumption) (by assumption) (by assumption) (by assumption) (by assumption)) ((cmpPP_pt cA cB).trans hn)) rfl) ?_
  refine dl_r (sem_assign rfl rfl) ?_
  refine dl_end ?_
  refine dw_seq ?_
  -- region 4
  refine dw_region (by kernel_rfl) ?_
  refine dl_r (sem_move rfl rfl) ?_
  refine dl_r (sem_load (us := (cR a1 ++ cR b1 ++ cR a2 ++ cR b2 ++ cR c)) ty32 rfl rfl rfl rfl rfl) ?_
  refine dl_r (sem_load (us := (cR p1 ++ cR q1 ++ cR p2 ++ cR q2 ++ cR r)) ty32 rfl rfl rfl rfl rfl) ?_
  refine dl_r (sem_call rfl rfl (rcasti (rpCompare_ok (by assumption) (by assumption) (by assumption) (by assumption) (by assumption) (by assumption) (by assumption) (by assumption) (by assumption) (by assumption)) hn) rfl) ?_
  refine dl_r (sem_cmp rfl rfl rfl rfl) ?_
  refine dl_r (sem_move rfl rfl) ?_
  refine dl_r (sem_load (us := (cR p1 ++ cR q1 ++ cR p2 ++ cR q2 ++ cR r)) ty32 rfl rfl rfl rfl rfl) ?_
  refine dl_r (sem_load (us := (cR a1 ++ cR b1 ++ cR a2 ++ cR b2 ++ cR c)) ty32 rfl rfl rfl rfl rfl) ?_
  refine dl_r (sem_call rfl rfl (rcasti (ptCompare_ok (by assumption) (by assumption) (by assumption) (by assumption) (by assumption) (by assumption) (by assumption) (by assumption) (by assumption) (by assumption) (by assumption) (by assumption)) ((cmpPP_pt cB cA).trans ((cmpPt_anti cA cB).trans (by (rw [hn]; try rfl))))) rfl) ?_
  refine dl_r (sem_move rfl rfl) ?_
  refine dl_r (sem_neg' (r := 0) rfl (by decide) rfl) ?_
  refine dl_r (sem_cmp rfl rfl rfl rfl) ?_
  refine dl_r (sem_pick rfl rfl rfl rfl) ?_
  refine dl_r (sem_move rfl rfl) ?_
  refine dl_r (sem_load (us := (cR a1 ++ cR b1 ++ cR a2 ++ cR b2 ++ cR c)) ty32 rfl rfl rfl rfl rfl) ?_
  refine dl_r (sem_load (us := (cR p1 ++ cR q1 ++ cR p2 ++ cR q2 ++ cR r)) ty32 rfl rfl rfl rfl rfl) ?_
  refine dl_r (sem_call rfl rfl (rcastb (ptEqual_ok (by assumption) (by assumption) (by assumption) (by assumption) (by assumption) (by assumption) (by assumption) (by assumption) (by assumption) (by assumption) (by assumption) (by assumption)) (by (rw [cmpPP_pt cA cB, hn]; try rfl))) rfl) ?_
  refine dl_r (sem_move rfl rfl) ?_
  refine dl_r (sem_cmp rfl rfl rfl rfl) ?_
  refine dl_r (sem_beql rfl rfl ty_bool rfl) ?_
  refine dl_r (sem_pick rfl rfl rfl rfl) ?_
  refine dl_r (sem_move rfl rfl) ?_
  refine dl_r (sem_load (us := (cR a1 ++ cR b1 ++ cR a2 ++ cR b2 ++ cR c)) ty32 rfl rfl rfl rfl rfl) ?_
  refine dl_r (sem_load (us := (cR a1 ++ cR b1 ++ cR a2 ++ cR b2 ++ cR c)) ty32 rfl rfl rfl rfl rfl) ?_
  refine dl_r (sem_call rfl rfl (rcastb (ptEqual_ok (by assumption) (by assumption) (by assumption) (by assumption) (by assumption) (by assumption) (by assumption) (by assumption) (by assumption) (by assumption) (by assumption) (by assumption)) (by (rw [cmpPP_pt cA cA, cmpPt_refl cA]; try rfl))) rfl) ?_
  refine dl_r (sem_pick rfl rfl rfl rfl) ?_
  refine dl_r (sem_assign rfl rfl) ?_
  refine dl_end ?_
  refine dw_ret ?_
  -- path 
  exact ⟨.inr rfl, (resL_tmp rfl resL_nil)⟩
theorem lwCm_N {a1 b1 a2 b2 c : Rat} (ha1 : Rz 3 a1) (hb1 : Rz 3 b1) (ha2 : Rz 3 a2) (hb2 : Rz 3 b2) (hc : Rz 3 c){p1 q1 p2 q2 r : Rat} (hp1 : Rz 3 p1) (hq1 : Rz 3 q1) (hp2 : Rz 3 p2) (hq2 : Rz 3 q2) (hr : Rz 3 r) (v1 : vPt b1 b2 c = true) (v2 : vPt q1 q2 r = true) (hn : cmpPt a1 b1 a2 b2 c p1 q1 p2 q2 r = (-1)) : Ok Tryz.prog 4 [.a (cR a1 ++ cR b1 ++ cR a2 ++ cR b2 ++ cR c), .a (cR p1 ++ cR q1 ++ cR p2 ++ cR q2 ++ cR r)] [.c (.b true)] := by
  have ia1 : Rz 100 a1 := ha1.mono (by decide)
  have ja1 : Rz 8 a1 := ha1.mono (by decide)
  have ib1 : Rz 100 b1 := hb1.mono (by decide)
  have jb1 : Rz 8 b1 := hb1.mono (by decide)
  have ia2 : Rz 100 a2 := ha2.mono (by decide)
  have ja2 : Rz 8 a2 := ha2.mono (by decide)
  have ib2 : Rz 100 b2 := hb2.mono (by decide)
  have jb2 : Rz 8 b2 := hb2.mono (by decide)
  have ic : Rz 100 c := hc.mono (by decide)
  have jc : Rz 8 c := hc.mono (by decide)
  have ip1 : Rz 100 p1 := hp1.mono (by decide)
  have jp1 : Rz 8 p1 := hp1.mono (by decide)
  have iq1 : Rz 100 q1 := hq1.mono (by decide)
  have jq1 : Rz 8 q1 := hq1.mono (by decide)
  have ip2 : Rz 100 p2 := hp2.mono (by decide)
  have jp2 : Rz 8 p2 := hp2.mono (by decide)
  have iq2 : Rz 100 q2 := hq2.mono (by decide)
  have jq2 : Rz 8 q2 := hq2.mono (by decide)
  have ir : Rz 100 r := hr.mono (by decide)
  have jr : Rz 8 r := hr.mono (by decide)
  have s0 : Rz 8 (a1 - p1) := (ha1.sub hp1).mono (by decide)
  have s1 : Rz 8 (a2 - p2) := (ha2.sub hp2).mono (by decide)
  have s2 : Rz 8 (p1 - a1) := (hp1.sub ha1).mono (by decide)
  have s3 : Rz 8 (p2 - a2) := (hp2.sub ha2).mono (by decide)
  have s4 : Rz 8 (a1 - a1) := (ha1.sub ha1).mono (by decide)
  have s5 : Rz 8 (a2 - a2) := (ha2.sub ha2).mono (by decide)
  have cA := vPt_c v1
  have cB := vPt_c v2
  refine Ok.of (by kernel_rfl) Tryz.func4 rfl rfl ?_
  rw [show Tryz.f4.ntmps = 45 from rfl, show Tryz.f4.results.toList = [.tmp 4] from rfl]
  refine dw_seq ?_
  -- region 0
  refine dw_region (by kernel_rfl) ?_
  refine dl_new (sem_box_a rfl rfl) rfl ?_
  refine dl_new (sem_box_a rfl rfl) rfl ?_
  refine dl_r (sem_assign rfl rfl) ?_
  refine dl_end ?_
  refine dw_seq ?_
  refine dw_seq ?_
  -- region 1
  refine dw_region (by kernel_rfl) ?_
  refine dl_r (sem_call rfl rfl (awake_ok) rfl) ?_
  refine dl_r (sem_not rfl rfl) ?_
  refine dl_r (sem_move rfl rfl) ?_
  refine dl_r (sem_load (us := (cR a1 ++ cR b1 ++ cR a2 ++ cR b2 ++ cR c)) ty32 rfl rfl rfl rfl rfl) ?_
  refine dl_r (sem_load (us := (cR p1 ++ cR q1 ++ cR p2 ++ cR q2 ++ cR r)) ty32 rfl rfl rfl rfl rfl) ?_
  refine dl_r (sem_slit_D (n := 2) (us := (cR a1 ++ cR b1 ++ cR a2 ++ cR b2 ++ cR c) ++ (cR p1 ++ cR q1 ++ cR p2 ++ cR q2 ++ cR r)) el82 rfl rfl rfl (by decide) (by decide) rfl) ?_
  refine dl_r (sem_call rfl rfl (sm2_true ha1 hb1 ha2 hb2 hc hp1 hq1 hp2 hq2 hr v1 v2) rfl) ?_
  refine dl_r (sem_not rfl rfl) ?_
  refine dl_r (sem_pick rfl rfl rfl rfl) ?_
  refine dl_end ?_
  refine dw_false rfl ?_
  refine dw_skip ?_
  refine dw_seq ?_
  -- region 3
  refine dw_region (by kernel_rfl) ?_
  refine dl_r (sem_load (us := (cR a1 ++ cR b1 ++ cR a2 ++ cR b2 ++ cR c)) ty32 rfl rfl rfl rfl rfl) ?_
  refine dl_r (sem_load (us := (cR p1 ++ cR q1 ++ cR p2 ++ cR q2 ++ cR r)) ty32 rfl rfl rfl rfl rfl) ?_
  refine dl_r (sem_call rfl rfl (rcasti (ptCompare_ok (by assumption) (by assumption) (by assumption) (by assumption) (by assumption) (by assumption) (by assumption) (by assumption) (by assumption) (by assumption) (by assumption) (by assumption)) ((cmpPP_pt cA cB).trans hn)) rfl) ?_
  refine dl_r (sem_assign rfl rfl) ?_
  refine dl_end ?_
  refine dw_seq ?_
  -- region 4
  refine dw_region (by kernel_rfl) ?_
  refine dl_r (sem_move rfl rfl) ?_
  refine dl_r (sem_load (us := (cR a1 ++ cR b1 ++ cR a2 ++ cR b2 ++ cR c)) ty32 rfl rfl rfl rfl rfl) ?_
  refine dl_r (sem_load (us := (cR p1 ++ cR q1 ++ cR p2 ++ cR q2 ++ cR r)) ty32 rfl rfl rfl rfl rfl) ?_
  refine dl_r (sem_call rfl rfl (rcasti (rpCompare_ok (by assumption) (by assumption) (by assumption) (by assumption) (by assumption) (by assumption) (by assumption) (by assumption) (by assumption) (by assumption)) hn) rfl) ?_
  refine dl_r (sem_cmp rfl rfl rfl rfl) ?_
  refine dl_r (sem_move rfl rfl) ?_
  refine dl_r (sem_load (us := (cR p1 ++ cR q1 ++ cR p2 ++ cR q2 ++ cR r)) ty32 rfl rfl rfl rfl rfl) ?_
  refine dl_r (sem_load (us := (cR a1 ++ cR b1 ++ cR a2 ++ cR b2 ++ cR c)) ty32 rfl rfl rfl rfl rfl) ?_
  refine dl_r (sem_call rfl rfl (rcasti (ptCompare_ok (by assumption) (by assumption) (by assumption) (by assumption) (by assumption) (by assumption) (by assumption) (by assumption) (by assumption) (by assumption) (by assumption) (by assumption)) ((cmpPP_pt cB cA).trans ((cmpPt_anti cA cB).trans (by (rw [hn]; try rfl))))) rfl) ?_
  refine dl_r (sem_move rfl rfl) ?_
  refine dl_r (sem_neg' (r := 1) rfl (by decide) rfl) ?_
  refine dl_r (sem_cmp rfl rfl rfl rfl) ?_
  refine dl_r (sem_pick rfl rfl rfl rfl) ?_
  refine dl_r (sem_move rfl rfl) ?_
  refine dl_r (sem_load (us := (cR a1 ++ cR b1 ++ cR a2 ++ cR b2 ++ cR c)) ty32 rfl rfl rfl rfl rfl) ?_
  refine dl_r (sem_load (us := (cR p1 ++ cR q1 ++ cR p2 ++ cR q2 ++ cR r)) ty32 rfl rfl rfl rfl rfl) ?_
  refine dl_r (sem_call rfl rfl (rcastb (ptEqual_ok (by assumption) (by assumption) (by assumption) (by assumption) (by assumption) (by assumption) (by assumption) (by assumption) (by assumption) (by assumption) (by assumption) (by assumption)) (by (rw [cmpPP_pt cA cB, hn]; try rfl))) rfl) ?_
  refine dl_r (sem_move rfl rfl) ?_
  refine dl_r (sem_cmp rfl rfl rfl rfl) ?_
  refine dl_r (sem_beql rfl rfl ty_bool rfl) ?_
  refine dl_r (sem_pick rfl rfl rfl rfl) ?_
  refine dl_r (sem_move rfl rfl) ?_
  refine dl_r (sem_load (us := (cR a1 ++ cR b1 ++ cR a2 ++ cR b2 ++ cR c)) ty32 rfl rfl rfl rfl rfl) ?_
  refine dl_r (sem_load (us := (cR a1 ++ cR b1 ++ cR a2 ++ cR b2 ++ cR c)) ty32 rfl rfl rfl rfl rfl) ?_
  refine dl_r (sem_call rfl rfl (rcastb (ptEqual_ok (by assumption) (by assumption) (by assumption) (by assumption) (by assumption) (by assumption) (by assumption) (by assumption) (by assumption) (by assumption) (by assumption) (by assumption)) (by (rw [cmpPP_pt cA cA, cmpPt_refl cA]; try rfl))) rfl) ?_
  refine dl_r (sem_pick rfl rfl rfl rfl) ?_
  refine dl_r (sem_assign rfl rfl) ?_
  refine dl_end ?_
  refine dw_ret ?_
  -- path 
  exact ⟨.inr rfl, (resL_tmp rfl resL_nil)⟩
end Go.Proofs.YthpalcfhhicmgaaGreat
/- PointCompare: for every input the law returns true, and each argument reads behind the call as it read before. No condition. -/
namespace Go.Proofs.YthpalcfhhicmgaaGreat
open Go.ChangeShapes Go.WideShapes Go.ChangeAt Go.RowKit
theorem law_compare {x1 x2 x3 x4 x5 y1 y2 y3 y4 y5 : RN} (w1 : x1.Wf) (w2 : x2.Wf) (w3 : x3.Wf) (w4 : x4.Wf) (w5 : x5.Wf) (u1 : y1.Wf) (u2 : y2.Wf) (u3 : y3.Wf) (u4 : y4.Wf) (u5 : y5.Wf) :
    Ok Tryz.prog 4 [.a (cN x1 ++ cN x2 ++ cN x3 ++ cN x4 ++ cN x5), .a (cN y1 ++ cN y2 ++ cN y3 ++ cN y4 ++ cN y5)] [.c (.b true)] := by
  cases h : (x1.s 3 && (x2.s 3 && (x3.s 3 && (x4.s 3 && x5.s 3)))) with
  | false => exact lwCm_A w1 w2 w3 w4 w5 h
  | true =>
    obtain ⟨a1, b1, a2, b2, c, g1, g2, g3, g4, g5, e⟩ := p3_of w1 w2 w3 w4 w5 h
    rw [e]
    cases v1 : vPt b1 b2 c with
    | false => exact lwCm_B g1 g2 g3 g4 g5 v1
    | true =>
      cases h' : (y1.s 3 && (y2.s 3 && (y3.s 3 && (y4.s 3 && y5.s 3)))) with
      | false => exact lwCm_C g1 g2 g3 g4 g5 v1 u1 u2 u3 u4 u5 h'
      | true =>
        obtain ⟨p1, q1, p2, q2, r, m1, m2, m3, m4, m5, e'⟩ := p3_of u1 u2 u3 u4 u5 h'
        rw [e']
        cases v2 : vPt q1 q2 r with
        | false => exact lwCm_D g1 g2 g3 g4 g5 m1 m2 m3 m4 m5 v1 v2
        | true =>
          rcases cmpPt_cases (a1 := a1) (b1 := b1) (a2 := a2) (b2 := b2) (p1 := p1) (q1 := q1) (p2 := p2) (q2 := q2) (vPt_c v1) (vPt_c v2) with hn | hn | hn
          · exact lwCm_P g1 g2 g3 g4 g5 m1 m2 m3 m4 m5 v1 v2 hn
          · exact lwCm_Z g1 g2 g3 g4 g5 m1 m2 m3 m4 m5 v1 v2 hn
          · exact lwCm_N g1 g2 g3 g4 g5 m1 m2 m3 m4 m5 v1 v2 hn
set_option maxRecDepth 100000 in
theorem compare_lifted (os : Os) (started : os.Started) (H : Type) (enc : TypeId × Value → H) :
    ReturnsInHanded {} Tryz.checked os 4 .any (Rows.pointCompareSpec.pre6 enc Tryz.prog Tryz.f4 Rows.pointCompareRow.domain false) (Rows.pointCompareSpec.post enc Tryz.prog Tryz.f4 false true false false) := by
  refine returnsInHanded_of_change (C := Tryz.checked) own started (by kernel_rfl) Tryz.func4
    (ChangeSpec.witness6 (enc := enc) (C := Tryz.checked) false ⟨#[], #[.agg (Array.replicate 10 #[Value.bool false, .slice none 0 0]).flatten, .agg (Array.replicate 10 #[Value.bool false, .slice none 0 0]).flatten], []⟩ 8 (by kernel_rfl) (by kernel_rfl) (by kernel_rfl) (by kernel_rfl)) ?_
  intro W base args ds gs before hval0 hW hcnd _
  have hval : ∀ (j : Nat) t v, Tryz.f4.params[j]? = some t → args[j]? = some v → Value.okWide Tryz.prog W .any base t v := hval0
  have hW' := hW
  obtain ⟨p, q, hA0, hV, rfl, hfz, hnd⟩ := hW
  have hA : DataW.TrodAll enc Tryz.prog W 0 (fun _ => true) true Tryz.f4.params.toList args.toList ds p := hA0
  rw [Tryz.params4] at hA hval
  obtain ⟨v0, vs0, d0, ds0, p0, q0, hargs, rfl, rfl, h0, r0⟩ := trodAll_cons hA
  obtain ⟨v1, vs1, d1, ds1, p1, q1, rfl, rfl, rfl, h1, r1⟩ := trodAll_cons r0
  obtain ⟨rfl, rfl, rfl⟩ := trodAll_nil r1
  obtain rfl : args = #[v0, v1] := by cases args; simp_all
  obtain ⟨rfl, rfl⟩ := trodVars_none hV
  obtain ⟨a0, rfl, _⟩ := okWide_struct Tryz.underlying32 (hval 0 32 v0 rfl rfl)
  have k0 := h0
  have lt0 : ∀ x ∈ p0, x.block < W.heap.size := by obtain ⟨m, hm⟩ := k0; exact DataW.trod_lt m _ _ _ hm
  obtain ⟨a1, rfl, _⟩ := okWide_struct Tryz.underlying32 (hval 1 32 v1 rfl rfl)
  have k1 := h1
  have lt1 : ∀ x ∈ p1, x.block < W.heap.size := by obtain ⟨m, hm⟩ := k1; exact DataW.trod_lt m _ _ _ hm
  obtain ⟨e00, e01, e02, e03, e04, w00, w01, w02, w03, w04, hr0⟩ := point_of (show DataW.trod enc Tryz.prog W 0 _ _ h0.choose 32 a0.toList = some _ from h0.choose_spec)
  obtain ⟨e10, e11, e12, e13, e14, w10, w11, w12, w13, w14, hr1⟩ := point_of (show DataW.trod enc Tryz.prog W 0 _ _ h1.choose 32 a1.toList = some _ from h1.choose_spec)
  clear hA0 hval0
  refine (law_of (law_compare w00 w01 w02 w03 w04 w10 w11 w12 w13 w14) (RdL.cons ⟨a0, rfl, hr0⟩ (RdL.cons ⟨a1, rfl, hr1⟩ RdL.nil))).mono fun e W' ⟨he, bel⟩ => ?_
  subst he
  exact ⟨_, rfl, _, _, _, [], _, [], hW', trodAll_mk1 (shut_bool Tryz.underlying4 _), (trodAll_cons_mk (Below.trod laidOut (by kernel_rfl) (of_decide_eq_true (by kernel_rfl)) k0 bel lt0) (trodAll_cons_mk (Below.trod laidOut (by kernel_rfl) (of_decide_eq_true (by kernel_rfl)) k1 bel lt1) trodAll_mk0)), rfl, bel.frame _, fun h => by cases h⟩
theorem compare_proved : Rows.PointCompareSaid :=
  OpenClaim.holds_of_wide 4 Tryz.f4 rfl rfl rfl rfl rfl rfl rfl ⟨rfl, rfl, rfl, rfl, rfl⟩ rfl rfl rfl rfl rfl (by kernel_rfl) Tryz.func4 (by kernel_rfl)
    (of_decide_eq_true (by kernel_rfl)) (by unfold Func.isWrapper; first | (rw [if_pos (by decide +kernel)]; kernel_rfl) | (rw [if_neg (by decide +kernel)]; exact ⟨rfl, rfl⟩))
    (fun os started H enc _ => compare_lifted os started H enc)
end Go.Proofs.YthpalcfhhicmgaaGreat
/- Plain: the square of a distance: its parts, its sign, when it is nothing. -/
namespace Go.Proofs.YthpalcfhhicmgaaGreat
open Go Go.RowKit
theorem sqI_sq (n : Int) : sqI (n * n) = true := by
  have h : isqI (n * n) = (n.natAbs : Int) := by
    have e : (n.natAbs : Int) * (n.natAbs : Int) = n * n := by
      rw [← Int.natCast_mul, Int.natAbs_mul_self]
    refine isqI_unique ?_ (by omega) (by omega) ?_
    · rw [← e]; exact Int.mul_nonneg (by omega) (by omega)
    · have : ((n.natAbs : Int) + 1) * ((n.natAbs : Int) + 1) = (n.natAbs : Int) * (n.natAbs : Int) + 2 * (n.natAbs : Int) + 1 := by grind
      omega
  unfold sqI
  rw [h, ← Int.natCast_mul, Int.natAbs_mul_self]
  simp
theorem sqR_sq (x : Rat) : sqR (x * x) = true := by
  have e : x * x = Rat.divInt (x.num * x.num) ((x.den : Int) * (x.den : Int)) := by
    conv => lhs; rw [← Rat.num_divInt_den x]
    exact Rat.divInt_mul_divInt _ _
  have hd := den_pos x
  have hg : Int.gcd (x.num * x.num) ((x.den : Int) * (x.den : Int)) = 1 := by
    have hr : Nat.Coprime x.num.natAbs x.den := x.reduced
    show Nat.gcd (x.num * x.num).natAbs ((x.den : Int) * (x.den : Int)).natAbs = 1
    rw [Int.natAbs_mul, Int.natAbs_mul, Int.natAbs_natCast]
    exact (hr.mul_left hr).mul_right (hr.mul_left hr)
  have hv : vQ (x.num * x.num) ((x.den : Int) * (x.den : Int)) = true := by
    unfold vQ
    rw [hg, decide_eq_true (Int.mul_pos hd hd)]; rfl
  obtain ⟨h1, h2⟩ := vQ_parts hv
  rw [← e] at h1 h2
  unfold sqR
  rw [h1, h2, sqI_sq, sqI_sq]; rfl
/-- the reference's sign of a root in reduced form -/
theorem s3_sg {a b c : Rat} (hc : 0 ≤ c) (hv : b ≠ 0 → 0 < c ∧ sqR c = false) : s3 a b c = sgR (val3 a b c) := by
  rw [← plainS_sg hc]
  unfold s3 plainS comb
  by_cases hb : b = 0
  · have h0 : cmpR b 0 = 0 := cmpR_eq0.2 hb
    rw [if_pos (.inr h0), h0, Int.zero_mul, if_pos (.inl rfl)]
  · obtain ⟨hp, hs⟩ := hv hb
    have h1 : cmpR c 0 = 1 := by unfold cmpR; rw [if_neg (by grind), if_pos hp]
    have h2 : cmpR b 0 ≠ 0 := fun e => hb (cmpR_eq0.1 e)
    rw [h1, Int.mul_one]
    by_cases h3 : cmpR a 0 = cmpR b 0
    · rw [if_pos (.inl h3), if_pos (.inr h3)]
    · have n1 : ¬ (cmpR a 0 = cmpR b 0 ∨ cmpR b 0 = 0) := by omega
      have n2 : ¬ (cmpR b 0 = 0 ∨ cmpR a 0 = cmpR b 0) := by omega
      rw [if_neg n1, if_neg n2]
      by_cases h4 : cmpR a 0 = 0
      · rw [if_pos h4, if_pos h4]
      · rw [if_neg h4, if_neg h4]
        have hn : a * a ≠ b * b * c := by
          intro e
          have e2 : c = (a / b) * (a / b) := by
            have : a / b * b = a := by grind
            grind
          rw [e2, sqR_sq] at hs
          cases hs
        have a1 := cmpR_bd a 0
        have b1 := cmpR_bd b 0
        by_cases h5 : 0 < a * a - b * b * c
        · have : cmpR (a * a) (b * b * c) = 1 := by unfold cmpR; rw [if_neg (by grind), if_pos (by grind)]
          rw [if_pos h5, this, Int.mul_one]
        · have : cmpR (a * a) (b * b * c) = -1 := by unfold cmpR; rw [if_pos (by grind)]
          rw [if_neg h5, this]; omega
theorem vco_eq (a b c : Rat) : vco a b c = Re.of a + Re.of b * Re.rt c := by
  unfold vco val3
  by_cases h : b = 0
  · subst h
    exact Re.ext fun k => by simp only [re_add, re_mul, re_of]; grind
  · rw [zc_f h]
theorem sgR_sqs (X Y : Re) : 0 ≤ sgR (X * X + Y * Y) ∧ (sgR (X * X + Y * Y) = 0 ↔ sgR X = 0 ∧ sgR Y = 0) := by
  have hx : 0 ≤ sgR (X * X) := by rw [sgR_mul]; rcases sgR_cases X with h | h | h <;> rw [h] <;> decide
  have hy : 0 ≤ sgR (Y * Y) := by rw [sgR_mul]; rcases sgR_cases Y with h | h | h <;> rw [h] <;> decide
  refine ⟨sgR_nn hx hy, fun h => ?_, fun ⟨h1, h2⟩ => ?_⟩
  · constructor
    · apply Classical.byContradiction
      intro hn
      have : 0 < sgR (X * X) := by rw [sgR_mul]; rcases sgR_cases X with g | g | g <;> rw [g] <;> first | decide | omega
      have := sgR_pn this hy
      omega
    · apply Classical.byContradiction
      intro hn
      have : 0 < sgR (Y * Y) := by rw [sgR_mul]; rcases sgR_cases Y with g | g | g <;> rw [g] <;> first | decide | omega
      have := sgR_pn this hx
      rw [re_addc] at this
      omega
  · rw [sgR_addz _ (by rw [sgR_mul, h2]; rfl), sgR_mul, h1]; rfl
def sqA (x y b1 b2 c : Rat) : Rat := x * x + y * y + (b1 * b1 + b2 * b2) * c
def sqB (x y b1 b2 : Rat) : Rat := (x * b1 + y * b2) + (x * b1 + y * b2)
theorem sq_val {x y b1 b2 c : Rat} (hc : 0 ≤ c) : sgR (val3 (sqA x y b1 b2 c) (sqB x y b1 b2) (zc (sqB x y b1 b2) c)) = sgR (vco x b1 c * vco x b1 c + vco y b2 c * vco y b2 c) := by
  symm
  refine sgR_same ?_
  have h1 : val3 (sqA x y b1 b2 c) (sqB x y b1 b2) (zc (sqB x y b1 b2) c) = Re.of (sqA x y b1 b2 c) + Re.of (sqB x y b1 b2) * Re.rt c := vco_eq _ _ _
  rw [h1, vco_eq, vco_eq]
  have e : (Re.of x + Re.of b1 * Re.rt c) * (Re.of x + Re.of b1 * Re.rt c) + (Re.of y + Re.of b2 * Re.rt c) * (Re.of y + Re.of b2 * Re.rt c) - (Re.of (sqA x y b1 b2 c) + Re.of (sqB x y b1 b2) * Re.rt c) = Re.of (b1 * b1 + b2 * b2) * (Re.rt c * Re.rt c - Re.of c) := Re.ext fun k => by
    unfold sqA sqB
    simp only [re_sub, re_add, re_mul, re_of]; grind
  rw [e, sgR_mul, rt_sq hc, Int.mul_zero]
theorem sqB_nz {x y b1 b2 c : Rat} (hv : vPt b1 b2 c = true) (h : sqB x y b1 b2 ≠ 0) : 0 < c ∧ sqR c = false := by
  have hb : ¬ (b1 = 0 ∧ b2 = 0) := by
    rintro ⟨rfl, rfl⟩
    apply h; unfold sqB; grind
  unfold vPt at hv
  rw [if_neg hb, Bool.and_eq_true] at hv
  exact ⟨of_decide_eq_true hv.1, by simpa using hv.2⟩
/-- the sign of the square, and when it is 0 -/
theorem sq_sign {a1 b1 a2 b2 c v w : Rat} (hv : vPt b1 b2 c = true) :
    s3 (sqA (a1 - v) (a2 - w) b1 b2 c) (sqB (a1 - v) (a2 - w) b1 b2) (zc (sqB (a1 - v) (a2 - w) b1 b2) c) = sgR (vco (a1 - v) b1 c * vco (a1 - v) b1 c + vco (a2 - w) b2 c * vco (a2 - w) b2 c) := by
  have hc := vPt_c hv
  rw [s3_sg (zc_nn hc) (fun h => by rw [zc_f h]; exact sqB_nz hv h), sq_val hc]
theorem sq_eq0 {a1 b1 a2 b2 c v w : Rat} (hc : 0 ≤ c) : (cmpPt a1 b1 a2 b2 c v 0 w 0 0 == 0) = (sgR (vco (a1 - v) b1 c * vco (a1 - v) b1 c + vco (a2 - w) b2 c * vco (a2 - w) b2 c) == 0) := by
  have e : ∀ a b v : Rat, vco a b c - vco v 0 0 = vco (a - v) b c := by
    intro a b v
    rw [vco_eq, vco_eq, vco_eq]
    exact Re.ext fun k => by simp only [re_sub, re_add, re_mul, re_of]; grind
  unfold cmpPt
  rw [cmpC_v hc Rat.le_refl, cmpC_v hc Rat.le_refl, e, e, Bool.eq_iff_iff, beq_iff_eq, beq_iff_eq, (sgR_sqs _ _).2]
  by_cases h : sgR (vco (a1 - v) b1 c) = 0
  · rw [h]; simp
  · rw [if_pos h]
    exact ⟨fun g => absurd g h, fun g => absurd g.1 h⟩
/-- the reference's parts of one square -/
theorem q1_A {a b c : Rat} : a * a + b * b * cc b (zc b c) (zc b c) = a * a + b * b * c := by
  by_cases h : b = 0
  · subst h; grind
  · rw [cc_f h, zc_f h]
theorem q1_B {a b c : Rat} (hc : b ≠ 0 → c ≠ 0) : rB (a * b + b * a) (cc b (zc b c) (zc b c)) = a * b + a * b := by
  unfold rB
  split
  · rename_i h
    by_cases hb : b = 0
    · subst hb; grind
    · rw [cc_f hb, zc_f hb] at h
      rcases h with h | h
      · grind
      · exact absurd h (hc hb)
  · grind
theorem q1_C {a b c : Rat} (hc : b ≠ 0 → c ≠ 0) : rC (a * b + b * a) (cc b (zc b c) (zc b c)) = zc (a * b + a * b) c := by
  have e : a * b + b * a = a * b + a * b := by grind
  rw [e]
  unfold rC
  by_cases hb : b = 0
  · subst hb
    rw [if_pos (.inl (by grind)), zc_t (by grind)]
  · rw [cc_f hb, zc_f hb]
    by_cases h : a * b + a * b = 0
    · rw [if_pos (.inl h), zc_t h]
    · rw [if_neg (fun e => e.elim h (hc hb)), zc_f h]
theorem q2_bad {B1 B2 c : Rat} : ¬ bad B1 (zc B1 c) B2 (zc B2 c) := by
  rintro ⟨h1, h2, h3⟩
  rw [zc_f h1, zc_f h2] at h3
  exact h3 rfl
theorem q2_B {B1 B2 c : Rat} (hc : B1 + B2 ≠ 0 → c ≠ 0) : rB (B1 + B2) (cc B1 (zc B1 c) (zc B2 c)) = B1 + B2 := by
  unfold rB
  split
  · rename_i h
    by_cases hs : B1 + B2 = 0
    · exact hs.symm
    · exfalso
      rcases h with h | h
      · exact hs h
      · by_cases h1 : B1 = 0
        · rw [cc_t h1] at h
          have h2 : B2 ≠ 0 := fun e => hs (by grind)
          rw [zc_f h2] at h
          exact hc hs h
        · rw [cc_f h1, zc_f h1] at h
          exact hc hs h
  · rfl
theorem q2_C {B1 B2 c : Rat} (hc : B1 + B2 ≠ 0 → c ≠ 0) : rC (B1 + B2) (cc B1 (zc B1 c) (zc B2 c)) = zc (B1 + B2) c := by
  unfold rC
  by_cases hs : B1 + B2 = 0
  · rw [if_pos (.inl hs), zc_t hs]
  · have e : cc B1 (zc B1 c) (zc B2 c) = c := by
      by_cases h1 : B1 = 0
      · rw [cc_t h1, zc_f (fun e => hs (by grind))]
      · rw [cc_f h1, zc_f h1]
    rw [e, if_neg (fun e => e.elim hs (hc hs)), zc_f hs]
theorem sub_e (a v : Rat) : a + -v = a - v := by grind
theorem mv_e (a d f : Rat) : a + f - (d + f) = a - d := by grind
section
variable {P : Program} {f : FuncId} {ds rs : List D0} {x y z x' y' z' : Rat}
theorem rcast3l (h : Ok P f ds (.a (cR x ++ cR y ++ cR z) :: rs)) (e1 : x = x') (e2 : y = y') (e3 : z = z') : Ok P f ds (.a (cR x' ++ cR y' ++ cR z') :: rs) := by subst e1 e2 e3; exact h
end
theorem mvA (a1 a2 b1 b2 c d e f g : Rat) : (a1 + f - (d + f)) * (a1 + f - (d + f)) + (a2 + g - (e + g)) * (a2 + g - (e + g)) + (b1 * b1 + b2 * b2) * c = sqA (a1 - d) (a2 - e) b1 b2 c := by rw [mv_e, mv_e]; rfl
theorem mvB (a1 a2 b1 b2 d e f g : Rat) : (a1 + f - (d + f)) * b1 + (a2 + g - (e + g)) * b2 + ((a1 + f - (d + f)) * b1 + (a2 + g - (e + g)) * b2) = sqB (a1 - d) (a2 - e) b1 b2 := by rw [mv_e, mv_e]; rfl
theorem sum_A (x y b1 b2 c : Rat) : (x * x + b1 * b1 * c) + (y * y + b2 * b2 * c) = sqA x y b1 b2 c := by unfold sqA; grind
theorem sum_B (x y b1 b2 : Rat) : (x * b1 + x * b1) + (y * b2 + y * b2) = sqB x y b1 b2 := by unfold sqB; grind
theorem vPt_b {b1 b2 c : Rat} (h : vPt b1 b2 c = true) : (b1 ≠ 0 → c ≠ 0) ∧ (b2 ≠ 0 → c ≠ 0) := by
  have key : ¬ (b1 = 0 ∧ b2 = 0) → c ≠ 0 := by
    intro hn e
    unfold vPt at h
    rw [if_neg hn, Bool.and_eq_true] at h
    have := of_decide_eq_true h.1
    rw [e] at this
    exact absurd this (by decide)
  exact ⟨fun hb => key (fun e => hb e.1), fun hb => key (fun e => hb e.2)⟩
end Go.Proofs.YthpalcfhhicmgaaGreat
/- PointSquare: the reference and the law at all readings. -/
namespace Go.Proofs.YthpalcfhhicmgaaGreat
open Go Go.RowKit
theorem rpSquare_ok {a1 b1 a2 b2 c : Rat} (ha1 : Rz 3 a1) (hb1 : Rz 3 b1) (ha2 : Rz 3 a2) (hb2 : Rz 3 b2) (hc : Rz 3 c) (v1 : vPt b1 b2 c = true) {d e : Rat} (hd : Rz 3 d) (he : Rz 3 e) : Ok Tryz.prog 26 [.a (cR a1 ++ cR b1 ++ cR a2 ++ cR b2 ++ cR c), .a (cR d ++ cR e)] [.a (cR (sqA (a1 - d) (a2 - e) b1 b2 c) ++ cR (sqB (a1 - d) (a2 - e) b1 b2) ++ cR (zc (sqB (a1 - d) (a2 - e) b1 b2) c))] := by
  have ka1 : Rz 300 a1 := ha1.mono (by decide)
  have kb1 : Rz 300 b1 := hb1.mono (by decide)
  have ka2 : Rz 300 a2 := ha2.mono (by decide)
  have kb2 : Rz 300 b2 := hb2.mono (by decide)
  have kc : Rz 300 c := hc.mono (by decide)
  have kd : Rz 300 d := hd.mono (by decide)
  have ke : Rz 300 e := he.mono (by decide)
  have u1 : Rz 7 (a1 - d) := (ha1.sub hd).mono (by decide)
  have u2 : Rz 7 (a2 - e) := (ha2.sub he).mono (by decide)
  have k3 : Rz 300 (-d) := kd.neg
  have k4 : Rz 300 (-e) := ke.neg
  have nz := vPt_b v1
  have x1 : Rz 50 (a1 - d) := u1.mono (by decide)
  have x2 : Rz 50 (a2 - e) := u2.mono (by decide)
  have y1 : Rz 50 b1 := hb1.mono (by decide)
  have y2 : Rz 50 b2 := hb2.mono (by decide)
  have hC : Rz 50 c := hc.mono (by decide)
  have z1 : Rz 50 (zc b1 c) := Rz.zc hC (by decide)
  have z2 : Rz 50 (zc b2 c) := Rz.zc hC (by decide)
  have A1 : Rz 50 ((a1 - d) * (a1 - d) + b1 * b1 * c) := ((u1.mul u1).add ((hb1.mul hb1).mul hc)).mono (by decide)
  have A2 : Rz 50 ((a2 - e) * (a2 - e) + b2 * b2 * c) := ((u2.mul u2).add ((hb2.mul hb2).mul hc)).mono (by decide)
  have B1 : Rz 50 ((a1 - d) * b1 + (a1 - d) * b1) := ((u1.mul hb1).add (u1.mul hb1)).mono (by decide)
  have B2 : Rz 50 ((a2 - e) * b2 + (a2 - e) * b2) := ((u2.mul hb2).add (u2.mul hb2)).mono (by decide)
  have C1 : Rz 50 (zc ((a1 - d) * b1 + (a1 - d) * b1) c) := Rz.zc hC (by decide)
  have C2 : Rz 50 (zc ((a2 - e) * b2 + (a2 - e) * b2) c) := Rz.zc hC (by decide)
  have nS : ((a1 - d) * b1 + (a1 - d) * b1) + ((a2 - e) * b2 + (a2 - e) * b2) ≠ 0 → c ≠ 0 := fun h => by rw [sum_B] at h; have := (sqB_nz v1 h).1; grind
  refine Ok.of (by kernel_rfl) Tryz.func26 rfl rfl ?_
  rw [show Tryz.f26.ntmps = 23 from rfl, show Tryz.f26.results.toList = [.cell 4 28] from rfl]
  refine dw_seq ?_
  -- region 0
  refine dw_region (by kernel_rfl) ?_
  refine dl_new (sem_box_a rfl rfl) rfl ?_
  refine dl_new (sem_box_a rfl rfl) rfl ?_
  refine dl_new (sem_alloc zc28 rfl) rfl ?_
  refine dl_end ?_
  refine dw_seq ?_
  -- region 1
  refine dw_draw 5 [] follows_mixed (by kernel_rfl) rfl rfl ?_
  refine dq_r (sem_load (us := (cR a1 ++ cR b1 ++ cR a2 ++ cR b2 ++ cR c)) ty32 rfl rfl rfl rfl rfl) ?_
  refine dq_r (sem_load (us := (cR d ++ cR e)) ty42 rfl rfl rfl rfl rfl) ?_
  refine dq_r (sem_call rfl rfl (rpBack_ok (by assumption) (by assumption)) rfl) ?_
  refine dq_r (sem_call rfl rfl (rpTranslate_ok (by assumption) (by assumption) (by assumption) (by assumption)) rfl) ?_
  refine dq_new (sem_alloc zc32 rfl) rfl ?_
  refine dq_end ?_
  refine dl_start1 ?_
  refine dl_st (sem_store_a ty32 rfl rfl rfl rfl rfl rfl) ?_
  refine dl_end ?_
  refine dw_seq ?_
  -- region 2
  refine dw_draw 13 [6] follows_mixed (by kernel_rfl) rfl rfl ?_
  refine dq_r (sem_load (us := (cR (a1 + (-d)) ++ cR b1 ++ cR (a2 + (-e)) ++ cR b2 ++ cR c)) ty32 rfl rfl rfl rfl rfl) ?_
  refine dq_r (sem_call rfl rfl (rcast3 rpX_ok (sub_e _ _) rfl rfl) rfl) ?_
  refine dq_r (sem_call rfl rfl (rcast3 (rrSq_ok x1 y1 z1) q1_A (q1_B nz.1) (q1_C nz.1)) rfl) ?_
  refine dq_r (sem_load (us := (cR (a1 + (-d)) ++ cR b1 ++ cR (a2 + (-e)) ++ cR b2 ++ cR c)) ty32 rfl rfl rfl rfl rfl) ?_
  refine dq_r (sem_call rfl rfl (rcast3 rpY_ok (sub_e _ _) rfl rfl) rfl) ?_
  refine dq_r (sem_call rfl rfl (rcast3 (rrSq_ok x2 y2 z2) q1_A (q1_B nz.2) (q1_C nz.2)) rfl) ?_
  refine dq_r (sem_call rfl rfl (rcast3l (rrAdd_ok A1 B1 C1 A2 B2 C2 q2_bad) (sum_A _ _ _ _ _) ((q2_B nS).trans (sum_B _ _ _ _)) ((q2_C nS).trans (by rw [sum_B]))) rfl) ?_
  refine dq_r (sem_move rfl rfl) ?_
  refine dq_r (sem_extract rfl rfl rfl) ?_
  refine dq_r (sem_extract rfl rfl rfl) ?_
  refine dq_new (sem_alloc zc28 rfl) rfl ?_
  refine dq_sn (sem_store_a ty28 rfl rfl rfl rfl rfl rfl) rfl rfl rfl ?_
  refine dq_r (sem_assign rfl rfl) ?_
  refine dq_end ?_
  refine dl_start2 ?_
  refine dl_end ?_
  refine dw_seq ?_
  -- region 3
  refine dw_region (by kernel_rfl) ?_
  refine dl_r (sem_load (us := (cR (sqA (a1 - d) (a2 - e) b1 b2 c) ++ cR (sqB (a1 - d) (a2 - e) b1 b2) ++ cR (zc (sqB (a1 - d) (a2 - e) b1 b2) c))) ty28 rfl rfl rfl rfl rfl) ?_
  refine dl_st (sem_store_a ty28 rfl rfl rfl rfl rfl rfl) ?_
  refine dl_end ?_
  refine dw_ret ?_
  -- path 
  exact ⟨.inr rfl, (resL_cell (us := (cR (sqA (a1 - d) (a2 - e) b1 b2 c) ++ cR (sqB (a1 - d) (a2 - e) b1 b2) ++ cR (zc (sqB (a1 - d) (a2 - e) b1 b2) c))) ty28 rfl rfl rfl rfl resL_nil)⟩
theorem lwSq_A {x1 x2 x3 x4 x5 : RN} (wx1 : x1.Wf) (wx2 : x2.Wf) (wx3 : x3.Wf) (wx4 : x4.Wf) (wx5 : x5.Wf) (hv : (x1.s 3 && (x2.s 3 && (x3.s 3 && (x4.s 3 && x5.s 3)))) = false) {v w u t : RN} : Ok Tryz.prog 5 [.a (cN x1 ++ cN x2 ++ cN x3 ++ cN x4 ++ cN x5), .a (cN v ++ cN w), .a (cN u ++ cN t)] [.c (.b true)] := by
  refine Ok.of (by kernel_rfl) Tryz.func5 rfl rfl ?_
  rw [show Tryz.f5.ntmps = 71 from rfl, show Tryz.f5.results.toList = [.tmp 6] from rfl]
  refine dw_seq ?_
  -- region 0
  refine dw_region (by kernel_rfl) ?_
  refine dl_new (sem_box_a rfl rfl) rfl ?_
  refine dl_new (sem_box_a rfl rfl) rfl ?_
  refine dl_new (sem_box_a rfl rfl) rfl ?_
  refine dl_r (sem_assign rfl rfl) ?_
  refine dl_end ?_
  refine dw_seq ?_
  refine dw_seq ?_
  -- region 1
  refine dw_region (by kernel_rfl) ?_
  refine dl_r (sem_call rfl rfl (awake_ok) rfl) ?_
  refine dl_r (sem_not rfl rfl) ?_
  refine dl_r (sem_move rfl rfl) ?_
  refine dl_r (sem_load (us := (cN x1 ++ cN x2 ++ cN x3 ++ cN x4 ++ cN x5)) ty32 rfl rfl rfl rfl rfl) ?_
  refine dl_r (sem_slit_D (n := 1) (us := (cN x1 ++ cN x2 ++ cN x3 ++ cN x4 ++ cN x5)) el82 rfl rfl rfl (by decide) (by decide) rfl) ?_
  refine dl_r (sem_call rfl rfl (sm1_A (by assumption) (by assumption) (by assumption) (by assumption) (by assumption) hv) rfl) ?_
  refine dl_r (sem_not rfl rfl) ?_
  refine dl_r (sem_pick rfl rfl rfl rfl) ?_
  refine dl_r (sem_move rfl rfl) ?_
  refine dl_skip (sem_skip rfl) ?_
  refine dl_skip (sem_skip rfl) ?_
  refine dl_skip (sem_skip rfl) ?_
  refine dl_r (sem_pick rfl rfl rfl rfl) ?_
  refine dl_r (sem_move rfl rfl) ?_
  refine dl_skip (sem_skip rfl) ?_
  refine dl_skip (sem_skip rfl) ?_
  refine dl_skip (sem_skip rfl) ?_
  refine dl_r (sem_pick rfl rfl rfl rfl) ?_
  refine dl_end ?_
  refine dw_true rfl ?_
  refine dw_seq ?_
  -- region 2
  refine dw_region (by kernel_rfl) ?_
  refine dl_r (sem_call rfl rfl (awake_ok) rfl) ?_
  refine dl_r (sem_assign rfl rfl) ?_
  refine dl_end ?_
  refine dw_ret ?_
  -- path 
  exact ⟨.inr rfl, (resL_tmp rfl resL_nil)⟩
theorem lwSq_B {a1 b1 a2 b2 c : Rat} (ha1 : Rz 3 a1) (hb1 : Rz 3 b1) (ha2 : Rz 3 a2) (hb2 : Rz 3 b2) (hc : Rz 3 c) (v1 : vPt b1 b2 c = false) {v w u t : RN} : Ok Tryz.prog 5 [.a (cR a1 ++ cR b1 ++ cR a2 ++ cR b2 ++ cR c), .a (cN v ++ cN w), .a (cN u ++ cN t)] [.c (.b true)] := by
  refine Ok.of (by kernel_rfl) Tryz.func5 rfl rfl ?_
  rw [show Tryz.f5.ntmps = 71 from rfl, show Tryz.f5.results.toList = [.tmp 6] from rfl]
  refine dw_seq ?_
  -- region 0
  refine dw_region (by kernel_rfl) ?_
  refine dl_new (sem_box_a rfl rfl) rfl ?_
  refine dl_new (sem_box_a rfl rfl) rfl ?_
  refine dl_new (sem_box_a rfl rfl) rfl ?_
  refine dl_r (sem_assign rfl rfl) ?_
  refine dl_end ?_
  refine dw_seq ?_
  refine dw_seq ?_
  -- region 1
  refine dw_region (by kernel_rfl) ?_
  refine dl_r (sem_call rfl rfl (awake_ok) rfl) ?_
  refine dl_r (sem_not rfl rfl) ?_
  refine dl_r (sem_move rfl rfl) ?_
  refine dl_r (sem_load (us := (cR a1 ++ cR b1 ++ cR a2 ++ cR b2 ++ cR c)) ty32 rfl rfl rfl rfl rfl) ?_
  refine dl_r (sem_slit_D (n := 1) (us := (cR a1 ++ cR b1 ++ cR a2 ++ cR b2 ++ cR c)) el82 rfl rfl rfl (by decide) (by decide) rfl) ?_
  refine dl_r (sem_call rfl rfl (sm1_false (by assumption) (by assumption) (by assumption) (by assumption) (by assumption) v1) rfl) ?_
  refine dl_r (sem_not rfl rfl) ?_
  refine dl_r (sem_pick rfl rfl rfl rfl) ?_
  refine dl_r (sem_move rfl rfl) ?_
  refine dl_skip (sem_skip rfl) ?_
  refine dl_skip (sem_skip rfl) ?_
  refine dl_skip (sem_skip rfl) ?_
  refine dl_r (sem_pick rfl rfl rfl rfl) ?_
  refine dl_r (sem_move rfl rfl) ?_
  refine dl_skip (sem_skip rfl) ?_
  refine dl_skip (sem_skip rfl) ?_
  refine dl_skip (sem_skip rfl) ?_
  refine dl_r (sem_pick rfl rfl rfl rfl) ?_
  refine dl_end ?_
  refine dw_true rfl ?_
  refine dw_seq ?_
  -- region 2
  refine dw_region (by kernel_rfl) ?_
  refine dl_r (sem_call rfl rfl (awake_ok) rfl) ?_
  refine dl_r (sem_assign rfl rfl) ?_
  refine dl_end ?_
  refine dw_ret ?_
  -- path 
  exact ⟨.inr rfl, (resL_tmp rfl resL_nil)⟩
theorem lwSq_C {a1 b1 a2 b2 c : Rat} (ha1 : Rz 3 a1) (hb1 : Rz 3 b1) (ha2 : Rz 3 a2) (hb2 : Rz 3 b2) (hc : Rz 3 c) (v1 : vPt b1 b2 c = true) {v w : RN} (wv : v.Wf) (ww : w.Wf) (hw : (v.s 3 && w.s 3) = false) {u t : RN} : Ok Tryz.prog 5 [.a (cR a1 ++ cR b1 ++ cR a2 ++ cR b2 ++ cR c), .a (cN v ++ cN w), .a (cN u ++ cN t)] [.c (.b true)] := by
  refine Ok.of (by kernel_rfl) Tryz.func5 rfl rfl ?_
  rw [show Tryz.f5.ntmps = 71 from rfl, show Tryz.f5.results.toList = [.tmp 6] from rfl]
  refine dw_seq ?_
  -- region 0
  refine dw_region (by kernel_rfl) ?_
  refine dl_new (sem_box_a rfl rfl) rfl ?_
  refine dl_new (sem_box_a rfl rfl) rfl ?_
  refine dl_new (sem_box_a rfl rfl) rfl ?_
  refine dl_r (sem_assign rfl rfl) ?_
  refine dl_end ?_
  refine dw_seq ?_
  refine dw_seq ?_
  -- region 1
  refine dw_region (by kernel_rfl) ?_
  refine dl_r (sem_call rfl rfl (awake_ok) rfl) ?_
  refine dl_r (sem_not rfl rfl) ?_
  refine dl_r (sem_move rfl rfl) ?_
  refine dl_r (sem_load (us := (cR a1 ++ cR b1 ++ cR a2 ++ cR b2 ++ cR c)) ty32 rfl rfl rfl rfl rfl) ?_
  refine dl_r (sem_slit_D (n := 1) (us := (cR a1 ++ cR b1 ++ cR a2 ++ cR b2 ++ cR c)) el82 rfl rfl rfl (by decide) (by decide) rfl) ?_
  refine dl_r (sem_call rfl rfl (sm1_true (by assumption) (by assumption) (by assumption) (by assumption) (by assumption) v1) rfl) ?_
  refine dl_r (sem_not rfl rfl) ?_
  refine dl_r (sem_pick rfl rfl rfl rfl) ?_
  refine dl_r (sem_move rfl rfl) ?_
  refine dl_r (sem_load (us := (cN v ++ cN w)) ty42 rfl rfl rfl rfl rfl) ?_
  refine dl_r (sem_call rfl rfl (rcastb (lwSmallVec (by assumption) (by assumption)) hw) rfl) ?_
  refine dl_r (sem_not rfl rfl) ?_
  refine dl_r (sem_pick rfl rfl rfl rfl) ?_
  refine dl_r (sem_move rfl rfl) ?_
  refine dl_skip (sem_skip rfl) ?_
  refine dl_skip (sem_skip rfl) ?_
  refine dl_skip (sem_skip rfl) ?_
  refine dl_r (sem_pick rfl rfl rfl rfl) ?_
  refine dl_end ?_
  refine dw_true rfl ?_
  refine dw_seq ?_
  -- region 2
  refine dw_region (by kernel_rfl) ?_
  refine dl_r (sem_call rfl rfl (awake_ok) rfl) ?_
  refine dl_r (sem_assign rfl rfl) ?_
  refine dl_end ?_
  refine dw_ret ?_
  -- path 
  exact ⟨.inr rfl, (resL_tmp rfl resL_nil)⟩
theorem lwSq_D {a1 b1 a2 b2 c : Rat} (ha1 : Rz 3 a1) (hb1 : Rz 3 b1) (ha2 : Rz 3 a2) (hb2 : Rz 3 b2) (hc : Rz 3 c) (v1 : vPt b1 b2 c = true) {d e : Rat} (hd : Rz 3 d) (he : Rz 3 e) {u t : RN} (wu : u.Wf) (wt : t.Wf) (hw2 : (u.s 3 && t.s 3) = false) : Ok Tryz.prog 5 [.a (cR a1 ++ cR b1 ++ cR a2 ++ cR b2 ++ cR c), .a (cR d ++ cR e), .a (cN u ++ cN t)] [.c (.b true)] := by
  refine Ok.of (by kernel_rfl) Tryz.func5 rfl rfl ?_
  rw [show Tryz.f5.ntmps = 71 from rfl, show Tryz.f5.results.toList = [.tmp 6] from rfl]
  refine dw_seq ?_
  -- region 0
  refine dw_region (by kernel_rfl) ?_
  refine dl_new (sem_box_a rfl rfl) rfl ?_
  refine dl_new (sem_box_a rfl rfl) rfl ?_
  refine dl_new (sem_box_a rfl rfl) rfl ?_
  refine dl_r (sem_assign rfl rfl) ?_
  refine dl_end ?_
  refine dw_seq ?_
  refine dw_seq ?_
  -- region 1
  refine dw_region (by kernel_rfl) ?_
  refine dl_r (sem_call rfl rfl (awake_ok) rfl) ?_
  refine dl_r (sem_not rfl rfl) ?_
  refine dl_r (sem_move rfl rfl) ?_
  refine dl_r (sem_load (us := (cR a1 ++ cR b1 ++ cR a2 ++ cR b2 ++ cR c)) ty32 rfl rfl rfl rfl rfl) ?_
  refine dl_r (sem_slit_D (n := 1) (us := (cR a1 ++ cR b1 ++ cR a2 ++ cR b2 ++ cR c)) el82 rfl rfl rfl (by decide) (by decide) rfl) ?_
  refine dl_r (sem_call rfl rfl (sm1_true (by assumption) (by assumption) (by assumption) (by assumption) (by assumption) v1) rfl) ?_
  refine dl_r (sem_not rfl rfl) ?_
  refine dl_r (sem_pick rfl rfl rfl rfl) ?_
  refine dl_r (sem_move rfl rfl) ?_
  refine dl_r (sem_load (us := (cR d ++ cR e)) ty42 rfl rfl rfl rfl rfl) ?_
  refine dl_r (sem_call rfl rfl (lwSmallVec_R (by assumption) (by assumption)) rfl) ?_
  refine dl_r (sem_not rfl rfl) ?_
  refine dl_r (sem_pick rfl rfl rfl rfl) ?_
  refine dl_r (sem_move rfl rfl) ?_
  refine dl_r (sem_load (us := (cN u ++ cN t)) ty42 rfl rfl rfl rfl rfl) ?_
  refine dl_r (sem_call rfl rfl (rcastb (lwSmallVec (by assumption) (by assumption)) hw2) rfl) ?_
  refine dl_r (sem_not rfl rfl) ?_
  refine dl_r (sem_pick rfl rfl rfl rfl) ?_
  refine dl_end ?_
  refine dw_true rfl ?_
  refine dw_seq ?_
  -- region 2
  refine dw_region (by kernel_rfl) ?_
  refine dl_r (sem_call rfl rfl (awake_ok) rfl) ?_
  refine dl_r (sem_assign rfl rfl) ?_
  refine dl_end ?_
  refine dw_ret ?_
  -- path 
  exact ⟨.inr rfl, (resL_tmp rfl resL_nil)⟩
theorem lwSq_Z {a1 b1 a2 b2 c : Rat} (ha1 : Rz 3 a1) (hb1 : Rz 3 b1) (ha2 : Rz 3 a2) (hb2 : Rz 3 b2) (hc : Rz 3 c) (v1 : vPt b1 b2 c = true) {d e : Rat} (hd : Rz 3 d) (he : Rz 3 e){f g : Rat} (hf : Rz 3 f) (hg : Rz 3 g) (hn : sgR (vco (a1 - d) b1 c * vco (a1 - d) b1 c + vco (a2 - e) b2 c * vco (a2 - e) b2 c) = 0) : Ok Tryz.prog 5 [.a (cR a1 ++ cR b1 ++ cR a2 ++ cR b2 ++ cR c), .a (cR d ++ cR e), .a (cR f ++ cR g)] [.c (.b true)] := by
  have ka1 : Rz 300 a1 := ha1.mono (by decide)
  have kb1 : Rz 300 b1 := hb1.mono (by decide)
  have ka2 : Rz 300 a2 := ha2.mono (by decide)
  have kb2 : Rz 300 b2 := hb2.mono (by decide)
  have kc : Rz 300 c := hc.mono (by decide)
  have kd : Rz 300 d := hd.mono (by decide)
  have ke : Rz 300 e := he.mono (by decide)
  have kf : Rz 300 f := hf.mono (by decide)
  have kg : Rz 300 g := hg.mono (by decide)
  have ia1 : Rz 20 a1 := ha1.mono (by decide)
  have ib1 : Rz 20 b1 := hb1.mono (by decide)
  have ia2 : Rz 20 a2 := ha2.mono (by decide)
  have ib2 : Rz 20 b2 := hb2.mono (by decide)
  have ic : Rz 20 c := hc.mono (by decide)
  have id : Rz 20 d := hd.mono (by decide)
  have ie : Rz 20 e := he.mono (by decide)
  have u1 : Rz 7 (a1 - d) := (ha1.sub hd).mono (by decide)
  have u2 : Rz 7 (a2 - e) := (ha2.sub he).mono (by decide)
  have m1 : Rz 20 (a1 + f) := (ha1.add hf).mono (by decide)
  have m2 : Rz 20 (a2 + g) := (ha2.add hg).mono (by decide)
  have m3 : Rz 20 (d + f) := (hd.add hf).mono (by decide)
  have m4 : Rz 20 (e + g) := (he.add hg).mono (by decide)
  have hC : Rz 50 c := hc.mono (by decide)
  have z0 : Rz 3 (0 : Rat) := Rz.zero (by decide)
  have cA := vPt_c v1
  have sA : Rz 50 (sqA (a1 - d) (a2 - e) b1 b2 c) := (((u1.mul u1).add (u2.mul u2)).add (((hb1.mul hb1).add (hb2.mul hb2)).mul hc)).mono (by decide)
  have sB : Rz 50 (sqB (a1 - d) (a2 - e) b1 b2) := (((u1.mul hb1).add (u2.mul hb2)).add ((u1.mul hb1).add (u2.mul hb2))).mono (by decide)
  have sC : Rz 50 (zc (sqB (a1 - d) (a2 - e) b1 b2) c) := Rz.zc hC (by decide)
  have tA : Rz 300 (sqA (a1 - d) (a2 - e) b1 b2 c) := sA.mono (by decide)
  have tB : Rz 300 (sqB (a1 - d) (a2 - e) b1 b2) := sB.mono (by decide)
  have tC : Rz 300 (zc (sqB (a1 - d) (a2 - e) b1 b2) c) := sC.mono (by decide)
  refine Ok.of (by kernel_rfl) Tryz.func5 rfl rfl ?_
  rw [show Tryz.f5.ntmps = 71 from rfl, show Tryz.f5.results.toList = [.tmp 6] from rfl]
  refine dw_seq ?_
  -- region 0
  refine dw_region (by kernel_rfl) ?_
  refine dl_new (sem_box_a rfl rfl) rfl ?_
  refine dl_new (sem_box_a rfl rfl) rfl ?_
  refine dl_new (sem_box_a rfl rfl) rfl ?_
  refine dl_r (sem_assign rfl rfl) ?_
  refine dl_end ?_
  refine dw_seq ?_
  refine dw_seq ?_
  -- region 1
  refine dw_region (by kernel_rfl) ?_
  refine dl_r (sem_call rfl rfl (awake_ok) rfl) ?_
  refine dl_r (sem_not rfl rfl) ?_
  refine dl_r (sem_move rfl rfl) ?_
  refine dl_r (sem_load (us := (cR a1 ++ cR b1 ++ cR a2 ++ cR b2 ++ cR c)) ty32 rfl rfl rfl rfl rfl) ?_
  refine dl_r (sem_slit_D (n := 1) (us := (cR a1 ++ cR b1 ++ cR a2 ++ cR b2 ++ cR c)) el82 rfl rfl rfl (by decide) (by decide) rfl) ?_
  refine dl_r (sem_call rfl rfl (sm1_true (by assumption) (by assumption) (by assumption) (by assumption) (by assumption) v1) rfl) ?_
  refine dl_r (sem_not rfl rfl) ?_
  refine dl_r (sem_pick rfl rfl rfl rfl) ?_
  refine dl_r (sem_move rfl rfl) ?_
  refine dl_r (sem_load (us := (cR d ++ cR e)) ty42 rfl rfl rfl rfl rfl) ?_
  refine dl_r (sem_call rfl rfl (lwSmallVec_R (by assumption) (by assumption)) rfl) ?_
  refine dl_r (sem_not rfl rfl) ?_
  refine dl_r (sem_pick rfl rfl rfl rfl) ?_
  refine dl_r (sem_move rfl rfl) ?_
  refine dl_r (sem_load (us := (cR f ++ cR g)) ty42 rfl rfl rfl rfl rfl) ?_
  refine dl_r (sem_call rfl rfl (lwSmallVec_R (by assumption) (by assumption)) rfl) ?_
  refine dl_r (sem_not rfl rfl) ?_
  refine dl_r (sem_pick rfl rfl rfl rfl) ?_
  refine dl_end ?_
  refine dw_false rfl ?_
  refine dw_skip ?_
  refine dw_seq ?_
  -- region 3
  refine dw_region (by kernel_rfl) ?_
  refine dl_r (sem_load (us := (cR a1 ++ cR b1 ++ cR a2 ++ cR b2 ++ cR c)) ty32 rfl rfl rfl rfl rfl) ?_
  refine dl_r (sem_load (us := (cR d ++ cR e)) ty42 rfl rfl rfl rfl rfl) ?_
  refine dl_r (sem_call rfl rfl (rcast3 (ptSquare_ok (by assumption) (by assumption) (by assumption) (by assumption) (by assumption) (by assumption) (by assumption)) rfl rfl rfl) rfl) ?_
  refine dl_new (sem_alloc zc28 rfl) rfl ?_
  refine dl_st (sem_store_a ty28 rfl rfl rfl rfl rfl rfl) ?_
  refine dl_end ?_
  refine dw_seq ?_
  -- region 4
  refine dw_region (by kernel_rfl) ?_
  refine dl_r (sem_load (us := (cR (sqA (a1 - d) (a2 - e) b1 b2 c) ++ cR (sqB (a1 - d) (a2 - e) b1 b2) ++ cR (zc (sqB (a1 - d) (a2 - e) b1 b2) c))) ty28 rfl rfl rfl rfl rfl) ?_
  refine dl_r (sem_call rfl rfl (rcasti (rrSign_ok (by assumption) (by assumption) (by assumption)) ((sq_sign v1).trans hn)) rfl) ?_
  refine dl_r (sem_assign rfl rfl) ?_
  refine dl_end ?_
  refine dw_seq ?_
  refine dw_seq ?_
  -- region 5
  refine dw_draw 19 [] follows_mixed (by kernel_rfl) rfl rfl ?_
  refine dq_r (sem_load (us := (cR (sqA (a1 - d) (a2 - e) b1 b2 c) ++ cR (sqB (a1 - d) (a2 - e) b1 b2) ++ cR (zc (sqB (a1 - d) (a2 - e) b1 b2) c))) ty28 rfl rfl rfl rfl rfl) ?_
  refine dq_r (sem_load (us := (cR a1 ++ cR b1 ++ cR a2 ++ cR b2 ++ cR c)) ty32 rfl rfl rfl rfl rfl) ?_
  refine dq_r (sem_load (us := (cR d ++ cR e)) ty42 rfl rfl rfl rfl rfl) ?_
  refine dq_r (sem_call rfl rfl (rpSquare_ok (by assumption) (by assumption) (by assumption) (by assumption) (by assumption) v1 hd he) rfl) ?_
  refine dq_r (sem_call rfl rfl (rcastb (rrSame_ok (by assumption) (by assumption) (by assumption) (by assumption) (by assumption) (by assumption)) (rsame_refl _ _ _)) rfl) ?_
  refine dq_r (sem_not rfl rfl) ?_
  refine dq_r (sem_move rfl rfl) ?_
  refine dq_r (sem_move rfl rfl) ?_
  refine dq_r (sem_cmp rfl rfl rfl rfl) ?_
  refine dq_r (sem_pick rfl rfl rfl rfl) ?_
  refine dq_r (sem_move rfl rfl) ?_
  refine dq_r (sem_move rfl rfl) ?_
  refine dq_r (sem_cmp rfl rfl rfl rfl) ?_
  refine dq_r (sem_load (us := (cR a1 ++ cR b1 ++ cR a2 ++ cR b2 ++ cR c)) ty32 rfl rfl rfl rfl rfl) ?_
  refine dq_r (sem_load (us := (cR d ++ cR e)) ty42 rfl rfl rfl rfl rfl) ?_
  refine dq_r (sem_call rfl rfl (rpAt_ok) rfl) ?_
  refine dq_r (sem_call rfl rfl (rcastb (rpEqual_ok (by assumption) (by assumption) (by assumption) (by assumption) (by assumption) (by assumption) (by assumption) (by assumption) (by assumption) (by assumption)) ((sq_eq0 cA).trans (by (rw [hn]; try rfl)))) rfl) ?_
  refine dq_r (sem_bneq rfl rfl ty_bool rfl) ?_
  refine dq_r (sem_pick rfl rfl rfl rfl) ?_
  refine dq_end ?_
  refine dl_start0 ?_
  refine dl_end ?_
  refine dw_false rfl ?_
  refine dw_skip ?_
  refine dw_seq ?_
  -- region 7
  refine dw_draw 12 [] follows_mixed (by kernel_rfl) rfl rfl ?_
  refine dq_r (sem_field fd42_0 rfl rfl) ?_
  refine dq_r (sem_load (us := cR d) ty26 rfl rfl rfl rfl rfl) ?_
  refine dq_r (sem_field fd42_0 rfl rfl) ?_
  refine dq_r (sem_load (us := cR f) ty26 rfl rfl rfl rfl rfl) ?_
  refine dq_r (sem_call rfl rfl (sAdd_ok (by first | assumption | exact Rz.mono hd (by decide)) (by first | assumption | exact Rz.mono hf (by decide))) rfl) ?_
  refine dq_r (sem_field fd42_1 rfl rfl) ?_
  refine dq_r (sem_load (us := cR e) ty26 rfl rfl rfl rfl rfl) ?_
  refine dq_r (sem_field fd42_1 rfl rfl) ?_
  refine dq_r (sem_load (us := cR g) ty26 rfl rfl rfl rfl rfl) ?_
  refine dq_r (sem_call rfl rfl (sAdd_ok (by first | assumption | exact Rz.mono he (by decide)) (by first | assumption | exact Rz.mono hg (by decide))) rfl) ?_
  refine dq_r (sem_build (us := (cR (d + f) ++ cR (e + g))) fs42 zc42 rfl rfl rfl) ?_
  refine dq_new (sem_alloc zc42 rfl) rfl ?_
  refine dq_end ?_
  refine dl_start1 ?_
  refine dl_st (sem_store_a ty42 rfl rfl rfl rfl rfl rfl) ?_
  refine dl_end ?_
  refine dw_seq ?_
  -- region 8
  refine dw_draw 8 [] follows_mixed (by kernel_rfl) rfl rfl ?_
  refine dq_r (sem_load (us := (cR a1 ++ cR b1 ++ cR a2 ++ cR b2 ++ cR c)) ty32 rfl rfl rfl rfl rfl) ?_
  refine dq_r (sem_load (us := (cR f ++ cR g)) ty42 rfl rfl rfl rfl rfl) ?_
  refine dq_r (sem_call rfl rfl (rpTranslate_ok (by assumption) (by assumption) (by assumption) (by assumption)) rfl) ?_
  refine dq_r (sem_load (us := (cR (d + f) ++ cR (e + g))) ty42 rfl rfl rfl rfl rfl) ?_
  refine dq_r (sem_call rfl rfl (rcast3 (ptSquare_ok (by assumption) (by assumption) (by assumption) (by assumption) (by assumption) (by assumption) (by assumption)) (mvA _ _ _ _ _ _ _ _ _) (mvB _ _ _ _ _ _ _ _) (by rw [mvB])) rfl) ?_
  refine dq_r (sem_load (us := (cR (sqA (a1 - d) (a2 - e) b1 b2 c) ++ cR (sqB (a1 - d) (a2 - e) b1 b2) ++ cR (zc (sqB (a1 - d) (a2 - e) b1 b2) c))) ty28 rfl rfl rfl rfl rfl) ?_
  refine dq_r (sem_call rfl rfl (rcastb (rrSame_ok (by assumption) (by assumption) (by assumption) (by assumption) (by assumption) (by assumption)) (rsame_refl _ _ _)) rfl) ?_
  refine dq_r (sem_assign rfl rfl) ?_
  refine dq_end ?_
  refine dl_start0 ?_
  refine dl_end ?_
  refine dw_ret ?_
  -- path 
  exact ⟨.inr rfl, (resL_tmp rfl resL_nil)⟩
theorem lwSq_P {a1 b1 a2 b2 c : Rat} (ha1 : Rz 3 a1) (hb1 : Rz 3 b1) (ha2 : Rz 3 a2) (hb2 : Rz 3 b2) (hc : Rz 3 c) (v1 : vPt b1 b2 c = true) {d e : Rat} (hd : Rz 3 d) (he : Rz 3 e){f g : Rat} (hf : Rz 3 f) (hg : Rz 3 g) (hn : sgR (vco (a1 - d) b1 c * vco (a1 - d) b1 c + vco (a2 - e) b2 c * vco (a2 - e) b2 c) = 1) : Ok Tryz.prog 5 [.a (cR a1 ++ cR b1 ++ cR a2 ++ cR b2 ++ cR c), .a (cR d ++ cR e), .a (cR f ++ cR g)] [.c (.b true)] := by
  have ka1 : Rz 300 a1 := ha1.mono (by decide)
  have kb1 : Rz 300 b1 := hb1.mono (by decide)
  have ka2 : Rz 300 a2 := ha2.mono (by decide)
  have kb2 : Rz 300 b2 := hb2.mono (by decide)
  have kc : Rz 300 c := hc.mono (by decide)
  have kd : Rz 300 d := hd.mono (by decide)
  have ke : Rz 300 e := he.mono (by decide)
  have kf : Rz 300 f := hf.mono (by decide)
  have kg : Rz 300 g := hg.mono (by decide)
  have ia1 : Rz 20 a1 := ha1.mono (by decide)
  have ib1 : Rz 20 b1 := hb1.mono (by decide)
  have ia2 : Rz 20 a2 := ha2.mono (by decide)
  have ib2 : Rz 20 b2 := hb2.mono (by decide)
  have ic : Rz 20 c := hc.mono (by decide)
  have id : Rz 20 d := hd.mono (by decide)
  have ie : Rz 20 e := he.mono (by decide)
  have u1 : Rz 7 (a1 - d) := (ha1.sub hd).mono (by decide)
  have u2 : Rz 7 (a2 - e) := (ha2.sub he).mono (by decide)
  have m1 : Rz 20 (a1 + f) := (ha1.add hf).mono (by decide)
  have m2 : Rz 20 (a2 + g) := (ha2.add hg).mono (by decide)
  have m3 : Rz 20 (d + f) := (hd.add hf).mono (by decide)
  have m4 : Rz 20 (e + g) := (he.add hg).mono (by decide)
  have hC : Rz 50 c := hc.mono (by decide)
  have z0 : Rz 3 (0 : Rat) := Rz.zero (by decide)
  have cA := vPt_c v1
  have sA : Rz 50 (sqA (a1 - d) (a2 - e) b1 b2 c) := (((u1.mul u1).add (u2.mul u2)).add (((hb1.mul hb1).add (hb2.mul hb2)).mul hc)).mono (by decide)
  have sB : Rz 50 (sqB (a1 - d) (a2 - e) b1 b2) := (((u1.mul hb1).add (u2.mul hb2)).add ((u1.mul hb1).add (u2.mul hb2))).mono (by decide)
  have sC : Rz 50 (zc (sqB (a1 - d) (a2 - e) b1 b2) c) := Rz.zc hC (by decide)
  have tA : Rz 300 (sqA (a1 - d) (a2 - e) b1 b2 c) := sA.mono (by decide)
  have tB : Rz 300 (sqB (a1 - d) (a2 - e) b1 b2) := sB.mono (by decide)
  have tC : Rz 300 (zc (sqB (a1 - d) (a2 - e) b1 b2) c) := sC.mono (by decide)
  refine Ok.of (by kernel_rfl) Tryz.func5 rfl rfl ?_
  rw [show Tryz.f5.ntmps = 71 from rfl, show Tryz.f5.results.toList = [.tmp 6] from rfl]
  refine dw_seq ?_
  -- region 0
  refine dw_region (by kernel_rfl) ?_
  refine dl_new (sem_box_a rfl rfl) rfl ?_
  refine dl_new (sem_box_a rfl rfl) rfl ?_
  refine dl_new (sem_box_a rfl rfl) rfl ?_
  refine dl_r (sem_assign rfl rfl) ?_
  refine dl_end ?_
  refine dw_seq ?_
  refine dw_seq ?_
  -- region 1
  refine dw_region (by kernel_rfl) ?_
  refine dl_r (sem_call rfl rfl (awake_ok) rfl) ?_
  refine dl_r (sem_not rfl rfl) ?_
  refine dl_r (sem_move rfl rfl) ?_
  refine dl_r (sem_load (us := (cR a1 ++ cR b1 ++ cR a2 ++ cR b2 ++ cR c)) ty32 rfl rfl rfl rfl rfl) ?_
  refine dl_r (sem_slit_D (n := 1) (us := (cR a1 ++ cR b1 ++ cR a2 ++ cR b2 ++ cR c)) el82 rfl rfl rfl (by decide) (by decide) rfl) ?_
  refine dl_r (sem_call rfl rfl (sm1_true (by assumption) (by assumption) (by assumption) (by assumption) (by assumption) v1) rfl) ?_
  refine dl_r (sem_not rfl rfl) ?_
  refine dl_r (sem_pick rfl rfl rfl rfl) ?_
  refine dl_r (sem_move rfl rfl) ?_
  refine dl_r (sem_load (us := (cR d ++ cR e)) ty42 rfl rfl rfl rfl rfl) ?_
  refine dl_r (sem_call rfl rfl (lwSmallVec_R (by assumption) (by assumption)) rfl) ?_
  refine dl_r (sem_not rfl rfl) ?_
  refine dl_r (sem_pick rfl rfl rfl rfl) ?_
  refine dl_r (sem_move rfl rfl) ?_
  refine dl_r (sem_load (us := (cR f ++ cR g)) ty42 rfl rfl rfl rfl rfl) ?_
  refine dl_r (sem_call rfl rfl (lwSmallVec_R (by assumption) (by assumption)) rfl) ?_
  refine dl_r (sem_not rfl rfl) ?_
  refine dl_r (sem_pick rfl rfl rfl rfl) ?_
  refine dl_end ?_
  refine dw_false rfl ?_
  refine dw_skip ?_
  refine dw_seq ?_
  -- region 3
  refine dw_region (by kernel_rfl) ?_
  refine dl_r (sem_load (us := (cR a1 ++ cR b1 ++ cR a2 ++ cR b2 ++ cR c)) ty32 rfl rfl rfl rfl rfl) ?_
  refine dl_r (sem_load (us := (cR d ++ cR e)) ty42 rfl rfl rfl rfl rfl) ?_
  refine dl_r (sem_call rfl rfl (rcast3 (ptSquare_ok (by assumption) (by assumption) (by assumption) (by assumption) (by assumption) (by assumption) (by assumption)) rfl rfl rfl) rfl) ?_
  refine dl_new (sem_alloc zc28 rfl) rfl ?_
  refine dl_st (sem_store_a ty28 rfl rfl rfl rfl rfl rfl) ?_
  refine dl_end ?_
  refine dw_seq ?_
  -- region 4
  refine dw_region (by kernel_rfl) ?_
  refine dl_r (sem_load (us := (cR (sqA (a1 - d) (a2 - e) b1 b2 c) ++ cR (sqB (a1 - d) (a2 - e) b1 b2) ++ cR (zc (sqB (a1 - d) (a2 - e) b1 b2) c))) ty28 rfl rfl rfl rfl rfl) ?_
  refine dl_r (sem_call rfl rfl (rcasti (rrSign_ok (by assumption) (by assumption) (by assumption)) ((sq_sign v1).trans hn)) rfl) ?_
  refine dl_r (sem_assign rfl rfl) ?_
  refine dl_end ?_
  refine dw_seq ?_
  refine dw_seq ?_
  -- region 5
  refine dw_draw 19 [] follows_mixed (by kernel_rfl) rfl rfl ?_
  refine dq_r (sem_load (us := (cR (sqA (a1 - d) (a2 - e) b1 b2 c) ++ cR (sqB (a1 - d) (a2 - e) b1 b2) ++ cR (zc (sqB (a1 - d) (a2 - e) b1 b2) c))) ty28 rfl rfl rfl rfl rfl) ?_
  refine dq_r (sem_load (us := (cR a1 ++ cR b1 ++ cR a2 ++ cR b2 ++ cR c)) ty32 rfl rfl rfl rfl rfl) ?_
  refine dq_r (sem_load (us := (cR d ++ cR e)) ty42 rfl rfl rfl rfl rfl) ?_
  refine dq_r (sem_call rfl rfl (rpSquare_ok (by assumption) (by assumption) (by assumption) (by assumption) (by assumption) v1 hd he) rfl) ?_
  refine dq_r (sem_call rfl rfl (rcastb (rrSame_ok (by assumption) (by assumption) (by assumption) (by assumption) (by assumption) (by assumption)) (rsame_refl _ _ _)) rfl) ?_
  refine dq_r (sem_not rfl rfl) ?_
  refine dq_r (sem_move rfl rfl) ?_
  refine dq_r (sem_move rfl rfl) ?_
  refine dq_r (sem_cmp rfl rfl rfl rfl) ?_
  refine dq_r (sem_pick rfl rfl rfl rfl) ?_
  refine dq_r (sem_move rfl rfl) ?_
  refine dq_r (sem_move rfl rfl) ?_
  refine dq_r (sem_cmp rfl rfl rfl rfl) ?_
  refine dq_r (sem_load (us := (cR a1 ++ cR b1 ++ cR a2 ++ cR b2 ++ cR c)) ty32 rfl rfl rfl rfl rfl) ?_
  refine dq_r (sem_load (us := (cR d ++ cR e)) ty42 rfl rfl rfl rfl rfl) ?_
  refine dq_r (sem_call rfl rfl (rpAt_ok) rfl) ?_
  refine dq_r (sem_call rfl rfl (rcastb (rpEqual_ok (by assumption) (by assumption) (by assumption) (by assumption) (by assumption) (by assumption) (by assumption) (by assumption) (by assumption) (by assumption)) ((sq_eq0 cA).trans (by (rw [hn]; try rfl)))) rfl) ?_
  refine dq_r (sem_bneq rfl rfl ty_bool rfl) ?_
  refine dq_r (sem_pick rfl rfl rfl rfl) ?_
  refine dq_end ?_
  refine dl_start0 ?_
  refine dl_end ?_
  refine dw_false rfl ?_
  refine dw_skip ?_
  refine dw_seq ?_
  -- region 7
  refine dw_draw 12 [] follows_mixed (by kernel_rfl) rfl rfl ?_
  refine dq_r (sem_field fd42_0 rfl rfl) ?_
  refine dq_r (sem_load (us := cR d) ty26 rfl rfl rfl rfl rfl) ?_
  refine dq_r (sem_field fd42_0 rfl rfl) ?_
  refine dq_r (sem_load (us := cR f) ty26 rfl rfl rfl rfl rfl) ?_
  refine dq_r (sem_call rfl rfl (sAdd_ok (by first | assumption | exact Rz.mono hd (by decide)) (by first | assumption | exact Rz.mono hf (by decide))) rfl) ?_
  refine dq_r (sem_field fd42_1 rfl rfl) ?_
  refine dq_r (sem_load (us := cR e) ty26 rfl rfl rfl rfl rfl) ?_
  refine dq_r (sem_field fd42_1 rfl rfl) ?_
  refine dq_r (sem_load (us := cR g) ty26 rfl rfl rfl rfl rfl) ?_
  refine dq_r (sem_call rfl rfl (sAdd_ok (by first | assumption | exact Rz.mono he (by decide)) (by first | assumption | exact Rz.mono hg (by decide))) rfl) ?_
  refine dq_r (sem_build (us := (cR (d + f) ++ cR (e + g))) fs42 zc42 rfl rfl rfl) ?_
  refine dq_new (sem_alloc zc42 rfl) rfl ?_
  refine dq_end ?_
  refine dl_start1 ?_
  refine dl_st (sem_store_a ty42 rfl rfl rfl rfl rfl rfl) ?_
  refine dl_end ?_
  refine dw_seq ?_
  -- region 8
  refine dw_draw 8 [] follows_mixed (by kernel_rfl) rfl rfl ?_
  refine dq_r (sem_load (us := (cR a1 ++ cR b1 ++ cR a2 ++ cR b2 ++ cR c)) ty32 rfl rfl rfl rfl rfl) ?_
  refine dq_r (sem_load (us := (cR f ++ cR g)) ty42 rfl rfl rfl rfl rfl) ?_
  refine dq_r (sem_call rfl rfl (rpTranslate_ok (by assumption) (by assumption) (by assumption) (by assumption)) rfl) ?_
  refine dq_r (sem_load (us := (cR (d + f) ++ cR (e + g))) ty42 rfl rfl rfl rfl rfl) ?_
  refine dq_r (sem_call rfl rfl (rcast3 (ptSquare_ok (by assumption) (by assumption) (by assumption) (by assumption) (by assumption) (by assumption) (by assumption)) (mvA _ _ _ _ _ _ _ _ _) (mvB _ _ _ _ _ _ _ _) (by rw [mvB])) rfl) ?_
  refine dq_r (sem_load (us := (cR (sqA (a1 - d) (a2 - e) b1 b2 c) ++ cR (sqB (a1 - d) (a2 - e) b1 b2) ++ cR (zc (sqB (a1 - d) (a2 - e) b1 b2) c))) ty28 rfl rfl rfl rfl rfl) ?_
  refine dq_r (sem_call rfl rfl (rcastb (rrSame_ok (by assumption) (by assumption) (by assumption) (by assumption) (by assumption) (by assumption)) (rsame_refl _ _ _)) rfl) ?_
  refine dq_r (sem_assign rfl rfl) ?_
  refine dq_end ?_
  refine dl_start0 ?_
  refine dl_end ?_
  refine dw_ret ?_
  -- path 
  exact ⟨.inr rfl, (resL_tmp rfl resL_nil)⟩
end Go.Proofs.YthpalcfhhicmgaaGreat
/- PointSquare: for every input the law returns true, and each argument reads behind the call as it read before. No condition. -/
namespace Go.Proofs.YthpalcfhhicmgaaGreat
open Go.ChangeShapes Go.WideShapes Go.ChangeAt Go.RowKit
theorem law_square {x1 x2 x3 x4 x5 v w u t : RN} (w1 : x1.Wf) (w2 : x2.Wf) (w3 : x3.Wf) (w4 : x4.Wf) (w5 : x5.Wf) (wv : v.Wf) (ww : w.Wf) (wu : u.Wf) (wt : t.Wf) :
    Ok Tryz.prog 5 [.a (cN x1 ++ cN x2 ++ cN x3 ++ cN x4 ++ cN x5), .a (cN v ++ cN w), .a (cN u ++ cN t)] [.c (.b true)] := by
  cases h : (x1.s 3 && (x2.s 3 && (x3.s 3 && (x4.s 3 && x5.s 3)))) with
  | false => exact lwSq_A w1 w2 w3 w4 w5 h
  | true =>
    obtain ⟨a1, b1, a2, b2, c, g1, g2, g3, g4, g5, e⟩ := p3_of w1 w2 w3 w4 w5 h
    rw [e]
    cases v1 : vPt b1 b2 c with
    | false => exact lwSq_B g1 g2 g3 g4 g5 v1
    | true =>
      cases h' : (v.s 3 && w.s 3) with
      | false => exact lwSq_C g1 g2 g3 g4 g5 v1 wv ww h'
      | true =>
        obtain ⟨d, e', k1, k2, e2⟩ := v3_of wv ww h'
        rw [e2]
        cases h2 : (u.s 3 && t.s 3) with
        | false => exact lwSq_D g1 g2 g3 g4 g5 v1 k1 k2 wu wt h2
        | true =>
          obtain ⟨f, g, l1, l2, e3⟩ := v3_of wu wt h2
          rw [e3]
          have hs := (sgR_sqs (vco (a1 - d) b1 c) (vco (a2 - e') b2 c)).1
          rcases sgR_cases (vco (a1 - d) b1 c * vco (a1 - d) b1 c + vco (a2 - e') b2 c * vco (a2 - e') b2 c) with hn | hn | hn
          · exact lwSq_P g1 g2 g3 g4 g5 v1 k1 k2 l1 l2 hn
          · exact lwSq_Z g1 g2 g3 g4 g5 v1 k1 k2 l1 l2 hn
          · rw [hn] at hs; exact absurd hs (by decide)
set_option maxRecDepth 100000 in
theorem square_lifted (os : Os) (started : os.Started) (H : Type) (enc : TypeId × Value → H) :
    ReturnsInHanded {} Tryz.checked os 5 .any (Rows.pointSquareSpec.pre6 enc Tryz.prog Tryz.f5 Rows.pointSquareRow.domain false) (Rows.pointSquareSpec.post enc Tryz.prog Tryz.f5 false true false false) := by
  refine returnsInHanded_of_change (C := Tryz.checked) own started (by kernel_rfl) Tryz.func5
    (ChangeSpec.witness6 (enc := enc) (C := Tryz.checked) false ⟨#[], #[.agg (Array.replicate 10 #[Value.bool false, .slice none 0 0]).flatten, .agg (Array.replicate 4 #[Value.bool false, .slice none 0 0]).flatten, .agg (Array.replicate 4 #[Value.bool false, .slice none 0 0]).flatten], []⟩ 8 (by kernel_rfl) (by kernel_rfl) (by kernel_rfl) (by kernel_rfl)) ?_
  intro W base args ds gs before hval0 hW hcnd _
  have hval : ∀ (j : Nat) t v, Tryz.f5.params[j]? = some t → args[j]? = some v → Value.okWide Tryz.prog W .any base t v := hval0
  have hW' := hW
  obtain ⟨p, q, hA0, hV, rfl, hfz, hnd⟩ := hW
  have hA : DataW.TrodAll enc Tryz.prog W 0 (fun _ => true) true Tryz.f5.params.toList args.toList ds p := hA0
  rw [Tryz.params5] at hA hval
  obtain ⟨v0, vs0, d0, ds0, p0, q0, hargs, rfl, rfl, h0, r0⟩ := trodAll_cons hA
  obtain ⟨v1, vs1, d1, ds1, p1, q1, rfl, rfl, rfl, h1, r1⟩ := trodAll_cons r0
  obtain ⟨v2, vs2, d2, ds2, p2, q2, rfl, rfl, rfl, h2, r2⟩ := trodAll_cons r1
  obtain ⟨rfl, rfl, rfl⟩ := trodAll_nil r2
  obtain rfl : args = #[v0, v1, v2] := by cases args; simp_all
  obtain ⟨rfl, rfl⟩ := trodVars_none hV
  obtain ⟨a0, rfl, _⟩ := okWide_struct Tryz.underlying32 (hval 0 32 v0 rfl rfl)
  have k0 := h0
  have lt0 : ∀ x ∈ p0, x.block < W.heap.size := by obtain ⟨m, hm⟩ := k0; exact DataW.trod_lt m _ _ _ hm
  obtain ⟨a1, rfl, _⟩ := okWide_struct Tryz.underlying42 (hval 1 42 v1 rfl rfl)
  have k1 := h1
  have lt1 : ∀ x ∈ p1, x.block < W.heap.size := by obtain ⟨m, hm⟩ := k1; exact DataW.trod_lt m _ _ _ hm
  obtain ⟨a2, rfl, _⟩ := okWide_struct Tryz.underlying42 (hval 2 42 v2 rfl rfl)
  have k2 := h2
  have lt2 : ∀ x ∈ p2, x.block < W.heap.size := by obtain ⟨m, hm⟩ := k2; exact DataW.trod_lt m _ _ _ hm
  obtain ⟨e00, e01, e02, e03, e04, w00, w01, w02, w03, w04, hr0⟩ := point_of (show DataW.trod enc Tryz.prog W 0 _ _ h0.choose 32 a0.toList = some _ from h0.choose_spec)
  obtain ⟨e10, e11, w10, w11, hr1⟩ := vec_of (show DataW.trod enc Tryz.prog W 0 _ _ h1.choose 42 a1.toList = some _ from h1.choose_spec)
  obtain ⟨e20, e21, w20, w21, hr2⟩ := vec_of (show DataW.trod enc Tryz.prog W 0 _ _ h2.choose 42 a2.toList = some _ from h2.choose_spec)
  clear hA0 hval0
  refine (law_of (law_square w00 w01 w02 w03 w04 w10 w11 w20 w21) (RdL.cons ⟨a0, rfl, hr0⟩ (RdL.cons ⟨a1, rfl, hr1⟩ (RdL.cons ⟨a2, rfl, hr2⟩ RdL.nil)))).mono fun e W' ⟨he, bel⟩ => ?_
  subst he
  exact ⟨_, rfl, _, _, _, [], _, [], hW', trodAll_mk1 (shut_bool Tryz.underlying4 _), (trodAll_cons_mk (Below.trod laidOut (by kernel_rfl) (of_decide_eq_true (by kernel_rfl)) k0 bel lt0) (trodAll_cons_mk (Below.trod laidOut (by kernel_rfl) (of_decide_eq_true (by kernel_rfl)) k1 bel lt1) (trodAll_cons_mk (Below.trod laidOut (by kernel_rfl) (of_decide_eq_true (by kernel_rfl)) k2 bel lt2) trodAll_mk0))), rfl, bel.frame _, fun h => by cases h⟩
theorem square_proved : Rows.PointSquareSaid :=
  OpenClaim.holds_of_wide 5 Tryz.f5 rfl rfl rfl rfl rfl rfl rfl ⟨rfl, rfl, rfl, rfl, rfl⟩ rfl rfl rfl rfl rfl (by kernel_rfl) Tryz.func5 (by kernel_rfl)
    (of_decide_eq_true (by kernel_rfl)) (by unfold Func.isWrapper; first | (rw [if_pos (by decide +kernel)]; kernel_rfl) | (rw [if_neg (by decide +kernel)]; exact ⟨rfl, rfl⟩))
    (fun os started H enc _ => square_lifted os started H enc)
end Go.Proofs.YthpalcfhhicmgaaGreat
/- Plain: an array's elements; places and their points; the order of points is transitive. -/
namespace Go.Proofs.YthpalcfhhicmgaaGreat
open Go Go.RowKit
/-- an array's elements -/
def arB (P : Program) (U : TypeId) : Option (Nat × Nat) :=
  match P.underlying U with
  | some (.array n e) => (P.info? e).map fun i => (n, i.size)
  | _ => none
theorem sem_index_a {P : Program} {ops : Array Oper} {T : TF} {B : BF} {dst : Option Nat} {x i : Operand} {U : TypeId} {ty : TypeId} {pos : String} {af : Array Edge} {g : Option (Nat × Bool)} {n m k off : Nat} {kd : IntKind} {j : Int}
    (hU : arB P U = some (n, m)) (hx : opd T x = some (.p k off)) (hi : opd T i = some (.v (.c (.i kd j)))) (hj : 0 ≤ j ∧ j < n) (hg : gd ops ⟨dst, .indexAddr U x i, ty, pos, af, g⟩ T = some true) :
    Sem P ops ⟨dst, .indexAddr U x i, ty, pos, af, g⟩ T B (.r (.p k (off + j.toNat * m))) :=
  sem_pure hg (fun l e => opd_ptr (ops := ops) (o := ⟨dst, .indexAddr U x i, ty, pos, af, g⟩) (by simp [Op.operands]) hx e) (fun V β a w hs => by
    have h1 : a.eval x = .pointer (some ⟨β k, off, none⟩) := opd_reads hs (x := x) (by simp [Op.operands]) hx
    have h2 := RdC.int_eq (opd_reads hs (x := i) (by simp [Op.operands]) hi)
    unfold arB at hU
    split at hU
    case h_2 => cases hU
    rename_i n' el hul
    cases hinf : P.info? el with
    | none => rw [hinf] at hU; cases hU
    | some inf =>
      rw [hinf] at hU
      simp at hU
      obtain ⟨rfl, rfl⟩ := hU
      have hso : ∀ w, (sizeOf el).run P w = .ok inf.size w := fun w => by unfold sizeOf typeInfo; simp [program, Sem.run, hinf]
      refine ⟨.pointer (some ⟨β k, off + j.toNat * inf.size, none⟩), ?_, rfl⟩
      simp [execOp, Instr.indexAt, h1, h2, asIntOf, run_underlying hul, Instr.sureAddr, hj.1, hj.2, hso, addr_add])
theorem rt_int {C : Int} (_h0 : 0 ≤ C) (_hs : sqR (C : Rat) = true) : rt (C : Rat) = Rat.divInt (isqI C) 1 := by
  unfold rt
  rw [Rat.num_intCast, Rat.den_intCast]
  rw [show isqI ((1 : Nat) : Int) = 1 from isqI_unique (by decide) (by decide) (by decide) (by decide)]
theorem isq_small {C : Int} (h0 : 0 ≤ C) (h1 : C ≤ 65535) : 0 ≤ isqI C ∧ isqI C ≤ 255 := by
  have a := isqI_nonneg C
  have b := isqI_le h0
  refine ⟨a, ?_⟩
  apply Classical.byContradiction
  intro hn
  have : 256 * 256 ≤ isqI C * isqI C := Int.mul_le_mul (by omega) (by omega) (by decide) a
  omega
theorem sq_frac {A B n r : Int} (_hn : 0 < n) : Rat.divInt A n + Rat.divInt B n * Rat.divInt r 1 = Rat.divInt (A + B * r) n := by
  rw [Rat.divInt_mul_divInt, Int.mul_one, Rat.divInt_eq_div, Rat.divInt_eq_div, Rat.divInt_eq_div, Rat.intCast_add]
  grind
/-- transitivity -/
theorem cmpPt_trans {a1 b1 a2 b2 c p1 q1 p2 q2 r x1 y1 x2 y2 z : Rat} (hc : 0 ≤ c) (hr : 0 ≤ r) (hz : 0 ≤ z) (h1 : cmpPt a1 b1 a2 b2 c p1 q1 p2 q2 r ≤ 0) (h2 : cmpPt p1 q1 p2 q2 r x1 y1 x2 y2 z ≤ 0) :
    cmpPt a1 b1 a2 b2 c x1 y1 x2 y2 z ≤ 0 ∧ (cmpPt a1 b1 a2 b2 c p1 q1 p2 q2 r < 0 ∨ cmpPt p1 q1 p2 q2 r x1 y1 x2 y2 z < 0 → cmpPt a1 b1 a2 b2 c x1 y1 x2 y2 z < 0) := by
  unfold cmpPt at *
  rw [cmpC_v hc hr, cmpC_v hc hr] at *
  rw [cmpC_v hr hz, cmpC_v hr hz] at *
  rw [cmpC_v hc hz, cmpC_v hc hz]
  generalize vco a1 b1 c = A at *
  generalize vco a2 b2 c = A' at *
  generalize vco p1 q1 r = B at *
  generalize vco p2 q2 r = B' at *
  generalize vco x1 y1 z = C at *
  generalize vco x2 y2 z = C' at *
  have key : ∀ X Y Z : Re, sgR (X - Y) ≤ 0 → sgR (Y - Z) ≤ 0 → sgR (X - Z) ≤ 0 ∧ (sgR (X - Y) < 0 ∨ sgR (Y - Z) < 0 → sgR (X - Z) < 0) := by
    intro X Y Z g1 g2
    have e : sgR (Z - X) = sgR ((Y - X) + (Z - Y)) := congrArg sgR (Re.ext fun k => by simp only [re_sub, re_add]; grind)
    have s1 := sgR_sw Y X
    have s2 := sgR_sw Z Y
    have s3 := sgR_sw Z X
    have n1 := sgR_nn (x := Y - X) (y := Z - Y) (by omega) (by omega)
    refine ⟨by omega, ?_⟩
    rintro (h | h)
    · have := sgR_pn (x := Y - X) (y := Z - Y) (by omega) (by omega)
      omega
    · have h4 := sgR_pn (x := Z - Y) (y := Y - X) (by omega) (by omega)
      rw [re_addc (Z - Y) (Y - X)] at h4
      omega
  have k1 := key A B C
  have k2 := key A' B' C'
  have i1 : ∀ (x y z : Int), x = 0 → (if x ≠ 0 then y else z) = z := fun x y z h => if_neg (by omega)
  have i2 : ∀ (x y z : Int), x ≠ 0 → (if x ≠ 0 then y else z) = y := fun x y z h => if_pos h
  by_cases e1 : sgR (A - B) = 0
  · rw [i1 _ _ _ e1] at h1 ⊢
    by_cases e2 : sgR (B - C) = 0
    · rw [i1 _ _ _ e2] at h2 ⊢
      have k3 := key C B A
      have s1 := sgR_sw B A
      have s2 := sgR_sw C B
      have s3 := sgR_sw C A
      have e3 : sgR (A - C) = 0 := by
        have := (k1 (by omega) (by omega)).1
        have := (k3 (by omega) (by omega)).1
        omega
      rw [i1 _ _ _ e3]
      exact k2 h1 h2
    · rw [i2 _ _ _ e2] at h2 ⊢
      have := (k1 (by omega) h2).2 (.inr (by omega))
      rw [i2 (sgR (A - C)) _ _ (by omega)]
      exact ⟨by omega, fun _ => this⟩
  · rw [i2 _ _ _ e1] at h1 ⊢
    have hB : sgR (B - C) ≤ 0 := by
      by_cases e2 : sgR (B - C) = 0
      · omega
      · rw [i2 _ _ _ e2] at h2; exact h2
    have := (k1 h1 hB).2 (.inl (by omega))
    rw [i2 (sgR (A - C)) _ _ (by omega)]
    exact ⟨by omega, fun _ => this⟩
/-- moved by a vector -/
theorem cmpPt_move {a1 b1 a2 b2 c p1 q1 p2 q2 r v w : Rat} (hc : 0 ≤ c) (hr : 0 ≤ r) : cmpPt (a1 + v) b1 (a2 + w) b2 c (p1 + v) q1 (p2 + w) q2 r = cmpPt a1 b1 a2 b2 c p1 q1 p2 q2 r := by
  have e : ∀ a p v : Rat, ∀ b q : Rat, vco (a + v) b c - vco (p + v) q r = vco a b c - vco p q r := by
    intro a p v b q
    rw [vco_eq, vco_eq, vco_eq, vco_eq]
    exact Re.ext fun k => by simp only [re_sub, re_add, re_mul, re_of]; grind
  unfold cmpPt
  rw [cmpC_v hc hr, cmpC_v hc hr, cmpC_v hc hr, cmpC_v hc hr, e, e]
theorem sub_mv (a p v : Rat) : a + v - (p + v) = a - p := by grind
end Go.Proofs.YthpalcfhhicmgaaGreat
