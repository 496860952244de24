/- Plain: the square of a distance: its parts, its sign, when it is nothing. -/
import Derived.Test.YthhhlpdbainlaaaGreatTaM
namespace Go.Proofs.YthhhlpdbainlaaaGreat
open Go Go.RowKit
theorem sqI_sq (n : Int) : sqI (n * n) = true := by
  have h : isqI (n * n) = (n.natAbs : Int) := by
    have e : (n.natAbs : Int) * (n.natAbs : Int) = n * n := by
      rw [← Int.natCast_mul, Int.natAbs_mul_self]
    refine isqI_unique ?_ (by omega) (by omega) ?_
    · rw [← e]; exact Int.mul_nonneg (by omega) (by omega)
    · have : ((n.natAbs : Int) + 1) * ((n.natAbs : Int) + 1) = (n.natAbs : Int) * (n.natAbs : Int) + 2 * (n.natAbs : Int) + 1 := by grind
      omega
  unfold sqI
  rw [h, ← Int.natCast_mul, Int.natAbs_mul_self]
  simp
theorem sqR_sq (x : Rat) : sqR (x * x) = true := by
  have e : x * x = Rat.divInt (x.num * x.num) ((x.den : Int) * (x.den : Int)) := by
    conv => lhs; rw [← Rat.num_divInt_den x]
    exact Rat.divInt_mul_divInt _ _
  have hd := den_pos x
  have hg : Int.gcd (x.num * x.num) ((x.den : Int) * (x.den : Int)) = 1 := by
    have hr : Nat.Coprime x.num.natAbs x.den := x.reduced
    show Nat.gcd (x.num * x.num).natAbs ((x.den : Int) * (x.den : Int)).natAbs = 1
    rw [Int.natAbs_mul, Int.natAbs_mul, Int.natAbs_natCast]
    exact (hr.mul_left hr).mul_right (hr.mul_left hr)
  have hv : vQ (x.num * x.num) ((x.den : Int) * (x.den : Int)) = true := by
    unfold vQ
    rw [hg, decide_eq_true (Int.mul_pos hd hd)]; rfl
  obtain ⟨h1, h2⟩ := vQ_parts hv
  rw [← e] at h1 h2
  unfold sqR
  rw [h1, h2, sqI_sq, sqI_sq]; rfl
section
variable {P : Program} {f : FuncId} {ds rs : List D0} {x y z x' y' z' : Rat}
end
def flI (a b c : Rat) : Int := isqI ((a.den : Int) * (a.den : Int) * ((b * b * c).num * ((b * b * c).den : Int)))
def flN (a b c : Rat) (r : Int) : Int := (a.num * ((b * b * c).den : Int) + r).fdiv ((a.den : Int) * ((b * b * c).den : Int))
def flR (a b c : Rat) : Int := if b = 0 then a.num.fdiv (a.den : Int) else if b < 0 then flN a b c (-(flI a b c + 1)) else flN a b c (flI a b c)
section
variable {a b c : Rat}
theorem flR_0 (h : b = 0) : flR a b c = a.num.fdiv (a.den : Int) := by unfold flR; rw [if_pos h]
theorem flR_n (h : b ≠ 0) (h2 : b < 0) : flR a b c = flN a b c (-(flI a b c + 1)) := by unfold flR; rw [if_neg h, if_pos h2]
theorem flR_p (h : b ≠ 0) (h2 : ¬ b < 0) : flR a b c = flN a b c (flI a b c) := by unfold flR; rw [if_neg h, if_neg h2]
theorem fd_le {Z D : Int} (hD : 0 < D) : Z.fdiv D * D ≤ Z ∧ Z + 1 ≤ (Z.fdiv D + 1) * D := by
  rw [Int.fdiv_eq_ediv_of_nonneg _ (by omega), Int.add_mul, Int.mul_comm (Z / D) D]
  have h1 := Int.mul_ediv_add_emod Z D
  have h2 := Int.emod_nonneg Z (show D ≠ 0 by omega)
  have h3 := Int.emod_lt_of_pos Z hD
  omega
theorem leR_scale {x y : Re} {d : Rat} (hd : 0 < d) (h : leR (Re.of d * x) (Re.of d * y)) : leR x y := by
  unfold leR at *
  have e : sgR (Re.of d * y - Re.of d * x) = sgR (Re.of d * (y - x)) := congrArg sgR (Re.ext fun k => by simp only [re_sub, re_mul, re_of]; grind)
  have hp : sgR (Re.of d) = 1 := by rw [sgR_of]; unfold cmpR; rw [if_neg (by grind), if_pos hd]
  rw [e, sgR_mul, hp, Int.one_mul] at h
  exact h
theorem leR_cast {m n : Int} (h : m ≤ n) : leR (Re.of (m : Rat)) (Re.of (n : Rat)) := of_le (Rat.intCast_le_intCast.2 h)
theorem fl_root (hc : 0 ≤ c) : leR (Re.of ((flI a b c : Int) : Rat)) (Re.of (((a.den : Int) * ((b * b * c).den : Int) : Int) : Rat) * (Re.of (if b < 0 then -b else b) * Re.rt c)) ∧
    leR (Re.of (((a.den : Int) * ((b * b * c).den : Int) : Int) : Rat) * (Re.of (if b < 0 then -b else b) * Re.rt c)) (Re.of (((flI a b c + 1 : Int)) : Rat)) := by
  have hbc : 0 ≤ b * b * c := by
    have : 0 ≤ b * b := by
      by_cases h : 0 ≤ b
      · exact Rat.mul_nonneg h h
      · have := Rat.mul_nonneg (show 0 ≤ -b by grind) (show 0 ≤ -b by grind); grind
    exact Rat.mul_nonneg this hc
  have hin : 0 ≤ (a.den : Int) * (a.den : Int) * ((b * b * c).num * ((b * b * c).den : Int)) :=
    Int.mul_nonneg (Int.mul_nonneg (by omega) (by omega)) (Int.mul_nonneg (Rat.num_nonneg.2 hbc) (by omega))
  have h1 := isqI_le hin
  have h2 := isqI_lt hin
  have h0 := isqI_nonneg ((a.den : Int) * (a.den : Int) * ((b * b * c).num * ((b * b * c).den : Int)))
  have hn := r_num (b * b * c)
  have dn := den_pos a
  have dq := den_pos (b * b * c)
  generalize hN : (a.den : Int) * (a.den : Int) * ((b * b * c).num * ((b * b * c).den : Int)) = N at *
  have eI : flI a b c = isqI N := by unfold flI; rw [hN]
  rw [eI]
  generalize hb' : (if b < 0 then -b else b) = b'
  have hb2 : b' * b' = b * b ∧ 0 ≤ b' := by subst hb'; split <;> (constructor <;> grind)
  generalize hD : (a.den : Int) * ((b * b * c).den : Int) = D
  have hD0 : 0 < D := by subst hD; exact Int.mul_pos dn dq
  have eN : ((N : Int) : Rat) = ((D : Int) : Rat) * ((D : Int) : Rat) * (b * b * c) := by
    subst hN hD
    simp only [Rat.intCast_mul] at *
    grind
  have nnR : 0 ≤ sgR (Re.of ((D : Int) : Rat) * (Re.of b' * Re.rt c)) := by
    have p1 : sgR (Re.of ((D : Int) : Rat)) = 1 := by have := pos_cast hD0; have := sgR_cases (Re.of ((D : Int) : Rat)); omega
    have p2 : 0 ≤ sgR (Re.of b') := by rw [sgR_of]; exact cmpR_geI hb2.2
    have p3 := rt_nn c
    rw [sgR_mul, p1, Int.one_mul, sgR_mul]
    exact Int.mul_nonneg p2 p3
  have eS : ∀ q : Rat, sgR (Re.of ((D : Int) : Rat) * (Re.of b' * Re.rt c) * (Re.of ((D : Int) : Rat) * (Re.of b' * Re.rt c)) - Re.of q) = cmpR ((N : Int) : Rat) q := by
    intro q
    rw [← cmpR_sub, ← sgR_of]
    refine sgR_same ?_
    have e : Re.of ((D : Int) : Rat) * (Re.of b' * Re.rt c) * (Re.of ((D : Int) : Rat) * (Re.of b' * Re.rt c)) - Re.of q - Re.of (((N : Int) : Rat) - q) = Re.of (((D : Int) : Rat) * ((D : Int) : Rat) * (b' * b')) * (Re.rt c * Re.rt c - Re.of c) := Re.ext fun k => by
      rw [eN]
      simp only [re_sub, re_mul, re_of]; grind
    rw [e, sgR_mul, rt_sq hc, Int.mul_zero]
  refine ⟨?_, ?_⟩
  · refine sq_le_re (nn_cast h0) nnR ?_
    rw [of_mul, eS, ← Rat.intCast_mul]
    exact cmpR_geI (Rat.intCast_le_intCast.2 h1)
  · refine sq_le_re nnR (nn_cast (by omega)) ?_
    have h3 : 0 ≤ -sgR (Re.of ((D : Int) : Rat) * (Re.of b' * Re.rt c) * (Re.of ((D : Int) : Rat) * (Re.of b' * Re.rt c)) - Re.of (((isqI N + 1 : Int) : Rat) * ((isqI N + 1 : Int) : Rat))) := by
      rw [eS, ← Rat.intCast_mul]
      have := cmpR_leI (x := ((N : Int) : Rat)) (y := (((isqI N + 1) * (isqI N + 1) : Int) : Rat)) (Rat.intCast_le_intCast.2 (by omega))
      omega
    rw [← sgR_neg] at h3
    refine nn_of (fun k => ?_) h3
    simp only [re_neg, re_sub, re_mul, re_of]; grind
theorem sub_nn {x y : Re} (h : leR x y) : 0 ≤ sgR (y - x) := h
theorem flR_in (hc : 0 ≤ c) : leR (Re.of ((flR a b c : Int) : Rat)) (Re.of a + Re.of b * Re.rt c) ∧ leR (Re.of a + Re.of b * Re.rt c) (Re.of (((flR a b c + 1 : Int)) : Rat)) := by
  by_cases hb : b = 0
  · subst hb
    have e : Re.of a + Re.of 0 * Re.rt c = Re.of a := Re.ext fun k => by simp only [re_add, re_mul, re_of]; grind
    rw [e, flR_0 rfl]
    have dn := den_pos a
    obtain ⟨h1, h2⟩ := fd_le (Z := a.num) dn
    have hn := r_num a
    have hp : (0 : Rat) < ((a.den : Int) : Rat) := Rat.intCast_pos.2 dn
    refine ⟨of_le (q_cancel hp ?_), of_le (q_cancel hp ?_)⟩
    · rw [hn, ← Rat.intCast_mul]; exact Rat.intCast_le_intCast.2 h1
    · rw [hn, ← Rat.intCast_mul]; exact Rat.intCast_le_intCast.2 (by omega)
  · obtain ⟨r1, r2⟩ := fl_root (a := a) (b := b) hc
    have dn := den_pos a
    have dq := den_pos (b * b * c)
    have hD0 : 0 < (a.den : Int) * ((b * b * c).den : Int) := Int.mul_pos dn dq
    have hDr : (0 : Rat) < (((a.den : Int) * ((b * b * c).den : Int) : Int) : Rat) := Rat.intCast_pos.2 hD0
    have eX : (((a.den : Int) * ((b * b * c).den : Int) : Int) : Rat) * a = ((a.num * ((b * b * c).den : Int) : Int) : Rat) := by
      have := r_num a
      simp only [Rat.intCast_mul]; grind
    have en := fun h2 => flR_n (a := a) (c := c) hb h2
    have ep := fun h2 => flR_p (a := a) (c := c) hb h2
    generalize hD : (a.den : Int) * ((b * b * c).den : Int) = D at *
    generalize flI a b c = I at *
    have key : ∀ r : Int, ∀ Y : Re, flR a b c = flN a b c r → Re.of a + Re.of b * Re.rt c = Re.of a + Y → leR (Re.of ((r : Int) : Rat)) (Re.of ((D : Int) : Rat) * Y) → leR (Re.of ((D : Int) : Rat) * Y) (Re.of (((r + 1 : Int)) : Rat)) →
        leR (Re.of ((flR a b c : Int) : Rat)) (Re.of a + Re.of b * Re.rt c) ∧ leR (Re.of a + Re.of b * Re.rt c) (Re.of (((flR a b c + 1 : Int)) : Rat)) := by
      intro r Y e1 e2 g1 g2
      rw [e2, e1]
      have e3 : flN a b c r = (a.num * ((b * b * c).den : Int) + r).fdiv D := by unfold flN; rw [hD]
      rw [e3]
      obtain ⟨f1, f2⟩ := fd_le (Z := a.num * ((b * b * c).den : Int) + r) hD0
      generalize (a.num * ((b * b * c).den : Int) + r).fdiv D = n at *
      generalize a.num * ((b * b * c).den : Int) = X at *
      refine ⟨leR_scale hDr ?_, leR_scale hDr ?_⟩
      · have a1 := leR_cast f1
        have a2 := sgR_nn (sub_nn a1) (sub_nn g1)
        refine nn_of (fun k => ?_) a2
        simp only [re_sub, re_add, re_mul, re_of, Rat.intCast_mul, Rat.intCast_add] at *
        grind
      · have a1 := leR_cast f2
        have a2 := sgR_nn (sub_nn a1) (sub_nn g2)
        refine nn_of (fun k => ?_) a2
        simp only [re_sub, re_add, re_mul, re_of, Rat.intCast_mul, Rat.intCast_add, Rat.intCast_one] at *
        grind
    by_cases hn : b < 0
    · rw [if_pos hn] at r1 r2
      refine key (-(I + 1)) (Re.of b * Re.rt c) (en hn) rfl ?_ ?_
      · refine nn_of (fun k => ?_) r2
        simp only [re_sub, re_mul, re_of, Rat.intCast_neg, Rat.intCast_add, Rat.intCast_one]; grind
      · refine nn_of (fun k => ?_) r1
        simp only [re_sub, re_mul, re_of, Rat.intCast_neg, Rat.intCast_add, Rat.intCast_one]; grind
    · rw [if_neg hn] at r1 r2
      exact key I (Re.of b * Re.rt c) (ep hn) rfl r1 r2
theorem flI_sz {k l m : Nat} (ha : Rz k a) (hb : Rz l b) (hc : Rz m c) : Sz (k + (l + l + m)) (flI a b c) := by
  have hs : Sz (k + k + ((l + l + m) + (l + l + m))) ((a.den : Int) * (a.den : Int) * ((b * b * c).num * ((b * b * c).den : Int))) := (ha.d.mul ha.d).mul ((((hb.mul hb).mul hc).n).mul (((hb.mul hb).mul hc).d))
  unfold flI
  generalize (a.den : Int) * (a.den : Int) * ((b * b * c).num * ((b * b * c).den : Int)) = N at *
  have h0 := isqI_nonneg N
  have e : pw (k + k + ((l + l + m) + (l + l + m))) = pw (k + (l + l + m)) * pw (k + (l + l + m)) := by
    unfold pw
    rw [← Int.pow_add]
    congr 1
    omega
  have hp := pw_pos (k + (l + l + m))
  refine ⟨?_, by omega⟩
  by_cases hN : 0 ≤ N
  · have h1 := isqI_le hN
    have h2 := hs.1
    rw [e] at h2
    exact sq_lt_imp (by omega) (Int.lt_of_le_of_lt h1 h2)
  · unfold isqI
    rw [if_pos (by omega)]; omega
theorem flR_sz {k l m : Nat} (ha : Rz k a) (hb : Rz l b) (hc : Rz m c) : Sz (k + (l + l + m) + 2) (flR a b c) := by
  have hi := flI_sz ha hb hc
  have hx : Sz (k + (l + l + m)) (a.num * ((b * b * c).den : Int)) := ha.n.mul ((hb.mul hb).mul hc).d
  have h1 : Sz (k + (l + l + m) + 1) (flI a b c + 1) := hi.add (by
    by_cases h : 1 ≤ k + (l + l + m)
    · exact Sz.one h
    · exfalso
      have : k + (l + l + m) = 0 := by omega
      have hk : k = 0 := by omega
      subst hk
      have h5 := ha.d.1
      have h6 := den_pos a
      rw [pw_zero] at h5
      omega)
  unfold flR
  split
  · exact (ha.n.fdiv).mono (by omega)
  · split
    · unfold flN
      exact (((hx.mono (by omega)).add h1.neg).fdiv).mono (by omega)
    · unfold flN
      exact ((hx.add hi).fdiv).mono (by omega)
end
theorem xCmpQ_ok {a b c d e f : Rat} (ha : Rz 100 a) (hb : Rz 8 b) (hc : Rz 8 c) (hd : Rz 100 d) (he : Rz 8 e) (hf : Rz 8 f) (h1 : Rz 8 (a - d)) (c0 : 0 ≤ c) (f0 : 0 ≤ f) :
    Ok Tryz.prog 31 [.a (cR a ++ cR b ++ cR c), .a (cR d ++ cR e ++ cR f)] [.c (.i .i64 (signQ (a - d) b (-e) 0 c f))] := rcasti (xCmp_ok ha hb hc hd he hf h1) ((cmpP_eq c0 f0).trans (signQ_val c0 f0).symm)
theorem rcast1l {P : Program} {f : FuncId} {ds rs : List D0} {x x' : Rat} (h : Ok P f ds (dR x :: rs)) (e : x = x') : Ok P f ds (dR x' :: rs) := by subst e; exact h
theorem icast1 {P : Program} {f : FuncId} {ds : List D0} {x x' : Int} (h : Ok P f ds [dI x]) (e : x = x') : Ok P f ds [dI x'] := by subst e; exact h
section
variable {P : Program} {f : FuncId} {ds rs : List D0} {x y z x' y' z' : Rat}
end
def rtSg (a b c : Rat) : Int := if cmpR b 0 = 0 ∨ cmpR a 0 = cmpR b 0 then cmpR a 0 else if cmpR a 0 = 0 then cmpR b 0 else cmpR a 0 * cmpR (a * a - b * b * c) 0
section
variable {a b c : Rat}
theorem rtSg_0 (h : (cmpR b 0 == 0) = true) : rtSg a b c = cmpR a 0 := by unfold rtSg; rw [if_pos (.inl (by simpa using h))]
theorem rtSg_e (h : (cmpR a 0 == cmpR b 0) = true) : rtSg a b c = cmpR a 0 := by unfold rtSg; rw [if_pos (.inr (by simpa using h))]
theorem rtSg_z (h : (cmpR b 0 == 0) = false) (h2 : (cmpR a 0 == cmpR b 0) = false) (h3 : (cmpR a 0 == 0) = true) : rtSg a b c = cmpR b 0 := by
  unfold rtSg; rw [if_neg (fun e => e.elim (by simpa using h) (by simpa using h2)), if_pos (by simpa using h3)]
theorem rtSg_n (h : (cmpR b 0 == 0) = false) (h2 : (cmpR a 0 == cmpR b 0) = false) (h3 : (cmpR a 0 == 0) = false) : rtSg a b c = cmpR a 0 * cmpR (a * a - b * b * c) 0 := by
  unfold rtSg; rw [if_neg (fun e => e.elim (by simpa using h) (by simpa using h2)), if_neg (by simpa using h3)]
end
theorem cmpR_z {x : Rat} (h : cmpR x 0 = 0) : x = 0 := cmpR_t0 (by rw [h]; rfl)
theorem fl_ge {y : Rat} {n : Int} (h : (n : Rat) ≤ y) : n ≤ y.num.fdiv (y.den : Int) := by
  have hd := den_pos y
  rw [Int.fdiv_eq_ediv_of_nonneg _ (by omega), Int.le_ediv_iff_mul_le hd]
  have h2 := Rat.mul_le_mul_of_nonneg_right h (show ((0 : Int) : Rat) ≤ ((y.den : Int) : Rat) from Rat.intCast_le_intCast.2 (by omega))
  rw [r_num, ← Rat.intCast_mul] at h2
  exact Rat.intCast_le_intCast.1 h2
theorem fl_le2 {y : Rat} {n : Int} (h : y ≤ (n : Rat)) : y.num.fdiv (y.den : Int) ≤ n := Rat.intCast_le_intCast.1 (Rat.le_trans (fl_le y) h)
theorem fr_rng {a : Rat} {B : Int} (h1 : ((-B : Int) : Rat) ≤ a) (h2 : a ≤ (B : Rat)) : -(B * 65536) ≤ frLo a ∧ frLo a ≤ B * 65536 ∧ -(B * 65536) ≤ frHi a ∧ frHi a ≤ B * 65536 := by
  have hp : (0 : Rat) ≤ ((65536 : Int) : Rat) := by decide
  have k1 : ((-(B * 65536) : Int) : Rat) ≤ a * ((65536 : Int) : Rat) := by
    have := Rat.mul_le_mul_of_nonneg_right h1 hp
    rw [← Rat.intCast_mul, Int.neg_mul] at this; exact this
  have k2 : a * ((65536 : Int) : Rat) ≤ ((B * 65536 : Int) : Rat) := by
    have := Rat.mul_le_mul_of_nonneg_right h2 hp
    rw [← Rat.intCast_mul] at this; exact this
  have k3 : -(a * ((65536 : Int) : Rat)) ≤ ((B * 65536 : Int) : Rat) := by rw [Rat.intCast_neg] at k1; grind
  have k4 : ((-(B * 65536) : Int) : Rat) ≤ -(a * ((65536 : Int) : Rat)) := by rw [Rat.intCast_neg]; grind
  have g1 := fl_ge k1
  have g2 := fl_le2 k2
  have g3 := fl_le2 k3
  have g4 := fl_ge k4
  unfold frLo frHi
  omega
theorem fr_ok2 {a : Rat} {B : Int} (h1 : ((-B : Int) : Rat) ≤ a) (h2 : a ≤ (B : Rat)) (hB : B ≤ 35000000000000) : frOk a = true := by
  have h := fr_rng h1 h2
  unfold frOk okI
  rw [fit_iff.2 (by omega), fit_iff.2 (by omega), decide_eq_true (by omega), decide_eq_true (by omega)]
  rfl
theorem isq_le24 {n : Int} (h0 : 0 ≤ n) (h : n ≤ 281474976710656) : isqI n ≤ 16777216 := by
  apply Classical.byContradiction
  intro hn
  have h1 := isqI_le h0
  have h2 : 16777217 * 16777217 ≤ isqI n * isqI n := Int.mul_le_mul (by omega) (by omega) (by omega) (by omega)
  omega
theorem sq_rng {c : Rat} (h0 : 0 ≤ c) (h1 : c ≤ ((65536 : Int) : Rat)) : 0 ≤ sqLo (frLo c) ∧ sqLo (frLo c) ≤ 16777217 ∧ 0 ≤ sqHi (frHi c) ∧ sqHi (frHi c) ≤ 16777217 := by
  have h := fr_rng (a := c) (B := 65536) (Rat.le_trans (by decide) h0) h1
  have hH : 0 ≤ frHi c := by
    have := in_fr c
    have g := fl_le2 (y := -(c * ((65536 : Int) : Rat))) (n := 0) (by have := Rat.mul_nonneg h0 (show (0 : Rat) ≤ ((65536 : Int) : Rat) by decide); have e : ((0 : Int) : Rat) = 0 := rfl; rw [e]; grind)
    unfold frHi; omega
  have a1 := isq_le24 (n := max (frLo c) 0 * 65536) (by omega) (by omega)
  have a2 := isq_le24 (n := frHi c * 65536) (by omega) (by omega)
  have b1 := isqI_nonneg (max (frLo c) 0 * 65536)
  have b2 := isqI_nonneg (frHi c * 65536)
  unfold sqLo sqHi
  refine ⟨b1, by omega, ?_, ?_⟩ <;> split <;> omega
theorem sc_rng {x u : Int} (h1 : -2147483648 ≤ x) (h2 : x ≤ 2147483648) (h3 : 0 ≤ u) (h4 : u ≤ 16777217) : scOk x u = true ∧ -600000000000 ≤ scLo x u ∧ scHi x u ≤ 600000000000 := by
  have hp : 0 ≤ scP x u ∧ scP x u ≤ 2147483648 * 16777217 := by
    unfold scP
    exact ⟨Int.mul_nonneg (by omega) (by omega), Int.mul_le_mul (by omega) (by omega) (by omega) (by omega)⟩
  have hu : scP x u / 65536 ≤ scUp (scP x u) ∧ scUp (scP x u) ≤ scP x u / 65536 + 1 := by unfold scUp; split <;> omega
  have hl : -600000000000 ≤ scLo x u := by unfold scLo; split <;> omega
  have hh : scHi x u ≤ 600000000000 := by unfold scHi; split <;> omega
  refine ⟨?_, hl, hh⟩
  unfold scOk scBig
  rw [decide_eq_false (by omega), decide_eq_true (by omega), decide_eq_true (by omega)]
  rfl
theorem sel_or (x y : Int) (i : Nat) : sel x y i = x ∨ sel x y i = y := by unfold sel; split <;> simp
theorem okN_rng {x y u v : Int} (h1 : -2147483648 ≤ x ∧ x ≤ 2147483648) (h2 : -2147483648 ≤ y ∧ y ≤ 2147483648) (h3 : 0 ≤ u ∧ u ≤ 16777217) (h4 : 0 ≤ v ∧ v ≤ 16777217) : ∀ n : Nat, okN x y u v n = true ∧ -600000000000 ≤ loN x y u v n ∧ hiN x y u v n ≤ 600000000000
  | 0 => ⟨rfl, by show (-600000000000 : Int) ≤ 2305843009213693952; omega, by show (-2305843009213693952 : Int) ≤ 600000000000; omega⟩
  | n + 1 => by
    obtain ⟨i1, i2, i3⟩ := okN_rng h1 h2 h3 h4 n
    have s := sc_rng (x := sel x y (n / 2)) (u := sel u v (n % 2)) (by rcases sel_or x y (n / 2) with e | e <;> rw [e] <;> omega) (by rcases sel_or x y (n / 2) with e | e <;> rw [e] <;> omega) (by rcases sel_or u v (n % 2) with e | e <;> rw [e] <;> omega) (by rcases sel_or u v (n % 2) with e | e <;> rw [e] <;> omega)
    refine ⟨?_, ?_, ?_⟩
    · show (okN x y u v n && scOk (sel x y (n / 2)) (sel u v (n % 2))) = true
      rw [i1, s.1]; rfl
    · show _ ≤ min (loN x y u v n) (scLo (sel x y (n / 2)) (sel u v (n % 2)))
      omega
    · show max (hiN x y u v n) (scHi (sel x y (n / 2)) (sel u v (n % 2))) ≤ _
      omega
theorem rtOk_of {a b c : Rat} (a0 : ((-9000000 : Int) : Rat) ≤ a) (a1 : a ≤ ((9000000 : Int) : Rat)) (b0 : ((-32768 : Int) : Rat) ≤ b) (b1 : b ≤ ((32768 : Int) : Rat)) (c0 : 0 ≤ c) (c1 : c ≤ ((65536 : Int) : Rat)) : rtOk a b c = true := by
  have ha := fr_rng (B := 9000000) a0 a1
  have hb := fr_rng (B := 32768) b0 b1
  have hs := sq_rng c0 c1
  have hn := okN_rng (x := frLo b) (y := frHi b) (u := sqLo (frLo c)) (v := sqHi (frHi c)) (by omega) (by omega) (by omega) (by omega) 4
  have hc : decide (cmpR c 0 < 0) = false := decide_eq_false (by have := cmpR_geI c0; omega)
  unfold rtOk rtX rtMo okI rtMl rtMh
  rw [fr_ok2 (B := 9000000) a0 a1 (by omega), fr_ok2 (B := 32768) b0 b1 (by omega), fr_ok2 (a := c) (B := 65536) (Rat.le_trans (by decide) c0) c1 (by omega), hc, hn.1, decide_eq_true (by omega), decide_eq_true (by omega)]
  cases cmpR b 0 == 0 <;> rfl
theorem dv_mul {n d : Int} (hd : 0 < d) : Rat.divInt n d * (d : Rat) = (n : Rat) := by
  rw [Rat.divInt_eq_div]
  exact Rat.div_mul_cancel (by have := Rat.intCast_lt_intCast.2 hd; grind)
theorem dv_le {n d B : Int} (hd : 0 < d) (h : n ≤ B * d) : Rat.divInt n d ≤ (B : Rat) := by
  apply Classical.byContradiction
  intro hn
  have hp : (0 : Rat) < (d : Rat) := Rat.intCast_lt_intCast.2 hd
  have := Rat.mul_lt_mul_of_pos_right (show (B : Rat) < Rat.divInt n d by grind) hp
  rw [dv_mul hd, ← Rat.intCast_mul] at this
  have := Rat.intCast_lt_intCast.1 this
  omega
theorem dv_ge {n d B : Int} (hd : 0 < d) (h : B * d ≤ n) : (B : Rat) ≤ Rat.divInt n d := by
  apply Classical.byContradiction
  intro hn
  have hp : (0 : Rat) < (d : Rat) := Rat.intCast_lt_intCast.2 hd
  have := Rat.mul_lt_mul_of_pos_right (show Rat.divInt n d < (B : Rat) by grind) hp
  rw [dv_mul hd, ← Rat.intCast_mul] at this
  have := Rat.intCast_lt_intCast.1 this
  omega
section
variable {x y z : Rat}
theorem val_ge {v : Re} {lo d : Int} (hd : 0 < d) (h : leR (Re.of (lo : Rat)) (Re.of (d : Rat) * v)) : leR (Re.of (Rat.divInt lo d)) v :=
  leR_scale (d := (d : Rat)) (Rat.intCast_lt_intCast.2 hd) (by rw [of_mul, Rat.mul_comm, dv_mul hd]; exact h)
theorem val_le {v : Re} {lo d : Int} (hd : 0 < d) (h : leR (Re.of (d : Rat) * v) (Re.of (lo : Rat))) : leR v (Re.of (Rat.divInt lo d)) :=
  leR_scale (d := (d : Rat)) (Rat.intCast_lt_intCast.2 hd) (by rw [of_mul, Rat.mul_comm, dv_mul hd]; exact h)
theorem val3_q (q : Rat) : val3 q 0 0 = Re.of q := Re.ext fun k => by simp only [val3, re_add, re_mul, re_of]; grind
theorem sg_ge {q : Rat} (hz : 0 ≤ z) (h : leR (Re.of q) (val3 x y z)) : 0 ≤ signQ (x - q) y (-0) 0 z 0 := by
  rw [signQ_val hz Rat.le_refl, val3_q]; exact h
theorem sg_le {q : Rat} (hz : 0 ≤ z) (h : leR (val3 x y z) (Re.of q)) : signQ (x - q) y (-0) 0 z 0 ≤ 0 := by
  rw [signQ_val hz Rat.le_refl, val3_q]
  have h : 0 ≤ sgR (Re.of q - val3 x y z) := h
  rw [show Re.of q - val3 x y z = -(val3 x y z - Re.of q) from Re.ext fun k => by simp only [re_sub, re_neg]; grind, sgR_neg] at h
  omega
theorem rtSg_val (hz : 0 ≤ z) (hv : y ≠ 0 → 0 < z) : rtSg x y z = sgR (val3 x y z) := by
  rw [← plainS_sg hz]
  unfold rtSg plainS comb
  have e : cmpR y 0 * cmpR z 0 = cmpR y 0 := by
    by_cases hy : y = 0
    · subst hy; rw [show cmpR 0 0 = 0 from by decide]; omega
    · rw [show cmpR z 0 = 1 from by unfold cmpR; rw [if_neg (by have := hv hy; grind), if_pos (hv hy)]]; omega
  rw [e, cmpR_sub]
theorem flt_lo (hok : rtOk x y z = true) : leR (Re.of (Rat.divInt (rtLo x y z) 65536)) (val3 x y z) := val_ge (by omega) (in_rt hok).1
theorem flt_hi (hok : rtOk x y z = true) : leR (val3 x y z) (Re.of (Rat.divInt (rtHi x y z) 65536)) := val_le (by omega) (in_rt hok).2
theorem flt_sg (hok : rtOk x y z = true) (hz : 0 ≤ z) (hv : y ≠ 0 → 0 < z) (hk : skI (rtLo x y z) (rtHi x y z) = true) : sgI (rtLo x y z) (rtHi x y z) = rtSg x y z := by
  rw [rtSg_val hz hv]; exact in_sign (in_rt hok) hk
theorem scl_val {U : Rat} : val3 (x * U) (y * U) (zc (y * U) z) = Re.of U * val3 x y z ∨ (∃ _h : y * U = 0, True) := by
  by_cases h : y * U = 0
  · exact .inr ⟨h, trivial⟩
  · refine .inl ?_
    rw [zc_f h]
    exact Re.ext fun k => by simp only [val3, re_add, re_mul, re_of]; grind
theorem scl_val2 {U : Rat} (hU : U ≠ 0) : val3 (x * U) (y * U) (zc (y * U) z) = Re.of U * val3 x y z := by
  rcases scl_val (x := x) (y := y) (z := z) (U := U) with h | ⟨h, _⟩
  · exact h
  · have hy : y = 0 := by rcases Rat.mul_eq_zero.1 h with h | h
                          · exact h
                          · exact absurd h hU
    rw [zc_t h, h, hy]
    exact Re.ext fun k => by simp only [val3, re_add, re_mul, re_of]; grind
theorem enc_in {U : Int} (hU : 0 < U) (hz : 0 ≤ z) : leR (Re.of (Rat.divInt (flR (x * (U : Rat)) (y * (U : Rat)) (zc (y * (U : Rat)) z)) U)) (val3 x y z) ∧ leR (val3 x y z) (Re.of (Rat.divInt (flR (x * (U : Rat)) (y * (U : Rat)) (zc (y * (U : Rat)) z) + 1) U)) := by
  have h := flR_in (a := x * (U : Rat)) (b := y * (U : Rat)) (c := zc (y * (U : Rat)) z) (zc_nn hz)
  have e := scl_val2 (x := x) (y := y) (z := z) (U := (U : Rat)) (by have := Rat.intCast_lt_intCast.2 hU; grind)
  have h1 : leR (Re.of ((flR (x * (U : Rat)) (y * (U : Rat)) (zc (y * (U : Rat)) z) : Int) : Rat)) (val3 (x * (U : Rat)) (y * (U : Rat)) (zc (y * (U : Rat)) z)) := h.1
  have h2 : leR (val3 (x * (U : Rat)) (y * (U : Rat)) (zc (y * (U : Rat)) z)) (Re.of (((flR (x * (U : Rat)) (y * (U : Rat)) (zc (y * (U : Rat)) z) + 1 : Int)) : Rat)) := h.2
  rw [e] at h1 h2
  exact ⟨val_ge hU h1, val_le hU h2⟩
theorem neg_val : val3 (-x) (-y) z = -(val3 x y z) := Re.ext fun k => by simp only [val3, re_add, re_mul, re_of, re_neg]; grind
theorem up_ge (hz : 0 ≤ z) : leR (val3 x y z) (Re.of (((-(flR (-x) (-y) z)) : Int) : Rat)) := by
  have h : leR (Re.of ((flR (-x) (-y) z : Int) : Rat)) (val3 (-x) (-y) z) := (flR_in (a := -x) (b := -y) hz).1
  rw [neg_val] at h
  have h : 0 ≤ sgR (-(val3 x y z) - Re.of ((flR (-x) (-y) z : Int) : Rat)) := h
  show 0 ≤ sgR (Re.of (((-(flR (-x) (-y) z)) : Int) : Rat) - val3 x y z)
  refine nn_of (fun k => ?_) h
  simp only [re_sub, re_neg, re_of, Rat.intCast_neg]; grind
theorem dn_le (hz : 0 ≤ z) : leR (Re.of ((flR x y z : Int) : Rat)) (val3 x y z) := (flR_in (a := x) (b := y) hz).1
theorem up_dn2 (hz : 0 ≤ z) : -2 ≤ flR x y z + flR (-x) (-y) z := by
  have h1 : leR (val3 x y z) (Re.of (((flR x y z + 1 : Int)) : Rat)) := (flR_in (a := x) (b := y) hz).2
  have h2 : leR (val3 (-x) (-y) z) (Re.of (((flR (-x) (-y) z + 1 : Int)) : Rat)) := (flR_in (a := -x) (b := -y) hz).2
  have h4 : leR (Re.of (((-(flR (-x) (-y) z + 1) : Int)) : Rat)) (val3 x y z) := by
    rw [neg_val] at h2
    have h2 : 0 ≤ sgR (Re.of (((flR (-x) (-y) z + 1 : Int)) : Rat) - -(val3 x y z)) := h2
    refine nn_of (fun k => ?_) h2
    simp only [re_sub, re_neg, re_of, Rat.intCast_neg]; grind
  have h5 := Rat.intCast_le_intCast.1 (of_le_iff (le_tr h4 h1))
  omega
theorem up_dn (hz : 0 ≤ z) (hv : y ≠ 0 → 0 < z ∧ sqR z = false) : -1 ≤ flR x y z + flR (-x) (-y) z := by
  by_cases hy : y = 0
  · rw [flR_0 hy, flR_0 (by rw [hy]; rfl), Rat.neg_num, Rat.neg_den]
    have h1 := (fd_le (Z := x.num) (den_pos x)).2
    have h2 := (fd_le (Z := -x.num) (den_pos x)).2
    apply Classical.byContradiction
    intro hn
    have hd := den_pos x
    have h3 : (x.num.fdiv (x.den : Int) + 1 + ((-x.num).fdiv (x.den : Int) + 1)) * (x.den : Int) ≤ 0 := Int.mul_nonpos_of_nonpos_of_nonneg (by omega) (by omega)
    rw [Int.add_mul] at h3
    omega
  · apply Classical.byContradiction
    intro hn
    obtain ⟨z0, zs⟩ := hv hy
    have h1 : leR (val3 x y z) (Re.of (((flR x y z + 1 : Int)) : Rat)) := (flR_in (a := x) (b := y) hz).2
    have h2 : leR (val3 (-x) (-y) z) (Re.of (((flR (-x) (-y) z + 1 : Int)) : Rat)) := (flR_in (a := -x) (b := -y) hz).2
    have h3 : leR (Re.of (((flR x y z + 1 : Int)) : Rat)) (Re.of (((-(flR (-x) (-y) z + 1) : Int)) : Rat)) := leR_cast (by omega)
    have h4 : leR (Re.of (((-(flR (-x) (-y) z + 1) : Int)) : Rat)) (val3 x y z) := by
      rw [neg_val] at h2
      have h2 : 0 ≤ sgR (Re.of (((flR (-x) (-y) z + 1 : Int)) : Rat) - -(val3 x y z)) := h2
      refine nn_of (fun k => ?_) h2
      simp only [re_sub, re_neg, re_of, Rat.intCast_neg]; grind
    have h5 := le_tr h3 h4
    generalize flR x y z + 1 = m at h1 h5
    have h6 : 0 ≤ signQ (x - (m : Rat)) y (-0) 0 z 0 := sg_ge hz h5
    have h7 : signQ (x - (m : Rat)) y (-0) 0 z 0 ≤ 0 := sg_le hz h1
    rw [signQ_val hz Rat.le_refl, val3_q] at h6 h7
    have h8 : sgR (val3 (x - (m : Rat)) y z) = 0 := by
      rw [show val3 (x - (m : Rat)) y z = val3 x y z - Re.of (m : Rat) from Re.ext fun k => by simp only [val3, re_add, re_mul, re_of, re_sub]; grind]
      omega
    rw [← rtSg_val hz (fun _ => z0)] at h8
    have hyn : cmpR y 0 ≠ 0 := fun e => hy (cmpR_z e)
    unfold rtSg at h8
    split at h8
    · rename_i g
      rcases g with g | g
      · exact hyn g
      · rw [h8] at g; exact hyn g.symm
    · split at h8
      · exact hyn h8
      · rename_i g1 g2
        have h9 : cmpR ((x - (m : Rat)) * (x - (m : Rat)) - y * y * z) 0 = 0 := (Int.mul_eq_zero.1 h8).resolve_left g2
        have h10 := cmpR_z h9
        have h11 : z = (x - (m : Rat)) / y * ((x - (m : Rat)) / y) := by
          have hq : (x - (m : Rat)) / y * y = x - (m : Rat) := Rat.div_mul_cancel hy
          have h12 : y * y * ((x - (m : Rat)) / y * ((x - (m : Rat)) / y)) = y * y * z := by grind
          have h13 : y * y * ((x - (m : Rat)) / y * ((x - (m : Rat)) / y) - z) = 0 := by grind
          rcases Rat.mul_eq_zero.1 h13 with e | e
          · rcases Rat.mul_eq_zero.1 e with e | e <;> exact absurd e hy
          · grind
        rw [h11, sqR_sq] at zs
        cases zs
end
def p2 (n : Nat) : Int := 2 ^ n
theorem p2_succ (n : Nat) : p2 (n + 1) = p2 n + p2 n := by
  show (2 : Int) ^ (n + 1) = 2 ^ n + 2 ^ n
  rw [Int.pow_succ]; omega
theorem p2_pos (n : Nat) : 1 ≤ p2 n := by
  induction n with
  | zero => decide
  | succ n ih => rw [p2_succ]; omega
theorem p2_mono {n m : Nat} (h : n ≤ m) : p2 n ≤ p2 m := by
  induction h with
  | refl => exact Int.le_refl _
  | step _ ih => have := p2_pos n; rw [p2_succ]; rename_i m' _; have := p2_pos m'; omega
theorem p2_le {n : Nat} (h : n ≤ 60) : p2 n ≤ 1152921504606846976 := Int.le_trans (p2_mono h) (by decide)
theorem p2_sz {n : Nat} (h : n ≤ 60) : Sz 3 (p2 n) := Sz.small (by decide) (by have := p2_pos n; omega) (by have := p2_le h; omega)
def enF (x y z : Rat) (n : Nat) : Int := flR (x * ((p2 n : Int) : Rat)) (y * ((p2 n : Int) : Rat)) (zc (y * ((p2 n : Int) : Rat)) z)
theorem rt_bd {a b c : Rat} (h : rtOk a b c = true) : (-2305843009213693952 ≤ rtLo a b c ∧ rtLo a b c ≤ 2305843009213693952) ∧ (-2305843009213693952 ≤ rtHi a b c ∧ rtHi a b c ≤ 2305843009213693952) := by
  have hi := in_rt h
  have hle : rtLo a b c ≤ rtHi a b c := Rat.intCast_le_intCast.1 (of_le_iff (le_tr hi.1 hi.2))
  have h2 := h
  unfold rtOk rtX at h2
  simp only [Bool.and_eq_true, Bool.or_eq_true] at h2
  unfold rtLo rtHi at *
  rw [if_pos h, if_pos h] at *
  have h3 := fr_bd h2.1
  split
  · exact ⟨⟨h3.1, h3.2.1⟩, h3.2.2⟩
  · rename_i g
    rw [if_neg g, if_neg g] at hle
    have h4 := ok_bd (h2.2.resolve_left g).2.2.2.2
    omega
section
variable {x y z : Rat}
theorem fl_bd (hz : 0 ≤ z) (hok : rtOk x y z = true) : -40000000000000 ≤ flR x y z ∧ flR x y z ≤ 40000000000000 ∧ -40000000000000 ≤ -(flR (-x) (-y) z) ∧ -(flR (-x) (-y) z) ≤ 40000000000000 := by
  have hb := rt_bd hok
  have l1 := flt_lo hok
  have l2 := flt_hi hok
  have d1 : ((-35184372088832 : Int) : Rat) ≤ Rat.divInt (rtLo x y z) 65536 := dv_ge (by omega) (by omega)
  have d2 : Rat.divInt (rtHi x y z) 65536 ≤ ((35184372088832 : Int) : Rat) := dv_le (by omega) (by omega)
  have a1 := Rat.intCast_le_intCast.1 (Rat.le_trans (of_le_iff (le_tr (dn_le (x := x) (y := y) hz) l2)) d2)
  have a2 : leR (val3 x y z) (Re.of (((flR x y z + 1 : Int)) : Rat)) := (flR_in (a := x) (b := y) hz).2
  have a3 := Rat.intCast_le_intCast.1 (Rat.le_trans d1 (of_le_iff (le_tr l1 a2)))
  have a4 := Rat.intCast_le_intCast.1 (Rat.le_trans d1 (of_le_iff (le_tr l1 (up_ge (x := x) (y := y) hz))))
  have a5 := up_dn2 (x := x) (y := y) hz
  omega
end
theorem topF_pack {x y z : Rat} {n : Nat} (hz : 0 ≤ z) (hv : y ≠ 0 → 0 < z ∧ sqR z = false) (hok : rtOk x y z = true) :
    0 ≤ signQ (x - Rat.divInt (rtLo x y z) 65536) y (-0) 0 z 0 ∧ signQ (x - Rat.divInt (rtHi x y z) 65536) y (-0) 0 z 0 ≤ 0 ∧
    cmpR (Rat.divInt (enF x y z n) (p2 n)) (Rat.divInt (rtHi x y z) 65536) ≤ 0 ∧ cmpR (Rat.divInt (rtLo x y z) 65536) (Rat.divInt (enF x y z n + 1) (p2 n)) ≤ 0 ∧
    0 ≤ signQ (x - ((flR x y z : Int) : Rat)) y (-0) 0 z 0 ∧ signQ (x - (((-(flR (-x) (-y) z)) : Int) : Rat)) y (-0) 0 z 0 ≤ 0 ∧
    cmpR ((((-(flR (-x) (-y) z)) : Int) : Rat) - ((flR x y z : Int) : Rat)) ((1 : Int) : Rat) ≤ 0 := by
  have he := enc_in (x := x) (y := y) (U := p2 n) (by have := p2_pos n; omega) hz
  refine ⟨sg_ge hz (flt_lo hok), sg_le hz (flt_hi hok), cmpR_le.2 (of_le_iff (le_tr he.1 (flt_hi hok))), cmpR_le.2 (of_le_iff (le_tr (flt_lo hok) he.2)), sg_ge hz (dn_le hz), sg_le hz (up_ge hz), ?_⟩
  rw [cmpR_le, ← Rat.intCast_sub]
  exact Rat.intCast_le_intCast.2 (by have := up_dn (x := x) hz hv; omega)
theorem Sz.one9 {n : Int} (h0 : -999999999 ≤ n) (h1 : n ≤ 999999999) : Sz 1 n := by
  have e : pw 1 = 1000000000 := by decide +kernel
  exact ⟨by omega, by omega⟩
theorem dv_sz1 {n d : Int} (h0 : -999999999 ≤ n) (h1 : n ≤ 999999999) (h2 : 0 < d) (h3 : d ≤ 999999999) : Rz 1 (Rat.divInt n d) := Rz.of (Sz.one9 h0 h1) (Sz.one9 (by omega) h3) (by omega)
theorem rt_le {c : Rat} (h0 : 0 ≤ c) (hs : sqR c = true) (h1 : c ≤ ((65536 : Int) : Rat)) (hden : (c.den : Int) ≤ 256) : 0 ≤ rt c ∧ rt c ≤ ((256 : Int) : Rat) ∧ Rz 1 (rt c) := by
  have hd := den_pos c
  have hn : 0 ≤ c.num := Rat.num_nonneg.2 h0
  unfold sqR at hs
  rw [Bool.and_eq_true] at hs
  unfold sqI at hs
  have e1 : isqI c.num * isqI c.num = c.num := by simpa using hs.1
  have e2 : isqI (c.den : Int) * isqI (c.den : Int) = (c.den : Int) := by simpa using hs.2
  have n1 := isqI_nonneg c.num
  have n2 := isqI_nonneg (c.den : Int)
  have p2 : 0 < isqI (c.den : Int) := by
    rcases Int.lt_or_eq_of_le n2 with h | h
    · exact h
    · rw [← h] at e2; omega
  have h2 : c.num ≤ 65536 * (c.den : Int) := by
    have := Rat.mul_le_mul_of_nonneg_right h1 (show ((0 : Int) : Rat) ≤ ((c.den : Int) : Rat) from Rat.intCast_le_intCast.2 (by omega))
    rw [r_num, ← Rat.intCast_mul] at this
    exact Rat.intCast_le_intCast.1 this
  have h3 : isqI c.num ≤ 256 * isqI (c.den : Int) := by
    apply Classical.byContradiction
    intro hn
    have : (256 * isqI (c.den : Int) + 1) * (256 * isqI (c.den : Int) + 1) ≤ isqI c.num * isqI c.num := Int.mul_le_mul (by omega) (by omega) (by omega) (by omega)
    grind
  unfold rt
  have h4 : isqI (c.den : Int) ≤ 256 := by
    have := Int.mul_le_mul_of_nonneg_left (show 1 ≤ isqI (c.den : Int) by omega) n2
    omega
  exact ⟨dv_ge (B := 0) p2 (by omega), dv_le p2 h3, dv_sz1 (by omega) (by omega) p2 (by omega)⟩
theorem den_dv {n d : Int} (hd : 0 < d) : ((Rat.divInt n d).den : Int) ≤ d := by
  rw [Rat.den_divInt, if_neg (by omega)]
  have := Nat.div_le_self d.natAbs (d.gcd n)
  omega
theorem Rz.zero2 : Rz 2 (0 : Rat) := Rz.zero (by decide)
theorem surd_root {A B C D E F : Int} (hA : -32768 ≤ A ∧ A ≤ 32767) (hB : -32768 ≤ B ∧ B ≤ 32767) (hC : 0 ≤ C ∧ C ≤ 65535) (hD : 0 ≤ D ∧ D ≤ 255) (hE : 0 ≤ E ∧ E ≤ 255) (hF : 0 ≤ F ∧ F ≤ 255) :
    ∃ x y z : Rat, Ok Tryz.prog 5 [.a ([.i .i16 A] ++ [.i .i16 B] ++ [.i .u16 C] ++ [.i .u8 D] ++ [.i .u8 E] ++ [.i .u8 F])] [.a (cR x ++ cR y ++ cR z)] ∧
      Rz 4 x ∧ Rz 2 y ∧ Rz 2 z ∧ 0 ≤ z ∧ (y ≠ 0 → 0 < z ∧ sqR z = false) ∧ rtOk x y z = true := by
  have a0 : ((-32768 : Int) : Rat) ≤ Rat.divInt A (D + 1) := dv_ge (by omega) (by omega)
  have a1 : Rat.divInt A (D + 1) ≤ ((32768 : Int) : Rat) := dv_le (by omega) (by omega)
  have b0 : ((-32768 : Int) : Rat) ≤ Rat.divInt B (E + 1) := dv_ge (by omega) (by omega)
  have b1 : Rat.divInt B (E + 1) ≤ ((32768 : Int) : Rat) := dv_le (by omega) (by omega)
  have c0 : ((0 : Int) : Rat) ≤ Rat.divInt C (F + 1) := dv_ge (by omega) (by omega)
  have c1 : Rat.divInt C (F + 1) ≤ ((65536 : Int) : Rat) := dv_le (by omega) (by omega)
  have zA : Rz 1 (Rat.divInt A (D + 1)) := dv_sz1 (by omega) (by omega) (by omega) (by omega)
  have zB : Rz 1 (Rat.divInt B (E + 1)) := dv_sz1 (by omega) (by omega) (by omega) (by omega)
  have zC : Rz 1 (Rat.divInt C (F + 1)) := dv_sz1 (by omega) (by omega) (by omega) (by omega)
  have hden := den_dv (n := C) (d := F + 1) (by omega)
  have e1 : ((32768 : Int) : Rat) = 32768 := rfl
  have e2 : ((-32768 : Int) : Rat) = -32768 := rfl
  have e3 : ((256 : Int) : Rat) = 256 := rfl
  have e4 : ((9000000 : Int) : Rat) = 9000000 := rfl
  have e5 : ((-9000000 : Int) : Rat) = -9000000 := rfl
  have c0' : 0 ≤ Rat.divInt C (F + 1) := c0
  cases hs : sqR (Rat.divInt C (F + 1)) with
  | true =>
    obtain ⟨r0, r1, r2⟩ := rt_le c0 hs c1 (by omega)
    refine ⟨_, 0, 0, rrOf_sq hA.1 hA.2 hB.1 hB.2 hC.1 hC.2 hD.1 hD.2 hE.1 hE.2 hF.1 hF.2 hs, (zA.add (zB.mul r2)).mono (by decide), Rz.zero2, Rz.zero2, Rat.le_refl, fun h => absurd rfl h, ?_⟩
    generalize Rat.divInt A (D + 1) = a at *
    generalize Rat.divInt B (E + 1) = b at *
    generalize rt (Rat.divInt C (F + 1)) = r at *
    have m1 : b * r ≤ 32768 * r := Rat.mul_le_mul_of_nonneg_right (by grind) r0
    have m2 : -32768 * r ≤ b * r := Rat.mul_le_mul_of_nonneg_right (by grind) r0
    exact rtOk_of (by grind) (by grind) (by decide) (by decide) (by decide) (by decide)
  | false =>
    refine ⟨_, _, _, rrOf_ns hA.1 hA.2 hB.1 hB.2 hC.1 hC.2 hD.1 hD.2 hE.1 hE.2 hF.1 hF.2 hs, zA.mono (by decide), ?_, ?_, ?_, ?_, ?_⟩
    · unfold rB; split
      · exact Rz.zero2
      · exact zB.mono (by decide)
    · unfold rC; split
      · exact Rz.zero2
      · exact zC.mono (by decide)
    · unfold rC; split
      · exact Rat.le_refl
      · exact c0'
    · unfold rB rC
      split
      · exact fun h => absurd rfl h
      · rename_i h
        exact fun _ => ⟨by have : Rat.divInt C (F + 1) ≠ 0 := fun e => h (.inr e); grind, hs⟩
    · unfold rB rC
      split
      · exact rtOk_of (by grind) (by grind) (by decide) (by decide) (by decide) (by decide)
      · exact rtOk_of (by grind) (by grind) (by grind) (by grind) c0' c1
theorem dv1 (n : Int) : Rat.divInt n 1 = (n : Rat) := by rw [Rat.divInt_eq_div]; have : ((1 : Int) : Rat) = 1 := rfl; rw [this]; grind
theorem rtZero_ok  : Ok Tryz.prog 81 [] [dR 0] := by
  refine Ok.of (by kernel_rfl) Tryz.func81 rfl rfl ?_
  rw [show Tryz.f81.ntmps = 2 from rfl, show Tryz.f81.results.toList = [.cell 0 31] from rfl]
  refine dw_seq <| dw_region (by kernel_rfl) <| dl_new (sem_alloc zc31 rfl) rfl <| dl_end <| dw_seq <| dw_region (by kernel_rfl) <| dl_r (sem_call rfl rfl (pFrom_ok (by omega) (by omega)) rfl) <| dl_st (sem_store_a ty31 rfl rfl rfl rfl rfl rfl) ?_
  refine dl_end <| dw_ret ?_
  rw [z_int]
  exact ⟨.inr rfl, (resL_cell (us := cR (((0 : Int) : Rat))) ty31 rfl rfl rfl rfl resL_nil)⟩
theorem rtReduced_ok {a b c : Rat} : Ok Tryz.prog 87 [dR a, dR b, dR c] [.a (cR a ++ cR b ++ cR (zc b c))] := by
  refine Ok.of (by kernel_rfl) Tryz.func87 rfl rfl ?_
  rw [show Tryz.f87.ntmps = 15 from rfl, show Tryz.f87.results.toList = [.cell 6 33] from rfl]
  refine dw_seq <| dw_region (by kernel_rfl) <| dl_new (sem_box_a rfl rfl) rfl <| dl_new (sem_box_a rfl rfl) rfl <| dl_new (sem_box_a rfl rfl) rfl <| dl_new (sem_alloc zc33 rfl) rfl <| dl_end <| dw_seq ?_
  refine dw_seq <| dw_region (by kernel_rfl) <| dl_r (sem_load (us := cR b) ty31 rfl rfl rfl rfl rfl) <| dl_r (sem_call rfl rfl (pSign_ok) rfl) <| dl_r (sem_cmp rfl rfl rfl rfl) <| dl_end ?_
  refine dw_cond rfl (fun hc1 => ?_) (fun hc1 => ?_)
  · -- region 2
    refine dw_region (by kernel_rfl) <| dl_r (sem_call rfl rfl (rtZero_ok) rfl) <| dl_st (sem_store_a ty31 rfl rfl rfl rfl rfl rfl) <| dl_end <| dw_seq <| dw_region (by kernel_rfl) <| dl_r (sem_load (us := cR a) ty31 rfl rfl rfl rfl rfl) <| dl_r (sem_load (us := cR b) ty31 rfl rfl rfl rfl rfl) ?_
    refine dl_r (sem_load (us := cR 0) ty31 rfl rfl rfl rfl rfl) <| dl_r (sem_build (us := (cR a ++ cR b ++ cR 0)) fs33 zc33 rfl rfl rfl) <| dl_st (sem_store_a ty33 rfl rfl rfl rfl rfl rfl) <| dl_end <| dw_ret ?_
    rw [zc_t (r_eq hc1)]
    exact ⟨.inr rfl, (resL_cell (us := (cR a ++ cR b ++ cR 0)) ty33 rfl rfl rfl rfl resL_nil)⟩
  · refine dw_skip <| dw_seq <| dw_region (by kernel_rfl) <| dl_r (sem_load (us := cR a) ty31 rfl rfl rfl rfl rfl) <| dl_r (sem_load (us := cR b) ty31 rfl rfl rfl rfl rfl) <| dl_r (sem_load (us := cR c) ty31 rfl rfl rfl rfl rfl) <| dl_r (sem_build (us := (cR a ++ cR b ++ cR c)) fs33 zc33 rfl rfl rfl) <| dl_st (sem_store_a ty33 rfl rfl rfl rfl rfl rfl) ?_
    refine dl_end <| dw_ret ?_
    rw [zc_f (r_ne hc1)]
    exact ⟨.inr rfl, (resL_cell (us := (cR a ++ cR b ++ cR c)) ty33 rfl rfl rfl rfl resL_nil)⟩
theorem rtScale_ok {a b c k : Rat} (ha : Rz 300 a) (hb : Rz 300 b) (hk : Rz 300 k) : Ok Tryz.prog 36 [.a (cR a ++ cR b ++ cR c), dR k] [.a (cR (a * k) ++ cR (b * k) ++ cR (zc (b * k) c))] := by
  refine Ok.of (by kernel_rfl) Tryz.func36 rfl rfl ?_
  rw [show Tryz.f36.ntmps = 16 from rfl, show Tryz.f36.results.toList = [.cell 4 33] from rfl]
  refine dw_seq <| dw_region (by kernel_rfl) <| dl_new (sem_box_a rfl rfl) rfl <| dl_new (sem_box_a rfl rfl) rfl <| dl_new (sem_alloc zc33 rfl) rfl <| dl_end <| dw_seq <| dw_draw 11 [] follows_mixed (by kernel_rfl) rfl rfl ?_
  refine dq_r (sem_field fd33_0 rfl rfl) <| dq_r (sem_load (us := cR a) ty31 rfl rfl rfl rfl rfl) <| dq_r (sem_load (us := cR k) ty31 rfl rfl rfl rfl rfl) ?_
  refine dq_r (sem_call rfl rfl (pMul_ok (by first | assumption | exact Rz.mono ha (by decide)) (by first | assumption | exact Rz.mono hk (by decide))) rfl) ?_
  refine dq_r (sem_field fd33_1 rfl rfl) <| dq_r (sem_load (us := cR b) ty31 rfl rfl rfl rfl rfl) <| dq_r (sem_load (us := cR k) ty31 rfl rfl rfl rfl rfl) ?_
  refine dq_r (sem_call rfl rfl (pMul_ok (by first | assumption | exact Rz.mono hb (by decide)) (by first | assumption | exact Rz.mono hk (by decide))) rfl) ?_
  refine dq_r (sem_field fd33_2 rfl rfl) <| dq_r (sem_load (us := cR c) ty31 rfl rfl rfl rfl rfl) <| dq_r (sem_call rfl rfl (rtReduced_ok) rfl) <| dq_end <| dl_start0 <| dl_st (sem_store_a ty33 rfl rfl rfl rfl rfl rfl) <| dl_end <| dw_ret ?_
  exact ⟨.inr rfl, (resL_cell (us := (cR (a * k) ++ cR (b * k) ++ cR (zc (b * k) c))) ty33 rfl rfl rfl rfl resL_nil)⟩
theorem rtFloor_ok {a b c : Rat} (ha : Rz 20 a) (hb : Rz 20 b) (hc : Rz 20 c) : Ok Tryz.prog 35 [.a (cR a ++ cR b ++ cR c)] [dI (flR a b c)] := by
  have hn : (a.den : Int) * ((b * b * c).den : Int) ≠ 0 := mul_ne (den_ne a) (den_ne (b * b * c))
  refine Ok.of (by kernel_rfl) Tryz.func35 rfl rfl ?_
  rw [show Tryz.f35.ntmps = 69 from rfl, show Tryz.f35.results.toList = [.cell 2 29] from rfl]
  refine dw_seq <| dw_region (by kernel_rfl) <| dl_new (sem_box_a rfl rfl) rfl <| dl_new (sem_alloc zc29 rfl) rfl <| dl_end <| dw_seq <| dw_seq <| dw_region (by kernel_rfl) ?_
  refine dl_r (sem_field fd33_1 rfl rfl) <| dl_r (sem_load (us := cR b) ty31 rfl rfl rfl rfl rfl) <| dl_r (sem_call rfl rfl (pSign_ok) rfl) <| dl_r (sem_cmp rfl rfl rfl rfl) <| dl_end ?_
  refine dw_cond rfl (fun hc1 => ?_) (fun hc1 => ?_)
  · refine dw_seq <| dw_region (by kernel_rfl) <| dl_r (sem_field fd33_0 rfl rfl) <| dl_r (sem_load (us := cR a) ty31 rfl rfl rfl rfl rfl) ?_
    refine dl_r (sem_call rfl rfl (pFloor_ok (by first | assumption | exact Rz.mono ha (by decide))) rfl) ?_
    refine dl_st (sem_store_a ty29 rfl rfl rfl rfl rfl rfl) <| dl_end <| dw_ret ?_
    rw [flR_0 (r_eq hc1)]
    exact ⟨.inr rfl, (resL_cell (us := cI (a.num.fdiv (a.den : Int))) ty29 rfl rfl rfl rfl resL_nil)⟩
  · refine dw_skip <| dw_seq <| dw_draw 9 [] follows_mixed (by kernel_rfl) rfl rfl <| dq_r (sem_field fd33_1 rfl rfl) <| dq_r (sem_load (us := cR b) ty31 rfl rfl rfl rfl rfl) <| dq_r (sem_field fd33_1 rfl rfl) <| dq_r (sem_load (us := cR b) ty31 rfl rfl rfl rfl rfl) ?_
    refine dq_r (sem_call rfl rfl (pMul_ok (by first | assumption | exact Rz.mono hb (by decide)) (by first | assumption | exact Rz.mono hb (by decide))) rfl) ?_
    refine dq_r (sem_field fd33_2 rfl rfl) <| dq_r (sem_load (us := cR c) ty31 rfl rfl rfl rfl rfl) ?_
    refine dq_r (sem_call rfl rfl (pMul_ok (by first | assumption | exact Rz.mono (Rz.mul hb hb) (by decide)) (by first | assumption | exact Rz.mono hc (by decide))) rfl) ?_
    refine dq_new (sem_alloc zc31 rfl) rfl <| dq_end <| dl_start1 <| dl_st (sem_store_a ty31 rfl rfl rfl rfl rfl rfl) <| dl_end <| dw_seq <| dw_draw 9 [4, 5] follows_mixed (by kernel_rfl) rfl rfl <| dq_r (sem_field fd33_0 rfl rfl) ?_
    refine dq_r (sem_field fd31_1 rfl rfl) <| dq_r (sem_load (us := cI (a.den : Int)) ty29 rfl rfl rfl rfl rfl) <| dq_r (sem_field fd31_1 rfl rfl) <| dq_r (sem_load (us := cI ((((b * b) * c).den : Int))) ty29 rfl rfl rfl rfl rfl) <| dq_new (sem_alloc zc29 rfl) rfl <| dq_new (sem_alloc zc29 rfl) rfl <| dq_sn (sem_store_a ty29 rfl rfl rfl rfl rfl rfl) rfl rfl rfl rfl <| dq_sn (sem_store_a ty29 rfl rfl rfl rfl rfl rfl) rfl rfl rfl rfl ?_
    refine dq_end <| dl_start4 <| dl_end <| dw_seq <| dw_draw 9 [] follows_mixed (by kernel_rfl) rfl rfl <| dq_r (sem_load (us := cI (a.den : Int)) ty29 rfl rfl rfl rfl rfl) <| dq_r (sem_load (us := cI (a.den : Int)) ty29 rfl rfl rfl rfl rfl) ?_
    refine dq_r (sem_call rfl rfl (iMul_ok (by first | assumption | exact Sz.mono (Rz.d ha) (by decide)) (by first | assumption | exact Sz.mono (Rz.d ha) (by decide))) rfl) ?_
    refine dq_r (sem_field fd31_0 rfl rfl) <| dq_r (sem_load (us := cI (((b * b) * c).num)) ty29 rfl rfl rfl rfl rfl) <| dq_r (sem_load (us := cI ((((b * b) * c).den : Int))) ty29 rfl rfl rfl rfl rfl) ?_
    refine dq_r (sem_call rfl rfl (iMul_ok (by first | assumption | exact Sz.mono (Rz.n (Rz.mul (Rz.mul hb hb) hc)) (by decide)) (by first | assumption | exact Sz.mono (Rz.d (Rz.mul (Rz.mul hb hb) hc)) (by decide))) rfl) ?_
    refine dq_r (sem_call rfl rfl (iMul_ok (by first | assumption | exact Sz.mono (Sz.mul (Rz.d ha) (Rz.d ha)) (by decide)) (by first | assumption | exact Sz.mono (Sz.mul (Rz.n (Rz.mul (Rz.mul hb hb) hc)) (Rz.d (Rz.mul (Rz.mul hb hb) hc))) (by decide))) rfl) ?_
    refine dq_new (sem_alloc zc29 rfl) rfl <| dq_end <| dl_start1 <| dl_st (sem_store_a ty29 rfl rfl rfl rfl rfl rfl) <| dl_end <| dw_seq <| dw_region (by kernel_rfl) <| dl_r (sem_load (us := cI (((a.den : Int) * (a.den : Int)) * ((((b * b) * c).num) * ((((b * b) * c).den : Int))))) ty29 rfl rfl rfl rfl rfl) ?_
    refine dl_r (sem_call rfl rfl (iSqrt_ok (by first | assumption | exact Sz.mono (Sz.mul (Sz.mul (Rz.d ha) (Rz.d ha)) (Sz.mul (Rz.n (Rz.mul (Rz.mul hb hb) hc)) (Rz.d (Rz.mul (Rz.mul hb hb) hc)))) (by decide))) rfl) ?_
    refine dl_r (sem_move rfl rfl) <| dl_r (sem_extract rfl rfl rfl) <| dl_r (sem_extract rfl rfl rfl) <| dl_new (sem_alloc zc29 rfl) rfl <| dl_st (sem_store_a ty29 rfl rfl rfl rfl rfl rfl) <| dl_r (sem_assign rfl rfl) <| dl_end <| dw_seq ?_
    refine dw_seq <| dw_region (by kernel_rfl) <| dl_r (sem_field fd33_1 rfl rfl) <| dl_r (sem_load (us := cR b) ty31 rfl rfl rfl rfl rfl) <| dl_r (sem_call rfl rfl (pSign_ok) rfl) <| dl_r (sem_cmp rfl rfl rfl rfl) <| dl_end ?_
    refine dw_cond rfl (fun hc2 => ?_) (fun hc2 => ?_)
    · -- region 8
      refine dw_draw 4 [] follows_mixed (by kernel_rfl) rfl rfl <| dq_r (sem_load (us := cI (isqI (((a.den : Int) * (a.den : Int)) * ((((b * b) * c).num) * ((((b * b) * c).den : Int)))))) ty29 rfl rfl rfl rfl rfl) <| dq_r (sem_call rfl rfl (iFrom_ok (by omega) (by omega)) rfl) ?_
      refine dq_r (sem_call rfl rfl (iAdd_ok (by first | assumption | exact Sz.mono (Sz.isq (Sz.mul (Sz.mul (Rz.d ha) (Rz.d ha)) (Sz.mul (Rz.n (Rz.mul (Rz.mul hb hb) hc)) (Rz.d (Rz.mul (Rz.mul hb hb) hc))))) (by decide)) (by first | assumption | exact Sz.mono (Sz.small (k := 3) (by decide) (by decide) (by decide)) (by decide))) rfl) ?_
      refine dq_r (sem_call rfl rfl (iNeg_ok (by first | assumption | exact Sz.mono (Sz.addm (Sz.isq (Sz.mul (Sz.mul (Rz.d ha) (Rz.d ha)) (Sz.mul (Rz.n (Rz.mul (Rz.mul hb hb) hc)) (Rz.d (Rz.mul (Rz.mul hb hb) hc))))) (Sz.small (k := 3) (by decide) (by decide) (by decide))) (by decide))) rfl) ?_
      refine dq_end <| dl_start0 <| dl_st (sem_store_a ty29 rfl rfl rfl rfl rfl rfl) <| dl_end <| dw_seq <| dw_draw 20 [9, 10] follows_mixed (by kernel_rfl) rfl rfl <| dq_r (sem_field fd33_0 rfl rfl) <| dq_r (sem_field fd31_0 rfl rfl) ?_
      refine dq_r (sem_load (us := cI a.num) ty29 rfl rfl rfl rfl rfl) <| dq_r (sem_load (us := cI ((((b * b) * c).den : Int))) ty29 rfl rfl rfl rfl rfl) ?_
      refine dq_r (sem_call rfl rfl (iMul_ok (by first | assumption | exact Sz.mono (Rz.n ha) (by decide)) (by first | assumption | exact Sz.mono (Rz.d (Rz.mul (Rz.mul hb hb) hc)) (by decide))) rfl) ?_
      refine dq_r (sem_load (us := cI (-((isqI (((a.den : Int) * (a.den : Int)) * ((((b * b) * c).num) * ((((b * b) * c).den : Int))))) + 1))) ty29 rfl rfl rfl rfl rfl) ?_
      refine dq_r (sem_call rfl rfl (iAdd_ok (by first | assumption | exact Sz.mono (Sz.mul (Rz.n ha) (Rz.d (Rz.mul (Rz.mul hb hb) hc))) (by decide)) (by first | assumption | exact Sz.mono (Sz.neg (Sz.addm (Sz.isq (Sz.mul (Sz.mul (Rz.d ha) (Rz.d ha)) (Sz.mul (Rz.n (Rz.mul (Rz.mul hb hb) hc)) (Rz.d (Rz.mul (Rz.mul hb hb) hc))))) (Sz.small (k := 3) (by decide) (by decide) (by decide)))) (by decide))) rfl) ?_
      refine dq_r (sem_load (us := cI (a.den : Int)) ty29 rfl rfl rfl rfl rfl) <| dq_r (sem_load (us := cI ((((b * b) * c).den : Int))) ty29 rfl rfl rfl rfl rfl) ?_
      refine dq_r (sem_call rfl rfl (iMul_ok (by first | assumption | exact Sz.mono (Rz.d ha) (by decide)) (by first | assumption | exact Sz.mono (Rz.d (Rz.mul (Rz.mul hb hb) hc)) (by decide))) rfl) ?_
      refine dq_r (sem_call rfl rfl (iDivMod_ok (by first | assumption | exact Sz.mono (Sz.addm (Sz.mul (Rz.n ha) (Rz.d (Rz.mul (Rz.mul hb hb) hc))) (Sz.neg (Sz.addm (Sz.isq (Sz.mul (Sz.mul (Rz.d ha) (Rz.d ha)) (Sz.mul (Rz.n (Rz.mul (Rz.mul hb hb) hc)) (Rz.d (Rz.mul (Rz.mul hb hb) hc))))) (Sz.small (k := 3) (by decide) (by decide) (by decide))))) (by decide)) (by first | assumption | exact Sz.mono (Sz.mul (Rz.d ha) (Rz.d (Rz.mul (Rz.mul hb hb) hc))) (by decide)) (by assumption)) rfl) ?_
      refine dq_r (sem_move rfl rfl) <| dq_r (sem_extract rfl rfl rfl) <| dq_r (sem_extract rfl rfl rfl) <| dq_r (sem_extract rfl rfl rfl) <| dq_new (sem_alloc zc29 rfl) rfl <| dq_new (sem_alloc zc29 rfl) rfl <| dq_sn (sem_store_a ty29 rfl rfl rfl rfl rfl rfl) rfl rfl rfl rfl <| dq_sn (sem_store_a ty29 rfl rfl rfl rfl rfl rfl) rfl rfl rfl rfl ?_
      refine dq_r (sem_assign rfl rfl) <| dq_end <| dl_start4 <| dl_end <| dw_seq <| dw_region (by kernel_rfl) <| dl_r (sem_load (us := cI (((a.num * ((((b * b) * c).den : Int))) + (-((isqI (((a.den : Int) * (a.den : Int)) * ((((b * b) * c).num) * ((((b * b) * c).den : Int))))) + 1))).fdiv ((a.den : Int) * ((((b * b) * c).den : Int))))) ty29 rfl rfl rfl rfl rfl) <| dl_st (sem_store_a ty29 rfl rfl rfl rfl rfl rfl) ?_
      refine dl_end <| dw_ret ?_
      rw [flR_n (r_ne hc1) (r_lt hc2)]
      exact ⟨.inr rfl, (resL_cell (us := cI (((a.num * ((((b * b) * c).den : Int))) + (-((isqI (((a.den : Int) * (a.den : Int)) * ((((b * b) * c).num) * ((((b * b) * c).den : Int))))) + 1))).fdiv ((a.den : Int) * ((((b * b) * c).den : Int))))) ty29 rfl rfl rfl rfl resL_nil)⟩
    · refine dw_skip <| dw_seq <| dw_draw 20 [9, 10] follows_mixed (by kernel_rfl) rfl rfl <| dq_r (sem_field fd33_0 rfl rfl) <| dq_r (sem_field fd31_0 rfl rfl) <| dq_r (sem_load (us := cI a.num) ty29 rfl rfl rfl rfl rfl) <| dq_r (sem_load (us := cI ((((b * b) * c).den : Int))) ty29 rfl rfl rfl rfl rfl) ?_
      refine dq_r (sem_call rfl rfl (iMul_ok (by first | assumption | exact Sz.mono (Rz.n ha) (by decide)) (by first | assumption | exact Sz.mono (Rz.d (Rz.mul (Rz.mul hb hb) hc)) (by decide))) rfl) ?_
      refine dq_r (sem_load (us := cI (isqI (((a.den : Int) * (a.den : Int)) * ((((b * b) * c).num) * ((((b * b) * c).den : Int)))))) ty29 rfl rfl rfl rfl rfl) ?_
      refine dq_r (sem_call rfl rfl (iAdd_ok (by first | assumption | exact Sz.mono (Sz.mul (Rz.n ha) (Rz.d (Rz.mul (Rz.mul hb hb) hc))) (by decide)) (by first | assumption | exact Sz.mono (Sz.isq (Sz.mul (Sz.mul (Rz.d ha) (Rz.d ha)) (Sz.mul (Rz.n (Rz.mul (Rz.mul hb hb) hc)) (Rz.d (Rz.mul (Rz.mul hb hb) hc))))) (by decide))) rfl) ?_
      refine dq_r (sem_load (us := cI (a.den : Int)) ty29 rfl rfl rfl rfl rfl) <| dq_r (sem_load (us := cI ((((b * b) * c).den : Int))) ty29 rfl rfl rfl rfl rfl) ?_
      refine dq_r (sem_call rfl rfl (iMul_ok (by first | assumption | exact Sz.mono (Rz.d ha) (by decide)) (by first | assumption | exact Sz.mono (Rz.d (Rz.mul (Rz.mul hb hb) hc)) (by decide))) rfl) ?_
      refine dq_r (sem_call rfl rfl (iDivMod_ok (by first | assumption | exact Sz.mono (Sz.addm (Sz.mul (Rz.n ha) (Rz.d (Rz.mul (Rz.mul hb hb) hc))) (Sz.isq (Sz.mul (Sz.mul (Rz.d ha) (Rz.d ha)) (Sz.mul (Rz.n (Rz.mul (Rz.mul hb hb) hc)) (Rz.d (Rz.mul (Rz.mul hb hb) hc)))))) (by decide)) (by first | assumption | exact Sz.mono (Sz.mul (Rz.d ha) (Rz.d (Rz.mul (Rz.mul hb hb) hc))) (by decide)) (by assumption)) rfl) ?_
      refine dq_r (sem_move rfl rfl) <| dq_r (sem_extract rfl rfl rfl) <| dq_r (sem_extract rfl rfl rfl) <| dq_r (sem_extract rfl rfl rfl) <| dq_new (sem_alloc zc29 rfl) rfl <| dq_new (sem_alloc zc29 rfl) rfl <| dq_sn (sem_store_a ty29 rfl rfl rfl rfl rfl rfl) rfl rfl rfl rfl <| dq_sn (sem_store_a ty29 rfl rfl rfl rfl rfl rfl) rfl rfl rfl rfl ?_
      refine dq_r (sem_assign rfl rfl) <| dq_end <| dl_start4 <| dl_end <| dw_seq <| dw_region (by kernel_rfl) <| dl_r (sem_load (us := cI (((a.num * ((((b * b) * c).den : Int))) + (isqI (((a.den : Int) * (a.den : Int)) * ((((b * b) * c).num) * ((((b * b) * c).den : Int)))))).fdiv ((a.den : Int) * ((((b * b) * c).den : Int))))) ty29 rfl rfl rfl rfl rfl) <| dl_st (sem_store_a ty29 rfl rfl rfl rfl rfl rfl) ?_
      refine dl_end <| dw_ret ?_
      rw [flR_p (r_ne hc1) (r_nlt hc2)]
      exact ⟨.inr rfl, (resL_cell (us := cI (((a.num * ((((b * b) * c).den : Int))) + (isqI (((a.den : Int) * (a.den : Int)) * ((((b * b) * c).num) * ((((b * b) * c).den : Int)))))).fdiv ((a.den : Int) * ((((b * b) * c).den : Int))))) ty29 rfl rfl rfl rfl resL_nil)⟩
theorem rtFromRat_ok {a : Rat} : Ok Tryz.prog 32 [dR a] [.a (cR a ++ cR 0 ++ cR 0)] := by
  refine Ok.of (by kernel_rfl) Tryz.func32 rfl rfl ?_
  rw [show Tryz.f32.ntmps = 7 from rfl, show Tryz.f32.results.toList = [.cell 2 33] from rfl]
  refine dw_seq <| dw_region (by kernel_rfl) <| dl_new (sem_box_a rfl rfl) rfl <| dl_new (sem_alloc zc33 rfl) rfl <| dl_end <| dw_seq <| dw_draw 4 [] follows_mixed (by kernel_rfl) rfl rfl <| dq_r (sem_load (us := cR a) ty31 rfl rfl rfl rfl rfl) ?_
  refine dq_r (sem_call rfl rfl (rtZero_ok) rfl) <| dq_r (sem_call rfl rfl (rtZero_ok) rfl) <| dq_r (sem_build (us := (cR a ++ cR 0 ++ cR 0)) fs33 zc33 rfl rfl rfl) <| dq_end <| dl_start0 <| dl_st (sem_store_a ty33 rfl rfl rfl rfl rfl rfl) <| dl_end <| dw_ret ?_
  exact ⟨.inr rfl, (resL_cell (us := (cR a ++ cR 0 ++ cR 0)) ty33 rfl rfl rfl rfl resL_nil)⟩
theorem rtNeg_ok {a b c : Rat} (ha : Rz 300 a) (hb : Rz 300 b) : Ok Tryz.prog 38 [.a (cR a ++ cR b ++ cR c)] [.a (cR (-a) ++ cR (-b) ++ cR c)] := by
  refine Ok.of (by kernel_rfl) Tryz.func38 rfl rfl ?_
  rw [show Tryz.f38.ntmps = 12 from rfl, show Tryz.f38.results.toList = [.cell 2 33] from rfl]
  refine dw_seq <| dw_region (by kernel_rfl) <| dl_new (sem_box_a rfl rfl) rfl <| dl_new (sem_alloc zc33 rfl) rfl <| dl_end <| dw_seq <| dw_draw 9 [] follows_mixed (by kernel_rfl) rfl rfl <| dq_r (sem_field fd33_0 rfl rfl) ?_
  refine dq_r (sem_load (us := cR a) ty31 rfl rfl rfl rfl rfl) ?_
  refine dq_r (sem_call rfl rfl (pNeg_ok (by first | assumption | exact Rz.mono ha (by decide))) rfl) ?_
  refine dq_r (sem_field fd33_1 rfl rfl) <| dq_r (sem_load (us := cR b) ty31 rfl rfl rfl rfl rfl) ?_
  refine dq_r (sem_call rfl rfl (pNeg_ok (by first | assumption | exact Rz.mono hb (by decide))) rfl) ?_
  refine dq_r (sem_field fd33_2 rfl rfl) <| dq_r (sem_load (us := cR c) ty31 rfl rfl rfl rfl rfl) <| dq_r (sem_build (us := (cR (-a) ++ cR (-b) ++ cR c)) fs33 zc33 rfl rfl rfl) <| dq_end <| dl_start0 <| dl_st (sem_store_a ty33 rfl rfl rfl rfl rfl rfl) <| dl_end <| dw_ret ?_
  exact ⟨.inr rfl, (resL_cell (us := (cR (-a) ++ cR (-b) ++ cR c)) ty33 rfl rfl rfl rfl resL_nil)⟩
theorem rtNorm_ok {a b c : Rat} (ha : Rz 50 a) (hb : Rz 50 b) (hc : Rz 50 c) : Ok Tryz.prog 33 [.a (cR a ++ cR b ++ cR c)] [dR (a * a - b * b * c)] := by
  refine Ok.of (by kernel_rfl) Tryz.func33 rfl rfl ?_
  rw [show Tryz.f33.ntmps = 17 from rfl, show Tryz.f33.results.toList = [.cell 2 31] from rfl]
  refine dw_seq <| dw_region (by kernel_rfl) <| dl_new (sem_box_a rfl rfl) rfl <| dl_new (sem_alloc zc31 rfl) rfl <| dl_end <| dw_seq <| dw_draw 14 [] follows_mixed (by kernel_rfl) rfl rfl <| dq_r (sem_field fd33_0 rfl rfl) ?_
  refine dq_r (sem_load (us := cR a) ty31 rfl rfl rfl rfl rfl) <| dq_r (sem_field fd33_0 rfl rfl) <| dq_r (sem_load (us := cR a) ty31 rfl rfl rfl rfl rfl) ?_
  refine dq_r (sem_call rfl rfl (pMul_ok (by first | assumption | exact Rz.mono ha (by decide)) (by first | assumption | exact Rz.mono ha (by decide))) rfl) ?_
  refine dq_r (sem_field fd33_1 rfl rfl) <| dq_r (sem_load (us := cR b) ty31 rfl rfl rfl rfl rfl) <| dq_r (sem_field fd33_1 rfl rfl) <| dq_r (sem_load (us := cR b) ty31 rfl rfl rfl rfl rfl) ?_
  refine dq_r (sem_call rfl rfl (pMul_ok (by first | assumption | exact Rz.mono hb (by decide)) (by first | assumption | exact Rz.mono hb (by decide))) rfl) ?_
  refine dq_r (sem_field fd33_2 rfl rfl) <| dq_r (sem_load (us := cR c) ty31 rfl rfl rfl rfl rfl) ?_
  refine dq_r (sem_call rfl rfl (pMul_ok (by first | assumption | exact Rz.mono (Rz.mul hb hb) (by decide)) (by first | assumption | exact Rz.mono hc (by decide))) rfl) ?_
  refine dq_r (sem_call rfl rfl (pSub_ok (by first | assumption | exact Rz.mono (Rz.mul ha ha) (by decide)) (by first | assumption | exact Rz.mono (Rz.mul (Rz.mul hb hb) hc) (by decide))) rfl) ?_
  refine dq_end <| dl_start0 <| dl_st (sem_store_a ty31 rfl rfl rfl rfl rfl rfl) <| dl_end <| dw_ret ?_
  exact ⟨.inr rfl, (resL_cell (us := cR ((a * a) - ((b * b) * c))) ty31 rfl rfl rfl rfl resL_nil)⟩
theorem rtSign_ok {a b c : Rat} (ha : Rz 50 a) (hb : Rz 50 b) (hc : Rz 50 c) : Ok Tryz.prog 10 [.a (cR a ++ cR b ++ cR c)] [.c (.i .i64 (rtSg a b c))] := by
  have hp := prod_bd (cmpR_bd a 0) (cmpR_bd (a * a - b * b * c) 0)
  refine Ok.of (by kernel_rfl) Tryz.func10 rfl rfl ?_
  rw [show Tryz.f10.ntmps = 29 from rfl, show Tryz.f10.results.toList = [.tmp 2] from rfl]
  refine dw_seq <| dw_region (by kernel_rfl) <| dl_new (sem_box_a rfl rfl) rfl <| dl_r (sem_assign rfl rfl) <| dl_end <| dw_seq <| dw_draw 8 [] follows_mixed (by kernel_rfl) rfl rfl <| dq_r (sem_field fd33_0 rfl rfl) ?_
  refine dq_r (sem_load (us := cR a) ty31 rfl rfl rfl rfl rfl) <| dq_r (sem_call rfl rfl (pSign_ok) rfl) <| dq_r (sem_field fd33_1 rfl rfl) <| dq_r (sem_load (us := cR b) ty31 rfl rfl rfl rfl rfl) <| dq_r (sem_call rfl rfl (pSign_ok) rfl) <| dq_r (sem_assign rfl rfl) <| dq_r (sem_assign rfl rfl) <| dq_end ?_
  refine dl_start0 <| dl_end <| dw_seq <| dw_block <| dw_seq <| dw_region (by kernel_rfl) <| dl_r (sem_move rfl rfl) <| dl_r (sem_cmp rfl rfl rfl rfl) ?_
  refine dl_rb (sem_move rfl rfl) (fun c1 hb1 => ?_)
  cases c1
  · refine dl_r (sem_move rfl rfl) <| dl_r (sem_move rfl rfl) <| dl_r (sem_cmp rfl rfl rfl rfl) <| dl_r (sem_pick rfl rfl rfl rfl) <| dl_r (sem_assign rfl rfl) <| dl_end ?_
    refine dw_cond rfl (fun hc2 => ?_) (fun hc2 => ?_)
    · refine dw_seq <| dw_region (by kernel_rfl) <| dl_r (sem_move rfl rfl) <| dl_r (sem_assign rfl rfl) <| dl_end <| dw_ret ?_
      rw [rtSg_e hc2]
      exact ⟨.inr rfl, (resL_tmp rfl resL_nil)⟩
    · refine dw_seq <| dw_region (by kernel_rfl) <| dl_r (sem_move rfl rfl) <| dl_r (sem_cmp rfl rfl rfl rfl) <| dl_r (sem_assign rfl rfl) <| dl_end ?_
      refine dw_cond rfl (fun hc3 => ?_) (fun hc3 => ?_)
      · refine dw_seq <| dw_region (by kernel_rfl) <| dl_r (sem_move rfl rfl) <| dl_r (sem_assign rfl rfl) <| dl_end <| dw_ret ?_
        rw [rtSg_z hb1 hc2 hc3]
        exact ⟨.inr rfl, (resL_tmp rfl resL_nil)⟩
      · refine dw_skip <| dw_seq <| dw_region (by kernel_rfl) <| dl_r (sem_move rfl rfl) <| dl_r (sem_load (us := (cR a ++ cR b ++ cR c)) ty33 rfl rfl rfl rfl rfl) <| dl_r (sem_call rfl rfl (rtNorm_ok (by assumption) (by assumption) (by assumption)) rfl) <| dl_r (sem_call rfl rfl (pSign_ok) rfl) <| dl_r (sem_ari (r := (cmpR a 0) * (cmpR (a * a - b * b * c) 0)) rfl rfl (ari_i64_mul (by omega) (by omega)) rfl) ?_
        refine dl_r (sem_assign rfl rfl) <| dl_end <| dw_ret ?_
        rw [rtSg_n hb1 hc2 hc3]
        exact ⟨.inr rfl, (resL_tmp rfl resL_nil)⟩
  · refine dl_skip (sem_skip rfl) <| dl_skip (sem_skip rfl) <| dl_skip (sem_skip rfl) <| dl_r (sem_pick rfl rfl rfl rfl) <| dl_r (sem_assign rfl rfl) <| dl_end <| dw_true rfl <| dw_seq ?_
    refine dw_region (by kernel_rfl) <| dl_r (sem_move rfl rfl) <| dl_r (sem_assign rfl rfl) <| dl_end <| dw_ret ?_
    rw [rtSg_0 hb1]
    exact ⟨.inr rfl, (resL_tmp rfl resL_nil)⟩
theorem xCmpRat_ok {a b c d : Rat} (ha : Rz 100 a) (hb : Rz 8 b) (hc : Rz 8 c) (hd : Rz 100 d) (h1 : Rz 8 (a - d)) (c0 : 0 ≤ c) : Ok Tryz.prog 8 [.a (cR a ++ cR b ++ cR c), dR d] [.c (.i .i64 (signQ (a - d) b (-0) 0 c 0))] := by
  have z0 : Rz 8 (0 : Rat) := Rz.zero (by decide)
  refine Ok.of (by kernel_rfl) Tryz.func8 rfl rfl ?_
  rw [show Tryz.f8.ntmps = 9 from rfl, show Tryz.f8.results.toList = [.tmp 4] from rfl]
  refine dw_seq <| dw_region (by kernel_rfl) <| dl_new (sem_box_a rfl rfl) rfl <| dl_new (sem_box_a rfl rfl) rfl <| dl_r (sem_assign rfl rfl) <| dl_end <| dw_seq <| dw_draw 5 [] follows_mixed (by kernel_rfl) rfl rfl ?_
  refine dq_r (sem_load (us := (cR a ++ cR b ++ cR c)) ty33 rfl rfl rfl rfl rfl) <| dq_r (sem_load (us := cR d) ty31 rfl rfl rfl rfl rfl) <| dq_r (sem_call rfl rfl (rtFromRat_ok) rfl) <| dq_r (sem_call rfl rfl (xCmpQ_ok (by assumption) (by assumption) (by assumption) (by assumption) z0 z0 h1 c0 Rat.le_refl) rfl) <| dq_r (sem_assign rfl rfl) <| dq_end <| dl_start0 <| dl_end ?_
  refine dw_ret ?_
  exact ⟨.inr rfl, (resL_tmp rfl resL_nil)⟩
end Go.Proofs.YthhhlpdbainlaaaGreat
