/- Plain: small raw points and vectors are numbers. -/
import Derived.Test.YthpalcfhhicmgaaGreatPvB
namespace Go.Proofs.YthpalcfhhicmgaaGreat
open Go Go.RowKit
theorem p3_of {x1 x2 x3 x4 x5 : RN} (w1 : x1.Wf) (w2 : x2.Wf) (w3 : x3.Wf) (w4 : x4.Wf) (w5 : x5.Wf) (h : (x1.s 3 && (x2.s 3 && (x3.s 3 && (x4.s 3 && x5.s 3)))) = true) :
    ∃ a1 b1 a2 b2 c : Rat, Rz 3 a1 ∧ Rz 3 b1 ∧ Rz 3 a2 ∧ Rz 3 b2 ∧ Rz 3 c ∧ (cN x1 ++ cN x2 ++ cN x3 ++ cN x4 ++ cN x5) = (cR a1 ++ cR b1 ++ cR a2 ++ cR b2 ++ cR c) := by
  simp only [Bool.and_eq_true] at h
  obtain ⟨a1, h1, e1⟩ := s3_of w1 h.1
  obtain ⟨b1, h2, e2⟩ := s3_of w2 h.2.1
  obtain ⟨a2, h3, e3⟩ := s3_of w3 h.2.2.1
  obtain ⟨b2, h4, e4⟩ := s3_of w4 h.2.2.2.1
  obtain ⟨c, h5, e5⟩ := s3_of w5 h.2.2.2.2
  exact ⟨a1, b1, a2, b2, c, h1, h2, h3, h4, h5, by rw [e1, e2, e3, e4, e5]⟩
theorem v3_of {v w : RN} (wv : v.Wf) (ww : w.Wf) (h : (v.s 3 && w.s 3) = true) : ∃ d e : Rat, Rz 3 d ∧ Rz 3 e ∧ (cN v ++ cN w) = (cR d ++ cR e) := by
  simp only [Bool.and_eq_true] at h
  obtain ⟨d, h1, e1⟩ := s3_of wv h.1
  obtain ⟨e, h2, e2⟩ := s3_of ww h.2
  exact ⟨d, e, h1, h2, by rw [e1, e2]⟩
end Go.Proofs.YthpalcfhhicmgaaGreat
/- PointValid: for every input the law returns true, and each argument reads behind the call as it read before. No condition. -/
namespace Go.Proofs.YthpalcfhhicmgaaGreat
open Go.ChangeShapes Go.WideShapes Go.ChangeAt Go.RowKit
theorem law_valid {x1 x2 x3 x4 x5 : RN} (w1 : x1.Wf) (w2 : x2.Wf) (w3 : x3.Wf) (w4 : x4.Wf) (w5 : x5.Wf) :
    Ok Tryz.prog 9 [.a (cN x1 ++ cN x2 ++ cN x3 ++ cN x4 ++ cN x5)] [.c (.b true)] := by
  by_cases s1 : x1.x1.length ≤ 3 ∧ x1.x2.length ≤ 3
  case neg => exact lwVa_0 w1 w2 w3 w4 w5 s1
  by_cases s2 : x2.x1.length ≤ 3 ∧ x2.x2.length ≤ 3
  case neg => exact lwVa_1 w1 w2 w3 w4 w5 s1 s2
  by_cases s3 : x3.x1.length ≤ 3 ∧ x3.x2.length ≤ 3
  case neg => exact lwVa_2 w1 w2 w3 w4 w5 s1 s2 s3
  by_cases s4 : x4.x1.length ≤ 3 ∧ x4.x2.length ≤ 3
  case neg => exact lwVa_3 w1 w2 w3 w4 w5 s1 s2 s3 s4
  by_cases s5 : x5.x1.length ≤ 3 ∧ x5.x2.length ≤ 3
  case neg => exact lwVa_4 w1 w2 w3 w4 w5 s1 s2 s3 s4 s5
  have fin : ∀ {β : Bool}, Ok Tryz.prog 40 [.a (cN x1 ++ cN x2 ++ cN x3 ++ cN x4 ++ cN x5)] [.c (.b β)] → Ok Tryz.prog 41 [.a (cN x1 ++ cN x2 ++ cN x3 ++ cN x4 ++ cN x5)] [.c (.b β)] →
      Ok Tryz.prog 9 [.a (cN x1 ++ cN x2 ++ cN x3 ++ cN x4 ++ cN x5)] [.c (.b true)] := fun {β} oP oR => rcastb (lwVa_F w1 w2 w3 w4 w5 s1 s2 s3 s4 s5 oP oR) (by cases β <;> rfl)
  cases v1 : x1.v with
  | false => exact fin (ptVbad_0 w1 w2 w3 w4 w5 s1.1 s1.2 v1) (rpVbad_0 w1 w2 w3 w4 w5 s1.1 s1.2 v1)
  | true =>
  cases v2 : x2.v with
  | false =>
    refine fin (ptVbad_1 w1 w2 w3 w4 w5 s1.1 s1.2 s2.1 s2.2 v1 v2) ?_
    cases v3 : x3.v with
    | false => exact rpVbad_1 w1 w2 w3 w4 w5 s1.1 s1.2 s3.1 s3.2 v1 v3
    | true => exact rpVbad_2 w1 w2 w3 w4 w5 s1.1 s1.2 s3.1 s3.2 s2.1 s2.2 v1 v3 v2
  | true =>
  cases v3 : x3.v with
  | false => exact fin (ptVbad_2 w1 w2 w3 w4 w5 s1.1 s1.2 s2.1 s2.2 s3.1 s3.2 v1 v2 v3) (rpVbad_1 w1 w2 w3 w4 w5 s1.1 s1.2 s3.1 s3.2 v1 v3)
  | true =>
  cases v4 : x4.v with
  | false => exact fin (ptVbad_3 w1 w2 w3 w4 w5 s1.1 s1.2 s2.1 s2.2 s3.1 s3.2 s4.1 s4.2 v1 v2 v3 v4) (rpVbad_3 w1 w2 w3 w4 w5 s1.1 s1.2 s3.1 s3.2 s2.1 s2.2 s4.1 s4.2 v1 v3 v2 v4)
  | true =>
  cases v5 : x5.v with
  | false => exact fin (ptVbad_4 w1 w2 w3 w4 w5 s1.1 s1.2 s2.1 s2.2 s3.1 s3.2 s4.1 s4.2 s5.1 s5.2 v1 v2 v3 v4 v5) (rpVbad_4 w1 w2 w3 w4 w5 s1.1 s1.2 s3.1 s3.2 s2.1 s2.2 s4.1 s4.2 s5.1 s5.2 v1 v3 v2 v4 v5)
  | true =>
    have sm : ∀ r : RN, r.x1.length ≤ 3 ∧ r.x2.length ≤ 3 → r.v = true → r.s 3 = true := by
      intro r h h2
      unfold RN.s
      rw [h2, decide_eq_true (show (r.x1.length : Int) ≤ 3 by omega), decide_eq_true (show (r.x2.length : Int) ≤ 3 by omega)]; rfl
    obtain ⟨a1, b1, a2, b2, c, g1, g2, g3, g4, g5, e⟩ := p3_of w1 w2 w3 w4 w5 (by rw [sm _ s1 v1, sm _ s2 v2, sm _ s3 v3, sm _ s4 v4, sm _ s5 v5]; rfl)
    refine fin (β := vPt b1 b2 c) ?_ ?_
    · rw [e]; exact ptValid_R (g1.mono (by decide)) (g2.mono (by decide)) (g3.mono (by decide)) (g4.mono (by decide)) (g5.mono (by decide))
    · rw [e]; exact rpValid_R (g1.mono (by decide)) (g2.mono (by decide)) (g3.mono (by decide)) (g4.mono (by decide)) (g5.mono (by decide))
set_option maxRecDepth 100000 in
theorem valid_lifted (os : Os) (started : os.Started) (H : Type) (enc : TypeId × Value → H) :
    ReturnsInHanded {} Tryz.checked os 9 .any (Rows.pointValidSpec.pre6 enc Tryz.prog Tryz.f9 Rows.pointValidRow.domain false) (Rows.pointValidSpec.post enc Tryz.prog Tryz.f9 false true false false) := by
  refine returnsInHanded_of_change (C := Tryz.checked) own started (by kernel_rfl) Tryz.func9
    (ChangeSpec.witness6 (enc := enc) (C := Tryz.checked) false ⟨#[], #[.agg (Array.replicate 10 #[Value.bool false, .slice none 0 0]).flatten], []⟩ 8 (by kernel_rfl) (by kernel_rfl) (by kernel_rfl) (by kernel_rfl)) ?_
  intro W base args ds gs before hval0 hW hcnd _
  have hval : ∀ (j : Nat) t v, Tryz.f9.params[j]? = some t → args[j]? = some v → Value.okWide Tryz.prog W .any base t v := hval0
  have hW' := hW
  obtain ⟨p, q, hA0, hV, rfl, hfz, hnd⟩ := hW
  have hA : DataW.TrodAll enc Tryz.prog W 0 (fun _ => true) true Tryz.f9.params.toList args.toList ds p := hA0
  rw [Tryz.params9] at hA hval
  obtain ⟨v0, vs0, d0, ds0, p0, q0, hargs, rfl, rfl, h0, r0⟩ := trodAll_cons hA
  obtain ⟨rfl, rfl, rfl⟩ := trodAll_nil r0
  obtain rfl : args = #[v0] := by cases args; simp_all
  obtain ⟨rfl, rfl⟩ := trodVars_none hV
  obtain ⟨a0, rfl, _⟩ := okWide_struct Tryz.underlying32 (hval 0 32 v0 rfl rfl)
  have k0 := h0
  have lt0 : ∀ x ∈ p0, x.block < W.heap.size := by obtain ⟨m, hm⟩ := k0; exact DataW.trod_lt m _ _ _ hm
  obtain ⟨e00, e01, e02, e03, e04, w00, w01, w02, w03, w04, hr0⟩ := point_of (show DataW.trod enc Tryz.prog W 0 _ _ h0.choose 32 a0.toList = some _ from h0.choose_spec)
  clear hA0 hval0
  refine (law_of (law_valid w00 w01 w02 w03 w04) (RdL.cons ⟨a0, rfl, hr0⟩ RdL.nil)).mono fun e W' ⟨he, bel⟩ => ?_
  subst he
  exact ⟨_, rfl, _, _, _, [], _, [], hW', trodAll_mk1 (shut_bool Tryz.underlying4 _), (trodAll_cons_mk (Below.trod laidOut (by kernel_rfl) (of_decide_eq_true (by kernel_rfl)) k0 bel lt0) trodAll_mk0), rfl, bel.frame _, fun h => by cases h⟩
theorem valid_proved : Rows.PointValidSaid :=
  OpenClaim.holds_of_wide 9 Tryz.f9 rfl rfl rfl rfl rfl rfl rfl ⟨rfl, rfl, rfl, rfl, rfl⟩ rfl rfl rfl rfl rfl (by kernel_rfl) Tryz.func9 (by kernel_rfl)
    (of_decide_eq_true (by kernel_rfl)) (by unfold Func.isWrapper; first | (rw [if_pos (by decide +kernel)]; kernel_rfl) | (rw [if_neg (by decide +kernel)]; exact ⟨rfl, rfl⟩))
    (fun os started H enc _ => valid_lifted os started H enc)
end Go.Proofs.YthpalcfhhicmgaaGreat
