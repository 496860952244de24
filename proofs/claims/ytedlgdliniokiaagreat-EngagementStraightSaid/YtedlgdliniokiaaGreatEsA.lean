/- EngagementStraight: for every input the law returns true, and each argument reads behind the call as it read before. No condition. -/
import Derived.Test.YtedlgdliniokiaaGreatEaQ
namespace Go.Proofs.YtedlgdliniokiaaGreat
open Go.ChangeShapes Go.WideShapes Go.ChangeAt Go.RowKit
theorem law_straight32 {u r c : Int} (u0 : -32768 ≤ u) (u1 : u ≤ 32767) (r0 : -32768 ≤ r) (r1 : r ≤ 32767) (c0 : -128 ≤ c) (c1 : c ≤ 127) : Ok Tryz.prog 5 [.c (.i .i16 u), .c (.i .i16 r), .c (.i .i8 c)] [.c (.b true)] := by
  cases hd : strB (Rat.divInt u 100) (Rat.divInt r 100) with
  | false =>
    cases hw : widB (Rat.divInt r 100) (Rat.divInt c 16) with
    | false => exact lSt_no_no u0 u1 r0 r1 c0 c1 awake32_ok hd hw
    | true => exact lSt_no_yes u0 u1 r0 r1 c0 c1 awake32_ok hd hw
  | true =>
    cases hw : widB (Rat.divInt r 100) (Rat.divInt c 16) with
    | false => exact lSt_yes_no u0 u1 r0 r1 c0 c1 awake32_ok hd hw
    | true => exact lSt_yes_yes u0 u1 r0 r1 c0 c1 awake32_ok hd hw
set_option maxRecDepth 100000 in
theorem straight32_lifted (os : Os) (started : os.Started) (H : Type) (enc : TypeId × Value → H) :
    ReturnsInHanded {} Tryz.checked os 5 .any (Rows.engagementStraightSpec.pre6 enc Tryz.prog Tryz.f5 Rows.engagementStraightRow.domain false) (Rows.engagementStraightSpec.post enc Tryz.prog Tryz.f5 false true false false) := by
  refine returnsInHanded_of_change (C := Tryz.checked) own started (by kernel_rfl) Tryz.func5
    (ChangeSpec.witness6 (enc := enc) (C := Tryz.checked) false ⟨#[], #[.int .i16 0, .int .i16 0, .int .i8 0], []⟩ 8 (by kernel_rfl) (by kernel_rfl) (by kernel_rfl) (by kernel_rfl)) ?_
  intro W base args ds gs before hval0 hW hcnd _
  have hval : ∀ (j : Nat) t v, Tryz.f5.params[j]? = some t → args[j]? = some v → Value.okWide Tryz.prog W .any base t v := hval0
  have hW' := hW
  obtain ⟨p, q, hA0, hV, rfl, hfz, hnd⟩ := hW
  have hA : DataW.TrodAll enc Tryz.prog W 0 (fun _ => true) true Tryz.f5.params.toList args.toList ds p := hA0
  rw [Tryz.params5] at hA hval
  obtain ⟨v0, vs0, d0, ds0, p0, q0, hargs, rfl, rfl, h0, r0⟩ := trodAll_cons hA
  obtain ⟨v1, vs1, d1, ds1, p1, q1, rfl, rfl, rfl, h1, r1⟩ := trodAll_cons r0
  obtain ⟨v2, vs2, d2, ds2, p2, q2, rfl, rfl, rfl, h2, r2⟩ := trodAll_cons r1
  obtain ⟨rfl, rfl, rfl⟩ := trodAll_nil r2
  obtain rfl : args = #[v0, v1, v2] := by cases args; simp_all
  obtain ⟨rfl, rfl⟩ := trodVars_none hV
  obtain ⟨a0, rfl, rfl, rfl, w0⟩ := open_int Tryz.underlying22 (hval 0 22 v0 rfl rfl) h0
  obtain ⟨a1, rfl, rfl, rfl, w1⟩ := open_int Tryz.underlying22 (hval 1 22 v1 rfl rfl) h1
  obtain ⟨a2, rfl, rfl, rfl, w2⟩ := open_int Tryz.underlying34 (hval 2 34 v2 rfl rfl) h2
  have g0 : -32768 ≤ a0 ∧ a0 ≤ 32767 := by have := w0; simp [Lit.wf, IntKind.min, IntKind.max, IntKind.signed, IntKind.bits] at this; omega
  have g1 : -32768 ≤ a1 ∧ a1 ≤ 32767 := by have := w1; simp [Lit.wf, IntKind.min, IntKind.max, IntKind.signed, IntKind.bits] at this; omega
  have g2 : -128 ≤ a2 ∧ a2 ≤ 127 := by have := w2; simp [Lit.wf, IntKind.min, IntKind.max, IntKind.signed, IntKind.bits] at this; omega
  clear hA0 hval0
  refine (law_of (law_straight32 g0.1 g0.2 g1.1 g1.2 g2.1 g2.2) (RdL.cons (.i _ _) (RdL.cons (.i _ _) (RdL.cons (.i _ _) RdL.nil)))).mono fun e W' ⟨he, bel⟩ => ?_
  subst he
  exact ⟨_, rfl, _, _, _, [], _, [], hW', trodAll_mk1 (shut_bool Tryz.underlying4 _), (trodAll_cons_mk (shut_int Tryz.underlying22 w0) (trodAll_cons_mk (shut_int Tryz.underlying22 w1) (trodAll_cons_mk (shut_int Tryz.underlying34 w2) trodAll_mk0))), rfl, bel.frame _, fun h => by cases h⟩
theorem straight32_proved : Rows.EngagementStraightSaid :=
  OpenClaim.holds_of_wide 5 Tryz.f5 rfl rfl rfl rfl rfl rfl rfl ⟨rfl, rfl, rfl, rfl, rfl⟩ rfl rfl rfl rfl rfl (by kernel_rfl) Tryz.func5 (by kernel_rfl)
    (of_decide_eq_true (by kernel_rfl)) (by unfold Func.isWrapper; first | (rw [if_pos (by decide +kernel)]; kernel_rfl) | (rw [if_neg (by decide +kernel)]; exact ⟨rfl, rfl⟩))
    (fun os started H enc _ => straight32_lifted os started H enc)
end Go.Proofs.YtedlgdliniokiaaGreat
