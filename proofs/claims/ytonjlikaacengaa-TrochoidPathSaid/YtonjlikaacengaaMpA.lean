/- TrochoidPath: for every input the law returns true, and each argument reads behind the call as it read before. No condition. -/
import Derived.Test.YtonjlikaacengaaMaL
namespace Go.Proofs.Ytonjlikaacengaa
open Go.ChangeShapes Go.WideShapes Go.ChangeAt Go.RowKit
theorem law_path34 {a1 a2 b1 b2 r s z f : Int} (_ : -9223372036854775808 ≤ s) (hs2 : s ≤ 9223372036854775807) : Ok Try.prog 4 [.a (([.i .i64 a1] ++ [.i .i64 a2]) ++ ([.i .i64 b1] ++ [.i .i64 b2]) ++ [.i .i64 r] ++ [.i .i64 s] ++ [.i .i64 z] ++ [.i .i64 f])] [.c (.b true)] := by
  obtain ⟨n, us, e, _, _, _, _, hR⟩ := cen_both (a1 := a1) (a2 := a2) (b1 := b1) (b2 := b2) hs2
  obtain ⟨n', us', e', hl, hJ, hn, hP, hQ⟩ := pth_both (a1 := a1) (a2 := a2) (b1 := b1) (b2 := b2) (r := r) (s := s) (z := z) (f := f)
  obtain ⟨x, y, u, g, hS, hT⟩ := start_both (a1 := a1) (a2 := a2) (b1 := b1) (b2 := b2) (r := r) (z := z)
  by_cases he : e = 0
  · subst he; exact lPth_any (lFew_0 hR) hP hQ hS hT hl hJ hn
  · exact lPth_any (lFew_e he hR) hP hQ hS hT hl hJ hn
set_option maxRecDepth 100000 in
theorem path34_lifted (os : Os) (started : os.Started) (H : Type) (enc : TypeId × Value → H) :
    ReturnsInHanded {} Try.checked os 4 .any (Rows.trochoidPathSpec.pre6 enc Try.prog Try.f4 Rows.trochoidPathRow.domain false) (Rows.trochoidPathSpec.post enc Try.prog Try.f4 false true false false) := by
  refine returnsInHanded_of_change (C := Try.checked) own started (by kernel_rfl) Try.func4
    (ChangeSpec.witness6 (enc := enc) (C := Try.checked) false ⟨#[], #[.agg #[.int .i64 0, .int .i64 0, .int .i64 0, .int .i64 0, .int .i64 0, .int .i64 0, .int .i64 0, .int .i64 0]], []⟩ 8 (by kernel_rfl) (by kernel_rfl) (by kernel_rfl) (by kernel_rfl)) ?_
  intro W base args ds gs before hval0 hW hcnd _
  have hval : ∀ (j : Nat) t v, Try.f4.params[j]? = some t → args[j]? = some v → Value.okWide Try.prog W .any base t v := hval0
  have hW' := hW
  obtain ⟨p, q, hA0, hV, rfl, hfz, hnd⟩ := hW
  have hA : DataW.TrodAll enc Try.prog W 0 (fun _ => true) true Try.f4.params.toList args.toList ds p := hA0
  rw [Try.params4] at hA hval
  obtain ⟨v0, vs0, d0, ds0, p0, q0, hargs, rfl, rfl, h0, r0⟩ := trodAll_cons hA
  obtain ⟨rfl, rfl, rfl⟩ := trodAll_nil r0
  obtain rfl : args = #[v0] := by cases args; simp_all
  obtain ⟨rfl, rfl⟩ := trodVars_none hV
  obtain ⟨a0, rfl, _⟩ := okWide_struct Try.underlying25 (hval 0 25 v0 rfl rfl)
  have k0 := h0
  have lt0 : ∀ x ∈ p0, x.block < W.heap.size := by obtain ⟨m, hm⟩ := k0; exact DataW.trod_lt m _ _ _ hm
  obtain ⟨y00, y01, y02, y03, y04, y05, y06, y07, g00, g01, hr0⟩ := way_of (show DataW.trod enc Try.prog W 0 _ _ h0.choose 25 a0.toList = some _ from h0.choose_spec)
  clear hA0 hval0
  refine (law_of (law_path34 g00 g01) (RdL.cons ⟨a0, rfl, hr0⟩ RdL.nil)).mono fun e W' ⟨he, bel⟩ => ?_
  subst he
  exact ⟨_, rfl, _, _, _, [], _, [], hW', trodAll_mk1 (shut_bool Try.underlying4 _), (trodAll_cons_mk (Below.trod laidOut (by kernel_rfl) (of_decide_eq_true (by kernel_rfl)) k0 bel lt0) trodAll_mk0), rfl, bel.frame _, fun h => by cases h⟩
theorem path34_proved : Rows.TrochoidPathSaid :=
  OpenClaim.holds_of_wide 4 Try.f4 rfl rfl rfl rfl rfl rfl rfl ⟨rfl, rfl, rfl, rfl, rfl⟩ rfl rfl rfl rfl rfl (by kernel_rfl) Try.func4 (by kernel_rfl)
    (of_decide_eq_true (by kernel_rfl)) (by unfold Func.isWrapper; first | (rw [if_pos (by decide +kernel)]; kernel_rfl) | (rw [if_neg (by decide +kernel)]; exact ⟨rfl, rfl⟩))
    (fun os started H enc _ => path34_lifted os started H enc)
end Go.Proofs.Ytonjlikaacengaa
