/- TrochoidEngaged: for every input the law returns true, and each argument reads behind the call as it read before. No condition. -/
import Derived.Test.YtonjlikaacengaaGreatZaN
namespace Go.Proofs.YtonjlikaacengaaGreat
open Go.ChangeShapes Go.WideShapes Go.ChangeAt Go.RowKit
theorem eng_both {n : Nat} {us : List CellD} {a t : Int} {c : Rat} (hl : us.length = n * 2) (hJ : us.all isJ = true) (hn : n ≤ 9000000000000000000) (hc : Rz 20 c) : ∃ β : Bool,
    Ok Tryz.prog 8 [.c (.s n us), .c (.i .i64 a), .c (.i .i64 t), dR c] [.c (.b β)] ∧ Ok Tryz.prog 9 [.c (.s n us), .c (.i .i64 a), .c (.i .i64 t), dR c] [.c (.b β)] := by
  by_cases h : a < 1 ∨ a > t ∨ t > 10000000
  · exact ⟨false, tEg_bad hl hJ hc (by omega), rEg_bad hc (.inl h)⟩
  have ha : 1 ≤ a := by omega
  have hat : a ≤ t := by omega
  have ht2 : t ≤ 10000000 := by omega
  cases hcos : cosB c with
  | false => exact ⟨false, tEg_bad hl hJ hc (.inr (.inr (.inr hcos))), rEg_bad hc (.inr ⟨ha, hat, ht2, hcos⟩)⟩
  | true =>
  by_cases hn2 : n < 2
  · exact ⟨true, tEg_few hl hJ hn hc ha hat ht2 hcos hn2, rEg_few hl hJ hn hc ha hat ht2 hcos hn2⟩
  have hn2 : 2 ≤ n := by omega
  refine ⟨engB us n a t c, ?_, rEg_ok hl hJ hn hc ha hat ht2 hcos hn2⟩
  cases hok : dk us 1 with
  | true => exact tEg_ok hl hJ hn hc ha hat ht2 hcos hn2 hok
  | false =>
    rw [engB_f (show 1 < n by omega) (eg_2 (by decide) (by rw [hok]; rfl))]
    exact tEg_no hl hJ hn hc ha hat ht2 hcos hn2 hok
theorem law_engaged34 {n : Nat} {us : List CellD} {a t p q : Int} (hl : us.length = n * 2) (hJ : us.all isJ = true) (_ : -9223372036854775808 ≤ a) (_ : a ≤ 9223372036854775807) (_ : -9223372036854775808 ≤ t) (_ : t ≤ 9223372036854775807) (hp0 : -9223372036854775808 ≤ p) (hp1 : p ≤ 9223372036854775807) (hq0 : -9223372036854775808 ≤ q) (hq1 : q ≤ 9223372036854775807) :
    Ok Tryz.prog 3 [.c (.s n us), .a ([.i .i64 a] ++ [.i .i64 t]), .a ([.i .i64 p] ++ [.i .i64 q])] [.c (.b true)] := by
  obtain ⟨c, hc, hC⟩ := frac_any hp0 hp1 hq0 hq1
  by_cases hn : 20 < n
  · exact lEn_many hn hC
  · obtain ⟨β, h1, h2⟩ := eng_both (a := a) (t := t) hl hJ (by omega) hc
    exact lEn_any (by omega) hC h1 h2
set_option maxRecDepth 100000 in
theorem engaged34_lifted (os : Os) (started : os.Started) (H : Type) (enc : TypeId × Value → H) :
    ReturnsInHanded {} Tryz.checked os 3 .any (Rows.trochoidEngagedSpec.pre6 enc Tryz.prog Tryz.f3 Rows.trochoidEngagedRow.domain false) (Rows.trochoidEngagedSpec.post enc Tryz.prog Tryz.f3 false true false false) := by
  refine returnsInHanded_of_change (C := Tryz.checked) own started (by kernel_rfl) Tryz.func3
    (ChangeSpec.witness6 (enc := enc) (C := Tryz.checked) false ⟨#[], #[.slice none 0 0, .agg #[.int .i64 0, .int .i64 0], .agg #[.int .i64 0, .int .i64 0]], []⟩ 8 (by kernel_rfl) (by kernel_rfl) (by kernel_rfl) (by kernel_rfl)) ?_
  intro W base args ds gs before hval0 hW hcnd _
  have hval : ∀ (j : Nat) t v, Tryz.f3.params[j]? = some t → args[j]? = some v → Value.okWide Tryz.prog W .any base t v := hval0
  have hW' := hW
  obtain ⟨p, q, hA0, hV, rfl, hfz, hnd⟩ := hW
  have hA : DataW.TrodAll enc Tryz.prog W 0 (fun _ => true) true Tryz.f3.params.toList args.toList ds p := hA0
  rw [Tryz.params3] at hA hval
  obtain ⟨v0, vs0, d0, ds0, p0, q0, hargs, rfl, rfl, h0, r0⟩ := trodAll_cons hA
  obtain ⟨v1, vs1, d1, ds1, p1, q1, rfl, rfl, rfl, h1, r1⟩ := trodAll_cons r0
  obtain ⟨v2, vs2, d2, ds2, p2, q2, rfl, rfl, rfl, h2, r2⟩ := trodAll_cons r1
  obtain ⟨rfl, rfl, rfl⟩ := trodAll_nil r2
  obtain rfl : args = #[v0, v1, v2] := by cases args; simp_all
  obtain ⟨rfl, rfl⟩ := trodVars_none hV
  obtain ⟨A0, len0, cap0, rfl⟩ := okWide_slice Tryz.underlying22 (hval 0 22 v0 rfl rfl)
  have k0 := h0
  have lt0 : ∀ x ∈ p0, x.block < W.heap.size := by obtain ⟨m, hm⟩ := k0; exact DataW.trod_lt m _ _ _ hm
  obtain ⟨a1, rfl⟩ := okWide_arr Tryz.underlying23 (hval 1 23 v1 rfl rfl)
  have k1 := h1
  have lt1 : ∀ x ∈ p1, x.block < W.heap.size := by obtain ⟨m, hm⟩ := k1; exact DataW.trod_lt m _ _ _ hm
  obtain ⟨a2, rfl⟩ := okWide_arr Tryz.underlying23 (hval 2 23 v2 rfl rfl)
  have k2 := h2
  have lt2 : ∀ x ∈ p2, x.block < W.heap.size := by obtain ⟨m, hm⟩ := k2; exact DataW.trod_lt m _ _ _ hm
  obtain ⟨n0, us0, hl0, hJ0, hr0⟩ := grids_of (show DataW.trod enc Tryz.prog W 0 _ _ h0.choose 22 [_] = some _ from h0.choose_spec)
  obtain ⟨x1, y1, g10, g11, g12, g13, hr1⟩ := i2_of (show DataW.trod enc Tryz.prog W 0 _ _ h1.choose 23 a1.toList = some _ from h1.choose_spec)
  obtain ⟨x2, y2, g20, g21, g22, g23, hr2⟩ := i2_of (show DataW.trod enc Tryz.prog W 0 _ _ h2.choose 23 a2.toList = some _ from h2.choose_spec)
  clear hA0 hval0
  refine (law_of (law_engaged34 hl0 hJ0 g10 g11 g12 g13 g20 g21 g22 g23) (RdL.cons hr0 (RdL.cons ⟨a1, rfl, hr1⟩ (RdL.cons ⟨a2, rfl, hr2⟩ RdL.nil)))).mono fun e W' ⟨he, bel⟩ => ?_
  subst he
  exact ⟨_, rfl, _, _, _, [], _, [], hW', trodAll_mk1 (shut_bool Tryz.underlying4 _), (trodAll_cons_mk (Below.trod laidOut (by kernel_rfl) (of_decide_eq_true (by kernel_rfl)) k0 bel lt0) (trodAll_cons_mk (Below.trod laidOut (by kernel_rfl) (of_decide_eq_true (by kernel_rfl)) k1 bel lt1) (trodAll_cons_mk (Below.trod laidOut (by kernel_rfl) (of_decide_eq_true (by kernel_rfl)) k2 bel lt2) trodAll_mk0))), rfl, bel.frame _, fun h => by cases h⟩
theorem engaged34_proved : Rows.TrochoidEngagedSaid :=
  OpenClaim.holds_of_wide 3 Tryz.f3 rfl rfl rfl rfl rfl rfl rfl ⟨rfl, rfl, rfl, rfl, rfl⟩ rfl rfl rfl rfl rfl (by kernel_rfl) Tryz.func3 (by kernel_rfl)
    (of_decide_eq_true (by kernel_rfl)) (by unfold Func.isWrapper; first | (rw [if_pos (by decide +kernel)]; kernel_rfl) | (rw [if_neg (by decide +kernel)]; exact ⟨rfl, rfl⟩))
    (fun os started H enc _ => engaged34_lifted os started H enc)
end Go.Proofs.YtonjlikaacengaaGreat
