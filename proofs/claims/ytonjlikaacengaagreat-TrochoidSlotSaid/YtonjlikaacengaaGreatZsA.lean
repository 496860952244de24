/- TrochoidSlot: for every input the law returns true, and each argument reads behind the call as it read before. No condition. -/
import Derived.Test.YtonjlikaacengaaGreatZaN
namespace Go.Proofs.YtonjlikaacengaaGreat
open Go.ChangeShapes Go.WideShapes Go.ChangeAt Go.RowKit
theorem slot_both {a1 a2 b1 b2 w t z f : Int} {c : Rat} (hc : Rz 20 c) : ∃ (n : Nat) (us : List CellD) (e : Int), us.length = n * 7 ∧ us.all isJ = true ∧ n ≤ 1000000 ∧
    Ok Tryz.prog 11 [.a ([.i .i64 a1] ++ [.i .i64 a2]), .a ([.i .i64 b1] ++ [.i .i64 b2]), .c (.i .i64 w), .c (.i .i64 t), .c (.i .i64 z), .c (.i .i64 f), dR c] [.c (.s n us), .c (.i .i64 e)] ∧
    Ok Tryz.prog 10 [.a ([.i .i64 a1] ++ [.i .i64 a2]), .a ([.i .i64 b1] ++ [.i .i64 b2]), .c (.i .i64 w), .c (.i .i64 t), .c (.i .i64 z), .c (.i .i64 f), dR c] [.c (.s n us), .c (.i .i64 e)] := by
  by_cases hA : dok a1 a2 b1 b2 = false ∨ f < 1 ∨ t < 1 ∨ t > 10000000 ∨ w.tmod 2 ≠ 0 ∨ w ≤ 2 * t ∨ w > 4 * t ∨ cosB c = false
  · exact ⟨0, [], 1, rfl, rfl, by omega, tSl_1 hc hA, rSl_1 hc hA⟩
  have hok : dok a1 a2 b1 b2 = true := by
    cases h : dok a1 a2 b1 b2 with
    | false => exact absurd (.inl h) hA
    | true => rfl
  have hcos : cosB c = true := by
    cases h : cosB c with
    | false => exact absurd (.inr (.inr (.inr (.inr (.inr (.inr (.inr h))))))) hA
    | true => rfl
  have hf : 1 ≤ f := by omega
  have ht : 1 ≤ t := by omega
  have ht2 : t ≤ 10000000 := by omega
  have hw : w.tmod 2 = 0 := Classical.byContradiction fun h => hA (.inr (.inr (.inr (.inr (.inl h)))))
  have hw1 : 2 * t < w := by omega
  have hw2 : w ≤ 4 * t := by omega
  clear hA
  obtain ⟨m, rfl⟩ := Int.dvd_of_tmod_eq_zero hw
  obtain ⟨a, rfl⟩ : ∃ a : Int, m = a + t := ⟨m - t, by omega⟩
  have ha : 1 ≤ a := by omega
  have hat : a ≤ t := by omega
  by_cases hB : rnd a1 a2 a = false ∨ rnd b1 b2 a = false ∨ far z = true
  · exact ⟨0, [], 11, rfl, rfl, by omega, tSl_11 hc hok hf ha hat ht2 hcos hB, rSl_11 hc hok hf ha hat ht2 hcos (chk_11 hok (by omega) hB)⟩
  have q1 : rnd a1 a2 a = true := by
    cases h : rnd a1 a2 a with
    | false => exact absurd (.inl h) hB
    | true => rfl
  have q2 : rnd b1 b2 a = true := by
    cases h : rnd b1 b2 a with
    | false => exact absurd (.inr (.inl h)) hB
    | true => rfl
  have q3 : far z = false := by
    cases h : far z with
    | true => exact absurd (.inr (.inr h)) hB
    | false => rfl
  have hE := chk_0 hok (by omega) q1 q2 q3
  obtain ⟨r, hr0, hr1, hφ⟩ := step_ex (a := a) c ha ht
  have hψ : ∀ i : Int, 1 ≤ i → i ≤ a → alw a t i c = decide (i ≤ min r a) := by
    intro i h1 h2
    have h3 := hφ (i - 1) (by omega) (by omega)
    rw [Int.sub_add_cancel] at h3
    rw [h3]
    exact decide_eq_decide.2 (by omega)
  by_cases hr : r = 0
  · exact ⟨0, [], 16, rfl, rfl, by omega, tSl_16 hc hok hf ha hat ht2 hcos q1 q2 q3 hr0 hr1 hφ hr, rSl_16 hc hok hf ha hat ht2 hcos hE (m := min r a) (by omega) (by omega) hψ (by omega)⟩
  · obtain ⟨n, us, e, hl, hJ, hn, hP, hQ⟩ := pth_both (a1 := a1) (a2 := a2) (b1 := b1) (b2 := b2) (r := a) (s := min r a) (z := z) (f := f)
    exact ⟨n, us, e, hl, hJ, hn, tSl_ok hc hok hf ha hat ht2 hcos q1 q2 q3 hr0 hr1 hφ (by omega) hP, rSl_ok hc hok hf ha hat ht2 hcos hE (m := min r a) (by omega) (by omega) hψ (by omega) hQ⟩
theorem law_slot34 {a1 a2 b1 b2 r s z f w t p q : Int} (_ : -9223372036854775808 ≤ s) (_ : s ≤ 9223372036854775807) (_ : -9223372036854775808 ≤ w) (_ : w ≤ 9223372036854775807) (_ : -9223372036854775808 ≤ t) (_ : t ≤ 9223372036854775807) (hp0 : -9223372036854775808 ≤ p) (hp1 : p ≤ 9223372036854775807) (hq0 : -9223372036854775808 ≤ q) (hq1 : q ≤ 9223372036854775807) : Ok Tryz.prog 4 [.a (([.i .i64 a1] ++ [.i .i64 a2]) ++ ([.i .i64 b1] ++ [.i .i64 b2]) ++ [.i .i64 r] ++ [.i .i64 s] ++ [.i .i64 z] ++ [.i .i64 f]), .a ([.i .i64 w] ++ [.i .i64 t]), .a ([.i .i64 p] ++ [.i .i64 q])] [.c (.b true)] := by
  obtain ⟨c, hc, hC⟩ := frac_any hp0 hp1 hq0 hq1
  obtain ⟨n, us, e, hl, hJ, hn, h1, h2⟩ := slot_both (a1 := a1) (a2 := a2) (b1 := b1) (b2 := b2) (w := w) (t := t) (z := z) (f := f) hc
  exact lSl_any hC h1 h2 hl hJ hn
set_option maxRecDepth 100000 in
theorem slot34_lifted (os : Os) (started : os.Started) (H : Type) (enc : TypeId × Value → H) :
    ReturnsInHanded {} Tryz.checked os 4 .any (Rows.trochoidSlotSpec.pre6 enc Tryz.prog Tryz.f4 Rows.trochoidSlotRow.domain false) (Rows.trochoidSlotSpec.post enc Tryz.prog Tryz.f4 false true false false) := by
  refine returnsInHanded_of_change (C := Tryz.checked) own started (by kernel_rfl) Tryz.func4
    (ChangeSpec.witness6 (enc := enc) (C := Tryz.checked) false ⟨#[], #[.agg #[.int .i64 0, .int .i64 0, .int .i64 0, .int .i64 0, .int .i64 0, .int .i64 0, .int .i64 0, .int .i64 0], .agg #[.int .i64 0, .int .i64 0], .agg #[.int .i64 0, .int .i64 0]], []⟩ 8 (by kernel_rfl) (by kernel_rfl) (by kernel_rfl) (by kernel_rfl)) ?_
  intro W base args ds gs before hval0 hW hcnd _
  have hval : ∀ (j : Nat) t v, Tryz.f4.params[j]? = some t → args[j]? = some v → Value.okWide Tryz.prog W .any base t v := hval0
  have hW' := hW
  obtain ⟨p, q, hA0, hV, rfl, hfz, hnd⟩ := hW
  have hA : DataW.TrodAll enc Tryz.prog W 0 (fun _ => true) true Tryz.f4.params.toList args.toList ds p := hA0
  rw [Tryz.params4] at hA hval
  obtain ⟨v0, vs0, d0, ds0, p0, q0, hargs, rfl, rfl, h0, r0⟩ := trodAll_cons hA
  obtain ⟨v1, vs1, d1, ds1, p1, q1, rfl, rfl, rfl, h1, r1⟩ := trodAll_cons r0
  obtain ⟨v2, vs2, d2, ds2, p2, q2, rfl, rfl, rfl, h2, r2⟩ := trodAll_cons r1
  obtain ⟨rfl, rfl, rfl⟩ := trodAll_nil r2
  obtain rfl : args = #[v0, v1, v2] := by cases args; simp_all
  obtain ⟨rfl, rfl⟩ := trodVars_none hV
  obtain ⟨a0, rfl, _⟩ := okWide_struct Tryz.underlying36 (hval 0 36 v0 rfl rfl)
  have k0 := h0
  have lt0 : ∀ x ∈ p0, x.block < W.heap.size := by obtain ⟨m, hm⟩ := k0; exact DataW.trod_lt m _ _ _ hm
  obtain ⟨a1, rfl⟩ := okWide_arr Tryz.underlying23 (hval 1 23 v1 rfl rfl)
  have k1 := h1
  have lt1 : ∀ x ∈ p1, x.block < W.heap.size := by obtain ⟨m, hm⟩ := k1; exact DataW.trod_lt m _ _ _ hm
  obtain ⟨a2, rfl⟩ := okWide_arr Tryz.underlying23 (hval 2 23 v2 rfl rfl)
  have k2 := h2
  have lt2 : ∀ x ∈ p2, x.block < W.heap.size := by obtain ⟨m, hm⟩ := k2; exact DataW.trod_lt m _ _ _ hm
  obtain ⟨y00, y01, y02, y03, y04, y05, y06, y07, g00, g01, hr0⟩ := way_of (show DataW.trod enc Tryz.prog W 0 _ _ h0.choose 36 a0.toList = some _ from h0.choose_spec)
  obtain ⟨x1, y1, g10, g11, g12, g13, hr1⟩ := i2_of (show DataW.trod enc Tryz.prog W 0 _ _ h1.choose 23 a1.toList = some _ from h1.choose_spec)
  obtain ⟨x2, y2, g20, g21, g22, g23, hr2⟩ := i2_of (show DataW.trod enc Tryz.prog W 0 _ _ h2.choose 23 a2.toList = some _ from h2.choose_spec)
  clear hA0 hval0
  refine (law_of (law_slot34 g00 g01 g10 g11 g12 g13 g20 g21 g22 g23) (RdL.cons ⟨a0, rfl, hr0⟩ (RdL.cons ⟨a1, rfl, hr1⟩ (RdL.cons ⟨a2, rfl, hr2⟩ RdL.nil)))).mono fun e W' ⟨he, bel⟩ => ?_
  subst he
  exact ⟨_, rfl, _, _, _, [], _, [], hW', trodAll_mk1 (shut_bool Tryz.underlying4 _), (trodAll_cons_mk (Below.trod laidOut (by kernel_rfl) (of_decide_eq_true (by kernel_rfl)) k0 bel lt0) (trodAll_cons_mk (Below.trod laidOut (by kernel_rfl) (of_decide_eq_true (by kernel_rfl)) k1 bel lt1) (trodAll_cons_mk (Below.trod laidOut (by kernel_rfl) (of_decide_eq_true (by kernel_rfl)) k2 bel lt2) trodAll_mk0))), rfl, bel.frame _, fun h => by cases h⟩
theorem slot34_proved : Rows.TrochoidSlotSaid :=
  OpenClaim.holds_of_wide 4 Tryz.f4 rfl rfl rfl rfl rfl rfl rfl ⟨rfl, rfl, rfl, rfl, rfl⟩ rfl rfl rfl rfl rfl (by kernel_rfl) Tryz.func4 (by kernel_rfl)
    (of_decide_eq_true (by kernel_rfl)) (by unfold Func.isWrapper; first | (rw [if_pos (by decide +kernel)]; kernel_rfl) | (rw [if_neg (by decide +kernel)]; exact ⟨rfl, rfl⟩))
    (fun os started H enc _ => slot34_lifted os started H enc)
end Go.Proofs.YtonjlikaacengaaGreat
