/- TrochoidSwept: for every input the law returns true, and each argument reads behind the call as it read before. No condition. -/
import Derived.Test.YtonjlikaacengaaGreatZwA
namespace Go.Proofs.YtonjlikaacengaaGreat
open Go.ChangeShapes Go.WideShapes Go.ChangeAt Go.RowKit
theorem swept_ok {a1 a2 L dx dy r s z f t v0 v1 : Int} {k : Nat} (hL : 1 ≤ L) (hd : Dir dx dy) (hs : 1 ≤ s) (hs2 : s ≤ 9223372036854775807) (hk : (k : Int) = (L - 1) / s)
    (r1 : -10000000 ≤ a1 ∧ a1 ≤ 10000000) (r2 : -10000000 ≤ a2 ∧ a2 ≤ 10000000) (r3 : -10000000 ≤ a1 + L * dx ∧ a1 + L * dx ≤ 10000000) (r4 : -10000000 ≤ a2 + L * dy ∧ a2 + L * dy ≤ 10000000)
    (hv0 : -32768 ≤ v0 ∧ v0 ≤ 32767) (hv1 : -32768 ≤ v1 ∧ v1 ≤ 32767) (hb : (L - 1) / s + 2 ≤ 10000)
    (hR : Ok Tryz.prog 13 [.a ([.i .i64 a1] ++ [.i .i64 a2]), .a ([.i .i64 (a1 + L * dx)] ++ [.i .i64 (a2 + L * dy)]), .c (.i .i64 s)] [.c (.s (k + 1 + 1) (ctb a1 a2 dx dy L s k)), .c (.i .i64 0)]) :
    Ok Tryz.prog 5 [.a (([.i .i64 a1] ++ [.i .i64 a2]) ++ ([.i .i64 (a1 + L * dx)] ++ [.i .i64 (a2 + L * dy)]) ++ [.i .i64 r] ++ [.i .i64 s] ++ [.i .i64 z] ++ [.i .i64 f]), .c (.i .i64 t), .a ([.i .i16 v0] ++ [.i .i16 v1])] [.c (.b true)] := by
  have hz : ∀ n : Int, -9223372036854775808 ≤ n → n ≤ 9223372036854775807 → Rz 3 (Rat.divInt n 2) := fun n h0 h1 => Rz.of (k := 3) (Sz.small (by decide) h0 h1) (Sz.small (by decide) (by decide) (by decide)) (by decide)
  have hn : ∀ n : Int, -9223372036854775808 ≤ n → n ≤ 9223372036854775807 → Rz 3 (n : Rat) := fun n h0 h1 => Rz.num h0 h1
  have hu : Rz 20 (((a1 : Int) : Rat) + Rat.divInt v0 2) := ((hn a1 (by omega) (by omega)).add (hz v0 (by omega) (by omega))).mono (by decide)
  have hv : Rz 20 (((a2 : Int) : Rat) + Rat.divInt v1 2) := ((hn a2 (by omega) (by omega)).add (hz v1 (by omega) (by omega))).mono (by decide)
  have hX : Rz 20 (Rat.divInt (v0 * dx + v1 * dy) 2) := (hz _ (by rcases hd with ⟨rfl, rfl⟩ | ⟨rfl, rfl⟩ | ⟨rfl, rfl⟩ | ⟨rfl, rfl⟩ <;> omega) (by rcases hd with ⟨rfl, rfl⟩ | ⟨rfl, rfl⟩ | ⟨rfl, rfl⟩ | ⟨rfl, rfl⟩ <;> omega)).mono (by decide)
  have hY : Rz 20 (Rat.divInt (v0 * dy + v1 * dx) 2) := (hz _ (by rcases hd with ⟨rfl, rfl⟩ | ⟨rfl, rfl⟩ | ⟨rfl, rfl⟩ | ⟨rfl, rfl⟩ <;> omega) (by rcases hd with ⟨rfl, rfl⟩ | ⟨rfl, rfl⟩ | ⟨rfl, rfl⟩ | ⟨rfl, rfl⟩ <;> omega)).mono (by decide)
  have hρ : r + t ≤ 20000000 → 2 ≤ r + t → Rz 20 (((r + t : Int) : Rat) - Rat.divInt s 2) := fun h0 h1 => ((hn (r + t) (by omega) (by omega)).sub (hz s (by omega) (by omega))).mono (by decide)
  have hB := ctb_bd hd hs hk r1 r2 r3 r4
  have hq := q_bd hL hs
  by_cases hA : r < 1 ∨ r > t ∨ t > 10000000
  · exact lSw_ok hL hd hs hs2 hk r1 r2 r3 r4 hv0 hv1 rfl rfl rfl rfl rfl hu hv hX hY hρ hR (tSw_bad hA) (rSw_bad hA) (fun _ g1 g2 g3 _ _ _ => by omega)
  have hr : 1 ≤ r := by omega
  have hrt : r ≤ t := by omega
  have ht2 : t ≤ 10000000 := by omega
  rcases first_near (φ := swB (ctb a1 a2 dx dy L s k) (((a1 : Int) : Rat) + Rat.divInt v0 2) (((a2 : Int) : Rat) + Rat.divInt v1 2) ((r + t : Int) : Rat)) (k + 1 + 1) with h0 | ⟨m, hmn, hm, h0⟩
  · exact lSw_ok hL hd hs hs2 hk r1 r2 r3 r4 hv0 hv1 rfl rfl rfl rfl rfl hu hv hX hY hρ hR (tSw_0 ctb_len hB (by omega) hr hrt ht2 hu hv h0) (rSw_0 ctb_len hB (by omega) hr hrt ht2 hu hv h0)
      (fun _ _ _ _ g3 g4 g5 => swept_geo hL hd hs hk hr hrt g3 h0 g4 g5)
  · exact lSw_ok hL hd hs hs2 hk r1 r2 r3 r4 hv0 hv1 rfl rfl rfl rfl rfl hu hv hX hY hρ hR (tSw_1 ctb_len hB (by omega) hr hrt ht2 hu hv hmn hm h0) (rSw_1 ctb_len hB (by omega) hr hrt ht2 hu hv hmn hm h0)
      (fun h => by cases h)
theorem law_swept34 {a1 a2 b1 b2 r s z f t v0 v1 : Int} (_ : -9223372036854775808 ≤ s) (hs2 : s ≤ 9223372036854775807) (g0 : -32768 ≤ v0) (g1 : v0 ≤ 32767) (g2 : -32768 ≤ v1) (g3 : v1 ≤ 32767) :
    Ok Tryz.prog 5 [.a (([.i .i64 a1] ++ [.i .i64 a2]) ++ ([.i .i64 b1] ++ [.i .i64 b2]) ++ [.i .i64 r] ++ [.i .i64 s] ++ [.i .i64 z] ++ [.i .i64 f]), .c (.i .i64 t), .a ([.i .i16 v0] ++ [.i .i16 v1])] [.c (.b true)] := by
  by_cases hs : s ≤ 0
  · exact lSw_e (n := 0) (us := []) (by decide) (rC_0 hs)
  replace hs : 1 ≤ s := by omega
  cases hok : dok a1 a2 b1 b2 with
  | false => exact lSw_e (n := 0) (us := []) (by decide) (rC_1 hs (chk_1 hok))
  | true =>
  cases q1 : rnd a1 a2 0 with
  | false => exact lSw_e (n := 0) (us := []) (by decide) (rC_11 hs (chk_11 hok (by omega) (.inl q1)))
  | true =>
  cases q2 : rnd b1 b2 0 with
  | false => exact lSw_e (n := 0) (us := []) (by decide) (rC_11 hs (chk_11 hok (by omega) (.inr (.inl q2))))
  | true =>
  obtain ⟨L, dx, dy, hL, hd, rfl, rfl⟩ := dir_of hok
  have h1 := (rnd_iff _ _ _).1 q1
  have h2 := (rnd_iff _ _ _).1 q2
  have r1 : -10000000 ≤ a1 ∧ a1 ≤ 10000000 := by omega
  have r2 : -10000000 ≤ a2 ∧ a2 ≤ 10000000 := by omega
  have r3 : -10000000 ≤ a1 + L * dx ∧ a1 + L * dx ≤ 10000000 := by omega
  have r4 : -10000000 ≤ a2 + L * dy ∧ a2 + L * dy ≤ 10000000 := by omega
  have hq := q_bd hL hs
  obtain ⟨k, hk⟩ : ∃ k : Nat, (k : Int) = (L - 1) / s := ⟨((L - 1) / s).toNat, Int.toNat_of_nonneg hq.1⟩
  have hmq := min_q hL hs
  by_cases hb : 10000 < (L - 1) / s + 2
  · exact lSw_e (n := 0) (us := []) (by decide) (rC_big hL hd hs rfl r1 r2 r3 r4 (by rw [hmq]; omega))
  · have h := rC_ok hL hd hs rfl (hk.trans hmq.symm) r1 r2 r3 r4 (by rw [hmq]; omega)
    rw [min_ctb hL hs hk] at h
    exact swept_ok hL hd hs hs2 hk r1 r2 r3 r4 ⟨g0, g1⟩ ⟨g2, g3⟩ (by omega) h
set_option maxRecDepth 100000 in
theorem swept34_lifted (os : Os) (started : os.Started) (H : Type) (enc : TypeId × Value → H) :
    ReturnsInHanded {} Tryz.checked os 5 .any (Rows.trochoidSweptSpec.pre6 enc Tryz.prog Tryz.f5 Rows.trochoidSweptRow.domain false) (Rows.trochoidSweptSpec.post enc Tryz.prog Tryz.f5 false true false false) := by
  refine returnsInHanded_of_change (C := Tryz.checked) own started (by kernel_rfl) Tryz.func5
    (ChangeSpec.witness6 (enc := enc) (C := Tryz.checked) false ⟨#[], #[.agg #[.int .i64 0, .int .i64 0, .int .i64 0, .int .i64 0, .int .i64 0, .int .i64 0, .int .i64 0, .int .i64 0], .int .i64 0, .agg #[.int .i16 0, .int .i16 0]], []⟩ 8 (by kernel_rfl) (by kernel_rfl) (by kernel_rfl) (by kernel_rfl)) ?_
  intro W base args ds gs before hval0 hW hcnd _
  have hval : ∀ (j : Nat) t v, Tryz.f5.params[j]? = some t → args[j]? = some v → Value.okWide Tryz.prog W .any base t v := hval0
  have hW' := hW
  obtain ⟨p, q, hA0, hV, rfl, hfz, hnd⟩ := hW
  have hA : DataW.TrodAll enc Tryz.prog W 0 (fun _ => true) true Tryz.f5.params.toList args.toList ds p := hA0
  rw [Tryz.params5] at hA hval
  obtain ⟨v0, vs0, d0, ds0, p0, q0, hargs, rfl, rfl, h0, r0⟩ := trodAll_cons hA
  obtain ⟨v1, vs1, d1, ds1, p1, q1, rfl, rfl, rfl, h1, r1⟩ := trodAll_cons r0
  obtain ⟨v2, vs2, d2, ds2, p2, q2, rfl, rfl, rfl, h2, r2⟩ := trodAll_cons r1
  obtain ⟨rfl, rfl, rfl⟩ := trodAll_nil r2
  obtain rfl : args = #[v0, v1, v2] := by cases args; simp_all
  obtain ⟨rfl, rfl⟩ := trodVars_none hV
  obtain ⟨a0, rfl, _⟩ := okWide_struct Tryz.underlying36 (hval 0 36 v0 rfl rfl)
  have k0 := h0
  have lt0 : ∀ x ∈ p0, x.block < W.heap.size := by obtain ⟨m, hm⟩ := k0; exact DataW.trod_lt m _ _ _ hm
  obtain ⟨a1, rfl, rfl, rfl, w1⟩ := open_int Tryz.underlying2 (hval 1 2 v1 rfl rfl) h1
  obtain ⟨a2, rfl⟩ := okWide_arr Tryz.underlying44 (hval 2 44 v2 rfl rfl)
  have k2 := h2
  have lt2 : ∀ x ∈ p2, x.block < W.heap.size := by obtain ⟨m, hm⟩ := k2; exact DataW.trod_lt m _ _ _ hm
  obtain ⟨y00, y01, y02, y03, y04, y05, y06, y07, g00, g01, hr0⟩ := way_of (show DataW.trod enc Tryz.prog W 0 _ _ h0.choose 36 a0.toList = some _ from h0.choose_spec)
  obtain ⟨x2, y2, g20, g21, g22, g23, hr2⟩ := s2_of (show DataW.trod enc Tryz.prog W 0 _ _ h2.choose 44 a2.toList = some _ from h2.choose_spec)
  clear hA0 hval0
  refine (law_of (law_swept34 g00 g01 g20 g21 g22 g23) (RdL.cons ⟨a0, rfl, hr0⟩ (RdL.cons (.i _ _) (RdL.cons ⟨a2, rfl, hr2⟩ RdL.nil)))).mono fun e W' ⟨he, bel⟩ => ?_
  subst he
  exact ⟨_, rfl, _, _, _, [], _, [], hW', trodAll_mk1 (shut_bool Tryz.underlying4 _), (trodAll_cons_mk (Below.trod laidOut (by kernel_rfl) (of_decide_eq_true (by kernel_rfl)) k0 bel lt0) (trodAll_cons_mk (shut_int Tryz.underlying2 w1) (trodAll_cons_mk (Below.trod laidOut (by kernel_rfl) (of_decide_eq_true (by kernel_rfl)) k2 bel lt2) trodAll_mk0))), rfl, bel.frame _, fun h => by cases h⟩
theorem swept34_proved : Rows.TrochoidSweptSaid :=
  OpenClaim.holds_of_wide 5 Tryz.f5 rfl rfl rfl rfl rfl rfl rfl ⟨rfl, rfl, rfl, rfl, rfl⟩ rfl rfl rfl rfl rfl (by kernel_rfl) Tryz.func5 (by kernel_rfl)
    (of_decide_eq_true (by kernel_rfl)) (by unfold Func.isWrapper; first | (rw [if_pos (by decide +kernel)]; kernel_rfl) | (rw [if_neg (by decide +kernel)]; exact ⟨rfl, rfl⟩))
    (fun os started H enc _ => swept34_lifted os started H enc)
end Go.Proofs.YtonjlikaacengaaGreat
