/- Layer 1: integers as values: FromInt64, Sign, Cmp. -/
import Derived.Test.YthlnndkgpgfbnaaGreatRsB
import Derived.Test.YthlnndkgpgfbnaaGreatProg
import Derived.Deep.RegionHeld3
namespace Go.Proofs.YthlnndkgpgfbnaaGreat
open Go.RowKit
def sg (neg : Bool) (v : Int) : Int := if neg then -v else v
theorem sg_true (v : Int) : sg true v = -v := rfl
theorem sg_false (v : Int) : sg false v = v := rfl
def IsInt (w : World) (neg : Bool) (A : Option Addr) (n c : Nat) (x : Int) : Prop := ∃ xs, Sl w A n c xs ∧ Nrm xs ∧ x = sg neg (val xs) ∧ (neg = true → 0 < n)
def RetI (w : World) (x : Int) (e : Ending) (w' : World) : Prop := ∃ neg A n c, e = .returned (.agg #[.bool neg, .slice A n c]) ∧ IsInt w' neg A n c x ∧ (∀ b off, A = some ⟨b, off, none⟩ → w.heap.size ≤ b) ∧ Below w.heap.size w w'
section
variable {w w' : World} {neg : Bool} {A : Option Addr} {n c : Nat} {x : Int} {xs : List Int}
theorem IsInt.below (h : IsInt w neg A n c x) (hb : Below w.heap.size w w') : IsInt w' neg A n c x := by
  obtain ⟨xs, h1, h2⟩ := h
  exact ⟨xs, h1.below hb, h2⟩
theorem isInt_signed (h : Sl w A n c xs) (neg : Bool) : IsInt w (neg && decide (0 < (trm xs).length)) A (trm xs).length (trm xs).length (sg neg (val xs)) := by
  have ht := h.trm
  refine ⟨trm xs, ⟨ht.1, Nat.le_refl _, Nat.le_trans ht.2.1 ht.2.2.1, ht.2.2.2⟩, nrm_trm xs, ?_, ?_⟩
  · rw [val_trm]
    cases neg
    · rfl
    · by_cases h0 : 0 < (trm xs).length
      · simp [h0]
      · have e : trm xs = [] := List.length_eq_zero_iff.1 (by omega)
        have e2 : val xs = 0 := by rw [← val_trm, e]; rfl
        rw [e2]; simp [sg]
  · intro h1
    simp at h1
    simpa using h1.2
theorem IsInt.le (h : IsInt w neg A n c x) {k : Nat} (h1 : x < pw k) (h2 : -x < pw k) : n ≤ k := by
  obtain ⟨xs, hs, hn, hx, _⟩ := h
  rw [← hs.len]
  refine hn.len hs.2.2.2 ?_
  cases neg
  · rw [sg_false] at hx; omega
  · rw [sg_true] at hx; omega
theorem IsInt.sign (h : IsInt w neg A n c x) : (neg = true → x < 0) ∧ (neg = false → 0 < n → 0 < x) ∧ (n = 0 → x = 0) ∧ (x = 0 → n = 0) := by
  obtain ⟨xs, hs, hn, hx, hp⟩ := h
  have hl := hs.len
  have hpos : 0 < n → 0 < val xs := by
    intro h0
    have h1 := hn.ge hs.2.2.2 (by intro e; subst e; simp at hl; omega)
    have := pw_pos (xs.length - 1)
    omega
  have hz : n = 0 → val xs = 0 := by
    intro h0
    have e : xs = [] := List.length_eq_zero_iff.1 (by omega)
    rw [e]; rfl
  refine ⟨fun h => ?_, fun h h0 => ?_, fun h => ?_, fun h => ?_⟩
  · subst h; rw [sg_true] at hx; have := hpos (hp rfl); omega
  · subst h; rw [sg_false] at hx; have := hpos h0; omega
  · have := hz h; rw [hx, this]; cases neg <;> rfl
  · rcases Nat.eq_zero_or_pos n with h1 | h1
    · exact h1
    · have := hpos h1
      cases neg
      · rw [sg_false] at hx; omega
      · rw [sg_true] at hx; omega
end
theorem Bk.set {w : World} {g : Nat} {t : TypeId} {cs : Array Value} (h : Bk w g t cs) (i : Nat) (v : Value) : Bk (w.setCell ⟨g, i, none⟩ v) g t (cs.setIfInBounds i v) := heap_setCell_same w g i cs t v h
theorem Ow.apart {w : World} {base n c g : Nat} {A : Option Addr} {xs : List Int} (h : Ow w base (.slice A n c) n xs) (hg : g < base) : ∀ b off, A = some ⟨b, off, none⟩ → some b ≠ some g := by
  intro b off e
  have := own_ge h.1 b (by rw [e]; simp [Value.ownBlock])
  simp; omega
theorem Ow.fresh {w : World} {base n c k : Nat} {A : Option Addr} {xs : List Int} (h : Ow w base (.slice A n c) n xs) (hk : k ≤ base) : ∀ b off, A = some ⟨b, off, none⟩ → k ≤ b := by
  intro b off e
  have := own_ge h.1 b (by rw [e]; simp [Value.ownBlock])
  omega
structure Boxed2 (w w2 : World) (g : Nat) (a b : Value) : Prop where
  c0 : (w2.setCell ⟨g, 0, none⟩ a).cell? ⟨g, 0, none⟩ = some a
  c1 : ((w2.setCell ⟨g, 0, none⟩ a).setCell ⟨g, 1, none⟩ b).cell? ⟨g, 1, none⟩ = some b
  o0 : w2.cell? ⟨g, 0, none⟩ ≠ none
  f0 : w2.frozen? ⟨g, 0, none⟩ = false
  f1 : w2.frozen? ⟨g, 1, none⟩ = false
  gr : w2.grownBy ((w2.setCell ⟨g, 0, none⟩ a).setCell ⟨g, 1, none⟩ b) (some g)
  be : Below w.heap.size w ((w2.setCell ⟨g, 0, none⟩ a).setCell ⟨g, 1, none⟩ b)
theorem boxed2 {w w2 : World} {g : Nat} {t : TypeId} {p q : Value} (h : Bk w2 g t #[p, q]) (hb : Below w.heap.size w w2) (hg : w.heap.size ≤ g) (a b : Value) : Boxed2 w w2 g a b := by
  have h0 := h.set 0 a
  have h1 := h0.set 1 b
  have g1 : ∀ (w : World) (i : Nat) (v : Value), w.grownBy (w.setCell ⟨g, i, none⟩ v) (some g) := fun w i v => ⟨rfl, rfl, rfl, by simp, fun k _ hk => heap_setCell_other w ⟨g, i, none⟩ k v (fun e => hk (by simp [e]))⟩
  have gr := grown_trans (g1 w2 0 a) (g1 _ 1 b)
  exact ⟨(h0.cell 0).trans rfl, (h1.cell 1).trans rfl, by rw [h.cell 0]; simp, h.frozen 0, h.frozen 1, gr, hb.grown gr hb.size (by intro k hk; injection hk with hk; omega)⟩
theorem IsInt.grown {w w' : World} {neg : Bool} {A : Option Addr} {n c : Nat} {x : Int} {row : Option Nat} (h : IsInt w neg A n c x) (hg : w.grownBy w' row) (hne : ∀ b off, A = some ⟨b, off, none⟩ → some b ≠ row) : IsInt w' neg A n c x := by
  obtain ⟨xs, h1, h2⟩ := h
  exact ⟨xs, h1.grown hg hne, h2⟩
theorem plus_any (A B : Option Addr) (n c m d : Nat) (xs ys : List Int) (w : World) (ha : Sl w A n c xs) (hb : Sl w B m d ys) (hn : n ≤ 1000000) (hm : m ≤ 1000000) :
    Calls Tryz.prog 121 #[.slice A n c, .slice B m d] w fun e w' => ∃ k, RetSl w k (val xs + val ys) e w' := by
  by_cases h : m ≤ n
  · exact ((plus_both A B n c m d xs ys w ha hb hn h).1).mono fun e w' h => ⟨n + 1, h⟩
  · refine ((plus_both B A m d n c ys xs w hb ha hm (by omega)).2 (by omega)).mono fun e w' h => ⟨m + 1, ?_⟩
    rw [Int.add_comm]; exact h
set_option maxHeartbeats 1000000 in
set_option maxRecDepth 10000 in
theorem fromint_any (x : Int) (w : World) (h0 : -9223372036854775808 ≤ x) (h1 : x ≤ 9223372036854775807) : Calls Tryz.prog 69 #[.int .i64 x] w (RetI w x) := by
  by_cases hx : x < 0
  · have e1 : IntKind.u64.wrap (-IntKind.u64.wrap x) = -x := by unfold IntKind.wrap; simp [IntKind.bits, IntKind.signed]; omega
    go_enter Tryz.func69, Tryz.ntmps69
    go_wp2_with fail
    refine (split_any (-x) _ (by omega) (by omega) (by omega)).mono ?_
    rintro e w1 ⟨B, d, ys, rfl, hown, hval, hbel⟩
    have hb1 := ((Below.refl w.heap.size w).alloc (Nat.le_refl _) (.cells #[.bool false, .slice none 0 0] 24)).trans (hbel.mono (by simp))
    go_wp2_with fail
    refine (signed_any true B _ d ys _ hown.sl).mono ?_
    rintro e w2 ⟨rfl, hbel2⟩
    have hb2 := hb1.trans (hbel2.mono hb1.size)
    have hi := (isInt_signed hown.sl true).below hbel2
    rw [hval, sg_true, Int.neg_neg] at hi
    have hbk : Bk w2 w.heap.size 24 #[.bool false, .slice none 0 0] := ((Bk.new w 24 #[.bool false, .slice none 0 0]).below hbel).below hbel2
    have hc0 : w2.cell? ⟨w.heap.size, 0, none⟩ = some (.bool false) := (hbk.cell 0).trans rfl
    have hc1 : w2.cell? ⟨w.heap.size, 1, none⟩ = some (.slice none 0 0) := (hbk.cell 1).trans rfl
    have hne := hown.apart (g := w.heap.size) (by simp)
    have hfr := hown.fresh (k := w.heap.size) (by simp)
    have Hb := boxed2 hbk hb2 (Nat.le_refl _)
    generalize (trm ys).length = l at *
    obtain ⟨k0, k1, _, f0, f1, gr, be⟩ := Hb (.bool (true && decide (0 < l))) (.slice B l l)
    have hi2 := hi.grown gr hne
    clear e1 hbel hbel2 hown Hb hi gr hb2 hb1 hbk
    simp only [Bool.true_and] at *
    go_wp2
    refine bodyPost_ret (by simp [results, Tryz.results69, go_sem, k0, k1]; try rfl) rfl ?_
    exact ⟨_, _, _, _, rfl, hi2, hfr, be⟩
  · have e1 : IntKind.u64.wrap x = x := by unfold IntKind.wrap; simp [IntKind.bits, IntKind.signed]; omega
    go_enter Tryz.func69, Tryz.ntmps69
    go_wp2_with fail
    refine (split_any (x) _ (by omega) (by omega) (by omega)).mono ?_
    rintro e w1 ⟨B, d, ys, rfl, hown, hval, hbel⟩
    have hb1 := ((Below.refl w.heap.size w).alloc (Nat.le_refl _) (.cells #[.bool false, .slice none 0 0] 24)).trans (hbel.mono (by simp))
    go_wp2_with fail
    refine (signed_any false B _ d ys _ hown.sl).mono ?_
    rintro e w2 ⟨rfl, hbel2⟩
    have hb2 := hb1.trans (hbel2.mono hb1.size)
    have hi := (isInt_signed hown.sl false).below hbel2
    rw [hval, sg_false] at hi
    have hbk : Bk w2 w.heap.size 24 #[.bool false, .slice none 0 0] := ((Bk.new w 24 #[.bool false, .slice none 0 0]).below hbel).below hbel2
    have hc0 : w2.cell? ⟨w.heap.size, 0, none⟩ = some (.bool false) := (hbk.cell 0).trans rfl
    have hc1 : w2.cell? ⟨w.heap.size, 1, none⟩ = some (.slice none 0 0) := (hbk.cell 1).trans rfl
    have hne := hown.apart (g := w.heap.size) (by simp)
    have hfr := hown.fresh (k := w.heap.size) (by simp)
    have Hb := boxed2 hbk hb2 (Nat.le_refl _)
    generalize (trm ys).length = l at *
    obtain ⟨k0, k1, _, f0, f1, gr, be⟩ := Hb (.bool (false && decide (0 < l))) (.slice B l l)
    have hi2 := hi.grown gr hne
    clear e1 hbel hbel2 hown Hb hi gr hb2 hb1 hbk
    simp only [Bool.false_and] at *
    go_wp2
    refine bodyPost_ret (by simp [results, Tryz.results69, go_sem, k0, k1]; try rfl) rfl ?_
    exact ⟨_, _, _, _, rfl, hi2, hfr, be⟩
theorem sign_any (neg : Bool) (A : Option Addr) (n c : Nat) (x : Int) (w : World) (h : IsInt w neg A n c x) :
    Calls Tryz.prog 87 #[.agg #[.bool neg, .slice A n c]] w fun e w' => e = .returned (.int .i64 (cmpI x 0)) ∧ Below w.heap.size w w' := by
  obtain ⟨s1, s2, s3, s4⟩ := h.sign
  cases neg
  · rcases Nat.eq_zero_or_pos n with h0 | h0
    · subst h0
      have e := s3 rfl
      subst e
      clear s1 s2 s3 s4 h
      go_enter Tryz.func87, Tryz.ntmps87
      go_wp2
      go_ret
      exact ⟨rfl, (Below.refl _ _).alloc (Nat.le_refl _) _⟩
    · have e := Lib.hid (cmp_gt (s2 rfl h0))
      clear s1 s2 s3 s4 h
      go_enter Tryz.func87, Tryz.ntmps87
      go_wp2
      go_ret
      exact ⟨by rw [e.out]; rfl, (Below.refl _ _).alloc (Nat.le_refl _) _⟩
  · have e := Lib.hid (cmp_lt (s1 rfl))
    clear s1 s2 s3 s4 h
    go_enter Tryz.func87, Tryz.ntmps87
    go_wp2
    go_ret
    exact ⟨by rw [e.out]; rfl, (Below.refl _ _).alloc (Nat.le_refl _) _⟩
theorem cmp_negs (a b : Int) : cmpI (-a) (-b) = cmpI b a := by
  unfold cmpI
  by_cases h1 : b < a
  · rw [if_pos (by omega), if_pos h1]
  · by_cases h2 : a < b
    · rw [if_neg (by omega), if_pos (by omega), if_neg h1, if_pos h2]
    · rw [if_neg (by omega), if_neg (by omega), if_neg h1, if_neg h2]
theorem IsInt.nonneg {w : World} {A : Option Addr} {n c : Nat} {x : Int} (h : IsInt w false A n c x) : 0 ≤ x := by
  obtain ⟨xs, hs, _, hx, _⟩ := h
  rw [hx, sg_false]; exact val_nonneg hs.2.2.2
set_option maxHeartbeats 1000000 in
set_option maxRecDepth 10000 in
theorem icmp_any (na nb : Bool) (A B : Option Addr) (n c m d : Nat) (x y : Int) (w : World) (ha : IsInt w na A n c x) (hb : IsInt w nb B m d y) :
    Calls Tryz.prog 96 #[.agg #[.bool na, .slice A n c], .agg #[.bool nb, .slice B m d]] w fun e w' => e = .returned (.int .i64 (cmpI x y)) ∧ Below w.heap.size w w' := by
  have hbel : Below w.heap.size w ((w.alloc (.cells #[.bool na, .slice A n c] 24)).alloc (.cells #[.bool nb, .slice B m d] 24)) := ((Below.refl _ _).alloc (Nat.le_refl _) _).alloc (by simp) _
  cases na <;> cases nb
  · obtain ⟨xs, hs, _, rfl, _⟩ := ha
    obtain ⟨ys, ht, _, rfl, _⟩ := hb
    rw [sg_false, sg_false]
    go_enter Tryz.func96, Tryz.ntmps96
    go_wp2_with fail
    refine (compare_any A B n c m d xs ys _ (hs.below hbel) (ht.below hbel)).mono ?_
    rintro e w1 ⟨rfl, hb1⟩
    go_wp2
    go_ret
    exact ⟨rfl, hbel.trans (hb1.mono (by simp; omega))⟩
  · have e := Lib.hid (cmp_gt (show y < x by have := ha.nonneg; have := hb.sign.1 rfl; omega))
    clear ha hb
    go_enter Tryz.func96, Tryz.ntmps96
    go_wp2
    go_ret
    exact ⟨by rw [e.out]; rfl, hbel⟩
  · have e := Lib.hid (cmp_lt (show x < y by have := hb.nonneg; have := ha.sign.1 rfl; omega))
    clear ha hb
    go_enter Tryz.func96, Tryz.ntmps96
    go_wp2
    go_ret
    exact ⟨by rw [e.out]; rfl, hbel⟩
  · obtain ⟨xs, hs, _, rfl, _⟩ := ha
    obtain ⟨ys, ht, _, rfl, _⟩ := hb
    rw [sg_true, sg_true, cmp_negs]
    go_enter Tryz.func96, Tryz.ntmps96
    go_wp2_with fail
    refine (compare_any B A m d n c ys xs _ (ht.below hbel) (hs.below hbel)).mono ?_
    rintro e w1 ⟨rfl, hb1⟩
    go_wp2
    go_ret
    exact ⟨rfl, hbel.trans (hb1.mono (by simp; omega))⟩
theorem sg_mul (a b : Bool) (u v : Int) : sg (a != b) (u * v) = sg a u * sg b v := by cases a <;> cases b <;> simp [sg, Int.neg_mul, Int.mul_neg]
theorem sg_add (a : Bool) (u v : Int) : sg a (u + v) = sg a u + sg a v := by cases a <;> simp [sg] <;> omega
def bx3 (w : World) (a b : Value) (c d : Value) : World := ((w.alloc (.cells #[a, b] 24)).alloc (.cells #[c, d] 24)).alloc (.cells #[.bool false, .slice none 0 0] 24)
set_option maxHeartbeats 1000000 in
set_option maxRecDepth 10000 in
theorem imul_any (na nb : Bool) (A B : Option Addr) (n c m d : Nat) (x y : Int) (w : World) (ha : IsInt w na A n c x) (hb : IsInt w nb B m d y) (hn : n ≤ 1000000) (hm : m ≤ 1000000) :
    Calls Tryz.prog 89 #[.agg #[.bool na, .slice A n c], .agg #[.bool nb, .slice B m d]] w (RetI w (x * y)) := by
  obtain ⟨xs, hs, _, rfl, _⟩ := ha
  obtain ⟨ys, ht, _, rfl, _⟩ := hb
  rw [← sg_mul]
  obtain ⟨s, hsn⟩ : ∃ s, (na != nb) = s := ⟨_, rfl⟩
  rw [hsn]
  replace hsn : (!(na == nb)) = s := hsn
  have hbel : Below w.heap.size w (bx3 w (.bool na) (.slice A n c) (.bool nb) (.slice B m d)) := (((Below.refl _ _).alloc (Nat.le_refl _) _).alloc (by simp) _).alloc (by simp; omega) _
  have k1 : Bk (bx3 w (.bool na) (.slice A n c) (.bool nb) (.slice B m d)) w.heap.size 24 #[.bool na, .slice A n c] := ((Bk.new w 24 _).alloc _).alloc _
  have k2 : Bk (bx3 w (.bool na) (.slice A n c) (.bool nb) (.slice B m d)) (w.heap.size + 1) 24 #[.bool nb, .slice B m d] := by
    have := (Bk.new (w.alloc (.cells #[.bool na, .slice A n c] 24)) 24 #[.bool nb, .slice B m d]).alloc (.cells #[.bool false, .slice none 0 0] 24)
    simpa [bx3] using this
  have k3 : Bk (bx3 w (.bool na) (.slice A n c) (.bool nb) (.slice B m d)) (w.heap.size + 1 + 1) 24 #[.bool false, .slice none 0 0] := by
    have := Bk.new ((w.alloc (.cells #[.bool na, .slice A n c] 24)).alloc (.cells #[.bool nb, .slice B m d] 24)) 24 #[.bool false, .slice none 0 0]
    simpa [bx3] using this
  have hsz : (bx3 w (.bool na) (.slice A n c) (.bool nb) (.slice B m d)).heap.size = w.heap.size + 3 := by simp [bx3]
  replace hs := hs.below hbel
  replace ht := ht.below hbel
  go_enter Tryz.func89, Tryz.ntmps89
  go_wp2_with fail
  rw [show ((w.alloc (.cells #[.bool na, .slice A n c] 24)).alloc (.cells #[.bool nb, .slice B m d] 24)).alloc (.cells #[.bool false, .slice none 0 0] 24) = bx3 w (.bool na) (.slice A n c) (.bool nb) (.slice B m d) from rfl]
  generalize bx3 w (.bool na) (.slice A n c) (.bool nb) (.slice B m d) = w0 at *
  have j1 : Bk w0.drew w.heap.size 24 #[.bool na, .slice A n c] := k1
  have j2 : Bk w0.drew (w.heap.size + 1) 24 #[.bool nb, .slice B m d] := k2
  have j3 : Bk w0.drew (w.heap.size + 1 + 1) 24 #[.bool false, .slice none 0 0] := k3
  have hs0 : Sl w0.drew A n c xs := hs
  have ht0 : Sl w0.drew B m d ys := ht
  have hbd : Below w.heap.size w w0.drew := hbel.drew
  have hq0 : Below w0.heap.size w0.drew w0.drew := Below.refl _ _
  have f1 : w0.drew.cell? ⟨w.heap.size, 0, none⟩ = some (.bool na) := (j1.cell 0).trans rfl
  have f2 : w0.drew.cell? ⟨w.heap.size, 1, none⟩ = some (.slice A n c) := (j1.cell 1).trans rfl
  have f3 : w0.drew.cell? ⟨w.heap.size + 1, 0, none⟩ = some (.bool nb) := (j2.cell 0).trans rfl
  have f4 : w0.drew.cell? ⟨w.heap.size + 1, 1, none⟩ = some (.slice B m d) := (j2.cell 1).trans rfl
  clear hs ht k1 k2 k3
  go_region_held3 (fun w' => w'.cell? ⟨w.heap.size, 0, none⟩ = some (.bool na) ∧ w'.cell? ⟨w.heap.size, 1, none⟩ = some (.slice A n c) ∧ w'.cell? ⟨w.heap.size + 1, 0, none⟩ = some (.bool nb) ∧ w'.cell? ⟨w.heap.size + 1, 1, none⟩ = some (.slice B m d))
    (first | exact ⟨f1, f2, f3, f4⟩ | exact ⟨((j1.below hq0).cell 0).trans rfl, ((j1.below hq0).cell 1).trans rfl, ((j2.below hq0).cell 0).trans rfl, ((j2.below hq0).cell 1).trans rfl⟩ | exact ⟨gr.cell (((j1.below hq0).cell 0).trans rfl) (by simp; omega), gr.cell (((j1.below hq0).cell 1).trans rfl) (by simp; omega), gr.cell (((j2.below hq0).cell 0).trans rfl) (by simp), gr.cell (((j2.below hq0).cell 1).trans rfl) (by simp)⟩)
    (first
      | (go_at_call 115; refine (times_any A B n c m d xs ys _ (hs0.below hq0) (ht0.below hq0) hn hm).mono ?_; rintro e w4 ⟨A4, c4, zs, rfl, hown, hval, hb4⟩; replace hown := hown.le (b := w0.heap.size) hq0.size; replace hq0 := hq0.trans (hb4.mono hq0.size))
      | (go_at_call 102; refine (signed_any s A4 _ c4 zs _ hown.sl).mono ?_; rintro e w5 ⟨rfl, hb5⟩; have hi := (isInt_signed hown.sl s).below hb5; replace hq0 := hq0.trans (hb5.mono hq0.size); have hk3 := j3.below hq0; have hc0 := (hk3.cell 0).trans rfl; have hc1 := (hk3.cell 1).trans rfl; have hne := hown.apart (g := w.heap.size + 1 + 1) (by omega); have hfr := hown.fresh (k := w.heap.size) (by omega); generalize (trm zs).length = l at *; obtain ⟨z0, z1, _, g0, g1, gr, be⟩ := boxed2 hk3 (hbd.trans (hq0.mono (by omega))) (by omega) (.bool (s && decide (0 < l))) (.slice A4 l l)))
  have hi2 := hi.grown gr hne
  rw [hval] at hi2
  clear hi gr hown hq0 hb4 hb5 hk3 j1 j2 j3 hs0 ht0 f1 f2 f3 f4 hbd hbel
  go_wp2
  refine bodyPost_ret (by simp [results, Tryz.results89, go_sem, z0, z1]; try rfl) rfl ?_
  exact ⟨_, _, _, _, rfl, hi2, hfr, be⟩
set_option maxHeartbeats 1000000 in
set_option maxRecDepth 10000 in
theorem iadd_same (na nb : Bool) (A B : Option Addr) (n c m d : Nat) (x y : Int) (w : World) (ha : IsInt w na A n c x) (hb : IsInt w nb B m d y) (hab : na = nb) (hn : n ≤ 1000000) (hm : m ≤ 1000000) :
    Calls Tryz.prog 97 #[.agg #[.bool na, .slice A n c], .agg #[.bool nb, .slice B m d]] w (RetI w (x + y)) := by
  obtain ⟨xs, hs, _, rfl, _⟩ := ha
  obtain ⟨ys, ht, _, rfl, _⟩ := hb
  subst hab
  rw [← sg_add]
  have hsn : (na == na) = true := by simp
  have hbel : Below w.heap.size w (bx3 w (.bool na) (.slice A n c) (.bool na) (.slice B m d)) := (((Below.refl _ _).alloc (Nat.le_refl _) _).alloc (by simp) _).alloc (by simp; omega) _
  have k1 : Bk (bx3 w (.bool na) (.slice A n c) (.bool na) (.slice B m d)) w.heap.size 24 #[.bool na, .slice A n c] := ((Bk.new w 24 _).alloc _).alloc _
  have k2 : Bk (bx3 w (.bool na) (.slice A n c) (.bool na) (.slice B m d)) (w.heap.size + 1) 24 #[.bool na, .slice B m d] := by
    have := (Bk.new (w.alloc (.cells #[.bool na, .slice A n c] 24)) 24 #[.bool na, .slice B m d]).alloc (.cells #[.bool false, .slice none 0 0] 24)
    simpa [bx3] using this
  have k3 : Bk (bx3 w (.bool na) (.slice A n c) (.bool na) (.slice B m d)) (w.heap.size + 1 + 1) 24 #[.bool false, .slice none 0 0] := by
    have := Bk.new ((w.alloc (.cells #[.bool na, .slice A n c] 24)).alloc (.cells #[.bool na, .slice B m d] 24)) 24 #[.bool false, .slice none 0 0]
    simpa [bx3] using this
  have hsz : (bx3 w (.bool na) (.slice A n c) (.bool na) (.slice B m d)).heap.size = w.heap.size + 3 := by simp [bx3]
  replace hs := hs.below hbel
  replace ht := ht.below hbel
  go_enter Tryz.func97, Tryz.ntmps97
  go_wp2_with fail
  rw [show ((w.alloc (.cells #[.bool na, .slice A n c] 24)).alloc (.cells #[.bool na, .slice B m d] 24)).alloc (.cells #[.bool false, .slice none 0 0] 24) = bx3 w (.bool na) (.slice A n c) (.bool na) (.slice B m d) from rfl]
  generalize bx3 w (.bool na) (.slice A n c) (.bool na) (.slice B m d) = w0 at *
  have j1 : Bk w0.drew w.heap.size 24 #[.bool na, .slice A n c] := k1
  have j2 : Bk w0.drew (w.heap.size + 1) 24 #[.bool na, .slice B m d] := k2
  have j3 : Bk w0.drew (w.heap.size + 1 + 1) 24 #[.bool false, .slice none 0 0] := k3
  have hs0 : Sl w0.drew A n c xs := hs
  have ht0 : Sl w0.drew B m d ys := ht
  have hbd : Below w.heap.size w w0.drew := hbel.drew
  have hq0 : Below w0.heap.size w0.drew w0.drew := Below.refl _ _
  have f1 : w0.drew.cell? ⟨w.heap.size, 0, none⟩ = some (.bool na) := (j1.cell 0).trans rfl
  have f2 : w0.drew.cell? ⟨w.heap.size, 1, none⟩ = some (.slice A n c) := (j1.cell 1).trans rfl
  have f3 : w0.drew.cell? ⟨w.heap.size + 1, 0, none⟩ = some (.bool na) := (j2.cell 0).trans rfl
  have f4 : w0.drew.cell? ⟨w.heap.size + 1, 1, none⟩ = some (.slice B m d) := (j2.cell 1).trans rfl
  clear hs ht k1 k2 k3
  go_region_held3 (fun w' => w'.cell? ⟨w.heap.size, 0, none⟩ = some (.bool na) ∧ w'.cell? ⟨w.heap.size, 1, none⟩ = some (.slice A n c) ∧ w'.cell? ⟨w.heap.size + 1, 0, none⟩ = some (.bool na) ∧ w'.cell? ⟨w.heap.size + 1, 1, none⟩ = some (.slice B m d))
    (first | exact ⟨f1, f2, f3, f4⟩ | exact ⟨((j1.below hq0).cell 0).trans rfl, ((j1.below hq0).cell 1).trans rfl, ((j2.below hq0).cell 0).trans rfl, ((j2.below hq0).cell 1).trans rfl⟩ | exact ⟨gr.cell (((j1.below hq0).cell 0).trans rfl) (by simp; omega), gr.cell (((j1.below hq0).cell 1).trans rfl) (by simp; omega), gr.cell (((j2.below hq0).cell 0).trans rfl) (by simp), gr.cell (((j2.below hq0).cell 1).trans rfl) (by simp)⟩)
    (first
      | (go_at_call 121; refine (plus_any A B n c m d xs ys _ (hs0.below hq0) (ht0.below hq0) hn hm).mono ?_; rintro e w4 ⟨k4, A4, c4, zs, rfl, hown, hval, hb4⟩; replace hown := hown.le (b := w0.heap.size) hq0.size; replace hq0 := hq0.trans (hb4.mono hq0.size))
      | (go_at_call 102; refine (signed_any na A4 _ c4 zs _ hown.sl).mono ?_; rintro e w5 ⟨rfl, hb5⟩; have hi := (isInt_signed hown.sl na).below hb5; replace hq0 := hq0.trans (hb5.mono hq0.size); have hk3 := j3.below hq0; have hc0 := (hk3.cell 0).trans rfl; have hc1 := (hk3.cell 1).trans rfl; have hne := hown.apart (g := w.heap.size + 1 + 1) (by omega); have hfr := hown.fresh (k := w.heap.size) (by omega); generalize (trm zs).length = l at *; obtain ⟨z0, z1, _, g0, g1, gr, be⟩ := boxed2 hk3 (hbd.trans (hq0.mono (by omega))) (by omega) (.bool (na && decide (0 < l))) (.slice A4 l l)))
  have hi2 := hi.grown gr hne
  rw [hval] at hi2
  clear hi gr hown hq0 hb4 hb5 hk3 j1 j2 j3 hs0 ht0 f1 f2 f3 f4 hbd hbel
  go_wp2
  refine bodyPost_ret (by simp [results, Tryz.results97, go_sem, z0, z1]; try rfl) rfl ?_
  exact ⟨_, _, _, _, rfl, hi2, hfr, be⟩
theorem sg_sub (a b : Bool) (h : (a == b) = false) (u v : Int) : sg a (u - v) = sg a u + sg b v := by cases a <;> cases b <;> simp [sg] at h ⊢ <;> omega
theorem Sl.old {w : World} {A : Option Addr} {n c : Nat} {xs : List Int} (h : Sl w A n c xs) : ∀ b off, A = some ⟨b, off, none⟩ → 0 < n → b < w.heap.size := by
  intro b off e h0
  obtain ⟨b', off', e', hlt, _⟩ := h.1.2 h0
  rw [e] at e'
  injection e' with e'
  injection e' with e' _ _
  omega
theorem Sl.grown' {w w' : World} {row : Option Nat} {A : Option Addr} {n c : Nat} {xs : List Int} (h : Sl w A n c xs) (hg : w.grownBy w' row) (hne : ∀ b off, A = some ⟨b, off, none⟩ → 0 < n → some b ≠ row) : Sl w' A n c xs := by
  refine ⟨⟨h.1.1, fun hn => ?_⟩, h.2⟩
  obtain ⟨b, off, e, hlt, hc⟩ := h.1.2 hn
  exact ⟨b, off, e, Nat.lt_of_lt_of_le hlt hg.size, fun j u hu => hg.cell (hc j u hu) (hne b off e hn)⟩
theorem grown_set (w : World) (g i : Nat) (v : Value) : w.grownBy (w.setCell ⟨g, i, none⟩ v) (some g) := ⟨rfl, rfl, rfl, by simp, fun k _ hk => heap_setCell_other w ⟨g, i, none⟩ k v (fun e => hk (by simp [e]))⟩
theorem Bk.other {w : World} {g g' : Nat} {t : TypeId} {cs : Array Value} (h : Bk w g t cs) (hne : g ≠ g') (i : Nat) (v : Value) : Bk (w.setCell ⟨g', i, none⟩ v) g t cs := h.grown (grown_set w g' i v) (by simpa using hne)
def swp (w : World) (g g' : Nat) (a b c d : Value) : World := (((w.setCell ⟨g, 0, none⟩ c).setCell ⟨g, 1, none⟩ d).setCell ⟨g', 0, none⟩ a).setCell ⟨g', 1, none⟩ b
section
variable {w : World} {g g' : Nat} {a b c d : Value} {t : TypeId}
theorem swp_1 (h : Bk w g t #[a, b]) (hne : g ≠ g') : Bk (swp w g g' a b c d) g t #[c, d] := (((h.set 0 c).set 1 d).other hne 0 a).other hne 1 b
theorem swp_2 (h : Bk w g' t #[c, d]) (hne : g' ≠ g) : Bk (swp w g g' a b c d) g' t #[a, b] := (((h.other hne 0 c).other hne 1 d).set 0 a).set 1 b
theorem swp_3 {k : Nat} {cs : Array Value} (h : Bk w k t cs) (h1 : k ≠ g) (h2 : k ≠ g') : Bk (swp w g g' a b c d) k t cs := (((h.other h1 0 c).other h1 1 d).other h2 0 a).other h2 1 b
theorem swp_below {w0 : World} (h : Below w0.heap.size w0 w) (h1 : w0.heap.size ≤ g) (h2 : w0.heap.size ≤ g') : Below w0.heap.size w0 (swp w g g' a b c d) := by
  have e : ∀ (x : Nat), w0.heap.size ≤ x → ∀ k, some x = some k → w0.heap.size ≤ k := by intro x hx k hk; injection hk with hk; omega
  have b1 := h.grown (grown_set w g 0 c) h.size (e g h1)
  have b2 := b1.grown (grown_set _ g 1 d) b1.size (e g h1)
  have b3 := b2.grown (grown_set _ g' 0 a) b2.size (e g' h2)
  exact b3.grown (grown_set _ g' 1 b) b3.size (e g' h2)
theorem swp_sl {A : Option Addr} {n e : Nat} {xs : List Int} (h : Sl w A n e xs) (h1 : ∀ b off, A = some ⟨b, off, none⟩ → 0 < n → b < g ∧ b < g') : Sl (swp w g g' a b c d) A n e xs := by
  have n1 : ∀ b off, A = some ⟨b, off, none⟩ → 0 < n → some b ≠ some g := fun b off e h0 => by have := h1 b off e h0; simp; omega
  have n2 : ∀ b off, A = some ⟨b, off, none⟩ → 0 < n → some b ≠ some g' := fun b off e h0 => by have := h1 b off e h0; simp; omega
  exact (((h.grown' (grown_set w g 0 c) n1).grown' (grown_set _ g 1 d) n1).grown' (grown_set _ g' 0 a) n2).grown' (grown_set _ g' 1 b) n2
theorem swp_size : (swp w g g' a b c d).heap.size = w.heap.size := by simp [swp]
end
set_option maxHeartbeats 2000000 in
set_option maxRecDepth 10000 in
theorem iadd_other (na nb : Bool) (A B : Option Addr) (n c m d : Nat) (x y : Int) (w : World) (ha : IsInt w na A n c x) (hb : IsInt w nb B m d y) (hab : (na == nb) = false) (hn : n ≤ 1000000) (hm : m ≤ 1000000) :
    Calls Tryz.prog 97 #[.agg #[.bool na, .slice A n c], .agg #[.bool nb, .slice B m d]] w (RetI w (x + y)) := by
  obtain ⟨xs, hs, _, rfl, _⟩ := ha
  obtain ⟨ys, ht, _, rfl, _⟩ := hb
  obtain ⟨t, htt⟩ : ∃ t, cmpI (val xs) (val ys) = t := ⟨_, rfl⟩
  have oldA := hs.old
  have oldB := ht.old
  have hbel : Below w.heap.size w (bx3 w (.bool na) (.slice A n c) (.bool nb) (.slice B m d)) := (((Below.refl _ _).alloc (Nat.le_refl _) _).alloc (by simp) _).alloc (by simp; omega) _
  have k1 : Bk (bx3 w (.bool na) (.slice A n c) (.bool nb) (.slice B m d)) w.heap.size 24 #[.bool na, .slice A n c] := ((Bk.new w 24 _).alloc _).alloc _
  have k2 : Bk (bx3 w (.bool na) (.slice A n c) (.bool nb) (.slice B m d)) (w.heap.size + 1) 24 #[.bool nb, .slice B m d] := by
    have := (Bk.new (w.alloc (.cells #[.bool na, .slice A n c] 24)) 24 #[.bool nb, .slice B m d]).alloc (.cells #[.bool false, .slice none 0 0] 24)
    simpa [bx3] using this
  have k3 : Bk (bx3 w (.bool na) (.slice A n c) (.bool nb) (.slice B m d)) (w.heap.size + 1 + 1) 24 #[.bool false, .slice none 0 0] := by
    have := Bk.new ((w.alloc (.cells #[.bool na, .slice A n c] 24)).alloc (.cells #[.bool nb, .slice B m d] 24)) 24 #[.bool false, .slice none 0 0]
    simpa [bx3] using this
  have hsz : (bx3 w (.bool na) (.slice A n c) (.bool nb) (.slice B m d)).heap.size = w.heap.size + 3 := by simp [bx3]
  replace hs := hs.below hbel
  replace ht := ht.below hbel
  have Hx := Lib.hid (sg_sub na nb hab (val xs) (val ys))
  have Hy := Lib.hid (sg_sub nb na (by cases na <;> cases nb <;> simp at hab ⊢) (val ys) (val xs))
  go_enter Tryz.func97, Tryz.ntmps97
  go_wp2_with fail
  refine (compare_any A B n c m d xs ys (bx3 w (.bool na) (.slice A n c) (.bool nb) (.slice B m d)) hs ht).mono ?_
  rintro e w1 ⟨rfl, hb1⟩
  rw [htt]
  replace hs := hs.below hb1
  replace ht := ht.below hb1
  replace k1 := k1.below hb1
  replace k2 := k2.below hb1
  replace k3 := k3.below hb1
  have hs1 : w.heap.size + 3 ≤ w1.heap.size := by have := hb1.size; omega
  replace hbel := hbel.trans (hb1.mono (by omega))
  clear hb1 hsz
  by_cases htn : t < 0
  · have hle : val xs ≤ val ys := by
      unfold cmpI at htt
      split at htt
      · omega
      · split at htt <;> omega
    clear htt
    have c10 := (k1.cell 0).trans rfl
    have c11 := (k1.cell 1).trans rfl
    have c20 := (k2.cell 0).trans rfl
    have c21 := (k2.cell 1).trans rfl
    have z10 := k1.frozen 0
    have z11 := k1.frozen 1
    have z20 := k2.frozen 0
    have z21 := k2.frozen 1
    have hs2 : Sl (swp w1 w.heap.size (w.heap.size + 1) (.bool na) (.slice A n c) (.bool nb) (.slice B m d)) A n c xs := swp_sl hs (fun b off e h0 => by have := oldA b off e h0; omega)
    have ht2 : Sl (swp w1 w.heap.size (w.heap.size + 1) (.bool na) (.slice A n c) (.bool nb) (.slice B m d)) B m d ys := swp_sl ht (fun b off e h0 => by have := oldB b off e h0; omega)
    have k12 : Bk (swp w1 w.heap.size (w.heap.size + 1) (.bool na) (.slice A n c) (.bool nb) (.slice B m d)) w.heap.size 24 #[.bool nb, .slice B m d] := swp_1 k1 (by omega)
    have k22 : Bk (swp w1 w.heap.size (w.heap.size + 1) (.bool na) (.slice A n c) (.bool nb) (.slice B m d)) (w.heap.size + 1) 24 #[.bool na, .slice A n c] := swp_2 k2 (by omega)
    have k32 : Bk (swp w1 w.heap.size (w.heap.size + 1) (.bool na) (.slice A n c) (.bool nb) (.slice B m d)) (w.heap.size + 1 + 1) 24 #[.bool false, .slice none 0 0] := swp_3 k3 (by omega) (by omega)
    have hbel2 : Below w.heap.size w (swp w1 w.heap.size (w.heap.size + 1) (.bool na) (.slice A n c) (.bool nb) (.slice B m d)) := swp_below hbel (Nat.le_refl _) (by omega)
    have hs12 : w.heap.size + 3 ≤ (swp w1 w.heap.size (w.heap.size + 1) (.bool na) (.slice A n c) (.bool nb) (.slice B m d)).heap.size := by rw [swp_size]; exact hs1
    clear k1 k2 k3 hs ht hbel hs1
    go_wp2_with fail
    rw [show (((w1.setCell ⟨w.heap.size, 0, none⟩ (.bool nb)).setCell ⟨w.heap.size, 1, none⟩ (.slice B m d)).setCell ⟨w.heap.size + 1, 0, none⟩ (.bool na)).setCell ⟨w.heap.size + 1, 1, none⟩ (.slice A n c) = swp w1 w.heap.size (w.heap.size + 1) (.bool na) (.slice A n c) (.bool nb) (.slice B m d) from rfl]
    generalize swp w1 w.heap.size (w.heap.size + 1) (.bool na) (.slice A n c) (.bool nb) (.slice B m d) = w6 at *
    clear c10 c11 c20 c21 z10 z11 z20 z21
    have hs := hs2
    have ht := ht2
    have k1 := k12
    have k2 := k22
    have k3 := k32
    have hbel := hbel2
    have hs1 := hs12
    clear hs2 ht2 k12 k22 k32 hbel2 hs12
    focus
      have j1 : Bk w6.drew w.heap.size 24 #[.bool nb, .slice B m d] := k1
      have j2 : Bk w6.drew (w.heap.size + 1) 24 #[.bool na, .slice A n c] := k2
      have j3 : Bk w6.drew (w.heap.size + 1 + 1) 24 #[.bool false, .slice none 0 0] := k3
      have hs0 : Sl w6.drew B m d ys := ht
      have ht0 : Sl w6.drew A n c xs := hs
      have hbd : Below w.heap.size w w6.drew := hbel.drew
      have hq0 : Below w6.heap.size w6.drew w6.drew := Below.refl _ _
      have f1 : w6.drew.cell? ⟨w.heap.size, 0, none⟩ = some (.bool nb) := (j1.cell 0).trans rfl
      have f2 : w6.drew.cell? ⟨w.heap.size, 1, none⟩ = some (.slice B m d) := (j1.cell 1).trans rfl
      have f4 : w6.drew.cell? ⟨w.heap.size + 1, 1, none⟩ = some (.slice A n c) := (j2.cell 1).trans rfl
      clear hs ht k1 k2 k3
      go_region_held3 (fun w' => w'.cell? ⟨w.heap.size, 0, none⟩ = some (.bool nb) ∧ w'.cell? ⟨w.heap.size, 1, none⟩ = some (.slice B m d) ∧ w'.cell? ⟨w.heap.size + 1, 1, none⟩ = some (.slice A n c))
        (first | exact ⟨f1, f2, f4⟩ | exact ⟨((j1.below hq0).cell 0).trans rfl, ((j1.below hq0).cell 1).trans rfl, ((j2.below hq0).cell 1).trans rfl⟩ | exact ⟨gr.cell (((j1.below hq0).cell 0).trans rfl) (by simp; omega), gr.cell (((j1.below hq0).cell 1).trans rfl) (by simp; omega), gr.cell (((j2.below hq0).cell 1).trans rfl) (by simp)⟩)
        (first
          | (go_at_call 122; refine (minus_any B A m d n c ys xs _ (hs0.below hq0) (ht0.below hq0) hm hle).mono ?_; rintro e w4 ⟨A4, c4, zs, rfl, hown, hval, hb4⟩; replace hown := hown.le (b := w6.heap.size) hq0.size; replace hq0 := hq0.trans (hb4.mono hq0.size))
          | (go_at_call 102; refine (signed_any nb A4 _ c4 zs _ hown.sl).mono ?_; rintro e w5 ⟨rfl, hb5⟩; have hi := (isInt_signed hown.sl nb).below hb5; replace hq0 := hq0.trans (hb5.mono hq0.size); have hk3 := j3.below hq0; have hc0 := (hk3.cell 0).trans rfl; have hc1 := (hk3.cell 1).trans rfl; have hne := hown.apart (g := w.heap.size + 1 + 1) (by omega); have hfr := hown.fresh (k := w.heap.size) (by omega); generalize (trm zs).length = l at *; obtain ⟨z0, z1, _, g0, g1, gr, be⟩ := boxed2 hk3 (hbd.trans (hq0.mono (by omega))) (by omega) (.bool (nb && decide (0 < l))) (.slice A4 l l)))
      have hi2 := hi.grown gr hne
      rw [hval] at hi2
      clear hi gr hown hq0 hb4 hb5 hk3 j1 j2 j3 hs0 ht0 f1 f2 f4 hbd hbel
      go_wp2
      refine bodyPost_ret (by simp [results, Tryz.results97, go_sem, z0, z1]; try rfl) rfl ?_
      refine ⟨_, _, _, _, rfl, ?_, hfr, be⟩
      rw [Int.add_comm, ← Hy.out]
      exact hi2
  · have hle : val ys ≤ val xs := by
      unfold cmpI at htt
      split at htt
      · omega
      · split at htt <;> omega
    clear htt
    go_wp2_with fail
    focus
      have j1 : Bk w1.drew w.heap.size 24 #[.bool na, .slice A n c] := k1
      have j2 : Bk w1.drew (w.heap.size + 1) 24 #[.bool nb, .slice B m d] := k2
      have j3 : Bk w1.drew (w.heap.size + 1 + 1) 24 #[.bool false, .slice none 0 0] := k3
      have hs0 : Sl w1.drew A n c xs := hs
      have ht0 : Sl w1.drew B m d ys := ht
      have hbd : Below w.heap.size w w1.drew := hbel.drew
      have hq0 : Below w1.heap.size w1.drew w1.drew := Below.refl _ _
      have f1 : w1.drew.cell? ⟨w.heap.size, 0, none⟩ = some (.bool na) := (j1.cell 0).trans rfl
      have f2 : w1.drew.cell? ⟨w.heap.size, 1, none⟩ = some (.slice A n c) := (j1.cell 1).trans rfl
      have f4 : w1.drew.cell? ⟨w.heap.size + 1, 1, none⟩ = some (.slice B m d) := (j2.cell 1).trans rfl
      clear hs ht k1 k2 k3
      go_region_held3 (fun w' => w'.cell? ⟨w.heap.size, 0, none⟩ = some (.bool na) ∧ w'.cell? ⟨w.heap.size, 1, none⟩ = some (.slice A n c) ∧ w'.cell? ⟨w.heap.size + 1, 1, none⟩ = some (.slice B m d))
        (first | exact ⟨f1, f2, f4⟩ | exact ⟨((j1.below hq0).cell 0).trans rfl, ((j1.below hq0).cell 1).trans rfl, ((j2.below hq0).cell 1).trans rfl⟩ | exact ⟨gr.cell (((j1.below hq0).cell 0).trans rfl) (by simp; omega), gr.cell (((j1.below hq0).cell 1).trans rfl) (by simp; omega), gr.cell (((j2.below hq0).cell 1).trans rfl) (by simp)⟩)
        (first
          | (go_at_call 122; refine (minus_any A B n c m d xs ys _ (hs0.below hq0) (ht0.below hq0) hn hle).mono ?_; rintro e w4 ⟨A4, c4, zs, rfl, hown, hval, hb4⟩; replace hown := hown.le (b := w1.heap.size) hq0.size; replace hq0 := hq0.trans (hb4.mono hq0.size))
          | (go_at_call 102; refine (signed_any na A4 _ c4 zs _ hown.sl).mono ?_; rintro e w5 ⟨rfl, hb5⟩; have hi := (isInt_signed hown.sl na).below hb5; replace hq0 := hq0.trans (hb5.mono hq0.size); have hk3 := j3.below hq0; have hc0 := (hk3.cell 0).trans rfl; have hc1 := (hk3.cell 1).trans rfl; have hne := hown.apart (g := w.heap.size + 1 + 1) (by omega); have hfr := hown.fresh (k := w.heap.size) (by omega); generalize (trm zs).length = l at *; obtain ⟨z0, z1, _, g0, g1, gr, be⟩ := boxed2 hk3 (hbd.trans (hq0.mono (by omega))) (by omega) (.bool (na && decide (0 < l))) (.slice A4 l l)))
      have hi2 := hi.grown gr hne
      rw [hval] at hi2
      clear hi gr hown hq0 hb4 hb5 hk3 j1 j2 j3 hs0 ht0 f1 f2 f4 hbd hbel
      go_wp2
      refine bodyPost_ret (by simp [results, Tryz.results97, go_sem, z0, z1]; try rfl) rfl ?_
      refine ⟨_, _, _, _, rfl, ?_, hfr, be⟩
      rw [← Hx.out]
      exact hi2
theorem divide_any (A B : Option Addr) (n c m d : Nat) (xs ys : List Int) (w : World) (ha : Sl w A n c xs) (hb : Sl w B m d ys) (hn : n ≤ 1000000) (hm : m ≤ 1000000) (h0 : val ys ≠ 0) :
    Calls Tryz.prog 124 #[.slice A n c, .slice B m d] w (RetSl2 w (val xs / val ys) (val xs % val ys)) := by
  by_cases h1 : (trm ys).length = 1
  · exact divide_one A B n c m d xs ys w ha hb hn h1
  · by_cases hlt : val xs < val ys
    · exact divide_less A B n c m d xs ys w ha hb hn h1 hlt
    · have h2 : (trm ys).length ≠ 0 := by
        intro e
        have e2 : trm ys = [] := List.length_eq_zero_iff.1 e
        exact h0 (by rw [← val_trm, e2]; rfl)
      exact divide_main A B n c m d ((trm ys).length - 2) xs ys w ha hb hn hm (by omega) (by omega)
theorem iadd_any (na nb : Bool) (A B : Option Addr) (n c m d : Nat) (x y : Int) (w : World) (ha : IsInt w na A n c x) (hb : IsInt w nb B m d y) (hn : n ≤ 1000000) (hm : m ≤ 1000000) :
    Calls Tryz.prog 97 #[.agg #[.bool na, .slice A n c], .agg #[.bool nb, .slice B m d]] w (RetI w (x + y)) := by
  by_cases h : na = nb
  · exact iadd_same na nb A B n c m d x y w ha hb h hn hm
  · exact iadd_other na nb A B n c m d x y w ha hb (by simpa using h) hn hm
set_option maxRecDepth 10000 in
theorem wp_copy {w : World} {o : Oper} {a : Act} {K : Act → World → Prop} {Q : Exit → Act → World → Prop} (s x : Operand)
    (ho : o.op = .call { callee := .builtin .append, args := #[s, x], argTypes := #[22, 22] })
    (A : Option Addr) (n c : Nat) (xs : List Int) (hs : a.eval s = .slice none 0 0) (hx : a.eval x = .slice A n c) (ha : Sl w A n c xs) (hn : n ≤ 10000000)
    (h : ∀ v' w', Ow w' w.heap.size v' n xs → w.grownBy w' none → K (a.put o.dst v') w') : o.wp Tryz.prog a w K Q := by
  obtain ⟨i0, hi0, hz0, hz1, hz2⟩ := info_parts info_u32
  have hla := ha.len
  cases A with
  | none =>
    have h0 : n = 0 := by
      rcases Nat.eq_zero_or_pos n with h0 | h0
      · exact h0
      · obtain ⟨b, off, e, _⟩ := ha.1.2 h0; cases e
    subst h0
    obtain rfl := List.length_eq_zero_iff.1 hla
    have hrun := run_append_nothing (P := Tryz.prog) w w.heap.size 22 o.type 89 i0 1 c Tryz.underlying22 hi0 (.slice none 0 0) 0 [] (own_nil _ _ _ _)
    unfold Oper.wp
    simp [execOp, ho, resolve, invoke, builtin, hs, hx, hrun, Result.andThen]
    exact (h _ _ ⟨own_nil _ _ _ _, Lim.nil⟩ (World.grownBy.refl _ _))
  | some ad =>
    refine wp_append_own w s x 22 ho w.heap.size 89 i0 (.int .u32 0) 1 4 Tryz.underlying22 hi0 hz0 hz1 hz2 rfl (by decide) (.slice none 0 0) 0 [] hs (own_nil _ _ _ _) ad n c (xs.map (Value.int .u32)) hx (by simp [hla]) ?_ (by intro u hu; simp at hu; obtain ⟨z, _, rfl⟩ := hu; simp [Value.oneCell']) (by unfold maxLen; omega) (by omega) (Nat.le_refl _) ?_
    · intro j u hu
      have hj : 0 < n := by
        rcases Nat.eq_zero_or_pos n with h0 | h0
        · subst h0
          obtain rfl := List.length_eq_zero_iff.1 hla
          simp at hu
        · exact h0
      obtain ⟨b, off, e, hlt, hc⟩ := ha.1.2 hj
      injection e with e
      subst e
      have := hc j u hu
      unfold Addr.add
      split
      · rename_i h0; subst h0; exact this
      · exact this
    · intro v' w' hown hgr _
      refine h v' w' ⟨by simpa using hown, ha.2.2.2⟩ ?_
      simpa [Value.ownBlock] using hgr
set_option maxHeartbeats 1000000 in
set_option maxRecDepth 10000 in
theorem ineg_any (na : Bool) (A : Option Addr) (n c : Nat) (x : Int) (w : World) (ha : IsInt w na A n c x) (hn : n ≤ 1000000) :
    Calls Tryz.prog 71 #[.agg #[.bool na, .slice A n c]] w (RetI w (-x)) := by
  obtain ⟨xs, hs, _, rfl, _⟩ := ha
  obtain ⟨s, hsn⟩ : ∃ s, (!na) = s := ⟨_, rfl⟩
  have e : -sg na (val xs) = sg s (val xs) := by subst hsn; cases na <;> simp [sg]
  rw [e]
  clear e
  have hbel : Below w.heap.size w ((w.alloc (.cells #[.bool na, .slice A n c] 24)).alloc (.cells #[.bool false, .slice none 0 0] 24)) := ((Below.refl _ _).alloc (Nat.le_refl _) _).alloc (by simp) _
  have k1 : Bk ((w.alloc (.cells #[.bool na, .slice A n c] 24)).alloc (.cells #[.bool false, .slice none 0 0] 24)) w.heap.size 24 #[.bool na, .slice A n c] := (Bk.new w 24 _).alloc _
  have k3 : Bk ((w.alloc (.cells #[.bool na, .slice A n c] 24)).alloc (.cells #[.bool false, .slice none 0 0] 24)) (w.heap.size + 1) 24 #[.bool false, .slice none 0 0] := by
    have := Bk.new (w.alloc (.cells #[.bool na, .slice A n c] 24)) 24 #[.bool false, .slice none 0 0]
    simpa using this
  have hsz : ((w.alloc (.cells #[.bool na, .slice A n c] 24)).alloc (.cells #[.bool false, .slice none 0 0] 24)).heap.size = w.heap.size + 2 := by simp
  replace hs := hs.below hbel
  go_enter Tryz.func71, Tryz.ntmps71
  go_wp2_with fail
  generalize (w.alloc (.cells #[.bool na, .slice A n c] 24)).alloc (.cells #[.bool false, .slice none 0 0] 24) = w0 at *
  have j1 : Bk w0.drew w.heap.size 24 #[.bool na, .slice A n c] := k1
  have j3 : Bk w0.drew (w.heap.size + 1) 24 #[.bool false, .slice none 0 0] := k3
  have hs0 : Sl w0.drew A n c xs := hs
  have hbd : Below w.heap.size w w0.drew := hbel.drew
  have hq0 : Below w0.heap.size w0.drew w0.drew := Below.refl _ _
  have f1 : w0.drew.cell? ⟨w.heap.size, 0, none⟩ = some (.bool na) := (j1.cell 0).trans rfl
  have f2 : w0.drew.cell? ⟨w.heap.size, 1, none⟩ = some (.slice A n c) := (j1.cell 1).trans rfl
  clear hs k1 k3
  go_region_held3 (fun w' => w'.cell? ⟨w.heap.size, 0, none⟩ = some (.bool na) ∧ w'.cell? ⟨w.heap.size, 1, none⟩ = some (.slice A n c))
    (first | exact ⟨f1, f2⟩ | exact ⟨((j1.below hq0).cell 0).trans rfl, ((j1.below hq0).cell 1).trans rfl⟩ | exact ⟨gr.cell (((j1.below hq0).cell 0).trans rfl) (by simp), gr.cell (((j1.below hq0).cell 1).trans rfl) (by simp)⟩)
    (first
      | (refine wp_copy _ _ rfl A n c xs rfl rfl (hs0.below hq0) (by omega) ?_; intro v4 w4 hown hg4; obtain ⟨A4, c4, rfl⟩ := hown.form; replace hown := hown.le (b := w0.heap.size) hq0.size; replace hq0 := hq0.grown hg4 hq0.size (by simp))
      | (go_at_call 102; refine (signed_any s A4 _ c4 xs _ hown.sl).mono ?_; rintro e w5 ⟨rfl, hb5⟩; have hi := (isInt_signed hown.sl s).below hb5; replace hq0 := hq0.trans (hb5.mono hq0.size); have hk3 := j3.below hq0; have hc0 := (hk3.cell 0).trans rfl; have hc1 := (hk3.cell 1).trans rfl; have hne := hown.apart (g := w.heap.size + 1) (by omega); have hfr := hown.fresh (k := w.heap.size) (by omega); generalize (trm xs).length = l at *; obtain ⟨z0, z1, _, g0, g1, gr, be⟩ := boxed2 hk3 (hbd.trans (hq0.mono (by omega))) (by omega) (.bool (s && decide (0 < l))) (.slice A4 l l)))
  have hi2 := hi.grown gr hne
  clear hi gr hown hq0 hb5 hk3 j1 j3 hs0 f1 f2 hbd hbel
  go_wp2
  refine bodyPost_ret (by simp [results, Tryz.results71, go_sem, z0, z1]; try rfl) rfl ?_
  exact ⟨_, _, _, _, rfl, hi2, hfr, be⟩
theorem IsInt.flip {w : World} {neg : Bool} {A : Option Addr} {n c : Nat} {x : Int} (h : IsInt w neg A n c x) : IsInt w (!neg && decide (0 < n)) A n c (-x) := by
  obtain ⟨s1, s2, s3, s4⟩ := h.sign
  obtain ⟨xs, hs, hn, hx, hp⟩ := h
  refine ⟨xs, hs, hn, ?_, ?_⟩
  · cases neg
    · by_cases h0 : 0 < n
      · simp [h0, sg] at hx ⊢; omega
      · have := s3 (by omega)
        simp [h0, sg] at hx ⊢; omega
    · simp [sg] at hx ⊢; omega
  · intro h; simp at h; exact h.2
set_option maxHeartbeats 1000000 in
set_option maxRecDepth 10000 in
theorem isub_any (na nb : Bool) (A B : Option Addr) (n c m d : Nat) (x y : Int) (w : World) (ha : IsInt w na A n c x) (hb : IsInt w nb B m d y) (hn : n ≤ 1000000) (hm : m ≤ 1000000) :
    Calls Tryz.prog 125 #[.agg #[.bool na, .slice A n c], .agg #[.bool nb, .slice B m d]] w (RetI w (x - y)) := by
  have hf := hb.flip
  obtain ⟨s, hsn⟩ : ∃ s, (!nb && decide (0 < m)) = s := ⟨_, rfl⟩
  rw [hsn] at hf
  rw [Int.sub_eq_add_neg]
  have hbel : Below w.heap.size w (bx3 w (.bool na) (.slice A n c) (.bool s) (.slice B m d)) := (((Below.refl _ _).alloc (Nat.le_refl _) _).alloc (by simp) _).alloc (by simp; omega) _
  have ha2 := ha.below hbel
  have hf2 := hf.below hbel
  have k3 : Bk (bx3 w (.bool na) (.slice A n c) (.bool s) (.slice B m d)) (w.heap.size + 1 + 1) 24 #[.bool false, .slice none 0 0] := by
    have := Bk.new ((w.alloc (.cells #[.bool na, .slice A n c] 24)).alloc (.cells #[.bool s, .slice B m d] 24)) 24 #[.bool false, .slice none 0 0]
    simpa [bx3] using this
  have hsz : (bx3 w (.bool na) (.slice A n c) (.bool s) (.slice B m d)).heap.size = w.heap.size + 3 := by simp [bx3]
  clear ha hb hf
  cases nb
  · replace hsn : decide (0 < m) = s := by simpa using hsn
    go_enter Tryz.func125, Tryz.ntmps125
    go_wp2_with fail
    refine (iadd_any _ _ _ _ _ _ _ _ _ _ _ ha2 hf2 hn hm).mono ?_
    rintro e w1 ⟨neg, A', n', c', rfl, hi, hfr, hb1⟩
    have hk3 := k3.below hb1
    have hc0 := (hk3.cell 0).trans rfl
    have hc1 := (hk3.cell 1).trans rfl
    have hne : ∀ b off, A' = some ⟨b, off, none⟩ → some b ≠ some (w.heap.size + 1 + 1) := fun b off e => by have := hfr b off e; simp; omega
    have hfr2 : ∀ b off, A' = some ⟨b, off, none⟩ → w.heap.size ≤ b := fun b off e => by have := hfr b off e; omega
    obtain ⟨z0, z1, _, g0, g1, gr, be⟩ := boxed2 hk3 (hbel.trans (hb1.mono (by omega))) (by omega) (.bool neg) (.slice A' n' c')
    have hi2 := hi.grown gr hne
    clear hi gr hb1 hk3 k3 hbel ha2 hf2 hfr hne
    go_wp2
    refine bodyPost_ret (by simp [results, Tryz.results125, go_sem, z0, z1]; try rfl) rfl ?_
    exact ⟨_, _, _, _, rfl, hi2, hfr2, be⟩
  · obtain rfl : false = s := by simpa using hsn
    go_enter Tryz.func125, Tryz.ntmps125
    go_wp2_with fail
    refine (iadd_any _ _ _ _ _ _ _ _ _ _ _ ha2 hf2 hn hm).mono ?_
    rintro e w1 ⟨neg, A', n', c', rfl, hi, hfr, hb1⟩
    have hk3 := k3.below hb1
    have hc0 := (hk3.cell 0).trans rfl
    have hc1 := (hk3.cell 1).trans rfl
    have hne : ∀ b off, A' = some ⟨b, off, none⟩ → some b ≠ some (w.heap.size + 1 + 1) := fun b off e => by have := hfr b off e; simp; omega
    have hfr2 : ∀ b off, A' = some ⟨b, off, none⟩ → w.heap.size ≤ b := fun b off e => by have := hfr b off e; omega
    obtain ⟨z0, z1, _, g0, g1, gr, be⟩ := boxed2 hk3 (hbel.trans (hb1.mono (by omega))) (by omega) (.bool neg) (.slice A' n' c')
    have hi2 := hi.grown gr hne
    clear hi gr hb1 hk3 k3 hbel ha2 hf2 hfr hne
    go_wp2
    refine bodyPost_ret (by simp [results, Tryz.results125, go_sem, z0, z1]; try rfl) rfl ?_
    exact ⟨_, _, _, _, rfl, hi2, hfr2, be⟩
theorem word_any (na : Bool) (A : Option Addr) (n c : Nat) (xs : List Int) (w : World) (hs : Sl w A n c xs) (hn : n ≤ 1) :
    Calls Tryz.prog 127 #[.agg #[.bool na, .slice A n c]] w fun e w' => e = .returned (.tuple #[.int .u64 (val xs), .bool true]) ∧ Below w.heap.size w w' := by
  have hl := hs.len
  have hbel : Below w.heap.size w (w.alloc (.cells #[.bool na, .slice A n c] 24)) := (Below.refl _ _).alloc (Nat.le_refl _) _
  rcases Nat.eq_zero_or_pos n with h0 | h0
  · subst h0
    obtain rfl := List.length_eq_zero_iff.1 hl
    go_enter Tryz.func127, Tryz.ntmps127
    go_wp2
    go_ret2
    exact ⟨rfl, hbel⟩
  · obtain rfl : n = 1 := by omega
    obtain ⟨b, off, x, rfl, hb, hx, hc, hx0, hx1⟩ := (hs.below hbel).at_ (show 0 < 1 by omega)
    rw [Nat.add_zero] at hc
    have hv : Hid (val xs = x) := by
      show _ = _
      have h1 := val_take_succ hx.out
      rw [val_take_all (by omega)] at h1
      simp [val, pw_zero] at h1
      exact h1
    go_enter Tryz.func127, Tryz.ntmps127
    go_wp2
    go_ret2
    exact ⟨by rw [hv.out]; rfl, hbel⟩
theorem word_two (na : Bool) (A : Option Addr) (c : Nat) (xs : List Int) (w : World) (hs : Sl w A 2 c xs) :
    Calls Tryz.prog 127 #[.agg #[.bool na, .slice A (2 : Nat) c]] w fun e w' => e = .returned (.tuple #[.int .u64 (val xs), .bool true]) ∧ Below w.heap.size w w' := by
  have hl := hs.len
  have hbel : Below w.heap.size w (w.alloc (.cells #[.bool na, .slice A 2 c] 24)) := (Below.refl _ _).alloc (Nat.le_refl _) _
  obtain ⟨b, off, x, rfl, hb, hx, hc, hx0, hx1⟩ := (hs.below hbel).at_ (show 0 < 2 by omega)
  obtain ⟨_, _, y, e1, _, hy, hcy, hy0, hy1⟩ := (hs.below hbel).at_ (show 1 < 2 by omega)
  injection e1 with e1
  injection e1 with e1 e2 _
  subst e1 e2
  rw [Nat.add_zero] at hc
  have hv : Hid (val xs = y * 1000000000 + x) := by
    show _ = _
    have h1 := val_take_succ hx.out
    have h2 := val_take_succ hy.out
    rw [val_take_all (by omega), h1, pw_succ] at h2
    simp [val, pw_zero] at h2
    omega
  go_enter Tryz.func127, Tryz.ntmps127
  go_wp2_with fail
  go_quiet (fail)
  go_wp2
  go_ret2
  exact ⟨by rw [hv.out]; rfl, Below.drewN' hbel _⟩
theorem word_more (na : Bool) (A : Option Addr) (n c : Nat) (w : World) (hn : 3 ≤ n) :
    Calls Tryz.prog 127 #[.agg #[.bool na, .slice A n c]] w fun e w' => e = .returned (.tuple #[.int .u64 0, .bool false]) ∧ Below w.heap.size w w' := by
  have hbel : Below w.heap.size w (w.alloc (.cells #[.bool na, .slice A n c] 24)) := (Below.refl _ _).alloc (Nat.le_refl _) _
  have h0 : ((n : Int) == 0) = false := by simp; omega
  have h1 : ((n : Int) == 1) = false := by simp; omega
  have h2 : ((n : Int) == 2) = false := by simp; omega
  go_enter Tryz.func127, Tryz.ntmps127
  go_wp2
  go_ret2
  exact ⟨rfl, hbel⟩
end Go.Proofs.YthlnndkgpgfbnaaGreat
