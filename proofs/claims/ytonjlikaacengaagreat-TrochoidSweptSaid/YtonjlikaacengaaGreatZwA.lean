/- Plain: the moves of a path one by one; positions around a center. -/
import Derived.Test.YtonjlikaacengaaGreatZaN
namespace Go.Proofs.YtonjlikaacengaaGreat
open Go Go.RowKit
/-- The distance of two numbers. -/
def apD (a b : Int) : Int := if a < b then b - a else a - b
theorem apD_t {a b : Int} (h : decide (a < b) = true) : apD a b = b - a := if_pos (of_decide_eq_true h)
theorem apD_f {a b : Int} (h : decide (a < b) = false) : apD a b = a - b := if_neg (of_decide_eq_false h)
theorem u64_sub {a b : Int} (h0 : 0 ≤ a - b) (h1 : a - b ≤ 1000000000000000) : iari .sub .u64 (IntKind.u64.wrap a) (IntKind.u64.wrap b) = some (a - b) := by
  refine congrArg some (show IntKind.u64.wrap (IntKind.u64.wrap a - IntKind.u64.wrap b) = a - b from ?_)
  unfold IntKind.wrap
  simp [IntKind.bits, IntKind.signed]
  omega
theorem rcastu {P : Program} {f : FuncId} {ds : List D0} {b c : Int} (h : Ok P f ds [.c (.i .u64 b)]) (e : b = c) : Ok P f ds [.c (.i .u64 c)] := by subst e; exact h
theorem apD_eq {a b r : Int} (hr : 0 ≤ r) (h : a = b - r ∨ a = b + r) : apD a b = r := by unfold apD; split <;> omega
theorem apD_le {a : Int} (h0 : -10000000 ≤ a) (h1 : a ≤ 10000000) : apD a 0 ≤ 10000000 := by unfold apD; split <;> omega
/-- At which of the four points. -/
def qd (dx dy : Int) : Int := if dx = 1 then 2 else if dx = -1 then 0 else if dy = 1 then 3 else 1
theorem bd_app {us vs : List CellD} (h : us.all bdJ = true) (g : vs.all bdJ = true) : (us ++ vs).all bdJ = true := by rw [List.all_append, h, g]; rfl
theorem bd_one {x : Int} (h : -10000000 ≤ x ∧ x ≤ 10000000) : ([CellD.i .i64 x]).all bdJ = true := by
  show (decide _ && decide _ && true) = true
  simp only [Bool.and_true, Bool.and_eq_true, decide_eq_true_eq]
  exact h
theorem ci_drop1 {us : List CellD} {n : Nat} (hl : us.length = n * 1) (hJ : us.all isJ = true) {j : Nat} (hj : j < n) : us.drop (j * 1) = [.i .i64 (ci us j)] ++ us.drop (j + 1) := by
  rw [Nat.mul_one, List.drop_eq_getElem_cons (show j < us.length by omega), ci_get hJ]
  rfl
theorem ci_app_l {us vs : List CellD} {i : Nat} (h : i < us.length) : ci (us ++ vs) i = ci us i := by unfold ci; rw [List.getElem?_append_left h]
theorem ci_app_r {us vs : List CellD} {n i : Nat} (h : us.length = n) : ci (us ++ vs) (n + i) = ci vs i := by
  unfold ci
  rw [List.getElem?_append_right (by omega), show n + i - us.length = i by omega]
/-- The centers lie on the way. -/
theorem ctr_at {a1 a2 dx dy s : Int} (hs : 1 ≤ s) : ∀ i j, j ≤ i → ci (ctr a1 a2 dx dy s i) (j * 2) = a1 + dx * ((j : Int) * s) ∧ ci (ctr a1 a2 dx dy s i) (j * 2 + 1) = a2 + dy * ((j : Int) * s)
  | 0, j, h => by
    obtain rfl : j = 0 := by omega
    refine ⟨?_, ?_⟩
    · show a1 = a1 + dx * (((0 : Nat) : Int) * s)
      rw [Int.natCast_zero, Int.zero_mul, Int.mul_zero, Int.add_zero]
    · show a2 = a2 + dy * (((0 : Nat) : Int) * s)
      rw [Int.natCast_zero, Int.zero_mul, Int.mul_zero, Int.add_zero]
  | i + 1, j, h => by
    show ci (ctr a1 a2 dx dy s i ++ _) _ = _ ∧ ci (ctr a1 a2 dx dy s i ++ _) _ = _
    have hl : (ctr a1 a2 dx dy s i).length = (i + 1) * 2 := ctr_len i
    rcases Nat.lt_or_ge i j with h1 | h1
    · obtain rfl : j = i + 1 := by omega
      exact ⟨ci_app_r (i := 0) hl, ci_app_r (i := 1) hl⟩
    · rw [ci_app_l (by omega), ci_app_l (by omega)]
      exact ctr_at hs i j h1
theorem ctb_at {a1 a2 dx dy L s : Int} {k : Nat} (hL : 1 ≤ L) (hs : 1 ≤ s) (hk : (k : Int) = (L - 1) / s) {j : Nat} (hj : j ≤ k + 1) :
    ∃ t : Int, 0 ≤ t ∧ t ≤ L ∧ (j = 0 → t = 0) ∧ (j = k + 1 → t = L) ∧ ci (ctb a1 a2 dx dy L s k) (j * 2) = a1 + dx * t ∧ ci (ctb a1 a2 dx dy L s k) (j * 2 + 1) = a2 + dy * t := by
  have hl : (ctr a1 a2 dx dy s k).length = (k + 1) * 2 := ctr_len k
  unfold ctb
  rcases Nat.lt_or_ge k j with h1 | h1
  · obtain rfl : j = k + 1 := by omega
    refine ⟨L, by omega, by omega, by omega, fun _ => rfl, ?_, ?_⟩
    · rw [Int.mul_comm dx L]; exact ci_app_r (i := 0) hl
    · rw [Int.mul_comm dy L]; exact ci_app_r (i := 1) hl
  · refine ⟨(j : Int) * s, ct_nn hs j, ?_, ?_, by omega, ?_, ?_⟩
    · match j, h1 with
      | 0, _ => simp; omega
      | j + 1, h1 => have := (ct_iff hs hk j).2 (by omega); omega
    · intro h0; subst h0; simp
    · rw [ci_app_l (by omega)]; exact (ctr_at hs k j h1).1
    · rw [ci_app_l (by omega)]; exact (ctr_at hs k j h1).2
/-- Move q of a path. -/
def kd (q : Nat) : Int := if q % 2 = 0 then 4 else 2
def cnX (us : List CellD) (q : Nat) : Int := if q % 2 = 0 then ci us (q / 2 * 2) else 0
def cnY (us : List CellD) (q : Nat) : Int := if q % 2 = 0 then ci us (q / 2 * 2 + 1) else 0
def me (us : List CellD) (dx dy r z f : Int) (q : Nat) : List CellD :=
  [.i .i64 (kd q)] ++ ([.i .i64 (ci us ((q + 1) / 2 * 2) - dx * r)] ++ [.i .i64 (ci us ((q + 1) / 2 * 2 + 1) - dy * r)] ++ [.i .i64 z]) ++ ([.i .i64 (cnX us q)] ++ [.i .i64 (cnY us q)]) ++ [.i .i64 f]
def cat7 (g : Nat → List CellD) : Nat → List CellD
  | 0 => []
  | n + 1 => cat7 g n ++ g n
theorem cat7_len {g : Nat → List CellD} (h : ∀ q, (g q).length = 7) : ∀ n, (cat7 g n).length = n * 7
  | 0 => rfl
  | n + 1 => by
    show (cat7 g n ++ g n).length = _
    rw [List.length_append, cat7_len h n, h, Nat.succ_mul]
theorem cat7_drop {g : Nat → List CellD} (h : ∀ q, (g q).length = 7) : ∀ n q, q < n → (cat7 g n).drop (q * 7) = g q ++ (cat7 g n).drop (q * 7 + 7)
  | 0, q, hq => by omega
  | n + 1, q, hq => by
    show (cat7 g n ++ g n).drop _ = g q ++ (cat7 g n ++ g n).drop _
    have hl := cat7_len h n
    rcases Nat.lt_or_ge q n with h1 | h1
    · rw [List.drop_append_of_le_length (by omega), List.drop_append_of_le_length (by omega), cat7_drop h n q h1, List.append_assoc]
    · obtain rfl : q = n := by omega
      rw [List.drop_append_of_le_length (by omega), List.drop_eq_nil_of_le (by omega), List.nil_append, List.drop_eq_nil_of_le (by rw [List.length_append, h]; omega), List.append_nil]
theorem pth_cat {us : List CellD} {dx dy r z f : Int} : ∀ j, pth us dx dy r z f j = cat7 (me us dx dy r z f) (2 * j + 1)
  | 0 => rfl
  | j + 1 => by
    show (pth us dx dy r z f j ++ mvf us dx dy r z f (j + 1)) ++ mva us dx dy r z f (j + 1) = (cat7 (me us dx dy r z f) (2 * j + 1) ++ me us dx dy r z f (2 * j + 1)) ++ me us dx dy r z f (2 * j + 1 + 1)
    have e1 : (2 * j + 1 + 1) / 2 = j + 1 := by omega
    have e2 : (2 * j + 1 + 1 + 1) / 2 = j + 1 := by omega
    have e3 : (2 * j + 1) % 2 = 1 := by omega
    have e4 : (2 * j + 1 + 1) % 2 = 0 := by omega
    rw [pth_cat j]
    unfold me mvf mva kd cnX cnY
    rw [e1, e2, e3, e4]
    rfl
theorem pth_drop {us : List CellD} {dx dy r z f : Int} {j q : Nat} (hq : q < 2 * j + 1) : (pth us dx dy r z f j).drop (q * 7) = me us dx dy r z f q ++ (pth us dx dy r z f j).drop (q * 7 + 7) := by
  rw [pth_cat]
  exact cat7_drop (fun _ => rfl) _ q hq
theorem eq_pos_of {a b c a' b' c' : Int} (h : a = a' ∧ b = b' ∧ c = c') (w : World) : (Op.equalIn 10000 62 (.agg #[.int .i64 a, .int .i64 b, .int .i64 c]) (.agg #[.int .i64 a', .int .i64 b', .int .i64 c'])).run Tryz.prog w = .ok true w := by
  obtain ⟨rfl, rfl, rfl⟩ := h
  exact eq_pos a b c 9998 w
end Go.Proofs.YtonjlikaacengaaGreat
/- Plain: points near centers; the way is covered. -/
namespace Go.Proofs.YtonjlikaacengaaGreat
open Go Go.RowKit
theorem rcast2 {P : Program} {f : FuncId} {ds : List D0} {x y x' y' : Rat} (h : Ok P f ds [.a (cR x ++ cR y)]) (e1 : x = x') (e2 : y = y') : Ok P f ds [.a (cR x' ++ cR y')] := by subst e1 e2; exact h
def dsq (u v x y : Rat) : Rat := (u - x) * (u - x) + (v - y) * (v - y)
theorem dsq_comm (u v x y : Rat) : dsq x y u v = dsq u v x y := by unfold dsq; grind
theorem rsub_self (x : Rat) : x - x = 0 := by grind
theorem cmpR_self (x : Rat) : cmpR x x = 0 := by
  unfold cmpR
  rw [if_neg (by grind), if_neg (by grind)]
theorem dot0 (x y : Rat) : 0 * x + 0 * y = 0 := by grind
theorem cro0 (x y : Rat) : 0 * x - 0 * y = 0 := by grind
theorem Rz.zero1 : Rz 3 (0 : Rat) := by
  have h : Rz 3 ((0 : Int) : Rat) := Rz.num (by decide) (by decide)
  exact h
/-- Center j is near to the point. -/
def swB (us : List CellD) (u v l : Rat) (j : Nat) : Bool := decide (cmpR (dsq u v ((ci us (j * 2) : Int) : Rat) ((ci us (j * 2 + 1) : Int) : Rat)) (l * l) ≤ 0)
theorem first_near {φ : Nat → Bool} : ∀ n, (∀ j, j < n → φ j = false) ∨ ∃ m, m < n ∧ φ m = true ∧ ∀ j, j < m → φ j = false
  | 0 => .inl fun j hj => by omega
  | n + 1 => by
    rcases first_near (φ := φ) n with h | ⟨m, h1, h2, h3⟩
    · cases hn : φ n with
      | false => exact .inl fun j hj => (Nat.lt_or_ge j n).elim (h j) (fun g => by rw [show j = n by omega]; exact hn)
      | true => exact .inr ⟨n, by omega, hn, h⟩
    · exact .inr ⟨m, by omega, h2, h3⟩
theorem half2 (n : Int) : (2 : Rat) * Rat.divInt n 2 = ((n : Int) : Rat) := by
  rw [Rat.divInt_eq_div]
  show (2 : Rat) * ((n : Rat) / 2) = _
  grind
/-- Some center is near along the way. -/
theorem near_center {L s xi : Int} {k : Nat} (hs : 1 ≤ s) (hk : (k : Int) = (L - 1) / s) (h0 : 0 ≤ xi) (h1 : xi ≤ 2 * L) :
    ∃ j : Nat, j ≤ k + 1 ∧ ((j ≤ k ∧ -s ≤ xi - 2 * ((j : Int) * s) ∧ xi - 2 * ((j : Int) * s) ≤ s) ∨ (j = k + 1 ∧ -s ≤ xi - 2 * L ∧ xi - 2 * L ≤ s)) := by
  have hL1 : (k : Int) * s ≤ L - 1 := by rw [hk]; exact Int.ediv_mul_le _ (by omega)
  have hL2 : L - 1 < ((k : Int) + 1) * s := by rw [hk]; exact Int.lt_ediv_add_one_mul_self _ (by omega)
  have e1 : ((k : Int) + 1) * s = (k : Int) * s + s := by rw [Int.add_mul, Int.one_mul]
  have hq0 : 0 ≤ xi / (2 * s) := Int.ediv_nonneg h0 (by omega)
  have hq1 : xi / (2 * s) * (2 * s) ≤ xi := Int.ediv_mul_le _ (by omega)
  have hq2 : xi < (xi / (2 * s) + 1) * (2 * s) := Int.lt_ediv_add_one_mul_self _ (by omega)
  obtain ⟨q, hq⟩ : ∃ q : Nat, (q : Int) = xi / (2 * s) := ⟨(xi / (2 * s)).toNat, Int.toNat_of_nonneg hq0⟩
  rw [← hq] at hq1 hq2
  have e2 : (q : Int) * (2 * s) = 2 * ((q : Int) * s) := by grind
  have e3 : ((q : Int) + 1) * (2 * s) = 2 * ((q : Int) * s) + 2 * s := by grind
  rw [e2] at hq1
  rw [e3] at hq2
  by_cases hqk : q ≤ k
  · by_cases hc : xi - 2 * ((q : Int) * s) ≤ s
    · exact ⟨q, by omega, .inl ⟨hqk, by omega, hc⟩⟩
    · by_cases hqk2 : q + 1 ≤ k
      · refine ⟨q + 1, by omega, .inl ⟨hqk2, ?_⟩⟩
        rw [ct_nx]
        omega
      · obtain rfl : q = k := by omega
        exact ⟨q + 1, by omega, .inr ⟨rfl, by omega, by omega⟩⟩
  · have h3 : ((k : Int) + 1) * s ≤ (q : Int) * s := Int.mul_le_mul_of_nonneg_right (by omega) (by omega)
    exact ⟨k + 1, by omega, .inr ⟨rfl, by omega, by omega⟩⟩
theorem sq_bd {x s : Int} (h0 : -s ≤ x) (h1 : x ≤ s) : x * x ≤ s * s := by
  rcases Int.le_total 0 x with h | h
  · exact Int.mul_le_mul h1 h1 h (by omega)
  · have := Int.mul_le_mul (show -x ≤ s by omega) (show -x ≤ s by omega) (show 0 ≤ -x by omega) (show 0 ≤ s by omega)
    rw [Int.neg_mul_neg] at this; exact this
theorem swept_geo {a1 a2 L dx dy s r t v0 v1 : Int} {k : Nat} (hL : 1 ≤ L) (hd : Dir dx dy) (hs : 1 ≤ s) (hk : (k : Int) = (L - 1) / s) (hr : 1 ≤ r) (hrt : r ≤ t) (hsr : s ≤ r)
    (hno : ∀ j, j < k + 1 + 1 → swB (ctb a1 a2 dx dy L s k) (((a1 : Int) : Rat) + Rat.divInt v0 2) (((a2 : Int) : Rat) + Rat.divInt v1 2) ((r + t : Int) : Rat) j = false)
    (h1 : cmpR (Rat.divInt (v0 * dx + v1 * dy) 2) 0 ≥ 0) (h2 : cmpR (Rat.divInt (v0 * dx + v1 * dy) 2) ((L : Int) : Rat) ≤ 0) :
    ¬ cmpR (Rat.divInt (v0 * dy + v1 * dx) 2 * Rat.divInt (v0 * dy + v1 * dx) 2) ((((r + t : Int) : Rat) - Rat.divInt s 2) * (((r + t : Int) : Rat) - Rat.divInt s 2)) ≤ 0 := by
  intro h3
  have h1 := cmpR_ge.1 h1
  have h2 := cmpR_le.1 h2
  have h3 := cmpR_le.1 h3
  have fx := half2 (v0 * dx + v1 * dy)
  have fy := half2 (v0 * dy + v1 * dx)
  have fs := half2 s
  have f0 := half2 v0
  have f1 := half2 v1
  -- in integers
  have i1 : 0 ≤ v0 * dx + v1 * dy := by
    have : (0 : Rat) ≤ (((v0 * dx + v1 * dy) : Int) : Rat) := by rw [← fx]; grind
    exact Rat.intCast_le_intCast.1 this
  have i2 : v0 * dx + v1 * dy ≤ 2 * L := by
    have : (((v0 * dx + v1 * dy) : Int) : Rat) ≤ ((2 * L : Int) : Rat) := by
      rw [← fx, Rat.intCast_mul]
      show _ ≤ (2 : Rat) * _
      grind
    exact Rat.intCast_le_intCast.1 this
  have i3 : (v0 * dy + v1 * dx) * (v0 * dy + v1 * dx) ≤ (2 * (r + t) - s) * (2 * (r + t) - s) := by
    have : (((v0 * dy + v1 * dx) * (v0 * dy + v1 * dx) : Int) : Rat) ≤ (((2 * (r + t) - s) * (2 * (r + t) - s) : Int) : Rat) := by
      rw [Rat.intCast_mul, Rat.intCast_mul, Rat.intCast_sub, Rat.intCast_mul, ← fy, ← fs]
      show _ ≤ ((2 : Rat) * _ - _) * ((2 : Rat) * _ - _)
      grind
    exact Rat.intCast_le_intCast.1 this
  obtain ⟨j, hj, hc⟩ := near_center hs hk i1 i2
  obtain ⟨c, hc1, hc2, cx, cy⟩ : ∃ c : Int, -s ≤ (v0 * dx + v1 * dy) - 2 * c ∧ (v0 * dx + v1 * dy) - 2 * c ≤ s ∧ ci (ctb a1 a2 dx dy L s k) (j * 2) = a1 + dx * c ∧ ci (ctb a1 a2 dx dy L s k) (j * 2 + 1) = a2 + dy * c := by
    have hl : (ctr a1 a2 dx dy s k).length = (k + 1) * 2 := ctr_len k
    rcases hc with ⟨g1, g2, g3⟩ | ⟨g1, g2, g3⟩
    · refine ⟨(j : Int) * s, g2, g3, ?_⟩
      unfold ctb
      rw [ci_app_l (by omega), ci_app_l (by omega)]
      exact ctr_at hs k j g1
    · obtain ⟨t', _, _, _, e5, e1, e2⟩ := ctb_at (a1 := a1) (a2 := a2) (dx := dx) (dy := dy) hL hs hk hj
      rw [e5 g1] at e1 e2
      exact ⟨L, g2, g3, e1, e2⟩
  have hb := hno j (by omega)
  unfold swB at hb
  have hb := of_decide_eq_false hb
  apply hb
  rw [cmpR_le]
  rw [cx, cy]
  have q1 := sq_bd hc1 hc2
  have q2 : ((v0 * dx + v1 * dy) - 2 * c) * ((v0 * dx + v1 * dy) - 2 * c) + (v0 * dy + v1 * dx) * (v0 * dy + v1 * dx) ≤ (2 * (r + t)) * (2 * (r + t)) := by
    have q3 : s * (2 * (r + t) - s) ≥ 0 := Int.mul_nonneg (by omega) (by omega)
    grind
  have q4 : (v0 - 2 * (dx * c)) * (v0 - 2 * (dx * c)) + (v1 - 2 * (dy * c)) * (v1 - 2 * (dy * c)) ≤ (2 * (r + t)) * (2 * (r + t)) := by
    rcases hd with ⟨rfl, rfl⟩ | ⟨rfl, rfl⟩ | ⟨rfl, rfl⟩ | ⟨rfl, rfl⟩ <;> grind
  have q5 := Rat.intCast_le_intCast.2 q4
  simp only [Rat.intCast_add, Rat.intCast_mul, Rat.intCast_sub] at q5
  unfold dsq
  simp only [Rat.intCast_add, Rat.intCast_mul]
  rw [← f0, ← f1] at q5
  change (_ - (2 : Rat) * _) * (_ - (2 : Rat) * _) + (_ - (2 : Rat) * _) * (_ - (2 : Rat) * _) ≤ ((2 : Rat) * _) * ((2 : Rat) * _) at q5
  grind
end Go.Proofs.YtonjlikaacengaaGreat
/- Swept: program and reference. -/
namespace Go.Proofs.YtonjlikaacengaaGreat
open Go Go.RowKit
theorem dAdd_ok {x y : Rat} (hx : Rz 300 x) (hy : Rz 300 y) : Ok Tryz.prog 125 [dR x, dR y] [dR (x + y)] := by
  refine Ok.of (by kernel_rfl) Tryz.func125 rfl rfl ?_
  rw [show Tryz.f125.ntmps = 8 from rfl, show Tryz.f125.results.toList = [.cell 4 28] from rfl]
  refine dw_seq ?_
  -- region 0
  refine dw_region (by kernel_rfl) ?_
  refine dl_new (sem_box_a rfl rfl) rfl ?_
  refine dl_new (sem_box_a rfl rfl) rfl ?_
  refine dl_new (sem_alloc zc28 rfl) rfl ?_
  refine dl_end ?_
  refine dw_seq ?_
  -- region 1
  refine dw_region (by kernel_rfl) ?_
  refine dl_r (sem_load (us := cR x) ty28 rfl rfl rfl rfl rfl) ?_
  refine dl_r (sem_load (us := cR y) ty28 rfl rfl rfl rfl rfl) ?_
  refine dl_r (sem_call rfl rfl (pAdd_ok (by first | assumption | exact Rz.mono hx (by decide)) (by first | assumption | exact Rz.mono hy (by decide))) rfl) ?_
  refine dl_st (sem_store_a ty28 rfl rfl rfl rfl rfl rfl) ?_
  refine dl_end ?_
  refine dw_ret ?_
  -- path 
  exact ⟨.inr rfl, (resL_cell (us := cR (x + y)) ty28 rfl rfl rfl rfl resL_nil)⟩
theorem dSub_ok {x y : Rat} (hx : Rz 300 x) (hy : Rz 300 y) : Ok Tryz.prog 124 [dR x, dR y] [dR (x - y)] := by
  refine Ok.of (by kernel_rfl) Tryz.func124 rfl rfl ?_
  rw [show Tryz.f124.ntmps = 8 from rfl, show Tryz.f124.results.toList = [.cell 4 28] from rfl]
  refine dw_seq ?_
  -- region 0
  refine dw_region (by kernel_rfl) ?_
  refine dl_new (sem_box_a rfl rfl) rfl ?_
  refine dl_new (sem_box_a rfl rfl) rfl ?_
  refine dl_new (sem_alloc zc28 rfl) rfl ?_
  refine dl_end ?_
  refine dw_seq ?_
  -- region 1
  refine dw_region (by kernel_rfl) ?_
  refine dl_r (sem_load (us := cR x) ty28 rfl rfl rfl rfl rfl) ?_
  refine dl_r (sem_load (us := cR y) ty28 rfl rfl rfl rfl rfl) ?_
  refine dl_r (sem_call rfl rfl (pSub_ok (by first | assumption | exact Rz.mono hx (by decide)) (by first | assumption | exact Rz.mono hy (by decide))) rfl) ?_
  refine dl_st (sem_store_a ty28 rfl rfl rfl rfl rfl rfl) ?_
  refine dl_end ?_
  refine dw_ret ?_
  -- path 
  exact ⟨.inr rfl, (resL_cell (us := cR (x - y)) ty28 rfl rfl rfl rfl resL_nil)⟩
theorem dMul_ok {x y : Rat} (hx : Rz 300 x) (hy : Rz 300 y) : Ok Tryz.prog 115 [dR x, dR y] [dR (x * y)] := by
  refine Ok.of (by kernel_rfl) Tryz.func115 rfl rfl ?_
  rw [show Tryz.f115.ntmps = 8 from rfl, show Tryz.f115.results.toList = [.cell 4 28] from rfl]
  refine dw_seq ?_
  -- region 0
  refine dw_region (by kernel_rfl) ?_
  refine dl_new (sem_box_a rfl rfl) rfl ?_
  refine dl_new (sem_box_a rfl rfl) rfl ?_
  refine dl_new (sem_alloc zc28 rfl) rfl ?_
  refine dl_end ?_
  refine dw_seq ?_
  -- region 1
  refine dw_region (by kernel_rfl) ?_
  refine dl_r (sem_load (us := cR x) ty28 rfl rfl rfl rfl rfl) ?_
  refine dl_r (sem_load (us := cR y) ty28 rfl rfl rfl rfl rfl) ?_
  refine dl_r (sem_call rfl rfl (pMul_ok (by first | assumption | exact Rz.mono hx (by decide)) (by first | assumption | exact Rz.mono hy (by decide))) rfl) ?_
  refine dl_st (sem_store_a ty28 rfl rfl rfl rfl rfl rfl) ?_
  refine dl_end ?_
  refine dw_ret ?_
  -- path 
  exact ⟨.inr rfl, (resL_cell (us := cR (x * y)) ty28 rfl rfl rfl rfl resL_nil)⟩
theorem dWay_ok {a1 a2 b1 b2 : Rat} (h1 : Rz 100 a1) (h2 : Rz 100 a2) (h3 : Rz 100 b1) (h4 : Rz 100 b2) : Ok Tryz.prog 111 [.a (cR a1 ++ cR a2), .a (cR b1 ++ cR b2)] [.a (cR (b1 - a1) ++ cR (b2 - a2))] := by
  refine Ok.of (by kernel_rfl) Tryz.func111 rfl rfl ?_
  rw [show Tryz.f111.ntmps = 16 from rfl, show Tryz.f111.results.toList = [.cell 4 52] from rfl]
  refine dw_seq ?_
  -- region 0
  refine dw_region (by kernel_rfl) ?_
  refine dl_new (sem_box_a rfl rfl) rfl ?_
  refine dl_new (sem_box_a rfl rfl) rfl ?_
  refine dl_new (sem_alloc zc52 rfl) rfl ?_
  refine dl_end ?_
  refine dw_seq ?_
  -- region 1
  refine dw_draw 11 [] follows_mixed (by kernel_rfl) rfl rfl ?_
  refine dq_r (sem_field fd52_0 rfl rfl) ?_
  refine dq_r (sem_load (us := cR b1) ty28 rfl rfl rfl rfl rfl) ?_
  refine dq_r (sem_field fd52_0 rfl rfl) ?_
  refine dq_r (sem_load (us := cR a1) ty28 rfl rfl rfl rfl rfl) ?_
  refine dq_r (sem_call rfl rfl (dSub_ok (by first | assumption | exact Rz.mono h3 (by decide)) (by first | assumption | exact Rz.mono h1 (by decide))) rfl) ?_
  refine dq_r (sem_field fd52_1 rfl rfl) ?_
  refine dq_r (sem_load (us := cR b2) ty28 rfl rfl rfl rfl rfl) ?_
  refine dq_r (sem_field fd52_1 rfl rfl) ?_
  refine dq_r (sem_load (us := cR a2) ty28 rfl rfl rfl rfl rfl) ?_
  refine dq_r (sem_call rfl rfl (dSub_ok (by first | assumption | exact Rz.mono h4 (by decide)) (by first | assumption | exact Rz.mono h2 (by decide))) rfl) ?_
  refine dq_r (sem_build (us := (cR (b1 - a1) ++ cR (b2 - a2))) fs52 zc52 rfl rfl rfl) ?_
  refine dq_end ?_
  refine dl_start0 ?_
  refine dl_st (sem_store_a ty52 rfl rfl rfl rfl rfl rfl) ?_
  refine dl_end ?_
  refine dw_ret ?_
  -- path 
  exact ⟨.inr rfl, (resL_cell (us := (cR (b1 - a1) ++ cR (b2 - a2))) ty52 rfl rfl rfl rfl resL_nil)⟩
theorem dCross_ok {a1 a2 b1 b2 : Rat} (h1 : Rz 100 a1) (h2 : Rz 100 a2) (h3 : Rz 100 b1) (h4 : Rz 100 b2) : Ok Tryz.prog 112 [.a (cR a1 ++ cR a2), .a (cR b1 ++ cR b2)] [dR (a1 * b2 - a2 * b1)] := by
  refine Ok.of (by kernel_rfl) Tryz.func112 rfl rfl ?_
  rw [show Tryz.f112.ntmps = 16 from rfl, show Tryz.f112.results.toList = [.cell 4 28] from rfl]
  refine dw_seq ?_
  -- region 0
  refine dw_region (by kernel_rfl) ?_
  refine dl_new (sem_box_a rfl rfl) rfl ?_
  refine dl_new (sem_box_a rfl rfl) rfl ?_
  refine dl_new (sem_alloc zc28 rfl) rfl ?_
  refine dl_end ?_
  refine dw_seq ?_
  -- region 1
  refine dw_draw 11 [] follows_mixed (by kernel_rfl) rfl rfl ?_
  refine dq_r (sem_field fd52_0 rfl rfl) ?_
  refine dq_r (sem_load (us := cR a1) ty28 rfl rfl rfl rfl rfl) ?_
  refine dq_r (sem_field fd52_1 rfl rfl) ?_
  refine dq_r (sem_load (us := cR b2) ty28 rfl rfl rfl rfl rfl) ?_
  refine dq_r (sem_call rfl rfl (dMul_ok (by first | assumption | exact Rz.mono h1 (by decide)) (by first | assumption | exact Rz.mono h4 (by decide))) rfl) ?_
  refine dq_r (sem_field fd52_1 rfl rfl) ?_
  refine dq_r (sem_load (us := cR a2) ty28 rfl rfl rfl rfl rfl) ?_
  refine dq_r (sem_field fd52_0 rfl rfl) ?_
  refine dq_r (sem_load (us := cR b1) ty28 rfl rfl rfl rfl rfl) ?_
  refine dq_r (sem_call rfl rfl (dMul_ok (by first | assumption | exact Rz.mono h2 (by decide)) (by first | assumption | exact Rz.mono h3 (by decide))) rfl) ?_
  refine dq_r (sem_call rfl rfl (dSub_ok (by first | assumption | exact Rz.mono (Rz.mul h1 h4) (by decide)) (by first | assumption | exact Rz.mono (Rz.mul h2 h3) (by decide))) rfl) ?_
  refine dq_end ?_
  refine dl_start0 ?_
  refine dl_st (sem_store_a ty28 rfl rfl rfl rfl rfl rfl) ?_
  refine dl_end ?_
  refine dw_ret ?_
  -- path 
  exact ⟨.inr rfl, (resL_cell (us := cR ((a1 * b2) - (a2 * b1))) ty28 rfl rfl rfl rfl resL_nil)⟩
theorem dDot_ok {a1 a2 b1 b2 : Rat} (h1 : Rz 100 a1) (h2 : Rz 100 a2) (h3 : Rz 100 b1) (h4 : Rz 100 b2) : Ok Tryz.prog 113 [.a (cR a1 ++ cR a2), .a (cR b1 ++ cR b2)] [dR (a1 * b1 + a2 * b2)] := by
  refine Ok.of (by kernel_rfl) Tryz.func113 rfl rfl ?_
  rw [show Tryz.f113.ntmps = 16 from rfl, show Tryz.f113.results.toList = [.cell 4 28] from rfl]
  refine dw_seq ?_
  -- region 0
  refine dw_region (by kernel_rfl) ?_
  refine dl_new (sem_box_a rfl rfl) rfl ?_
  refine dl_new (sem_box_a rfl rfl) rfl ?_
  refine dl_new (sem_alloc zc28 rfl) rfl ?_
  refine dl_end ?_
  refine dw_seq ?_
  -- region 1
  refine dw_draw 11 [] follows_mixed (by kernel_rfl) rfl rfl ?_
  refine dq_r (sem_field fd52_0 rfl rfl) ?_
  refine dq_r (sem_load (us := cR a1) ty28 rfl rfl rfl rfl rfl) ?_
  refine dq_r (sem_field fd52_0 rfl rfl) ?_
  refine dq_r (sem_load (us := cR b1) ty28 rfl rfl rfl rfl rfl) ?_
  refine dq_r (sem_call rfl rfl (dMul_ok (by first | assumption | exact Rz.mono h1 (by decide)) (by first | assumption | exact Rz.mono h3 (by decide))) rfl) ?_
  refine dq_r (sem_field fd52_1 rfl rfl) ?_
  refine dq_r (sem_load (us := cR a2) ty28 rfl rfl rfl rfl rfl) ?_
  refine dq_r (sem_field fd52_1 rfl rfl) ?_
  refine dq_r (sem_load (us := cR b2) ty28 rfl rfl rfl rfl rfl) ?_
  refine dq_r (sem_call rfl rfl (dMul_ok (by first | assumption | exact Rz.mono h2 (by decide)) (by first | assumption | exact Rz.mono h4 (by decide))) rfl) ?_
  refine dq_r (sem_call rfl rfl (dAdd_ok (by first | assumption | exact Rz.mono (Rz.mul h1 h3) (by decide)) (by first | assumption | exact Rz.mono (Rz.mul h2 h4) (by decide))) rfl) ?_
  refine dq_end ?_
  refine dl_start0 ?_
  refine dl_st (sem_store_a ty28 rfl rfl rfl rfl rfl rfl) ?_
  refine dl_end ?_
  refine dw_ret ?_
  -- path 
  exact ⟨.inr rfl, (resL_cell (us := cR ((a1 * b1) + (a2 * b2))) ty28 rfl rfl rfl rfl resL_nil)⟩
theorem dTS_ok {x y u v : Rat} (hx : Rz 20 x) (hy : Rz 20 y) (hu : Rz 20 u) (hv : Rz 20 v) : Ok Tryz.prog 91 [.a (cR x ++ cR y), .a (cR x ++ cR y), .a (cR u ++ cR v)] [dR (dsq u v x y)] := by
  refine Ok.of (by kernel_rfl) Tryz.func91 rfl rfl ?_
  rw [show Tryz.f91.ntmps = 51 from rfl, show Tryz.f91.results.toList = [.cell 6 28] from rfl]
  refine dw_seq ?_
  -- region 0
  refine dw_region (by kernel_rfl) ?_
  refine dl_new (sem_box_a rfl rfl) rfl ?_
  refine dl_new (sem_box_a rfl rfl) rfl ?_
  refine dl_new (sem_box_a rfl rfl) rfl ?_
  refine dl_new (sem_alloc zc28 rfl) rfl ?_
  refine dl_end ?_
  refine dw_seq ?_
  -- region 1
  refine dw_draw 8 [] follows_mixed (by kernel_rfl) rfl rfl ?_
  refine dq_r (sem_load (us := (cR x ++ cR y)) ty52 rfl rfl rfl rfl rfl) ?_
  refine dq_r (sem_load (us := (cR x ++ cR y)) ty52 rfl rfl rfl rfl rfl) ?_
  refine dq_r (sem_call rfl rfl (rcast2 (dWay_ok (hx.mono (by decide)) (hy.mono (by decide)) (hx.mono (by decide)) (hy.mono (by decide))) (rsub_self _) (rsub_self _)) rfl) ?_
  refine dq_r (sem_load (us := (cR x ++ cR y)) ty52 rfl rfl rfl rfl rfl) ?_
  refine dq_r (sem_load (us := (cR u ++ cR v)) ty52 rfl rfl rfl rfl rfl) ?_
  refine dq_r (sem_call rfl rfl (dWay_ok (hx.mono (by decide)) (hy.mono (by decide)) (hu.mono (by decide)) (hv.mono (by decide))) rfl) ?_
  refine dq_new (sem_alloc zc52 rfl) rfl ?_
  refine dq_new (sem_alloc zc52 rfl) rfl ?_
  refine dq_end ?_
  refine dl_start2 ?_
  refine dl_st (sem_store_a ty52 rfl rfl rfl rfl rfl rfl) ?_
  refine dl_st (sem_store_a ty52 rfl rfl rfl rfl rfl rfl) ?_
  refine dl_end ?_
  refine dw_seq ?_
  -- region 2
  refine dw_draw 8 [] follows_mixed (by kernel_rfl) rfl rfl ?_
  refine dq_r (sem_load (us := (cR 0 ++ cR 0)) ty52 rfl rfl rfl rfl rfl) ?_
  refine dq_r (sem_load (us := (cR 0 ++ cR 0)) ty52 rfl rfl rfl rfl rfl) ?_
  refine dq_r (sem_call rfl rfl (rcast1 (dDot_ok (Rz.zero1.mono (by decide)) (Rz.zero1.mono (by decide)) (Rz.zero1.mono (by decide)) (Rz.zero1.mono (by decide))) (dot0 _ _)) rfl) ?_
  refine dq_r (sem_load (us := (cR 0 ++ cR 0)) ty52 rfl rfl rfl rfl rfl) ?_
  refine dq_r (sem_load (us := (cR (u - x) ++ cR (v - y))) ty52 rfl rfl rfl rfl rfl) ?_
  refine dq_r (sem_call rfl rfl (rcast1 (dDot_ok (Rz.zero1.mono (by decide)) (Rz.zero1.mono (by decide)) ((hu.sub hx).mono (by decide)) ((hv.sub hy).mono (by decide))) (dot0 _ _)) rfl) ?_
  refine dq_new (sem_alloc zc28 rfl) rfl ?_
  refine dq_new (sem_alloc zc28 rfl) rfl ?_
  refine dq_end ?_
  refine dl_start2 ?_
  refine dl_st (sem_store_a ty28 rfl rfl rfl rfl rfl rfl) ?_
  refine dl_st (sem_store_a ty28 rfl rfl rfl rfl rfl rfl) ?_
  refine dl_end ?_
  refine dw_seq ?_
  refine dw_block ?_
  refine dw_seq ?_
  -- region 3
  refine dw_region (by kernel_rfl) ?_
  refine dl_r (sem_load (us := cR 0) ty28 rfl rfl rfl rfl rfl) ?_
  refine dl_r (sem_call rfl rfl (rcasti pSign_ok (cmpR_self 0)) rfl) ?_
  refine dl_r (sem_cmp rfl rfl rfl rfl) ?_
  refine dl_r (sem_assign rfl rfl) ?_
  refine dl_end ?_
  refine dw_true rfl ?_
  refine dw_seq ?_
  -- region 4
  refine dw_region (by kernel_rfl) ?_
  refine dl_r (sem_load (us := (cR (u - x) ++ cR (v - y))) ty52 rfl rfl rfl rfl rfl) ?_
  refine dl_r (sem_load (us := (cR (u - x) ++ cR (v - y))) ty52 rfl rfl rfl rfl rfl) ?_
  refine dl_r (sem_call rfl rfl (rcast1 (dDot_ok ((hu.sub hx).mono (by decide)) ((hv.sub hy).mono (by decide)) ((hu.sub hx).mono (by decide)) ((hv.sub hy).mono (by decide))) (x' := dsq u v x y) rfl) rfl) ?_
  refine dl_st (sem_store_a ty28 rfl rfl rfl rfl rfl rfl) ?_
  refine dl_end ?_
  refine dw_ret ?_
  -- path 
  exact ⟨.inr rfl, (resL_cell (us := cR (dsq u v x y)) ty28 rfl rfl rfl rfl resL_nil)⟩
theorem dCrs_ok {x y u v : Rat} (hx : Rz 20 x) (hy : Rz 20 y) (hu : Rz 20 u) (hv : Rz 20 v) : Ok Tryz.prog 90 [.a (cR x ++ cR y), .a (cR x ++ cR y), .a (cR u ++ cR v), .a (cR u ++ cR v)] [.c (.b false)] := by
  refine Ok.of (by kernel_rfl) Tryz.func90 rfl rfl ?_
  rw [show Tryz.f90.ntmps = 47 from rfl, show Tryz.f90.results.toList = [.tmp 8] from rfl]
  refine dw_seq ?_
  -- region 0
  refine dw_region (by kernel_rfl) ?_
  refine dl_new (sem_box_a rfl rfl) rfl ?_
  refine dl_new (sem_box_a rfl rfl) rfl ?_
  refine dl_new (sem_box_a rfl rfl) rfl ?_
  refine dl_new (sem_box_a rfl rfl) rfl ?_
  refine dl_r (sem_assign rfl rfl) ?_
  refine dl_end ?_
  refine dw_seq ?_
  -- region 1
  refine dw_draw 8 [] follows_mixed (by kernel_rfl) rfl rfl ?_
  refine dq_r (sem_load (us := (cR x ++ cR y)) ty52 rfl rfl rfl rfl rfl) ?_
  refine dq_r (sem_load (us := (cR x ++ cR y)) ty52 rfl rfl rfl rfl rfl) ?_
  refine dq_r (sem_call rfl rfl (rcast2 (dWay_ok (hx.mono (by decide)) (hy.mono (by decide)) (hx.mono (by decide)) (hy.mono (by decide))) (rsub_self _) (rsub_self _)) rfl) ?_
  refine dq_r (sem_load (us := (cR u ++ cR v)) ty52 rfl rfl rfl rfl rfl) ?_
  refine dq_r (sem_load (us := (cR u ++ cR v)) ty52 rfl rfl rfl rfl rfl) ?_
  refine dq_r (sem_call rfl rfl (rcast2 (dWay_ok (hu.mono (by decide)) (hv.mono (by decide)) (hu.mono (by decide)) (hv.mono (by decide))) (rsub_self _) (rsub_self _)) rfl) ?_
  refine dq_new (sem_alloc zc52 rfl) rfl ?_
  refine dq_new (sem_alloc zc52 rfl) rfl ?_
  refine dq_end ?_
  refine dl_start2 ?_
  refine dl_st (sem_store_a ty52 rfl rfl rfl rfl rfl rfl) ?_
  refine dl_st (sem_store_a ty52 rfl rfl rfl rfl rfl rfl) ?_
  refine dl_end ?_
  refine dw_seq ?_
  -- region 2
  refine dw_draw 31 [] follows_mixed (by kernel_rfl) rfl rfl ?_
  refine dq_r (sem_load (us := (cR 0 ++ cR 0)) ty52 rfl rfl rfl rfl rfl) ?_
  refine dq_r (sem_load (us := (cR x ++ cR y)) ty52 rfl rfl rfl rfl rfl) ?_
  refine dq_r (sem_load (us := (cR u ++ cR v)) ty52 rfl rfl rfl rfl rfl) ?_
  refine dq_r (sem_call rfl rfl (dWay_ok (hx.mono (by decide)) (hy.mono (by decide)) (hu.mono (by decide)) (hv.mono (by decide))) rfl) ?_
  refine dq_r (sem_call rfl rfl (rcast1 (dCross_ok (Rz.zero1.mono (by decide)) (Rz.zero1.mono (by decide)) ((hu.sub hx).mono (by decide)) ((hv.sub hy).mono (by decide))) (cro0 _ _)) rfl) ?_
  refine dq_r (sem_call rfl rfl (rcasti pSign_ok (cmpR_self 0)) rfl) ?_
  refine dq_r (sem_load (us := (cR 0 ++ cR 0)) ty52 rfl rfl rfl rfl rfl) ?_
  refine dq_r (sem_load (us := (cR x ++ cR y)) ty52 rfl rfl rfl rfl rfl) ?_
  refine dq_r (sem_load (us := (cR u ++ cR v)) ty52 rfl rfl rfl rfl rfl) ?_
  refine dq_r (sem_call rfl rfl (dWay_ok (hx.mono (by decide)) (hy.mono (by decide)) (hu.mono (by decide)) (hv.mono (by decide))) rfl) ?_
  refine dq_r (sem_call rfl rfl (rcast1 (dCross_ok (Rz.zero1.mono (by decide)) (Rz.zero1.mono (by decide)) ((hu.sub hx).mono (by decide)) ((hv.sub hy).mono (by decide))) (cro0 _ _)) rfl) ?_
  refine dq_r (sem_call rfl rfl (rcasti pSign_ok (cmpR_self 0)) rfl) ?_
  refine dq_r (sem_ari (r := 0) rfl rfl rfl rfl) ?_
  refine dq_r (sem_cmp rfl rfl rfl rfl) ?_
  refine dq_r (sem_move rfl rfl) ?_
  refine dq_skip (sem_skip rfl) ?_
  refine dq_skip (sem_skip rfl) ?_
  refine dq_skip (sem_skip rfl) ?_
  refine dq_skip (sem_skip rfl) ?_
  refine dq_skip (sem_skip rfl) ?_
  refine dq_skip (sem_skip rfl) ?_
  refine dq_skip (sem_skip rfl) ?_
  refine dq_skip (sem_skip rfl) ?_
  refine dq_skip (sem_skip rfl) ?_
  refine dq_skip (sem_skip rfl) ?_
  refine dq_skip (sem_skip rfl) ?_
  refine dq_skip (sem_skip rfl) ?_
  refine dq_skip (sem_skip rfl) ?_
  refine dq_skip (sem_skip rfl) ?_
  refine dq_r (sem_pick rfl rfl rfl rfl) ?_
  refine dq_r (sem_assign rfl rfl) ?_
  refine dq_end ?_
  refine dl_start0 ?_
  refine dl_end ?_
  refine dw_ret ?_
  -- path 
  exact ⟨.inr rfl, (resL_tmp rfl resL_nil)⟩
theorem dsq_sz {x y u v : Rat} (hx : Rz 20 x) (hy : Rz 20 y) (hu : Rz 20 u) (hv : Rz 20 v) : Rz 170 (dsq u v x y) := (((hu.sub hx).mul (hu.sub hx)).add ((hv.sub hy).mul (hv.sub hy))).mono (by decide)
theorem dSeg_ok {x y u v : Rat} (hx : Rz 20 x) (hy : Rz 20 y) (hu : Rz 20 u) (hv : Rz 20 v) : Ok Tryz.prog 52 [.a (cR x ++ cR y), .a (cR x ++ cR y), .a (cR u ++ cR v), .a (cR u ++ cR v)] [dR (dsq u v x y)] := by
  have hz := dsq_sz hx hy hu hv
  refine Ok.of (by kernel_rfl) Tryz.func52 rfl rfl ?_
  rw [show Tryz.f52.ntmps = 47 from rfl, show Tryz.f52.results.toList = [.cell 8 28] from rfl]
  refine dw_seq ?_
  -- region 0
  refine dw_region (by kernel_rfl) ?_
  refine dl_new (sem_box_a rfl rfl) rfl ?_
  refine dl_new (sem_box_a rfl rfl) rfl ?_
  refine dl_new (sem_box_a rfl rfl) rfl ?_
  refine dl_new (sem_box_a rfl rfl) rfl ?_
  refine dl_new (sem_alloc zc28 rfl) rfl ?_
  refine dl_end ?_
  refine dw_seq ?_
  refine dw_seq ?_
  -- region 1
  refine dw_region (by kernel_rfl) ?_
  refine dl_r (sem_load (us := (cR x ++ cR y)) ty52 rfl rfl rfl rfl rfl) ?_
  refine dl_r (sem_load (us := (cR x ++ cR y)) ty52 rfl rfl rfl rfl rfl) ?_
  refine dl_r (sem_load (us := (cR u ++ cR v)) ty52 rfl rfl rfl rfl rfl) ?_
  refine dl_r (sem_load (us := (cR u ++ cR v)) ty52 rfl rfl rfl rfl rfl) ?_
  refine dl_r (sem_call rfl rfl (dCrs_ok hx hy hu hv) rfl) ?_
  refine dl_end ?_
  refine dw_false rfl ?_
  refine dw_skip ?_
  refine dw_seq ?_
  -- region 3
  refine dw_region (by kernel_rfl) ?_
  refine dl_r (sem_load (us := (cR x ++ cR y)) ty52 rfl rfl rfl rfl rfl) ?_
  refine dl_r (sem_load (us := (cR x ++ cR y)) ty52 rfl rfl rfl rfl rfl) ?_
  refine dl_r (sem_load (us := (cR u ++ cR v)) ty52 rfl rfl rfl rfl rfl) ?_
  refine dl_r (sem_call rfl rfl (dTS_ok hx hy hu hv) rfl) ?_
  refine dl_new (sem_alloc zc28 rfl) rfl ?_
  refine dl_st (sem_store_a ty28 rfl rfl rfl rfl rfl rfl) ?_
  refine dl_end ?_
  refine dw_seq ?_
  refine dw_seq ?_
  -- region 4
  refine dw_draw 15 [] follows_mixed (by kernel_rfl) rfl rfl ?_
  refine dq_r (sem_load (us := (cR x ++ cR y)) ty52 rfl rfl rfl rfl rfl) ?_
  refine dq_r (sem_load (us := (cR x ++ cR y)) ty52 rfl rfl rfl rfl rfl) ?_
  refine dq_r (sem_load (us := (cR u ++ cR v)) ty52 rfl rfl rfl rfl rfl) ?_
  refine dq_r (sem_call rfl rfl (dTS_ok hx hy hu hv) rfl) ?_
  refine dq_r (sem_load (us := (cR u ++ cR v)) ty52 rfl rfl rfl rfl rfl) ?_
  refine dq_r (sem_load (us := (cR u ++ cR v)) ty52 rfl rfl rfl rfl rfl) ?_
  refine dq_r (sem_load (us := (cR x ++ cR y)) ty52 rfl rfl rfl rfl rfl) ?_
  refine dq_r (sem_call rfl rfl (rcast1 (dTS_ok hu hv hx hy) (dsq_comm u v x y)) rfl) ?_
  refine dq_r (sem_load (us := (cR u ++ cR v)) ty52 rfl rfl rfl rfl rfl) ?_
  refine dq_r (sem_load (us := (cR u ++ cR v)) ty52 rfl rfl rfl rfl rfl) ?_
  refine dq_r (sem_load (us := (cR x ++ cR y)) ty52 rfl rfl rfl rfl rfl) ?_
  refine dq_r (sem_call rfl rfl (rcast1 (dTS_ok hu hv hx hy) (dsq_comm u v x y)) rfl) ?_
  refine dq_r (sem_slit_D (n := 3) (us := cR (dsq u v x y) ++ cR (dsq u v x y) ++ cR (dsq u v x y)) el110 rfl rfl rfl (by decide) (by decide) rfl) ?_
  refine dq_r (sem_len sl110 rfl rfl) ?_
  refine dq_r (sem_move rfl rfl) ?_
  refine dq_end ?_
  refine dl_start0 ?_
  refine dl_end ?_
  refine dw_block ?_
  refine dw_loop (ι := Nat) (fun i => match i with | 0 => ⟨47, [(8, .p 8 0), (9, .p 9 0), (34, .v (.c (.s 3 (cR (dsq u v x y) ++ cR (dsq u v x y) ++ cR (dsq u v x y))))), (35, .v (.c (.i .i64 3))), (36, .v (.c (.i .i64 0)))], [(8, 28, (([.b false] ++ [.s 0 []]) ++ ([.b false] ++ [.s 0 []]))), (9, 28, cR (dsq u v x y))]⟩ | 1 => ⟨47, [(8, .p 8 0), (9, .p 9 0), (34, .v (.c (.s 3 (cR (dsq u v x y) ++ cR (dsq u v x y) ++ cR (dsq u v x y))))), (35, .v (.c (.i .i64 3))), (36, .v (.c (.i .i64 1)))], [(8, 28, (([.b false] ++ [.s 0 []]) ++ ([.b false] ++ [.s 0 []]))), (9, 28, cR (dsq u v x y))]⟩ | 2 => ⟨47, [(8, .p 8 0), (9, .p 9 0), (34, .v (.c (.s 3 (cR (dsq u v x y) ++ cR (dsq u v x y) ++ cR (dsq u v x y))))), (35, .v (.c (.i .i64 3))), (36, .v (.c (.i .i64 2)))], [(8, 28, (([.b false] ++ [.s 0 []]) ++ ([.b false] ++ [.s 0 []]))), (9, 28, cR (dsq u v x y))]⟩ | _ + 3 => ⟨47, [(8, .p 8 0), (9, .p 9 0), (34, .v (.c (.s 3 (cR (dsq u v x y) ++ cR (dsq u v x y) ++ cR (dsq u v x y))))), (35, .v (.c (.i .i64 3))), (36, .v (.c (.i .i64 3)))], [(8, 28, (([.b false] ++ [.s 0 []]) ++ ([.b false] ++ [.s 0 []]))), (9, 28, cR (dsq u v x y))]⟩) (fun i => 3 - i) 0 (sub_of ⟨rfl, rfl, rfl, rfl, rfl, trivial⟩ ⟨rfl, rfl, trivial⟩ rfl) ?_
  intro i
  match i with
  | 0 =>
    show Dw _ _ ⟨47, [(8, .p 8 0), (9, .p 9 0), (34, .v (.c (.s 3 (cR (dsq u v x y) ++ cR (dsq u v x y) ++ cR (dsq u v x y))))), (35, .v (.c (.i .i64 3))), (36, .v (.c (.i .i64 0)))], [(8, 28, (([.b false] ++ [.s 0 []]) ++ ([.b false] ++ [.s 0 []]))), (9, 28, cR (dsq u v x y))]⟩ _
    refine dw_seq ?_
    -- region 5
    refine dw_region (by kernel_rfl) ?_
    refine dl_r (sem_cmp rfl rfl rfl rfl) ?_
    refine dl_end ?_
    refine dw_seq ?_
    refine dw_true rfl ?_
    refine dw_skip ?_
    refine dw_seq ?_
    refine dw_block ?_
    refine dw_seq ?_
    -- region 6
    refine dw_region (by kernel_rfl) ?_
    refine dl_r (sem_index sl110 rfl rfl (by decide) rfl rfl rfl) ?_
    refine dl_r (sem_loadq (us := cR (dsq u v x y)) ty28 rfl rfl rfl rfl) ?_
    refine dl_new (sem_alloc zc28 rfl) rfl ?_
    refine dl_st (sem_store_a ty28 rfl rfl rfl rfl rfl rfl) ?_
    refine dl_end ?_
    refine dw_seq ?_
    -- region 7
    refine dw_region (by kernel_rfl) ?_
    refine dl_r (sem_load (us := cR (dsq u v x y)) ty28 rfl rfl rfl rfl rfl) ?_
    refine dl_r (sem_load (us := cR (dsq u v x y)) ty28 rfl rfl rfl rfl rfl) ?_
    refine dl_r (sem_call rfl rfl (rcasti (pCmp_ok (hz.mono (by decide)) (hz.mono (by decide))) (cmpR_self _)) rfl) ?_
    refine dl_r (sem_cmp rfl rfl rfl rfl) ?_
    refine dl_end ?_
    refine dw_false rfl ?_
    refine dw_skip ?_
    -- region 9
    refine dw_region (by kernel_rfl) ?_
    refine dl_r (sem_ari (r := 1) rfl rfl rfl rfl) ?_
    refine dl_r (sem_move rfl rfl) ?_
    refine dl_end ?_
    exact ⟨1, sub_of ⟨rfl, rfl, rfl, rfl, rfl, trivial⟩ ⟨rfl, rfl, trivial⟩ rfl, by show 3 - 1 < 3 - 0; decide⟩
  | 1 =>
    show Dw _ _ ⟨47, [(8, .p 8 0), (9, .p 9 0), (34, .v (.c (.s 3 (cR (dsq u v x y) ++ cR (dsq u v x y) ++ cR (dsq u v x y))))), (35, .v (.c (.i .i64 3))), (36, .v (.c (.i .i64 1)))], [(8, 28, (([.b false] ++ [.s 0 []]) ++ ([.b false] ++ [.s 0 []]))), (9, 28, cR (dsq u v x y))]⟩ _
    refine dw_seq ?_
    -- region 5
    refine dw_region (by kernel_rfl) ?_
    refine dl_r (sem_cmp rfl rfl rfl rfl) ?_
    refine dl_end ?_
    refine dw_seq ?_
    refine dw_true rfl ?_
    refine dw_skip ?_
    refine dw_seq ?_
    refine dw_block ?_
    refine dw_seq ?_
    -- region 6
    refine dw_region (by kernel_rfl) ?_
    refine dl_r (sem_index sl110 rfl rfl (by decide) rfl rfl rfl) ?_
    refine dl_r (sem_loadq (us := cR (dsq u v x y)) ty28 rfl rfl rfl rfl) ?_
    refine dl_new (sem_alloc zc28 rfl) rfl ?_
    refine dl_st (sem_store_a ty28 rfl rfl rfl rfl rfl rfl) ?_
    refine dl_end ?_
    refine dw_seq ?_
    -- region 7
    refine dw_region (by kernel_rfl) ?_
    refine dl_r (sem_load (us := cR (dsq u v x y)) ty28 rfl rfl rfl rfl rfl) ?_
    refine dl_r (sem_load (us := cR (dsq u v x y)) ty28 rfl rfl rfl rfl rfl) ?_
    refine dl_r (sem_call rfl rfl (rcasti (pCmp_ok (hz.mono (by decide)) (hz.mono (by decide))) (cmpR_self _)) rfl) ?_
    refine dl_r (sem_cmp rfl rfl rfl rfl) ?_
    refine dl_end ?_
    refine dw_false rfl ?_
    refine dw_skip ?_
    -- region 9
    refine dw_region (by kernel_rfl) ?_
    refine dl_r (sem_ari (r := 2) rfl rfl rfl rfl) ?_
    refine dl_r (sem_move rfl rfl) ?_
    refine dl_end ?_
    exact ⟨2, sub_of ⟨rfl, rfl, rfl, rfl, rfl, trivial⟩ ⟨rfl, rfl, trivial⟩ rfl, by show 3 - 2 < 3 - 1; decide⟩
  | 2 =>
    show Dw _ _ ⟨47, [(8, .p 8 0), (9, .p 9 0), (34, .v (.c (.s 3 (cR (dsq u v x y) ++ cR (dsq u v x y) ++ cR (dsq u v x y))))), (35, .v (.c (.i .i64 3))), (36, .v (.c (.i .i64 2)))], [(8, 28, (([.b false] ++ [.s 0 []]) ++ ([.b false] ++ [.s 0 []]))), (9, 28, cR (dsq u v x y))]⟩ _
    refine dw_seq ?_
    -- region 5
    refine dw_region (by kernel_rfl) ?_
    refine dl_r (sem_cmp rfl rfl rfl rfl) ?_
    refine dl_end ?_
    refine dw_seq ?_
    refine dw_true rfl ?_
    refine dw_skip ?_
    refine dw_seq ?_
    refine dw_block ?_
    refine dw_seq ?_
    -- region 6
    refine dw_region (by kernel_rfl) ?_
    refine dl_r (sem_index sl110 rfl rfl (by decide) rfl rfl rfl) ?_
    refine dl_r (sem_loadq (us := cR (dsq u v x y)) ty28 rfl rfl rfl rfl) ?_
    refine dl_new (sem_alloc zc28 rfl) rfl ?_
    refine dl_st (sem_store_a ty28 rfl rfl rfl rfl rfl rfl) ?_
    refine dl_end ?_
    refine dw_seq ?_
    -- region 7
    refine dw_region (by kernel_rfl) ?_
    refine dl_r (sem_load (us := cR (dsq u v x y)) ty28 rfl rfl rfl rfl rfl) ?_
    refine dl_r (sem_load (us := cR (dsq u v x y)) ty28 rfl rfl rfl rfl rfl) ?_
    refine dl_r (sem_call rfl rfl (rcasti (pCmp_ok (hz.mono (by decide)) (hz.mono (by decide))) (cmpR_self _)) rfl) ?_
    refine dl_r (sem_cmp rfl rfl rfl rfl) ?_
    refine dl_end ?_
    refine dw_false rfl ?_
    refine dw_skip ?_
    -- region 9
    refine dw_region (by kernel_rfl) ?_
    refine dl_r (sem_ari (r := 3) rfl rfl rfl rfl) ?_
    refine dl_r (sem_move rfl rfl) ?_
    refine dl_end ?_
    exact ⟨3, sub_of ⟨rfl, rfl, rfl, rfl, rfl, trivial⟩ ⟨rfl, rfl, trivial⟩ rfl, by show 3 - 3 < 3 - 2; decide⟩
  | z + 3 =>
    show Dw _ _ ⟨47, [(8, .p 8 0), (9, .p 9 0), (34, .v (.c (.s 3 (cR (dsq u v x y) ++ cR (dsq u v x y) ++ cR (dsq u v x y))))), (35, .v (.c (.i .i64 3))), (36, .v (.c (.i .i64 3)))], [(8, 28, (([.b false] ++ [.s 0 []]) ++ ([.b false] ++ [.s 0 []]))), (9, 28, cR (dsq u v x y))]⟩ _
    refine dw_seq ?_
    -- region 5
    refine dw_region (by kernel_rfl) ?_
    refine dl_r (sem_cmp rfl rfl rfl rfl) ?_
    refine dl_end ?_
    refine dw_seq ?_
    refine dw_false rfl ?_
    refine dw_exit ?_
    refine dw_seq ?_
    -- region 10
    refine dw_region (by kernel_rfl) ?_
    refine dl_r (sem_load (us := cR (dsq u v x y)) ty28 rfl rfl rfl rfl rfl) ?_
    refine dl_st (sem_store_a ty28 rfl rfl rfl rfl rfl rfl) ?_
    refine dl_end ?_
    refine dw_ret ?_
    -- path L3
    exact ⟨.inr rfl, (resL_cell (us := cR (dsq u v x y)) ty28 rfl rfl rfl rfl resL_nil)⟩
theorem tSw1_ok {x y : Int} (hx0 : -9223372036854775808 ≤ x ∧ x ≤ 9223372036854775807) (hy0 : -9223372036854775808 ≤ y ∧ y ≤ 9223372036854775807) {u v l : Rat} (hu : Rz 20 u) (hv : Rz 20 v) (hl0 : Rz 20 l)  : Ok Tryz.prog 50 [.a ([.i .i64 x] ++ [.i .i64 y]), .c (.p ((cR u ++ cR v))), .c (.p (cR l))] [.c (.b (decide (cmpR (dsq u v ((x : Int) : Rat) ((y : Int) : Rat)) (l * l) ≤ 0)))] := by
  have hx : Rz 20 ((x : Int) : Rat) := (Rz.num hx0.1 hx0.2).mono (by decide)
  have hy : Rz 20 ((y : Int) : Rat) := (Rz.num hy0.1 hy0.2).mono (by decide)
  have hz := dsq_sz hx hy hu hv
  have hll := (hl0.mul hl0).mono (l := 300) (by decide)
  refine Ok.of (by kernel_rfl) Tryz.func50 rfl rfl ?_
  rw [show Tryz.f50.ntmps = 23 from rfl, show Tryz.f50.results.toList = [.tmp 4] from rfl]
  refine dw_seq ?_
  -- region 0
  refine dw_region (by kernel_rfl) ?_
  refine dl_new (sem_box_a rfl rfl) rfl ?_
  refine dl_r (sem_assign rfl rfl) ?_
  refine dl_end ?_
  refine dw_seq ?_
  -- region 1
  refine dw_draw 8 [] follows_mixed (by kernel_rfl) rfl rfl ?_
  refine dq_r (sem_field fd34_0 rfl rfl) ?_
  refine dq_r (sem_load1 ty2 rfl rfl rfl rfl) ?_
  refine dq_r (sem_call rfl rfl (pFrom_ok (by omega) (by omega)) rfl) ?_
  refine dq_r (sem_field fd34_1 rfl rfl) ?_
  refine dq_r (sem_load1 ty2 rfl rfl rfl rfl) ?_
  refine dq_r (sem_call rfl rfl (pFrom_ok (by omega) (by omega)) rfl) ?_
  refine dq_r (sem_build (us := (cR (((x : Int) : Rat)) ++ cR (((y : Int) : Rat)))) fs52 zc52 rfl rfl rfl) ?_
  refine dq_new (sem_alloc zc52 rfl) rfl ?_
  refine dq_end ?_
  refine dl_start1 ?_
  refine dl_st (sem_store_a ty52 rfl rfl rfl rfl rfl rfl) ?_
  refine dl_end ?_
  refine dw_seq ?_
  -- region 2
  refine dw_draw 11 [] follows_mixed (by kernel_rfl) rfl rfl ?_
  refine dq_r (sem_load (us := (cR (((x : Int) : Rat)) ++ cR (((y : Int) : Rat)))) ty52 rfl rfl rfl rfl rfl) ?_
  refine dq_r (sem_load (us := (cR (((x : Int) : Rat)) ++ cR (((y : Int) : Rat)))) ty52 rfl rfl rfl rfl rfl) ?_
  refine dq_r (sem_loadP (us := (cR u ++ cR v)) ty52 rfl rfl rfl rfl) ?_
  refine dq_r (sem_loadP (us := (cR u ++ cR v)) ty52 rfl rfl rfl rfl) ?_
  refine dq_r (sem_call rfl rfl (dSeg_ok hx hy hu hv) rfl) ?_
  refine dq_r (sem_loadP (us := cR l) ty28 rfl rfl rfl rfl) ?_
  refine dq_r (sem_loadP (us := cR l) ty28 rfl rfl rfl rfl) ?_
  refine dq_r (sem_call rfl rfl (pMul_ok (hl0.mono (by decide)) (hl0.mono (by decide))) rfl) ?_
  refine dq_r (sem_call rfl rfl (pCmp_ok (hz.mono (by decide)) hll) rfl) ?_
  refine dq_r (sem_cmp rfl rfl rfl rfl) ?_
  refine dq_r (sem_assign rfl rfl) ?_
  refine dq_end ?_
  refine dl_start0 ?_
  refine dl_end ?_
  refine dw_ret ?_
  -- path 
  exact ⟨.inr rfl, (resL_tmp rfl resL_nil)⟩
theorem gIx_0 {n : Nat} {us : List CellD} {u v l : Rat} {φ : Nat → Bool} (hl : us.length = n * 2) (hJ : us.all isJ = true) (hn : n ≤ 1000000) (hφ : ∀ j, j < n → Ok Tryz.prog 50 [.a ([.i .i64 (ci us (j * 2))] ++ [.i .i64 (ci us (j * 2 + 1))]), .c (.p (cR u ++ cR v)), .c (.p (cR l))] [.c (.b (φ j))]) (h0 : ∀ j, j < n → φ j = false) : Ok Tryz.prog 85 [.c (.s n us), .c (.k 50 [.p ((cR u ++ cR v)), .p (cR l)])] [.c (.i .i64 (-1))] := by
  refine Ok.of (by kernel_rfl) Tryz.func85 rfl rfl ?_
  rw [show Tryz.f85.ntmps = 19 from rfl, show Tryz.f85.results.toList = [.tmp 4] from rfl]
  refine dw_seq ?_
  -- region 0
  refine dw_region (by kernel_rfl) ?_
  refine dl_r (sem_assign rfl rfl) ?_
  refine dl_end ?_
  refine dw_seq ?_
  refine dw_seq ?_
  -- region 1
  refine dw_region (by kernel_rfl) ?_
  refine dl_r (sem_move rfl rfl) ?_
  refine dl_r (sem_len sl22 rfl rfl) ?_
  refine dl_r (sem_move rfl rfl) ?_
  refine dl_end ?_
  refine dw_block ?_
  refine dw_loop (ι := {j : Nat // j ≤ n}) (fun i => ⟨19, [(0, .v (.c (.s n us))), (1, .v (.c (.k 50 [.p ((cR u ++ cR v)), .p (cR l)]))), (7, .v (.c (.i .i64 (n : Int)))), (8, .v (.c (.i .i64 (i.1 : Int))))], []⟩) (fun i => n - i.1) ⟨0, Nat.zero_le _⟩ (sub_of ⟨rfl, rfl, rfl, rfl, trivial⟩ trivial rfl) ?_
  rintro ⟨j, h2⟩
  replace h2 : j ≤ n := h2
  show Dw _ _ ⟨19, [(0, .v (.c (.s n us))), (1, .v (.c (.k 50 [.p ((cR u ++ cR v)), .p (cR l)]))), (7, .v (.c (.i .i64 (n : Int)))), (8, .v (.c (.i .i64 (j : Int))))], []⟩ _
  refine dw_seq ?_
  -- region 2
  refine dw_region (by kernel_rfl) ?_
  refine dl_r (sem_cmp rfl rfl rfl rfl) ?_
  refine dl_end ?_
  refine dw_seq ?_
  refine dw_cond rfl (fun hc1 => ?_) (fun hc1 => ?_)
  · have g1 : j < n := by have := of_decide_eq_true hc1; omega
    have g2 : j + 1 ≤ n := g1
    refine dw_skip ?_
    refine dw_seq ?_
    refine dw_block ?_
    refine dw_seq ?_
    -- region 3
    refine dw_region (by kernel_rfl) ?_
    refine dl_r (sem_move rfl rfl) ?_
    refine dl_r (sem_assign rfl rfl) ?_
    refine dl_end ?_
    refine dw_seq ?_
    -- region 4
    refine dw_region (by kernel_rfl) ?_
    refine dl_r (sem_move rfl rfl) ?_
    refine dl_r (sem_move rfl rfl) ?_
    refine dl_r (sem_move rfl rfl) ?_
    refine dl_r (sem_index (us := [.i .i64 (ci us (j * 2))] ++ [.i .i64 (ci us (j * 2 + 1))] ++ us.drop (j * 2 + 2)) sl22 rfl rfl (by omega) (hl) (ci_drop2 hl hJ (by omega)) rfl) ?_
    refine dl_r (sem_loadq (us := ([.i .i64 (ci us (j * 2))] ++ [.i .i64 (ci us (j * 2 + 1))])) ty34 rfl rfl rfl rfl) ?_
    refine dl_r (sem_callk rfl rfl (rcastb (hφ j g1) (h0 j g1)) rfl) ?_
    refine dl_end ?_
    refine dw_false rfl ?_
    refine dw_skip ?_
    -- region 6
    refine dw_region (by kernel_rfl) ?_
    refine dl_r (sem_ari (r := ((j + 1 : Nat) : Int)) rfl rfl ((ari_i64_add (by omega) (by omega)).trans (congrArg some (by omega))) rfl) ?_
    refine dl_r (sem_move rfl rfl) ?_
    refine dl_end ?_
    exact ⟨⟨j + 1, g2⟩, sub_of ⟨rfl, rfl, rfl, rfl, trivial⟩ trivial rfl, by show n - (j + 1) < n - j; omega⟩
  · refine dw_exit ?_
    refine dw_seq ?_
    -- region 7
    refine dw_region (by kernel_rfl) ?_
    refine dl_r (sem_assign rfl rfl) ?_
    refine dl_end ?_
    refine dw_ret ?_
    -- path F
    exact ⟨.inr rfl, (resL_tmp rfl resL_nil)⟩
theorem gIx_1 {n : Nat} {us : List CellD} {u v l : Rat} {φ : Nat → Bool} (hl : us.length = n * 2) (hJ : us.all isJ = true) (hn : n ≤ 1000000) (hφ : ∀ j, j < n → Ok Tryz.prog 50 [.a ([.i .i64 (ci us (j * 2))] ++ [.i .i64 (ci us (j * 2 + 1))]), .c (.p (cR u ++ cR v)), .c (.p (cR l))] [.c (.b (φ j))]) {m : Nat} (hmn : m < n) (hm : φ m = true) (h0 : ∀ j, j < m → φ j = false) : Ok Tryz.prog 85 [.c (.s n us), .c (.k 50 [.p ((cR u ++ cR v)), .p (cR l)])] [.c (.i .i64 (m : Int))] := by
  refine Ok.of (by kernel_rfl) Tryz.func85 rfl rfl ?_
  rw [show Tryz.f85.ntmps = 19 from rfl, show Tryz.f85.results.toList = [.tmp 4] from rfl]
  refine dw_seq ?_
  -- region 0
  refine dw_region (by kernel_rfl) ?_
  refine dl_r (sem_assign rfl rfl) ?_
  refine dl_end ?_
  refine dw_seq ?_
  refine dw_seq ?_
  -- region 1
  refine dw_region (by kernel_rfl) ?_
  refine dl_r (sem_move rfl rfl) ?_
  refine dl_r (sem_len sl22 rfl rfl) ?_
  refine dl_r (sem_move rfl rfl) ?_
  refine dl_end ?_
  refine dw_block ?_
  refine dw_loop (ι := {j : Nat // j ≤ m}) (fun i => ⟨19, [(0, .v (.c (.s n us))), (1, .v (.c (.k 50 [.p ((cR u ++ cR v)), .p (cR l)]))), (7, .v (.c (.i .i64 (n : Int)))), (8, .v (.c (.i .i64 (i.1 : Int))))], []⟩) (fun i => m - i.1) ⟨0, Nat.zero_le _⟩ (sub_of ⟨rfl, rfl, rfl, rfl, trivial⟩ trivial rfl) ?_
  rintro ⟨j, h2⟩
  replace h2 : j ≤ m := h2
  show Dw _ _ ⟨19, [(0, .v (.c (.s n us))), (1, .v (.c (.k 50 [.p ((cR u ++ cR v)), .p (cR l)]))), (7, .v (.c (.i .i64 (n : Int)))), (8, .v (.c (.i .i64 (j : Int))))], []⟩ _
  refine dw_seq ?_
  -- region 2
  refine dw_region (by kernel_rfl) ?_
  refine dl_r (sem_castb (c := true) (sem_cmp rfl rfl rfl rfl) (decide_eq_true (by omega))) ?_
  refine dl_end ?_
  refine dw_seq ?_
  refine dw_true rfl ?_
  refine dw_skip ?_
  refine dw_seq ?_
  refine dw_block ?_
  refine dw_seq ?_
  -- region 3
  refine dw_region (by kernel_rfl) ?_
  refine dl_r (sem_move rfl rfl) ?_
  refine dl_r (sem_assign rfl rfl) ?_
  refine dl_end ?_
  refine dw_seq ?_
  -- region 4
  refine dw_region (by kernel_rfl) ?_
  refine dl_r (sem_move rfl rfl) ?_
  refine dl_r (sem_move rfl rfl) ?_
  refine dl_r (sem_move rfl rfl) ?_
  refine dl_r (sem_index (us := [.i .i64 (ci us (j * 2))] ++ [.i .i64 (ci us (j * 2 + 1))] ++ us.drop (j * 2 + 2)) sl22 rfl rfl (by omega) (hl) (ci_drop2 hl hJ (by omega)) rfl) ?_
  refine dl_r (sem_loadq (us := ([.i .i64 (ci us (j * 2))] ++ [.i .i64 (ci us (j * 2 + 1))])) ty34 rfl rfl rfl rfl) ?_
  refine dl_r (sem_callk rfl rfl (hφ j (by omega)) rfl) ?_
  refine dl_end ?_
  refine dw_cond rfl (fun hc1 => ?_) (fun hc1 => ?_)
  · have gm : m = j := by
      rcases Nat.lt_or_ge j m with h9 | h9
      · rw [h0 j h9] at hc1; cases hc1
      · omega
    refine dw_seq ?_
    -- region 5
    refine dw_region (by kernel_rfl) ?_
    refine dl_r (sem_move rfl rfl) ?_
    refine dl_r (sem_assign rfl rfl) ?_
    refine dl_end ?_
    refine dw_ret ?_
    -- path T
    subst gm
    exact ⟨.inr rfl, (resL_tmp rfl resL_nil)⟩
  · have g2 : j + 1 ≤ m := by
      rcases Nat.lt_or_ge j m with h9 | h9
      · omega
      · rw [show j = m by omega, hm] at hc1; cases hc1
    refine dw_skip ?_
    -- region 6
    refine dw_region (by kernel_rfl) ?_
    refine dl_r (sem_ari (r := ((j + 1 : Nat) : Int)) rfl rfl ((ari_i64_add (by omega) (by omega)).trans (congrArg some (by omega))) rfl) ?_
    refine dl_r (sem_move rfl rfl) ?_
    refine dl_end ?_
    exact ⟨⟨j + 1, g2⟩, sub_of ⟨rfl, rfl, rfl, rfl, trivial⟩ trivial rfl, by show m - (j + 1) < m - j; omega⟩
theorem gCt_0 {n : Nat} {us : List CellD} {u v l : Rat} {φ : Nat → Bool} (hl : us.length = n * 2) (hJ : us.all isJ = true) (hn : n ≤ 1000000) (hφ : ∀ j, j < n → Ok Tryz.prog 50 [.a ([.i .i64 (ci us (j * 2))] ++ [.i .i64 (ci us (j * 2 + 1))]), .c (.p (cR u ++ cR v)), .c (.p (cR l))] [.c (.b (φ j))]) (h0 : ∀ j, j < n → φ j = false) : Ok Tryz.prog 49 [.c (.s n us), .c (.k 50 [.p ((cR u ++ cR v)), .p (cR l)])] [.c (.b false)] := by
  refine Ok.of (by kernel_rfl) Tryz.func49 rfl rfl ?_
  rw [show Tryz.f49.ntmps = 9 from rfl, show Tryz.f49.results.toList = [.tmp 4] from rfl]
  refine dw_seq ?_
  -- region 0
  refine dw_region (by kernel_rfl) ?_
  refine dl_r (sem_assign rfl rfl) ?_
  refine dl_end ?_
  refine dw_seq ?_
  -- region 1
  refine dw_region (by kernel_rfl) ?_
  refine dl_r (sem_move rfl rfl) ?_
  refine dl_r (sem_move rfl rfl) ?_
  refine dl_r (sem_call rfl rfl (gIx_0 hl hJ hn hφ h0) rfl) ?_
  refine dl_r (sem_cmp rfl rfl rfl rfl) ?_
  refine dl_r (sem_assign rfl rfl) ?_
  refine dl_end ?_
  refine dw_ret ?_
  -- path 
  exact ⟨.inr rfl, (resL_tmp rfl resL_nil)⟩
theorem gCt_1 {n : Nat} {us : List CellD} {u v l : Rat} {φ : Nat → Bool} (hl : us.length = n * 2) (hJ : us.all isJ = true) (hn : n ≤ 1000000) (hφ : ∀ j, j < n → Ok Tryz.prog 50 [.a ([.i .i64 (ci us (j * 2))] ++ [.i .i64 (ci us (j * 2 + 1))]), .c (.p (cR u ++ cR v)), .c (.p (cR l))] [.c (.b (φ j))]) {m : Nat} (hmn : m < n) (hm : φ m = true) (h0 : ∀ j, j < m → φ j = false) : Ok Tryz.prog 49 [.c (.s n us), .c (.k 50 [.p ((cR u ++ cR v)), .p (cR l)])] [.c (.b true)] := by
  refine Ok.of (by kernel_rfl) Tryz.func49 rfl rfl ?_
  rw [show Tryz.f49.ntmps = 9 from rfl, show Tryz.f49.results.toList = [.tmp 4] from rfl]
  refine dw_seq ?_
  -- region 0
  refine dw_region (by kernel_rfl) ?_
  refine dl_r (sem_assign rfl rfl) ?_
  refine dl_end ?_
  refine dw_seq ?_
  -- region 1
  refine dw_region (by kernel_rfl) ?_
  refine dl_r (sem_move rfl rfl) ?_
  refine dl_r (sem_move rfl rfl) ?_
  refine dl_r (sem_call rfl rfl (gIx_1 hl hJ hn hφ hmn hm h0) rfl) ?_
  refine dl_r (sem_castb (c := true) (sem_cmp rfl rfl rfl rfl) (decide_eq_true (by omega))) ?_
  refine dl_r (sem_assign rfl rfl) ?_
  refine dl_end ?_
  refine dw_ret ?_
  -- path 
  exact ⟨.inr rfl, (resL_tmp rfl resL_nil)⟩
theorem tSw_bad {n : Nat} {us : List CellD} {r t : Int} {u v : Rat} (hA : r < 1 ∨ r > t ∨ t > 10000000) : Ok Tryz.prog 17 [.c (.s n us), .c (.i .i64 r), .c (.i .i64 t), .a (cR u ++ cR v)] [.c (.b false)] := by
  refine Ok.of (by kernel_rfl) Tryz.func17 rfl rfl ?_
  rw [show Tryz.f17.ntmps = 28 from rfl, show Tryz.f17.results.toList = [.tmp 8] from rfl]
  refine dw_seq ?_
  -- region 0
  refine dw_region (by kernel_rfl) ?_
  refine dl_new (sem_box_a rfl rfl) rfl ?_
  refine dl_r (sem_assign rfl rfl) ?_
  refine dl_end ?_
  refine dw_seq ?_
  refine dw_seq ?_
  -- region 1
  refine dw_region (by kernel_rfl) ?_
  refine dl_r (sem_move rfl rfl) ?_
  refine dl_r (sem_cmp rfl rfl rfl rfl) ?_
  refine dl_rb (sem_move rfl rfl) (fun c1 hb1 => ?_)
  cases c1
  · refine dl_r (sem_move rfl rfl) ?_
    refine dl_r (sem_move rfl rfl) ?_
    refine dl_r (sem_cmp rfl rfl rfl rfl) ?_
    refine dl_r (sem_pick rfl rfl rfl rfl) ?_
    refine dl_rb (sem_move rfl rfl) (fun c2 hb2 => ?_)
    cases c2
    · refine dl_r (sem_move rfl rfl) ?_
      refine dl_r (sem_cmp rfl rfl rfl rfl) ?_
      refine dl_r (sem_pick rfl rfl rfl rfl) ?_
      refine dl_end ?_
      refine dw_cond rfl (fun hc3 => ?_) (fun hc3 => ?_)
      · refine dw_seq ?_
        -- region 2
        refine dw_region (by kernel_rfl) ?_
        refine dl_r (sem_assign rfl rfl) ?_
        refine dl_end ?_
        refine dw_ret ?_
        -- path ffT
        exact ⟨.inr rfl, (resL_tmp rfl resL_nil)⟩
      · rcases hA with h | h | h
        · exact absurd h (of_decide_eq_false hb1)
        · exact absurd h (of_decide_eq_false hb2)
        · exact absurd h (of_decide_eq_false hc3)
    · refine dl_skip (sem_skip rfl) ?_
      refine dl_skip (sem_skip rfl) ?_
      refine dl_r (sem_pick rfl rfl rfl rfl) ?_
      refine dl_end ?_
      refine dw_true rfl ?_
      refine dw_seq ?_
      -- region 2
      refine dw_region (by kernel_rfl) ?_
      refine dl_r (sem_assign rfl rfl) ?_
      refine dl_end ?_
      refine dw_ret ?_
      -- path ft
      exact ⟨.inr rfl, (resL_tmp rfl resL_nil)⟩
  · refine dl_skip (sem_skip rfl) ?_
    refine dl_skip (sem_skip rfl) ?_
    refine dl_skip (sem_skip rfl) ?_
    refine dl_r (sem_pick rfl rfl rfl rfl) ?_
    refine dl_r (sem_move rfl rfl) ?_
    refine dl_skip (sem_skip rfl) ?_
    refine dl_skip (sem_skip rfl) ?_
    refine dl_r (sem_pick rfl rfl rfl rfl) ?_
    refine dl_end ?_
    refine dw_true rfl ?_
    refine dw_seq ?_
    -- region 2
    refine dw_region (by kernel_rfl) ?_
    refine dl_r (sem_assign rfl rfl) ?_
    refine dl_end ?_
    refine dw_ret ?_
    -- path t
    exact ⟨.inr rfl, (resL_tmp rfl resL_nil)⟩
theorem tSw_0 {n : Nat} {us : List CellD} {r t : Int} {u v : Rat} (hl : us.length = n * 2) (hB : us.all bdJ = true) (hn : n ≤ 1000000) (hr : 1 ≤ r) (hrt : r ≤ t) (ht2 : t ≤ 10000000) (hu : Rz 20 u) (hv : Rz 20 v) (h0 : ∀ j, j < n → swB us u v ((r + t : Int) : Rat) j = false) : Ok Tryz.prog 17 [.c (.s n us), .c (.i .i64 r), .c (.i .i64 t), .a (cR u ++ cR v)] [.c (.b false)] := by
  have hJ := bdJ_isJ hB
  have hl0 : Rz 20 ((r + t : Int) : Rat) := (Rz.num (by omega) (by omega)).mono (by decide)
  
  refine Ok.of (by kernel_rfl) Tryz.func17 rfl rfl ?_
  rw [show Tryz.f17.ntmps = 28 from rfl, show Tryz.f17.results.toList = [.tmp 8] from rfl]
  refine dw_seq ?_
  -- region 0
  refine dw_region (by kernel_rfl) ?_
  refine dl_new (sem_box_a rfl rfl) rfl ?_
  refine dl_r (sem_assign rfl rfl) ?_
  refine dl_end ?_
  refine dw_seq ?_
  refine dw_seq ?_
  -- region 1
  refine dw_region (by kernel_rfl) ?_
  refine dl_r (sem_move rfl rfl) ?_
  refine dl_r (sem_castb (c := false) (sem_cmp rfl rfl rfl rfl) (decide_eq_false (by omega))) ?_
  refine dl_r (sem_move rfl rfl) ?_
  refine dl_r (sem_move rfl rfl) ?_
  refine dl_r (sem_move rfl rfl) ?_
  refine dl_r (sem_castb (c := false) (sem_cmp rfl rfl rfl rfl) (decide_eq_false (by omega))) ?_
  refine dl_r (sem_pick rfl rfl rfl rfl) ?_
  refine dl_r (sem_move rfl rfl) ?_
  refine dl_r (sem_move rfl rfl) ?_
  refine dl_r (sem_castb (c := false) (sem_cmp rfl rfl rfl rfl) (decide_eq_false (by omega))) ?_
  refine dl_r (sem_pick rfl rfl rfl rfl) ?_
  refine dl_end ?_
  refine dw_false rfl ?_
  refine dw_skip ?_
  refine dw_seq ?_
  -- region 3
  refine dw_region (by kernel_rfl) ?_
  refine dl_r (sem_move rfl rfl) ?_
  refine dl_r (sem_move rfl rfl) ?_
  refine dl_r (sem_ari (r := r + t) rfl rfl (ari_i64_add (by omega) (by omega)) rfl) ?_
  refine dl_r (sem_call rfl rfl (pFrom_ok (by omega) (by omega)) rfl) ?_
  refine dl_new (sem_alloc zc28 rfl) rfl ?_
  refine dl_st (sem_store_a ty28 rfl rfl rfl rfl rfl rfl) ?_
  refine dl_end ?_
  refine dw_seq ?_
  -- region 4
  refine dw_freeze (t := 7) (k := 7) rfl rfl ?_
  refine dw_freeze (t := 9) (k := 9) rfl rfl ?_
  refine dw_region (by kernel_rfl) ?_
  refine dl_r (sem_move rfl rfl) ?_
  refine dl_r (sem_mkfn (us := [.p ((cR u ++ cR v)), .p (cR (((r + t : Int) : Rat)))]) rfl rfl) ?_
  refine dl_r (sem_call rfl rfl (gCt_0 (φ := swB us u v ((r + t : Int) : Rat)) hl hJ hn (fun j hj => tSw1_ok (by have := ci_bd hB (j * 2); omega) (by have := ci_bd hB (j * 2 + 1); omega) hu hv hl0) h0) rfl) ?_
  refine dl_r (sem_assign rfl rfl) ?_
  refine dl_end ?_
  refine dw_ret ?_
  -- path 
  exact ⟨.inr rfl, (resL_tmp rfl resL_nil)⟩
theorem tSw_1 {n : Nat} {us : List CellD} {r t : Int} {u v : Rat} (hl : us.length = n * 2) (hB : us.all bdJ = true) (hn : n ≤ 1000000) (hr : 1 ≤ r) (hrt : r ≤ t) (ht2 : t ≤ 10000000) (hu : Rz 20 u) (hv : Rz 20 v) {m : Nat} (hmn : m < n) (hm : swB us u v ((r + t : Int) : Rat) m = true) (h0 : ∀ j, j < m → swB us u v ((r + t : Int) : Rat) j = false) : Ok Tryz.prog 17 [.c (.s n us), .c (.i .i64 r), .c (.i .i64 t), .a (cR u ++ cR v)] [.c (.b true)] := by
  have hJ := bdJ_isJ hB
  have hl0 : Rz 20 ((r + t : Int) : Rat) := (Rz.num (by omega) (by omega)).mono (by decide)
  
  refine Ok.of (by kernel_rfl) Tryz.func17 rfl rfl ?_
  rw [show Tryz.f17.ntmps = 28 from rfl, show Tryz.f17.results.toList = [.tmp 8] from rfl]
  refine dw_seq ?_
  -- region 0
  refine dw_region (by kernel_rfl) ?_
  refine dl_new (sem_box_a rfl rfl) rfl ?_
  refine dl_r (sem_assign rfl rfl) ?_
  refine dl_end ?_
  refine dw_seq ?_
  refine dw_seq ?_
  -- region 1
  refine dw_region (by kernel_rfl) ?_
  refine dl_r (sem_move rfl rfl) ?_
  refine dl_r (sem_castb (c := false) (sem_cmp rfl rfl rfl rfl) (decide_eq_false (by omega))) ?_
  refine dl_r (sem_move rfl rfl) ?_
  refine dl_r (sem_move rfl rfl) ?_
  refine dl_r (sem_move rfl rfl) ?_
  refine dl_r (sem_castb (c := false) (sem_cmp rfl rfl rfl rfl) (decide_eq_false (by omega))) ?_
  refine dl_r (sem_pick rfl rfl rfl rfl) ?_
  refine dl_r (sem_move rfl rfl) ?_
  refine dl_r (sem_move rfl rfl) ?_
  refine dl_r (sem_castb (c := false) (sem_cmp rfl rfl rfl rfl) (decide_eq_false (by omega))) ?_
  refine dl_r (sem_pick rfl rfl rfl rfl) ?_
  refine dl_end ?_
  refine dw_false rfl ?_
  refine dw_skip ?_
  refine dw_seq ?_
  -- region 3
  refine dw_region (by kernel_rfl) ?_
  refine dl_r (sem_move rfl rfl) ?_
  refine dl_r (sem_move rfl rfl) ?_
  refine dl_r (sem_ari (r := r + t) rfl rfl (ari_i64_add (by omega) (by omega)) rfl) ?_
  refine dl_r (sem_call rfl rfl (pFrom_ok (by omega) (by omega)) rfl) ?_
  refine dl_new (sem_alloc zc28 rfl) rfl ?_
  refine dl_st (sem_store_a ty28 rfl rfl rfl rfl rfl rfl) ?_
  refine dl_end ?_
  refine dw_seq ?_
  -- region 4
  refine dw_freeze (t := 7) (k := 7) rfl rfl ?_
  refine dw_freeze (t := 9) (k := 9) rfl rfl ?_
  refine dw_region (by kernel_rfl) ?_
  refine dl_r (sem_move rfl rfl) ?_
  refine dl_r (sem_mkfn (us := [.p ((cR u ++ cR v)), .p (cR (((r + t : Int) : Rat)))]) rfl rfl) ?_
  refine dl_r (sem_call rfl rfl (gCt_1 (φ := swB us u v ((r + t : Int) : Rat)) hl hJ hn (fun j hj => tSw1_ok (by have := ci_bd hB (j * 2); omega) (by have := ci_bd hB (j * 2 + 1); omega) hu hv hl0) hmn hm h0) rfl) ?_
  refine dl_r (sem_assign rfl rfl) ?_
  refine dl_end ?_
  refine dw_ret ?_
  -- path 
  exact ⟨.inr rfl, (resL_tmp rfl resL_nil)⟩
theorem rSw_bad {n : Nat} {us : List CellD} {r t : Int} {u v : Rat} (hA : r < 1 ∨ r > t ∨ t > 10000000) : Ok Tryz.prog 18 [.c (.s n us), .c (.i .i64 r), .c (.i .i64 t), .a (cR u ++ cR v)] [.c (.b false)] := by
  refine Ok.of (by kernel_rfl) Tryz.func18 rfl rfl ?_
  rw [show Tryz.f18.ntmps = 52 from rfl, show Tryz.f18.results.toList = [.tmp 8] from rfl]
  refine dw_seq ?_
  -- region 0
  refine dw_region (by kernel_rfl) ?_
  refine dl_new (sem_box_a rfl rfl) rfl ?_
  refine dl_r (sem_assign rfl rfl) ?_
  refine dl_end ?_
  refine dw_seq ?_
  refine dw_seq ?_
  -- region 1
  refine dw_region (by kernel_rfl) ?_
  refine dl_r (sem_move rfl rfl) ?_
  refine dl_r (sem_move rfl rfl) ?_
  refine dl_r (sem_call rfl rfl (rSz_f hA) rfl) ?_
  refine dl_r (sem_not rfl rfl) ?_
  refine dl_end ?_
  refine dw_true rfl ?_
  refine dw_seq ?_
  -- region 2
  refine dw_region (by kernel_rfl) ?_
  refine dl_r (sem_assign rfl rfl) ?_
  refine dl_end ?_
  refine dw_ret ?_
  -- path 
  exact ⟨.inr rfl, (resL_tmp rfl resL_nil)⟩
theorem rSw_0 {n : Nat} {us : List CellD} {r t : Int} {u v : Rat} (hl : us.length = n * 2) (hB : us.all bdJ = true) (hn : n ≤ 1000000) (hr : 1 ≤ r) (hrt : r ≤ t) (ht2 : t ≤ 10000000) (hu : Rz 20 u) (hv : Rz 20 v) (h0 : ∀ j, j < n → swB us u v ((r + t : Int) : Rat) j = false) : Ok Tryz.prog 18 [.c (.s n us), .c (.i .i64 r), .c (.i .i64 t), .a (cR u ++ cR v)] [.c (.b false)] := by
  have hJ := bdJ_isJ hB
  have hl0 : Rz 20 ((r + t : Int) : Rat) := (Rz.num (by omega) (by omega)).mono (by decide)
  have hbj := ci_bd hB
  refine Ok.of (by kernel_rfl) Tryz.func18 rfl rfl ?_
  rw [show Tryz.f18.ntmps = 52 from rfl, show Tryz.f18.results.toList = [.tmp 8] from rfl]
  refine dw_seq ?_
  -- region 0
  refine dw_region (by kernel_rfl) ?_
  refine dl_new (sem_box_a rfl rfl) rfl ?_
  refine dl_r (sem_assign rfl rfl) ?_
  refine dl_end ?_
  refine dw_seq ?_
  refine dw_seq ?_
  -- region 1
  refine dw_region (by kernel_rfl) ?_
  refine dl_r (sem_move rfl rfl) ?_
  refine dl_r (sem_move rfl rfl) ?_
  refine dl_r (sem_call rfl rfl (rSz_t hr hrt ht2) rfl) ?_
  refine dl_r (sem_not rfl rfl) ?_
  refine dl_end ?_
  refine dw_false rfl ?_
  refine dw_skip ?_
  refine dw_seq ?_
  refine dw_seq ?_
  -- region 3
  refine dw_region (by kernel_rfl) ?_
  refine dl_r (sem_assign rfl rfl) ?_
  refine dl_end ?_
  refine dw_block ?_
  refine dw_loop (ι := {j : Nat // j ≤ n}) (fun i => ⟨52, [(0, .v (.c (.s n us))), (1, .v (.c (.i .i64 r))), (2, .v (.c (.i .i64 t))), (7, .p 7 0), (9, .v (.c (.i .i64 (i.1 : Int))))], [(7, 52, (cR u ++ cR v))]⟩) (fun i => n - i.1) ⟨0, Nat.zero_le _⟩ (sub_of ⟨rfl, rfl, rfl, rfl, rfl, trivial⟩ ⟨rfl, trivial⟩ rfl) ?_
  rintro ⟨j, h2⟩
  replace h2 : j ≤ n := h2
  have hb1 := hbj (j * 2)
  have hb2 := hbj (j * 2 + 1)
  have hxj : Rz 20 ((ci us (j * 2) : Int) : Rat) := (Rz.num (by omega) (by omega)).mono (by decide)
  have hyj : Rz 20 ((ci us (j * 2 + 1) : Int) : Rat) := (Rz.num (by omega) (by omega)).mono (by decide)
  show Dw _ _ ⟨52, [(0, .v (.c (.s n us))), (1, .v (.c (.i .i64 r))), (2, .v (.c (.i .i64 t))), (7, .p 7 0), (9, .v (.c (.i .i64 (j : Int))))], [(7, 52, (cR u ++ cR v))]⟩ _
  refine dw_seq ?_
  refine dw_seq ?_
  -- region 4
  refine dw_region (by kernel_rfl) ?_
  refine dl_r (sem_move rfl rfl) ?_
  refine dl_r (sem_move rfl rfl) ?_
  refine dl_r (sem_len sl22 rfl rfl) ?_
  refine dl_r (sem_cmp rfl rfl rfl rfl) ?_
  refine dl_end ?_
  refine dw_cond rfl (fun hc1 => ?_) (fun hc1 => ?_)
  · have g1 : j < n := by have := of_decide_eq_true hc1; omega
    have g2 : j + 1 ≤ n := g1
    refine dw_skip ?_
    refine dw_seq ?_
    refine dw_block ?_
    refine dw_seq ?_
    -- region 6
    refine dw_draw 20 [] follows_mixed (by kernel_rfl) rfl rfl ?_
    refine dq_r (sem_field fd52_0 rfl rfl) ?_
    refine dq_r (sem_load (us := cR u) ty28 rfl rfl rfl rfl rfl) ?_
    refine dq_r (sem_move rfl rfl) ?_
    refine dq_r (sem_move rfl rfl) ?_
    refine dq_r (sem_index (us := [.i .i64 (ci us (j * 2))] ++ [.i .i64 (ci us (j * 2 + 1))] ++ us.drop (j * 2 + 2)) sl22 rfl rfl (by omega) (hl) (ci_drop2 hl hJ (by omega)) rfl) ?_
    refine dq_r (sem_fieldq fd34_0 rfl rfl rfl) ?_
    refine dq_r (sem_loadq1 ty2 rfl rfl rfl) ?_
    refine dq_r (sem_call rfl rfl (rNum_ok (by omega) (by omega)) rfl) ?_
    refine dq_r (sem_call rfl rfl (sSub_ok (hu.mono (by decide)) (hxj.mono (by decide))) rfl) ?_
    refine dq_r (sem_field fd52_1 rfl rfl) ?_
    refine dq_r (sem_load (us := cR v) ty28 rfl rfl rfl rfl rfl) ?_
    refine dq_r (sem_move rfl rfl) ?_
    refine dq_r (sem_move rfl rfl) ?_
    refine dq_r (sem_index (us := [.i .i64 (ci us (j * 2))] ++ [.i .i64 (ci us (j * 2 + 1))] ++ us.drop (j * 2 + 2)) sl22 rfl rfl (by omega) (hl) (ci_drop2 hl hJ (by omega)) rfl) ?_
    refine dq_r (sem_fieldq fd34_1 rfl rfl rfl) ?_
    refine dq_r (sem_loadq1 ty2 rfl rfl rfl) ?_
    refine dq_r (sem_call rfl rfl (rNum_ok (by omega) (by omega)) rfl) ?_
    refine dq_r (sem_call rfl rfl (sSub_ok (hv.mono (by decide)) (hyj.mono (by decide))) rfl) ?_
    refine dq_new (sem_alloc zc28 rfl) rfl ?_
    refine dq_new (sem_alloc zc28 rfl) rfl ?_
    refine dq_end ?_
    refine dl_start2 ?_
    refine dl_st (sem_store_a ty28 rfl rfl rfl rfl rfl rfl) ?_
    refine dl_st (sem_store_a ty28 rfl rfl rfl rfl rfl rfl) ?_
    refine dl_end ?_
    refine dw_seq ?_
    -- region 7
    refine dw_draw 12 [] follows_mixed (by kernel_rfl) rfl rfl ?_
    refine dq_r (sem_load (us := cR (u - (((ci us (j * 2) : Int)) : Rat))) ty28 rfl rfl rfl rfl rfl) ?_
    refine dq_r (sem_call rfl rfl (sSquare_ok ((hu.sub hxj).mono (by decide))) rfl) ?_
    refine dq_r (sem_load (us := cR (v - (((ci us (j * 2 + 1) : Int)) : Rat))) ty28 rfl rfl rfl rfl rfl) ?_
    refine dq_r (sem_call rfl rfl (sSquare_ok ((hv.sub hyj).mono (by decide))) rfl) ?_
    refine dq_r (sem_call rfl rfl (rcast1 (sAdd_ok (((hu.sub hxj).mul (hu.sub hxj)).mono (by decide)) (((hv.sub hyj).mul (hv.sub hyj)).mono (by decide))) (x' := dsq u v ((ci us (j * 2) : Int) : Rat) ((ci us (j * 2 + 1) : Int) : Rat)) rfl) rfl) ?_
    refine dq_r (sem_move rfl rfl) ?_
    refine dq_r (sem_move rfl rfl) ?_
    refine dq_r (sem_ari (r := r + t) rfl rfl (ari_i64_add (by omega) (by omega)) rfl) ?_
    refine dq_r (sem_call rfl rfl (rNum_ok (by omega) (by omega)) rfl) ?_
    refine dq_r (sem_call rfl rfl (sSquare_ok (hl0.mono (by decide))) rfl) ?_
    refine dq_r (sem_call rfl rfl (sCmp_ok ((dsq_sz hxj hyj hu hv).mono (by decide)) ((hl0.mul hl0).mono (by decide))) rfl) ?_
    refine dq_r (sem_castb (c := false) (sem_cmp rfl rfl rfl rfl) (h0 j g1)) ?_
    refine dq_end ?_
    refine dl_start0 ?_
    refine dl_end ?_
    refine dw_false rfl ?_
    refine dw_skip ?_
    -- region 5
    refine dw_region (by kernel_rfl) ?_
    refine dl_r (sem_move rfl rfl) ?_
    refine dl_r (sem_ari (r := ((j + 1 : Nat) : Int)) rfl rfl ((ari_i64_add (by omega) (by omega)).trans (congrArg some (by omega))) rfl) ?_
    refine dl_r (sem_assign rfl rfl) ?_
    refine dl_end ?_
    exact ⟨⟨j + 1, g2⟩, sub_of ⟨rfl, rfl, rfl, rfl, rfl, trivial⟩ ⟨rfl, trivial⟩ rfl, by show n - (j + 1) < n - j; omega⟩
  · refine dw_exit ?_
    refine dw_seq ?_
    -- region 9
    refine dw_region (by kernel_rfl) ?_
    refine dl_r (sem_assign rfl rfl) ?_
    refine dl_end ?_
    refine dw_ret ?_
    -- path F
    exact ⟨.inr rfl, (resL_tmp rfl resL_nil)⟩
theorem rSw_1 {n : Nat} {us : List CellD} {r t : Int} {u v : Rat} (hl : us.length = n * 2) (hB : us.all bdJ = true) (hn : n ≤ 1000000) (hr : 1 ≤ r) (hrt : r ≤ t) (ht2 : t ≤ 10000000) (hu : Rz 20 u) (hv : Rz 20 v) {m : Nat} (hmn : m < n) (hm : swB us u v ((r + t : Int) : Rat) m = true) (h0 : ∀ j, j < m → swB us u v ((r + t : Int) : Rat) j = false) : Ok Tryz.prog 18 [.c (.s n us), .c (.i .i64 r), .c (.i .i64 t), .a (cR u ++ cR v)] [.c (.b true)] := by
  have hJ := bdJ_isJ hB
  have hl0 : Rz 20 ((r + t : Int) : Rat) := (Rz.num (by omega) (by omega)).mono (by decide)
  have hbj := ci_bd hB
  refine Ok.of (by kernel_rfl) Tryz.func18 rfl rfl ?_
  rw [show Tryz.f18.ntmps = 52 from rfl, show Tryz.f18.results.toList = [.tmp 8] from rfl]
  refine dw_seq ?_
  -- region 0
  refine dw_region (by kernel_rfl) ?_
  refine dl_new (sem_box_a rfl rfl) rfl ?_
  refine dl_r (sem_assign rfl rfl) ?_
  refine dl_end ?_
  refine dw_seq ?_
  refine dw_seq ?_
  -- region 1
  refine dw_region (by kernel_rfl) ?_
  refine dl_r (sem_move rfl rfl) ?_
  refine dl_r (sem_move rfl rfl) ?_
  refine dl_r (sem_call rfl rfl (rSz_t hr hrt ht2) rfl) ?_
  refine dl_r (sem_not rfl rfl) ?_
  refine dl_end ?_
  refine dw_false rfl ?_
  refine dw_skip ?_
  refine dw_seq ?_
  refine dw_seq ?_
  -- region 3
  refine dw_region (by kernel_rfl) ?_
  refine dl_r (sem_assign rfl rfl) ?_
  refine dl_end ?_
  refine dw_block ?_
  refine dw_loop (ι := {j : Nat // j ≤ m}) (fun i => ⟨52, [(0, .v (.c (.s n us))), (1, .v (.c (.i .i64 r))), (2, .v (.c (.i .i64 t))), (7, .p 7 0), (9, .v (.c (.i .i64 (i.1 : Int))))], [(7, 52, (cR u ++ cR v))]⟩) (fun i => m - i.1) ⟨0, Nat.zero_le _⟩ (sub_of ⟨rfl, rfl, rfl, rfl, rfl, trivial⟩ ⟨rfl, trivial⟩ rfl) ?_
  rintro ⟨j, h2⟩
  replace h2 : j ≤ m := h2
  have hb1 := hbj (j * 2)
  have hb2 := hbj (j * 2 + 1)
  have hxj : Rz 20 ((ci us (j * 2) : Int) : Rat) := (Rz.num (by omega) (by omega)).mono (by decide)
  have hyj : Rz 20 ((ci us (j * 2 + 1) : Int) : Rat) := (Rz.num (by omega) (by omega)).mono (by decide)
  show Dw _ _ ⟨52, [(0, .v (.c (.s n us))), (1, .v (.c (.i .i64 r))), (2, .v (.c (.i .i64 t))), (7, .p 7 0), (9, .v (.c (.i .i64 (j : Int))))], [(7, 52, (cR u ++ cR v))]⟩ _
  refine dw_seq ?_
  refine dw_seq ?_
  -- region 4
  refine dw_region (by kernel_rfl) ?_
  refine dl_r (sem_move rfl rfl) ?_
  refine dl_r (sem_move rfl rfl) ?_
  refine dl_r (sem_len sl22 rfl rfl) ?_
  refine dl_r (sem_castb (c := true) (sem_cmp rfl rfl rfl rfl) (decide_eq_true (by omega))) ?_
  refine dl_end ?_
  refine dw_true rfl ?_
  refine dw_skip ?_
  refine dw_seq ?_
  refine dw_block ?_
  refine dw_seq ?_
  -- region 6
  refine dw_draw 20 [] follows_mixed (by kernel_rfl) rfl rfl ?_
  refine dq_r (sem_field fd52_0 rfl rfl) ?_
  refine dq_r (sem_load (us := cR u) ty28 rfl rfl rfl rfl rfl) ?_
  refine dq_r (sem_move rfl rfl) ?_
  refine dq_r (sem_move rfl rfl) ?_
  refine dq_r (sem_index (us := [.i .i64 (ci us (j * 2))] ++ [.i .i64 (ci us (j * 2 + 1))] ++ us.drop (j * 2 + 2)) sl22 rfl rfl (by omega) (hl) (ci_drop2 hl hJ (by omega)) rfl) ?_
  refine dq_r (sem_fieldq fd34_0 rfl rfl rfl) ?_
  refine dq_r (sem_loadq1 ty2 rfl rfl rfl) ?_
  refine dq_r (sem_call rfl rfl (rNum_ok (by omega) (by omega)) rfl) ?_
  refine dq_r (sem_call rfl rfl (sSub_ok (hu.mono (by decide)) (hxj.mono (by decide))) rfl) ?_
  refine dq_r (sem_field fd52_1 rfl rfl) ?_
  refine dq_r (sem_load (us := cR v) ty28 rfl rfl rfl rfl rfl) ?_
  refine dq_r (sem_move rfl rfl) ?_
  refine dq_r (sem_move rfl rfl) ?_
  refine dq_r (sem_index (us := [.i .i64 (ci us (j * 2))] ++ [.i .i64 (ci us (j * 2 + 1))] ++ us.drop (j * 2 + 2)) sl22 rfl rfl (by omega) (hl) (ci_drop2 hl hJ (by omega)) rfl) ?_
  refine dq_r (sem_fieldq fd34_1 rfl rfl rfl) ?_
  refine dq_r (sem_loadq1 ty2 rfl rfl rfl) ?_
  refine dq_r (sem_call rfl rfl (rNum_ok (by omega) (by omega)) rfl) ?_
  refine dq_r (sem_call rfl rfl (sSub_ok (hv.mono (by decide)) (hyj.mono (by decide))) rfl) ?_
  refine dq_new (sem_alloc zc28 rfl) rfl ?_
  refine dq_new (sem_alloc zc28 rfl) rfl ?_
  refine dq_end ?_
  refine dl_start2 ?_
  refine dl_st (sem_store_a ty28 rfl rfl rfl rfl rfl rfl) ?_
  refine dl_st (sem_store_a ty28 rfl rfl rfl rfl rfl rfl) ?_
  refine dl_end ?_
  refine dw_seq ?_
  -- region 7
  refine dw_draw 12 [] follows_mixed (by kernel_rfl) rfl rfl ?_
  refine dq_r (sem_load (us := cR (u - (((ci us (j * 2) : Int)) : Rat))) ty28 rfl rfl rfl rfl rfl) ?_
  refine dq_r (sem_call rfl rfl (sSquare_ok ((hu.sub hxj).mono (by decide))) rfl) ?_
  refine dq_r (sem_load (us := cR (v - (((ci us (j * 2 + 1) : Int)) : Rat))) ty28 rfl rfl rfl rfl rfl) ?_
  refine dq_r (sem_call rfl rfl (sSquare_ok ((hv.sub hyj).mono (by decide))) rfl) ?_
  refine dq_r (sem_call rfl rfl (rcast1 (sAdd_ok (((hu.sub hxj).mul (hu.sub hxj)).mono (by decide)) (((hv.sub hyj).mul (hv.sub hyj)).mono (by decide))) (x' := dsq u v ((ci us (j * 2) : Int) : Rat) ((ci us (j * 2 + 1) : Int) : Rat)) rfl) rfl) ?_
  refine dq_r (sem_move rfl rfl) ?_
  refine dq_r (sem_move rfl rfl) ?_
  refine dq_r (sem_ari (r := r + t) rfl rfl (ari_i64_add (by omega) (by omega)) rfl) ?_
  refine dq_r (sem_call rfl rfl (rNum_ok (by omega) (by omega)) rfl) ?_
  refine dq_r (sem_call rfl rfl (sSquare_ok (hl0.mono (by decide))) rfl) ?_
  refine dq_r (sem_call rfl rfl (sCmp_ok ((dsq_sz hxj hyj hu hv).mono (by decide)) ((hl0.mul hl0).mono (by decide))) rfl) ?_
  refine dq_r (sem_cmp rfl rfl rfl rfl) ?_
  refine dq_end ?_
  refine dl_start0 ?_
  refine dl_end ?_
  refine dw_cond rfl (fun hc1 => ?_) (fun hc1 => ?_)
  · have gm : m = j := by
      rcases Nat.lt_or_ge j m with h9 | h9
      · have h8 := h0 j h9; unfold swB at h8; rw [h8] at hc1; cases hc1
      · omega
    refine dw_seq ?_
    -- region 8
    refine dw_region (by kernel_rfl) ?_
    refine dl_r (sem_assign rfl rfl) ?_
    refine dl_end ?_
    refine dw_ret ?_
    -- path T
    exact ⟨.inr rfl, (resL_tmp rfl resL_nil)⟩
  · have g2 : j + 1 ≤ m := by
      rcases Nat.lt_or_ge j m with h9 | h9
      · omega
      · have h8 := hm; rw [show m = j by omega] at h8; unfold swB at h8; rw [h8] at hc1; cases hc1
    refine dw_skip ?_
    -- region 5
    refine dw_region (by kernel_rfl) ?_
    refine dl_r (sem_move rfl rfl) ?_
    refine dl_r (sem_ari (r := ((j + 1 : Nat) : Int)) rfl rfl ((ari_i64_add (by omega) (by omega)).trans (congrArg some (by omega))) rfl) ?_
    refine dl_r (sem_assign rfl rfl) ?_
    refine dl_end ?_
    exact ⟨⟨j + 1, g2⟩, sub_of ⟨rfl, rfl, rfl, rfl, rfl, trivial⟩ ⟨rfl, trivial⟩ rfl, by show m - (j + 1) < m - j; omega⟩
end Go.Proofs.YtonjlikaacengaaGreat
/- The law of Swept at any answers that agree. -/
namespace Go.Proofs.YtonjlikaacengaaGreat
open Go Go.RowKit
theorem lSw_e {a1 a2 b1 b2 r s z f : Int} {t v0 v1 : Int} {n : Nat} {us : List CellD} {e : Int} (he : e ≠ 0) (hR : Ok Tryz.prog 13 [.a ([.i .i64 a1] ++ [.i .i64 a2]), .a ([.i .i64 b1] ++ [.i .i64 b2]), .c (.i .i64 s)] [.c (.s n us), .c (.i .i64 e)]) : Ok Tryz.prog 5 [.a (([.i .i64 a1] ++ [.i .i64 a2]) ++ ([.i .i64 b1] ++ [.i .i64 b2]) ++ [.i .i64 r] ++ [.i .i64 s] ++ [.i .i64 z] ++ [.i .i64 f]), .c (.i .i64 t), .a ([.i .i16 v0] ++ [.i .i16 v1])] [.c (.b true)] := by
  refine Ok.of (by kernel_rfl) Tryz.func5 rfl rfl ?_
  rw [show Tryz.f5.ntmps = 192 from rfl, show Tryz.f5.results.toList = [.tmp 6] from rfl]
  refine dw_seq ?_
  -- region 0
  refine dw_region (by kernel_rfl) ?_
  refine dl_new (sem_box_a rfl rfl) rfl ?_
  refine dl_new (sem_box_a rfl rfl) rfl ?_
  refine dl_r (sem_assign rfl rfl) ?_
  refine dl_end ?_
  refine dw_seq ?_
  -- region 1
  refine dw_region (by kernel_rfl) ?_
  refine dl_r (sem_field fd36_0 rfl rfl) ?_
  refine dl_r (sem_load (us := ([.i .i64 a1] ++ [.i .i64 a2])) ty34 rfl rfl rfl rfl rfl) ?_
  refine dl_r (sem_field fd36_1 rfl rfl) ?_
  refine dl_r (sem_load (us := ([.i .i64 b1] ++ [.i .i64 b2])) ty34 rfl rfl rfl rfl rfl) ?_
  refine dl_r (sem_field fd36_3 rfl rfl) ?_
  refine dl_r (sem_load1 ty2 rfl rfl rfl rfl) ?_
  refine dl_r (sem_call rfl rfl (hR) rfl) ?_
  refine dl_r (sem_move rfl rfl) ?_
  refine dl_r (sem_extract rfl rfl rfl) ?_
  refine dl_r (sem_extract rfl rfl rfl) ?_
  refine dl_r (sem_assign rfl rfl) ?_
  refine dl_r (sem_assign rfl rfl) ?_
  refine dl_end ?_
  refine dw_seq ?_
  refine dw_seq ?_
  -- region 2
  refine dw_region (by kernel_rfl) ?_
  refine dl_r (sem_call rfl rfl (lAwake_ok) rfl) ?_
  refine dl_r (sem_not rfl rfl) ?_
  refine dl_r (sem_move rfl rfl) ?_
  refine dl_r (sem_move rfl rfl) ?_
  refine dl_r (sem_castb (c := true) (sem_cmp rfl rfl rfl rfl) (by simp [he])) ?_
  refine dl_r (sem_pick rfl rfl rfl rfl) ?_
  refine dl_r (sem_move rfl rfl) ?_
  refine dl_skip (sem_skip rfl) ?_
  refine dl_skip (sem_skip rfl) ?_
  refine dl_skip (sem_skip rfl) ?_
  refine dl_r (sem_pick rfl rfl rfl rfl) ?_
  refine dl_end ?_
  refine dw_true rfl ?_
  refine dw_seq ?_
  -- region 3
  refine dw_region (by kernel_rfl) ?_
  refine dl_r (sem_call rfl rfl (lAwake_ok) rfl) ?_
  refine dl_r (sem_assign rfl rfl) ?_
  refine dl_end ?_
  refine dw_ret ?_
  -- path 
  exact ⟨.inr rfl, (resL_tmp rfl resL_nil)⟩
theorem lSw_ok {a1 a2 L dx dy r s z f t v0 v1 : Int} {k : Nat} {u v X Y ρ : Rat} {β : Bool} (hL : 1 ≤ L) (hd : Dir dx dy) (hs : 1 ≤ s) (hs2 : s ≤ 9223372036854775807) (_hk : (k : Int) = (L - 1) / s) (r1 : -10000000 ≤ a1 ∧ a1 ≤ 10000000) (r2 : -10000000 ≤ a2 ∧ a2 ≤ 10000000) (r3 : -10000000 ≤ a1 + L * dx ∧ a1 + L * dx ≤ 10000000) (r4 : -10000000 ≤ a2 + L * dy ∧ a2 + L * dy ≤ 10000000) (hv0 : -32768 ≤ v0 ∧ v0 ≤ 32767) (hv1 : -32768 ≤ v1 ∧ v1 ≤ 32767) (eu : ((a1 : Int) : Rat) + Rat.divInt v0 2 = u) (ev : ((a2 : Int) : Rat) + Rat.divInt v1 2 = v) (eX : Rat.divInt (v0 * dx + v1 * dy) 2 = X) (eY : Rat.divInt (v0 * dy + v1 * dx) 2 = Y) (eρ : ((r + t : Int) : Rat) - Rat.divInt s 2 = ρ) (_hu : Rz 20 u) (_hv : Rz 20 v) (hX : Rz 20 X) (hY : Rz 20 Y) (hρ : r + t ≤ 20000000 → 2 ≤ r + t → Rz 20 ρ) (hR : Ok Tryz.prog 13 [.a ([.i .i64 a1] ++ [.i .i64 a2]), .a ([.i .i64 (a1 + L * dx)] ++ [.i .i64 (a2 + L * dy)]), .c (.i .i64 s)] [.c (.s (k + 1 + 1) (ctb a1 a2 dx dy L s k)), .c (.i .i64 0)]) (hP : Ok Tryz.prog 17 [.c (.s (k + 1 + 1) (ctb a1 a2 dx dy L s k)), .c (.i .i64 r), .c (.i .i64 t), .a (cR u ++ cR v)] [.c (.b β)]) (hQ : Ok Tryz.prog 18 [.c (.s (k + 1 + 1) (ctb a1 a2 dx dy L s k)), .c (.i .i64 r), .c (.i .i64 t), .a (cR u ++ cR v)] [.c (.b β)]) (hgeo : β = false → 1 ≤ r → r ≤ t → t ≤ 10000000 → s ≤ r → cmpR X 0 ≥ 0 → cmpR X ((L : Int) : Rat) ≤ 0 → ¬ cmpR (Y * Y) (ρ * ρ) ≤ 0) : Ok Tryz.prog 5 [.a (([.i .i64 a1] ++ [.i .i64 a2]) ++ ([.i .i64 (a1 + L * dx)] ++ [.i .i64 (a2 + L * dy)]) ++ [.i .i64 r] ++ [.i .i64 s] ++ [.i .i64 z] ++ [.i .i64 f]), .c (.i .i64 t), .a ([.i .i16 v0] ++ [.i .i16 v1])] [.c (.b true)] := by
  have hL2 := dir_L hL hd r1 r2 r3 r4
  have hq := q_bd hL hs
  have z0 : Rz 3 (Rat.divInt v0 2) := (Rz.of (k := 3) (Sz.small (by decide) (by omega) (by omega)) (Sz.small (by decide) (by decide) (by decide)) (by decide))
  have z1 : Rz 3 (Rat.divInt v1 2) := (Rz.of (k := 3) (Sz.small (by decide) (by omega) (by omega)) (Sz.small (by decide) (by decide) (by decide)) (by decide))
  have z2 : Rz 3 (Rat.divInt s 2) := (Rz.of (k := 3) (Sz.small (by decide) (by omega) (by omega)) (Sz.small (by decide) (by decide) (by decide)) (by decide))
  have z3 : Rz 3 ((a1 : Int) : Rat) := Rz.num (by omega) (by omega)
  have z4 : Rz 3 ((a2 : Int) : Rat) := Rz.num (by omega) (by omega)
  have z5 : Rz 3 ((L : Int) : Rat) := Rz.num (by omega) (by omega)
  refine Ok.of (by kernel_rfl) Tryz.func5 rfl rfl ?_
  rw [show Tryz.f5.ntmps = 192 from rfl, show Tryz.f5.results.toList = [.tmp 6] from rfl]
  refine dw_seq ?_
  -- region 0
  refine dw_region (by kernel_rfl) ?_
  refine dl_new (sem_box_a rfl rfl) rfl ?_
  refine dl_new (sem_box_a rfl rfl) rfl ?_
  refine dl_r (sem_assign rfl rfl) ?_
  refine dl_end ?_
  refine dw_seq ?_
  -- region 1
  refine dw_region (by kernel_rfl) ?_
  refine dl_r (sem_field fd36_0 rfl rfl) ?_
  refine dl_r (sem_load (us := ([.i .i64 a1] ++ [.i .i64 a2])) ty34 rfl rfl rfl rfl rfl) ?_
  refine dl_r (sem_field fd36_1 rfl rfl) ?_
  refine dl_r (sem_load (us := ([.i .i64 (a1 + L * dx)] ++ [.i .i64 (a2 + L * dy)])) ty34 rfl rfl rfl rfl rfl) ?_
  refine dl_r (sem_field fd36_3 rfl rfl) ?_
  refine dl_r (sem_load1 ty2 rfl rfl rfl rfl) ?_
  refine dl_r (sem_call rfl rfl (hR) rfl) ?_
  refine dl_r (sem_move rfl rfl) ?_
  refine dl_r (sem_extract rfl rfl rfl) ?_
  refine dl_r (sem_extract rfl rfl rfl) ?_
  refine dl_r (sem_assign rfl rfl) ?_
  refine dl_r (sem_assign rfl rfl) ?_
  refine dl_end ?_
  refine dw_seq ?_
  refine dw_seq ?_
  -- region 2
  refine dw_region (by kernel_rfl) ?_
  refine dl_r (sem_call rfl rfl (lAwake_ok) rfl) ?_
  refine dl_r (sem_not rfl rfl) ?_
  refine dl_r (sem_move rfl rfl) ?_
  refine dl_r (sem_move rfl rfl) ?_
  refine dl_r (sem_cmp rfl rfl rfl rfl) ?_
  refine dl_r (sem_pick rfl rfl rfl rfl) ?_
  refine dl_r (sem_move rfl rfl) ?_
  refine dl_r (sem_move rfl rfl) ?_
  refine dl_r (sem_len sl22 rfl rfl) ?_
  refine dl_r (sem_cmp rfl rfl rfl rfl) ?_
  refine dl_r (sem_pick rfl rfl rfl rfl) ?_
  refine dl_end ?_
  refine dw_cond rfl (fun hc1 => ?_) (fun hc1 => ?_)
  · refine dw_seq ?_
    -- region 3
    refine dw_region (by kernel_rfl) ?_
    refine dl_r (sem_call rfl rfl (lAwake_ok) rfl) ?_
    refine dl_r (sem_assign rfl rfl) ?_
    refine dl_end ?_
    refine dw_ret ?_
    -- path T
    exact ⟨.inr rfl, (resL_tmp rfl resL_nil)⟩
  · refine dw_skip ?_
    refine dw_seq ?_
    -- region 4
    refine dw_region (by kernel_rfl) ?_
    refine dl_r (sem_field fd36_0 rfl rfl) ?_
    refine dl_r (sem_load (us := ([.i .i64 a1] ++ [.i .i64 a2])) ty34 rfl rfl rfl rfl rfl) ?_
    refine dl_r (sem_field fd36_1 rfl rfl) ?_
    refine dl_r (sem_load (us := ([.i .i64 (a1 + L * dx)] ++ [.i .i64 (a2 + L * dy)])) ty34 rfl rfl rfl rfl rfl) ?_
    refine dl_r (sem_call rfl rfl (icast2b rDir_ok (dsg_dir hL hd.x) (dsg_dir hL hd.y) (dok_dir hL hd)) rfl) ?_
    refine dl_r (sem_move rfl rfl) ?_
    refine dl_r (sem_extract rfl rfl rfl) ?_
    refine dl_r (sem_extract rfl rfl rfl) ?_
    refine dl_new (sem_alloc zc34 rfl) rfl ?_
    refine dl_st (sem_store_a ty34 rfl rfl rfl rfl rfl rfl) ?_
    refine dl_r (sem_assign rfl rfl) ?_
    refine dl_end ?_
    refine dw_seq ?_
    -- region 5
    refine dw_draw 20 [] follows_mixed (by kernel_rfl) rfl rfl ?_
    refine dq_r (sem_field fd36_0 rfl rfl) ?_
    refine dq_r (sem_field fd34_0 rfl rfl) ?_
    refine dq_r (sem_load1 ty2 rfl rfl rfl rfl) ?_
    refine dq_r (sem_call rfl rfl (lNum_ok (by omega) (by omega)) rfl) ?_
    refine dq_r (sem_index_a ar44 rfl rfl (by decide) rfl) ?_
    refine dq_r (sem_load1 ty43 rfl rfl rfl rfl) ?_
    refine dq_r (sem_conv' (r := v0) und43 und2 rfl (nw64 (by omega) (by omega)) rfl) ?_
    refine dq_r (sem_call rfl rfl (sFrac_ok (by (rcases hd with ⟨rfl, rfl⟩ | ⟨rfl, rfl⟩ | ⟨rfl, rfl⟩ | ⟨rfl, rfl⟩ <;> omega)) (by (rcases hd with ⟨rfl, rfl⟩ | ⟨rfl, rfl⟩ | ⟨rfl, rfl⟩ | ⟨rfl, rfl⟩ <;> omega)) (by decide) (by decide) (by decide)) rfl) ?_
    refine dq_r (sem_call rfl rfl (rcast1 (sAdd_ok (z3.mono (by decide)) (z0.mono (by decide))) eu) rfl) ?_
    refine dq_r (sem_field fd36_0 rfl rfl) ?_
    refine dq_r (sem_field fd34_1 rfl rfl) ?_
    refine dq_r (sem_load1 ty2 rfl rfl rfl rfl) ?_
    refine dq_r (sem_call rfl rfl (lNum_ok (by omega) (by omega)) rfl) ?_
    refine dq_r (sem_index_a ar44 rfl rfl (by decide) rfl) ?_
    refine dq_r (sem_load1 ty43 rfl rfl rfl rfl) ?_
    refine dq_r (sem_conv' (r := v1) und43 und2 rfl (nw64 (by omega) (by omega)) rfl) ?_
    refine dq_r (sem_call rfl rfl (sFrac_ok (by (rcases hd with ⟨rfl, rfl⟩ | ⟨rfl, rfl⟩ | ⟨rfl, rfl⟩ | ⟨rfl, rfl⟩ <;> omega)) (by (rcases hd with ⟨rfl, rfl⟩ | ⟨rfl, rfl⟩ | ⟨rfl, rfl⟩ | ⟨rfl, rfl⟩ <;> omega)) (by decide) (by decide) (by decide)) rfl) ?_
    refine dq_r (sem_call rfl rfl (rcast1 (sAdd_ok (z4.mono (by decide)) (z1.mono (by decide))) ev) rfl) ?_
    refine dq_r (sem_build (us := (cR u ++ cR v)) fs52 zc52 rfl rfl rfl) ?_
    refine dq_new (sem_alloc zc52 rfl) rfl ?_
    refine dq_end ?_
    refine dl_start1 ?_
    refine dl_st (sem_store_a ty52 rfl rfl rfl rfl rfl rfl) ?_
    refine dl_end ?_
    refine dw_seq ?_
    -- region 6
    refine dw_region (by kernel_rfl) ?_
    refine dl_r (sem_move rfl rfl) ?_
    refine dl_r (sem_field fd36_2 rfl rfl) ?_
    refine dl_r (sem_load1 ty2 rfl rfl rfl rfl) ?_
    refine dl_r (sem_move rfl rfl) ?_
    refine dl_r (sem_load (us := (cR u ++ cR v)) ty52 rfl rfl rfl rfl rfl) ?_
    refine dl_r (sem_call rfl rfl (hP) rfl) ?_
    refine dl_r (sem_assign rfl rfl) ?_
    refine dl_end ?_
    refine dw_seq ?_
    refine dw_seq ?_
    -- region 7
    refine dw_region (by kernel_rfl) ?_
    refine dl_r (sem_move rfl rfl) ?_
    refine dl_r (sem_move rfl rfl) ?_
    refine dl_r (sem_field fd36_2 rfl rfl) ?_
    refine dl_r (sem_load1 ty2 rfl rfl rfl rfl) ?_
    refine dl_r (sem_move rfl rfl) ?_
    refine dl_r (sem_load (us := (cR u ++ cR v)) ty52 rfl rfl rfl rfl rfl) ?_
    refine dl_r (sem_call rfl rfl (hQ) rfl) ?_
    refine dl_r (sem_castb (c := false) (sem_bneq rfl rfl ty_bool rfl) (by simp)) ?_
    refine dl_r (sem_move rfl rfl) ?_
    refine dl_r (sem_field fd36_2 rfl rfl) ?_
    refine dl_r (sem_load1 ty2 rfl rfl rfl rfl) ?_
    refine dl_r (sem_cmp rfl rfl rfl rfl) ?_
    refine dl_r (sem_pick rfl rfl rfl rfl) ?_
    refine dl_rb (sem_move rfl rfl) (fun c2 hb2 => ?_)
    cases c2
    · refine dl_r (sem_field fd36_2 rfl rfl) ?_
      refine dl_r (sem_load1 ty2 rfl rfl rfl rfl) ?_
      refine dl_r (sem_move rfl rfl) ?_
      refine dl_r (sem_cmp rfl rfl rfl rfl) ?_
      refine dl_r (sem_pick rfl rfl rfl rfl) ?_
      refine dl_rb (sem_move rfl rfl) (fun c3 hb3 => ?_)
      cases c3
      · refine dl_r (sem_move rfl rfl) ?_
        refine dl_r (sem_cmp rfl rfl rfl rfl) ?_
        refine dl_r (sem_pick rfl rfl rfl rfl) ?_
        refine dl_rb (sem_move rfl rfl) (fun c4 hb4 => ?_)
        cases c4
        · refine dl_r (sem_field fd36_3 rfl rfl) ?_
          refine dl_r (sem_load1 ty2 rfl rfl rfl rfl) ?_
          refine dl_r (sem_field fd36_2 rfl rfl) ?_
          refine dl_r (sem_load1 ty2 rfl rfl rfl rfl) ?_
          refine dl_r (sem_cmp rfl rfl rfl rfl) ?_
          refine dl_r (sem_pick rfl rfl rfl rfl) ?_
          refine dl_end ?_
          refine dw_cond rfl (fun hc5 => ?_) (fun hc5 => ?_)
          · refine dw_seq ?_
            -- region 8
            refine dw_region (by kernel_rfl) ?_
            refine dl_r (sem_move rfl rfl) ?_
            refine dl_r (sem_move rfl rfl) ?_
            refine dl_r (sem_field fd36_2 rfl rfl) ?_
            refine dl_r (sem_load1 ty2 rfl rfl rfl rfl) ?_
            refine dl_r (sem_move rfl rfl) ?_
            refine dl_r (sem_load (us := (cR u ++ cR v)) ty52 rfl rfl rfl rfl rfl) ?_
            refine dl_r (sem_call rfl rfl (hQ) rfl) ?_
            refine dl_r (sem_castb (c := true) (sem_beql rfl rfl ty_bool rfl) (by simp)) ?_
            refine dl_r (sem_assign rfl rfl) ?_
            refine dl_end ?_
            refine dw_ret ?_
            -- path FfffT
            exact ⟨.inr rfl, (resL_tmp rfl resL_nil)⟩
          · have k2 := of_decide_eq_false hb2
            have k3 := of_decide_eq_false hb3
            have k4 := of_decide_eq_false hb4
            have k5 := of_decide_eq_false hc5
            have z6 : Rz 3 ((r + t : Int) : Rat) := Rz.num (by omega) (by omega)
            have hz := hρ (by omega) (by omega)
            refine dw_skip ?_
            refine dw_seq ?_
            -- region 9
            refine dw_draw 30 [] follows_mixed (by kernel_rfl) rfl rfl ?_
            refine dq_r (sem_index_a ar44 rfl rfl (by decide) rfl) ?_
            refine dq_r (sem_load1 ty43 rfl rfl rfl rfl) ?_
            refine dq_r (sem_conv' (r := v0) und43 und2 rfl (nw64 (by omega) (by omega)) rfl) ?_
            refine dq_r (sem_field fd34_0 rfl rfl) ?_
            refine dq_r (sem_load1 ty2 rfl rfl rfl rfl) ?_
            refine dq_r (sem_ari (r := v0 * dx) rfl rfl (ari_i64_mul (by rcases hd with ⟨rfl, rfl⟩ | ⟨rfl, rfl⟩ | ⟨rfl, rfl⟩ | ⟨rfl, rfl⟩ <;> omega) (by rcases hd with ⟨rfl, rfl⟩ | ⟨rfl, rfl⟩ | ⟨rfl, rfl⟩ | ⟨rfl, rfl⟩ <;> omega)) rfl) ?_
            refine dq_r (sem_index_a ar44 rfl rfl (by decide) rfl) ?_
            refine dq_r (sem_load1 ty43 rfl rfl rfl rfl) ?_
            refine dq_r (sem_conv' (r := v1) und43 und2 rfl (nw64 (by omega) (by omega)) rfl) ?_
            refine dq_r (sem_field fd34_1 rfl rfl) ?_
            refine dq_r (sem_load1 ty2 rfl rfl rfl rfl) ?_
            refine dq_r (sem_ari (r := v1 * dy) rfl rfl (ari_i64_mul (by rcases hd with ⟨rfl, rfl⟩ | ⟨rfl, rfl⟩ | ⟨rfl, rfl⟩ | ⟨rfl, rfl⟩ <;> omega) (by rcases hd with ⟨rfl, rfl⟩ | ⟨rfl, rfl⟩ | ⟨rfl, rfl⟩ | ⟨rfl, rfl⟩ <;> omega)) rfl) ?_
            refine dq_r (sem_ari (r := (v0 * dx) + (v1 * dy)) rfl rfl (ari_i64_add (by rcases hd with ⟨rfl, rfl⟩ | ⟨rfl, rfl⟩ | ⟨rfl, rfl⟩ | ⟨rfl, rfl⟩ <;> omega) (by rcases hd with ⟨rfl, rfl⟩ | ⟨rfl, rfl⟩ | ⟨rfl, rfl⟩ | ⟨rfl, rfl⟩ <;> omega)) rfl) ?_
            refine dq_r (sem_call rfl rfl (rcast1 (sFrac_ok (by (rcases hd with ⟨rfl, rfl⟩ | ⟨rfl, rfl⟩ | ⟨rfl, rfl⟩ | ⟨rfl, rfl⟩ <;> omega)) (by (rcases hd with ⟨rfl, rfl⟩ | ⟨rfl, rfl⟩ | ⟨rfl, rfl⟩ | ⟨rfl, rfl⟩ <;> omega)) (by decide) (by decide) (by decide)) eX) rfl) ?_
            refine dq_r (sem_index_a ar44 rfl rfl (by decide) rfl) ?_
            refine dq_r (sem_load1 ty43 rfl rfl rfl rfl) ?_
            refine dq_r (sem_conv' (r := v0) und43 und2 rfl (nw64 (by omega) (by omega)) rfl) ?_
            refine dq_r (sem_field fd34_1 rfl rfl) ?_
            refine dq_r (sem_load1 ty2 rfl rfl rfl rfl) ?_
            refine dq_r (sem_ari (r := v0 * dy) rfl rfl (ari_i64_mul (by rcases hd with ⟨rfl, rfl⟩ | ⟨rfl, rfl⟩ | ⟨rfl, rfl⟩ | ⟨rfl, rfl⟩ <;> omega) (by rcases hd with ⟨rfl, rfl⟩ | ⟨rfl, rfl⟩ | ⟨rfl, rfl⟩ | ⟨rfl, rfl⟩ <;> omega)) rfl) ?_
            refine dq_r (sem_index_a ar44 rfl rfl (by decide) rfl) ?_
            refine dq_r (sem_load1 ty43 rfl rfl rfl rfl) ?_
            refine dq_r (sem_conv' (r := v1) und43 und2 rfl (nw64 (by omega) (by omega)) rfl) ?_
            refine dq_r (sem_field fd34_0 rfl rfl) ?_
            refine dq_r (sem_load1 ty2 rfl rfl rfl rfl) ?_
            refine dq_r (sem_ari (r := v1 * dx) rfl rfl (ari_i64_mul (by rcases hd with ⟨rfl, rfl⟩ | ⟨rfl, rfl⟩ | ⟨rfl, rfl⟩ | ⟨rfl, rfl⟩ <;> omega) (by rcases hd with ⟨rfl, rfl⟩ | ⟨rfl, rfl⟩ | ⟨rfl, rfl⟩ | ⟨rfl, rfl⟩ <;> omega)) rfl) ?_
            refine dq_r (sem_ari (r := (v0 * dy) + (v1 * dx)) rfl rfl (ari_i64_add (by rcases hd with ⟨rfl, rfl⟩ | ⟨rfl, rfl⟩ | ⟨rfl, rfl⟩ | ⟨rfl, rfl⟩ <;> omega) (by rcases hd with ⟨rfl, rfl⟩ | ⟨rfl, rfl⟩ | ⟨rfl, rfl⟩ | ⟨rfl, rfl⟩ <;> omega)) rfl) ?_
            refine dq_r (sem_call rfl rfl (rcast1 (sFrac_ok (by (rcases hd with ⟨rfl, rfl⟩ | ⟨rfl, rfl⟩ | ⟨rfl, rfl⟩ | ⟨rfl, rfl⟩ <;> omega)) (by (rcases hd with ⟨rfl, rfl⟩ | ⟨rfl, rfl⟩ | ⟨rfl, rfl⟩ | ⟨rfl, rfl⟩ <;> omega)) (by decide) (by decide) (by decide)) eY) rfl) ?_
            refine dq_new (sem_alloc zc28 rfl) rfl ?_
            refine dq_new (sem_alloc zc28 rfl) rfl ?_
            refine dq_end ?_
            refine dl_start2 ?_
            refine dl_st (sem_store_a ty28 rfl rfl rfl rfl rfl rfl) ?_
            refine dl_st (sem_store_a ty28 rfl rfl rfl rfl rfl rfl) ?_
            refine dl_end ?_
            refine dw_seq ?_
            -- region 10
            refine dw_region (by kernel_rfl) ?_
            refine dl_r (sem_field fd36_1 rfl rfl) ?_
            refine dl_r (sem_field fd34_0 rfl rfl) ?_
            refine dl_r (sem_load1 ty2 rfl rfl rfl rfl) ?_
            refine dl_r (sem_field fd36_0 rfl rfl) ?_
            refine dl_r (sem_field fd34_0 rfl rfl) ?_
            refine dl_r (sem_load1 ty2 rfl rfl rfl rfl) ?_
            refine dl_r (sem_ari (r := (a1 + L * dx) - a1) rfl rfl (ari_i64_sub (by rcases hd with ⟨rfl, rfl⟩ | ⟨rfl, rfl⟩ | ⟨rfl, rfl⟩ | ⟨rfl, rfl⟩ <;> omega) (by rcases hd with ⟨rfl, rfl⟩ | ⟨rfl, rfl⟩ | ⟨rfl, rfl⟩ | ⟨rfl, rfl⟩ <;> omega)) rfl) ?_
            refine dl_r (sem_field fd34_0 rfl rfl) ?_
            refine dl_r (sem_load1 ty2 rfl rfl rfl rfl) ?_
            refine dl_r (sem_ari (r := ((a1 + L * dx) - a1) * dx) rfl rfl (ari_i64_mul (by rcases hd with ⟨rfl, rfl⟩ | ⟨rfl, rfl⟩ | ⟨rfl, rfl⟩ | ⟨rfl, rfl⟩ <;> omega) (by rcases hd with ⟨rfl, rfl⟩ | ⟨rfl, rfl⟩ | ⟨rfl, rfl⟩ | ⟨rfl, rfl⟩ <;> omega)) rfl) ?_
            refine dl_r (sem_field fd36_1 rfl rfl) ?_
            refine dl_r (sem_field fd34_1 rfl rfl) ?_
            refine dl_r (sem_load1 ty2 rfl rfl rfl rfl) ?_
            refine dl_r (sem_field fd36_0 rfl rfl) ?_
            refine dl_r (sem_field fd34_1 rfl rfl) ?_
            refine dl_r (sem_load1 ty2 rfl rfl rfl rfl) ?_
            refine dl_r (sem_ari (r := (a2 + L * dy) - a2) rfl rfl (ari_i64_sub (by rcases hd with ⟨rfl, rfl⟩ | ⟨rfl, rfl⟩ | ⟨rfl, rfl⟩ | ⟨rfl, rfl⟩ <;> omega) (by rcases hd with ⟨rfl, rfl⟩ | ⟨rfl, rfl⟩ | ⟨rfl, rfl⟩ | ⟨rfl, rfl⟩ <;> omega)) rfl) ?_
            refine dl_r (sem_field fd34_1 rfl rfl) ?_
            refine dl_r (sem_load1 ty2 rfl rfl rfl rfl) ?_
            refine dl_r (sem_ari (r := ((a2 + L * dy) - a2) * dy) rfl rfl (ari_i64_mul (by rcases hd with ⟨rfl, rfl⟩ | ⟨rfl, rfl⟩ | ⟨rfl, rfl⟩ | ⟨rfl, rfl⟩ <;> omega) (by rcases hd with ⟨rfl, rfl⟩ | ⟨rfl, rfl⟩ | ⟨rfl, rfl⟩ | ⟨rfl, rfl⟩ <;> omega)) rfl) ?_
            refine dl_r (sem_ari (r := L) rfl rfl ((ari_i64_add (by (rcases hd with ⟨rfl, rfl⟩ | ⟨rfl, rfl⟩ | ⟨rfl, rfl⟩ | ⟨rfl, rfl⟩ <;> omega)) (by (rcases hd with ⟨rfl, rfl⟩ | ⟨rfl, rfl⟩ | ⟨rfl, rfl⟩ | ⟨rfl, rfl⟩ <;> omega))).trans (congrArg some (by (rcases hd with ⟨rfl, rfl⟩ | ⟨rfl, rfl⟩ | ⟨rfl, rfl⟩ | ⟨rfl, rfl⟩ <;> omega)))) rfl) ?_
            refine dl_r (sem_call rfl rfl (lNum_ok (by omega) (by omega)) rfl) ?_
            refine dl_new (sem_alloc zc28 rfl) rfl ?_
            refine dl_st (sem_store_a ty28 rfl rfl rfl rfl rfl rfl) ?_
            refine dl_end ?_
            refine dw_seq ?_
            -- region 11
            refine dw_draw 10 [] follows_mixed (by kernel_rfl) rfl rfl ?_
            refine dq_r (sem_field fd36_2 rfl rfl) ?_
            refine dq_r (sem_load1 ty2 rfl rfl rfl rfl) ?_
            refine dq_r (sem_move rfl rfl) ?_
            refine dq_r (sem_ari (r := r + t) rfl rfl (ari_i64_add (by rcases hd with ⟨rfl, rfl⟩ | ⟨rfl, rfl⟩ | ⟨rfl, rfl⟩ | ⟨rfl, rfl⟩ <;> omega) (by rcases hd with ⟨rfl, rfl⟩ | ⟨rfl, rfl⟩ | ⟨rfl, rfl⟩ | ⟨rfl, rfl⟩ <;> omega)) rfl) ?_
            refine dq_r (sem_call rfl rfl (lNum_ok (by omega) (by omega)) rfl) ?_
            refine dq_r (sem_field fd36_3 rfl rfl) ?_
            refine dq_r (sem_load1 ty2 rfl rfl rfl rfl) ?_
            refine dq_r (sem_call rfl rfl (sFrac_ok (by (rcases hd with ⟨rfl, rfl⟩ | ⟨rfl, rfl⟩ | ⟨rfl, rfl⟩ | ⟨rfl, rfl⟩ <;> omega)) (by (rcases hd with ⟨rfl, rfl⟩ | ⟨rfl, rfl⟩ | ⟨rfl, rfl⟩ | ⟨rfl, rfl⟩ <;> omega)) (by decide) (by decide) (by decide)) rfl) ?_
            refine dq_r (sem_call rfl rfl (rcast1 (sSub_ok (z6.mono (by decide)) (z2.mono (by decide))) eρ) rfl) ?_
            refine dq_new (sem_alloc zc28 rfl) rfl ?_
            refine dq_end ?_
            refine dl_start1 ?_
            refine dl_st (sem_store_a ty28 rfl rfl rfl rfl rfl rfl) ?_
            refine dl_end ?_
            refine dw_seq ?_
            -- region 12
            refine dw_draw 18 [] follows_mixed (by kernel_rfl) rfl rfl ?_
            refine dq_r (sem_load (us := cR X) ty28 rfl rfl rfl rfl rfl) ?_
            refine dq_r (sem_call rfl rfl (sSign_ok) rfl) ?_
            refine dq_r (sem_cmp rfl rfl rfl rfl) ?_
            refine dq_rb (sem_move rfl rfl) (fun c6 hb6 => ?_)
            cases c6
            · refine dq_skip (sem_skip rfl) ?_
              refine dq_skip (sem_skip rfl) ?_
              refine dq_skip (sem_skip rfl) ?_
              refine dq_skip (sem_skip rfl) ?_
              refine dq_r (sem_pick rfl rfl rfl rfl) ?_
              refine dq_r (sem_move rfl rfl) ?_
              refine dq_skip (sem_skip rfl) ?_
              refine dq_skip (sem_skip rfl) ?_
              refine dq_skip (sem_skip rfl) ?_
              refine dq_skip (sem_skip rfl) ?_
              refine dq_skip (sem_skip rfl) ?_
              refine dq_skip (sem_skip rfl) ?_
              refine dq_r (sem_pick rfl rfl rfl rfl) ?_
              refine dq_r (sem_assign rfl rfl) ?_
              refine dq_end ?_
              refine dl_start0 ?_
              refine dl_end ?_
              refine dw_seq ?_
              -- region 13
              refine dw_region (by kernel_rfl) ?_
              refine dl_r (sem_move rfl rfl) ?_
              refine dl_rb (sem_move rfl rfl) (fun c7 hb7 => ?_)
              cases c7
              · refine dl_r (sem_move rfl rfl) ?_
                refine dl_r (sem_not rfl rfl) ?_
                refine dl_r (sem_pick rfl rfl rfl rfl) ?_
                refine dl_r (sem_assign rfl rfl) ?_
                refine dl_end ?_
                refine dw_ret ?_
                -- path FfffFff
                exact ⟨.inr rfl, (resL_tmp rfl resL_nil)⟩
              · refine dl_skip (sem_skip rfl) ?_
                refine dl_skip (sem_skip rfl) ?_
                refine dl_r (sem_pick rfl rfl rfl rfl) ?_
                refine dl_r (sem_assign rfl rfl) ?_
                refine dl_end ?_
                refine dw_ret ?_
                -- path FfffFft
                exact ⟨.inr rfl, (resL_tmp rfl resL_nil)⟩
            · refine dq_r (sem_load (us := cR X) ty28 rfl rfl rfl rfl rfl) ?_
              refine dq_r (sem_load (us := cR (((L : Int) : Rat))) ty28 rfl rfl rfl rfl rfl) ?_
              refine dq_r (sem_call rfl rfl (sCmp_ok (hX.mono (by decide)) (z5.mono (by decide))) rfl) ?_
              refine dq_r (sem_cmp rfl rfl rfl rfl) ?_
              refine dq_r (sem_pick rfl rfl rfl rfl) ?_
              refine dq_rb (sem_move rfl rfl) (fun c8 hb8 => ?_)
              cases c8
              · refine dq_skip (sem_skip rfl) ?_
                refine dq_skip (sem_skip rfl) ?_
                refine dq_skip (sem_skip rfl) ?_
                refine dq_skip (sem_skip rfl) ?_
                refine dq_skip (sem_skip rfl) ?_
                refine dq_skip (sem_skip rfl) ?_
                refine dq_r (sem_pick rfl rfl rfl rfl) ?_
                refine dq_r (sem_assign rfl rfl) ?_
                refine dq_end ?_
                refine dl_start0 ?_
                refine dl_end ?_
                refine dw_seq ?_
                -- region 13
                refine dw_region (by kernel_rfl) ?_
                refine dl_r (sem_move rfl rfl) ?_
                refine dl_rb (sem_move rfl rfl) (fun c9 hb9 => ?_)
                cases c9
                · refine dl_r (sem_move rfl rfl) ?_
                  refine dl_r (sem_not rfl rfl) ?_
                  refine dl_r (sem_pick rfl rfl rfl rfl) ?_
                  refine dl_r (sem_assign rfl rfl) ?_
                  refine dl_end ?_
                  refine dw_ret ?_
                  -- path FfffFtff
                  exact ⟨.inr rfl, (resL_tmp rfl resL_nil)⟩
                · refine dl_skip (sem_skip rfl) ?_
                  refine dl_skip (sem_skip rfl) ?_
                  refine dl_r (sem_pick rfl rfl rfl rfl) ?_
                  refine dl_r (sem_assign rfl rfl) ?_
                  refine dl_end ?_
                  refine dw_ret ?_
                  -- path FfffFtft
                  exact ⟨.inr rfl, (resL_tmp rfl resL_nil)⟩
              · refine dq_r (sem_load (us := cR Y) ty28 rfl rfl rfl rfl rfl) ?_
                refine dq_r (sem_call rfl rfl (sSquare_ok (hY.mono (by decide))) rfl) ?_
                refine dq_r (sem_load (us := cR ρ) ty28 rfl rfl rfl rfl rfl) ?_
                refine dq_r (sem_call rfl rfl (sSquare_ok (hz.mono (by decide))) rfl) ?_
                refine dq_r (sem_call rfl rfl (sCmp_ok ((hY.mul hY).mono (by decide)) ((hz.mul hz).mono (by decide))) rfl) ?_
                refine dq_r (sem_cmp rfl rfl rfl rfl) ?_
                refine dq_r (sem_pick rfl rfl rfl rfl) ?_
                refine dq_r (sem_assign rfl rfl) ?_
                refine dq_end ?_
                refine dl_start0 ?_
                refine dl_end ?_
                refine dw_seq ?_
                -- region 13
                refine dw_region (by kernel_rfl) ?_
                refine dl_r (sem_move rfl rfl) ?_
                refine dl_rb (sem_move rfl rfl) (fun c10 hb10 => ?_)
                cases c10
                · have hfin : (!decide (cmpR (Y * Y) (ρ * ρ) ≤ 0)) = true := by
                    rw [decide_eq_false (hgeo hb10 (by omega) (by omega) (by omega) (by omega) (of_decide_eq_true hb6) (of_decide_eq_true hb8))]; rfl
                  refine dl_r (sem_move rfl rfl) ?_
                  refine dl_r (sem_castb (c := true) (sem_not rfl rfl) hfin) ?_
                  refine dl_r (sem_pick rfl rfl rfl rfl) ?_
                  refine dl_r (sem_assign rfl rfl) ?_
                  refine dl_end ?_
                  refine dw_ret ?_
                  -- path FfffFttf
                  exact ⟨.inr rfl, (resL_tmp rfl resL_nil)⟩
                · refine dl_skip (sem_skip rfl) ?_
                  refine dl_skip (sem_skip rfl) ?_
                  refine dl_r (sem_pick rfl rfl rfl rfl) ?_
                  refine dl_r (sem_assign rfl rfl) ?_
                  refine dl_end ?_
                  refine dw_ret ?_
                  -- path FfffFttt
                  exact ⟨.inr rfl, (resL_tmp rfl resL_nil)⟩
        · refine dl_skip (sem_skip rfl) ?_
          refine dl_skip (sem_skip rfl) ?_
          refine dl_skip (sem_skip rfl) ?_
          refine dl_skip (sem_skip rfl) ?_
          refine dl_skip (sem_skip rfl) ?_
          refine dl_r (sem_pick rfl rfl rfl rfl) ?_
          refine dl_end ?_
          refine dw_true rfl ?_
          refine dw_seq ?_
          -- region 8
          refine dw_region (by kernel_rfl) ?_
          refine dl_r (sem_move rfl rfl) ?_
          refine dl_r (sem_move rfl rfl) ?_
          refine dl_r (sem_field fd36_2 rfl rfl) ?_
          refine dl_r (sem_load1 ty2 rfl rfl rfl rfl) ?_
          refine dl_r (sem_move rfl rfl) ?_
          refine dl_r (sem_load (us := (cR u ++ cR v)) ty52 rfl rfl rfl rfl rfl) ?_
          refine dl_r (sem_call rfl rfl (hQ) rfl) ?_
          refine dl_r (sem_castb (c := true) (sem_beql rfl rfl ty_bool rfl) (by simp)) ?_
          refine dl_r (sem_assign rfl rfl) ?_
          refine dl_end ?_
          refine dw_ret ?_
          -- path Ffft
          exact ⟨.inr rfl, (resL_tmp rfl resL_nil)⟩
      · refine dl_skip (sem_skip rfl) ?_
        refine dl_skip (sem_skip rfl) ?_
        refine dl_r (sem_pick rfl rfl rfl rfl) ?_
        refine dl_r (sem_move rfl rfl) ?_
        refine dl_skip (sem_skip rfl) ?_
        refine dl_skip (sem_skip rfl) ?_
        refine dl_skip (sem_skip rfl) ?_
        refine dl_skip (sem_skip rfl) ?_
        refine dl_skip (sem_skip rfl) ?_
        refine dl_r (sem_pick rfl rfl rfl rfl) ?_
        refine dl_end ?_
        refine dw_true rfl ?_
        refine dw_seq ?_
        -- region 8
        refine dw_region (by kernel_rfl) ?_
        refine dl_r (sem_move rfl rfl) ?_
        refine dl_r (sem_move rfl rfl) ?_
        refine dl_r (sem_field fd36_2 rfl rfl) ?_
        refine dl_r (sem_load1 ty2 rfl rfl rfl rfl) ?_
        refine dl_r (sem_move rfl rfl) ?_
        refine dl_r (sem_load (us := (cR u ++ cR v)) ty52 rfl rfl rfl rfl rfl) ?_
        refine dl_r (sem_call rfl rfl (hQ) rfl) ?_
        refine dl_r (sem_castb (c := true) (sem_beql rfl rfl ty_bool rfl) (by simp)) ?_
        refine dl_r (sem_assign rfl rfl) ?_
        refine dl_end ?_
        refine dw_ret ?_
        -- path Fft
        exact ⟨.inr rfl, (resL_tmp rfl resL_nil)⟩
    · refine dl_skip (sem_skip rfl) ?_
      refine dl_skip (sem_skip rfl) ?_
      refine dl_skip (sem_skip rfl) ?_
      refine dl_skip (sem_skip rfl) ?_
      refine dl_r (sem_pick rfl rfl rfl rfl) ?_
      refine dl_r (sem_move rfl rfl) ?_
      refine dl_skip (sem_skip rfl) ?_
      refine dl_skip (sem_skip rfl) ?_
      refine dl_r (sem_pick rfl rfl rfl rfl) ?_
      refine dl_r (sem_move rfl rfl) ?_
      refine dl_skip (sem_skip rfl) ?_
      refine dl_skip (sem_skip rfl) ?_
      refine dl_skip (sem_skip rfl) ?_
      refine dl_skip (sem_skip rfl) ?_
      refine dl_skip (sem_skip rfl) ?_
      refine dl_r (sem_pick rfl rfl rfl rfl) ?_
      refine dl_end ?_
      refine dw_true rfl ?_
      refine dw_seq ?_
      -- region 8
      refine dw_region (by kernel_rfl) ?_
      refine dl_r (sem_move rfl rfl) ?_
      refine dl_r (sem_move rfl rfl) ?_
      refine dl_r (sem_field fd36_2 rfl rfl) ?_
      refine dl_r (sem_load1 ty2 rfl rfl rfl rfl) ?_
      refine dl_r (sem_move rfl rfl) ?_
      refine dl_r (sem_load (us := (cR u ++ cR v)) ty52 rfl rfl rfl rfl rfl) ?_
      refine dl_r (sem_call rfl rfl (hQ) rfl) ?_
      refine dl_r (sem_castb (c := true) (sem_beql rfl rfl ty_bool rfl) (by simp)) ?_
      refine dl_r (sem_assign rfl rfl) ?_
      refine dl_end ?_
      refine dw_ret ?_
      -- path Ft
      exact ⟨.inr rfl, (resL_tmp rfl resL_nil)⟩
end Go.Proofs.YtonjlikaacengaaGreat
