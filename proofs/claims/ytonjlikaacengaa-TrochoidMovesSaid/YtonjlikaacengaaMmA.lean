/- Plain: the moves of a path one by one; positions around a center. -/
import Derived.Test.YtonjlikaacengaaMaL
namespace Go.Proofs.Ytonjlikaacengaa
open Go Go.RowKit
/-- The distance of two numbers. -/
def apD (a b : Int) : Int := if a < b then b - a else a - b
theorem apD_t {a b : Int} (h : decide (a < b) = true) : apD a b = b - a := if_pos (of_decide_eq_true h)
theorem apD_f {a b : Int} (h : decide (a < b) = false) : apD a b = a - b := if_neg (of_decide_eq_false h)
theorem u64_sub {a b : Int} (h0 : 0 ≤ a - b) (h1 : a - b ≤ 1000000000000000) : iari .sub .u64 (IntKind.u64.wrap a) (IntKind.u64.wrap b) = some (a - b) := by
  refine congrArg some (show IntKind.u64.wrap (IntKind.u64.wrap a - IntKind.u64.wrap b) = a - b from ?_)
  unfold IntKind.wrap
  simp [IntKind.bits, IntKind.signed]
  omega
theorem rcastu {P : Program} {f : FuncId} {ds : List D0} {b c : Int} (h : Ok P f ds [.c (.i .u64 b)]) (e : b = c) : Ok P f ds [.c (.i .u64 c)] := by subst e; exact h
theorem apD_eq {a b r : Int} (hr : 0 ≤ r) (h : a = b - r ∨ a = b + r) : apD a b = r := by unfold apD; split <;> omega
theorem apD_le {a : Int} (h0 : -10000000 ≤ a) (h1 : a ≤ 10000000) : apD a 0 ≤ 10000000 := by unfold apD; split <;> omega
/-- At which of the four points. -/
def qd (dx dy : Int) : Int := if dx = 1 then 2 else if dx = -1 then 0 else if dy = 1 then 3 else 1
theorem bd_app {us vs : List CellD} (h : us.all bdJ = true) (g : vs.all bdJ = true) : (us ++ vs).all bdJ = true := by rw [List.all_append, h, g]; rfl
theorem bd_one {x : Int} (h : -10000000 ≤ x ∧ x ≤ 10000000) : ([CellD.i .i64 x]).all bdJ = true := by
  show (decide _ && decide _ && true) = true
  simp only [Bool.and_true, Bool.and_eq_true, decide_eq_true_eq]
  exact h
theorem ci_drop1 {us : List CellD} {n : Nat} (hl : us.length = n * 1) (hJ : us.all isJ = true) {j : Nat} (hj : j < n) : us.drop (j * 1) = [.i .i64 (ci us j)] ++ us.drop (j + 1) := by
  rw [Nat.mul_one, List.drop_eq_getElem_cons (show j < us.length by omega), ci_get hJ]
  rfl
theorem ci_app_l {us vs : List CellD} {i : Nat} (h : i < us.length) : ci (us ++ vs) i = ci us i := by unfold ci; rw [List.getElem?_append_left h]
theorem ci_app_r {us vs : List CellD} {n i : Nat} (h : us.length = n) : ci (us ++ vs) (n + i) = ci vs i := by
  unfold ci
  rw [List.getElem?_append_right (by omega), show n + i - us.length = i by omega]
/-- The centers lie on the way. -/
theorem ctr_at {a1 a2 dx dy s : Int} (hs : 1 ≤ s) : ∀ i j, j ≤ i → ci (ctr a1 a2 dx dy s i) (j * 2) = a1 + dx * ((j : Int) * s) ∧ ci (ctr a1 a2 dx dy s i) (j * 2 + 1) = a2 + dy * ((j : Int) * s)
  | 0, j, h => by
    obtain rfl : j = 0 := by omega
    refine ⟨?_, ?_⟩
    · show a1 = a1 + dx * (((0 : Nat) : Int) * s)
      rw [Int.natCast_zero, Int.zero_mul, Int.mul_zero, Int.add_zero]
    · show a2 = a2 + dy * (((0 : Nat) : Int) * s)
      rw [Int.natCast_zero, Int.zero_mul, Int.mul_zero, Int.add_zero]
  | i + 1, j, h => by
    show ci (ctr a1 a2 dx dy s i ++ _) _ = _ ∧ ci (ctr a1 a2 dx dy s i ++ _) _ = _
    have hl : (ctr a1 a2 dx dy s i).length = (i + 1) * 2 := ctr_len i
    rcases Nat.lt_or_ge i j with h1 | h1
    · obtain rfl : j = i + 1 := by omega
      exact ⟨ci_app_r (i := 0) hl, ci_app_r (i := 1) hl⟩
    · rw [ci_app_l (by omega), ci_app_l (by omega)]
      exact ctr_at hs i j h1
theorem ctb_at {a1 a2 dx dy L s : Int} {k : Nat} (hL : 1 ≤ L) (hs : 1 ≤ s) (hk : (k : Int) = (L - 1) / s) {j : Nat} (hj : j ≤ k + 1) :
    ∃ t : Int, 0 ≤ t ∧ t ≤ L ∧ (j = 0 → t = 0) ∧ (j = k + 1 → t = L) ∧ ci (ctb a1 a2 dx dy L s k) (j * 2) = a1 + dx * t ∧ ci (ctb a1 a2 dx dy L s k) (j * 2 + 1) = a2 + dy * t := by
  have hl : (ctr a1 a2 dx dy s k).length = (k + 1) * 2 := ctr_len k
  unfold ctb
  rcases Nat.lt_or_ge k j with h1 | h1
  · obtain rfl : j = k + 1 := by omega
    refine ⟨L, by omega, by omega, by omega, fun _ => rfl, ?_, ?_⟩
    · rw [Int.mul_comm dx L]; exact ci_app_r (i := 0) hl
    · rw [Int.mul_comm dy L]; exact ci_app_r (i := 1) hl
  · refine ⟨(j : Int) * s, ct_nn hs j, ?_, ?_, by omega, ?_, ?_⟩
    · match j, h1 with
      | 0, _ => simp; omega
      | j + 1, h1 => have := (ct_iff hs hk j).2 (by omega); omega
    · intro h0; subst h0; simp
    · rw [ci_app_l (by omega)]; exact (ctr_at hs k j h1).1
    · rw [ci_app_l (by omega)]; exact (ctr_at hs k j h1).2
/-- Move q of a path. -/
def kd (q : Nat) : Int := if q % 2 = 0 then 4 else 2
def cnX (us : List CellD) (q : Nat) : Int := if q % 2 = 0 then ci us (q / 2 * 2) else 0
def cnY (us : List CellD) (q : Nat) : Int := if q % 2 = 0 then ci us (q / 2 * 2 + 1) else 0
def me (us : List CellD) (dx dy r z f : Int) (q : Nat) : List CellD :=
  [.i .i64 (kd q)] ++ ([.i .i64 (ci us ((q + 1) / 2 * 2) - dx * r)] ++ [.i .i64 (ci us ((q + 1) / 2 * 2 + 1) - dy * r)] ++ [.i .i64 z]) ++ ([.i .i64 (cnX us q)] ++ [.i .i64 (cnY us q)]) ++ [.i .i64 f]
def cat7 (g : Nat → List CellD) : Nat → List CellD
  | 0 => []
  | n + 1 => cat7 g n ++ g n
theorem cat7_len {g : Nat → List CellD} (h : ∀ q, (g q).length = 7) : ∀ n, (cat7 g n).length = n * 7
  | 0 => rfl
  | n + 1 => by
    show (cat7 g n ++ g n).length = _
    rw [List.length_append, cat7_len h n, h, Nat.succ_mul]
theorem cat7_drop {g : Nat → List CellD} (h : ∀ q, (g q).length = 7) : ∀ n q, q < n → (cat7 g n).drop (q * 7) = g q ++ (cat7 g n).drop (q * 7 + 7)
  | 0, q, hq => by omega
  | n + 1, q, hq => by
    show (cat7 g n ++ g n).drop _ = g q ++ (cat7 g n ++ g n).drop _
    have hl := cat7_len h n
    rcases Nat.lt_or_ge q n with h1 | h1
    · rw [List.drop_append_of_le_length (by omega), List.drop_append_of_le_length (by omega), cat7_drop h n q h1, List.append_assoc]
    · obtain rfl : q = n := by omega
      rw [List.drop_append_of_le_length (by omega), List.drop_eq_nil_of_le (by omega), List.nil_append, List.drop_eq_nil_of_le (by rw [List.length_append, h]; omega), List.append_nil]
theorem pth_cat {us : List CellD} {dx dy r z f : Int} : ∀ j, pth us dx dy r z f j = cat7 (me us dx dy r z f) (2 * j + 1)
  | 0 => rfl
  | j + 1 => by
    show (pth us dx dy r z f j ++ mvf us dx dy r z f (j + 1)) ++ mva us dx dy r z f (j + 1) = (cat7 (me us dx dy r z f) (2 * j + 1) ++ me us dx dy r z f (2 * j + 1)) ++ me us dx dy r z f (2 * j + 1 + 1)
    have e1 : (2 * j + 1 + 1) / 2 = j + 1 := by omega
    have e2 : (2 * j + 1 + 1 + 1) / 2 = j + 1 := by omega
    have e3 : (2 * j + 1) % 2 = 1 := by omega
    have e4 : (2 * j + 1 + 1) % 2 = 0 := by omega
    rw [pth_cat j]
    unfold me mvf mva kd cnX cnY
    rw [e1, e2, e3, e4]
    rfl
theorem pth_drop {us : List CellD} {dx dy r z f : Int} {j q : Nat} (hq : q < 2 * j + 1) : (pth us dx dy r z f j).drop (q * 7) = me us dx dy r z f q ++ (pth us dx dy r z f j).drop (q * 7 + 7) := by
  rw [pth_cat]
  exact cat7_drop (fun _ => rfl) _ q hq
theorem eq_pos_of {a b c a' b' c' : Int} (h : a = a' ∧ b = b' ∧ c = c') (w : World) : (Op.equalIn 10000 37 (.agg #[.int .i64 a, .int .i64 b, .int .i64 c]) (.agg #[.int .i64 a', .int .i64 b', .int .i64 c'])).run Try.prog w = .ok true w := by
  obtain ⟨rfl, rfl, rfl⟩ := h
  exact eq_pos a b c 9998 w
end Go.Proofs.Ytonjlikaacengaa
/- Moves: valid. -/
namespace Go.Proofs.Ytonjlikaacengaa
open Go Go.RowKit
theorem iAp_ok {a b : Int} (h0 : -100000000000000 ≤ a ∧ a ≤ 100000000000000) (h1 : -100000000000000 ≤ b ∧ b ≤ 100000000000000) : Ok Try.prog 32 [.c (.i .i64 a), .c (.i .i64 b)] [.c (.i .u64 (apD a b))] := by
  refine Ok.of (by kernel_rfl) Try.func32 rfl rfl ?_
  rw [show Try.f32.ntmps = 15 from rfl, show Try.f32.results.toList = [.tmp 4] from rfl]
  refine dw_seq ?_
  -- region 0
  refine dw_region (by kernel_rfl) ?_
  refine dl_r (sem_assign rfl rfl) ?_
  refine dl_end ?_
  refine dw_seq ?_
  refine dw_seq ?_
  -- region 1
  refine dw_region (by kernel_rfl) ?_
  refine dl_r (sem_move rfl rfl) ?_
  refine dl_r (sem_move rfl rfl) ?_
  refine dl_r (sem_cmp rfl rfl rfl rfl) ?_
  refine dl_end ?_
  refine dw_cond rfl (fun hc1 => ?_) (fun hc1 => ?_)
  · have g := of_decide_eq_true hc1
    -- region 2
    refine dw_region (by kernel_rfl) ?_
    refine dl_r (sem_move rfl rfl) ?_
    refine dl_r (sem_move rfl rfl) ?_
    refine dl_r (sem_assign rfl rfl) ?_
    refine dl_r (sem_assign rfl rfl) ?_
    refine dl_end ?_
    refine dw_seq ?_
    -- region 3
    refine dw_region (by kernel_rfl) ?_
    refine dl_r (sem_move rfl rfl) ?_
    refine dl_r (sem_conv' (r := IntKind.u64.wrap b) und2 und64 rfl (rfl) rfl) ?_
    refine dl_r (sem_move rfl rfl) ?_
    refine dl_r (sem_conv' (r := IntKind.u64.wrap a) und2 und64 rfl (rfl) rfl) ?_
    refine dl_r (sem_ari (r := b - a) rfl rfl (u64_sub (by omega) (by omega)) rfl) ?_
    refine dl_r (sem_assign rfl rfl) ?_
    refine dl_end ?_
    refine dw_ret ?_
    -- path T
    rw [apD_t hc1]
    exact ⟨.inr rfl, (resL_tmp rfl resL_nil)⟩
  · have g := of_decide_eq_false hc1
    refine dw_skip ?_
    refine dw_seq ?_
    -- region 3
    refine dw_region (by kernel_rfl) ?_
    refine dl_r (sem_move rfl rfl) ?_
    refine dl_r (sem_conv' (r := IntKind.u64.wrap a) und2 und64 rfl (rfl) rfl) ?_
    refine dl_r (sem_move rfl rfl) ?_
    refine dl_r (sem_conv' (r := IntKind.u64.wrap b) und2 und64 rfl (rfl) rfl) ?_
    refine dl_r (sem_ari (r := a - b) rfl rfl (u64_sub (by omega) (by omega)) rfl) ?_
    refine dl_r (sem_assign rfl rfl) ?_
    refine dl_end ?_
    refine dw_ret ?_
    -- path F
    rw [apD_f hc1]
    exact ⟨.inr rfl, (resL_tmp rfl resL_nil)⟩
theorem iPt_r {u v r z : Int} (hr : 1 ≤ r ∧ r ≤ 20000000) (hu : -10000000 ≤ u ∧ u ≤ 10000000) (_hv : -10000000 ≤ v ∧ v ≤ 10000000) : Ok Try.prog 31 [.a ([.i .i64 (u - 1 * r)] ++ [.i .i64 (v - 0 * r)] ++ [.i .i64 z]), .a ([.i .i64 u] ++ [.i .i64 v])] [.c (.i .i64 2), .c (.i .u64 r)] := by
  refine Ok.of (by kernel_rfl) Try.func31 rfl rfl ?_
  rw [show Try.f31.ntmps = 78 from rfl, show Try.f31.results.toList = [.tmp 4, .tmp 5] from rfl]
  refine dw_seq ?_
  -- region 0
  refine dw_region (by kernel_rfl) ?_
  refine dl_new (sem_box_a rfl rfl) rfl ?_
  refine dl_new (sem_box_a rfl rfl) rfl ?_
  refine dl_r (sem_assign rfl rfl) ?_
  refine dl_r (sem_assign rfl rfl) ?_
  refine dl_end ?_
  refine dw_seq ?_
  refine dw_block ?_
  refine dw_seq ?_
  -- region 1
  refine dw_region (by kernel_rfl) ?_
  refine dl_r (sem_field fd37_1 rfl rfl) ?_
  refine dl_r (sem_load1 ty2 rfl rfl rfl rfl) ?_
  refine dl_r (sem_field fd23_1 rfl rfl) ?_
  refine dl_r (sem_load1 ty2 rfl rfl rfl rfl) ?_
  refine dl_r (sem_castb (c := true) (sem_cmp rfl rfl rfl rfl) (beq_iff_eq.2 (by omega))) ?_
  refine dl_r (sem_move rfl rfl) ?_
  refine dl_r (sem_field fd37_0 rfl rfl) ?_
  refine dl_r (sem_load1 ty2 rfl rfl rfl rfl) ?_
  refine dl_r (sem_field fd23_0 rfl rfl) ?_
  refine dl_r (sem_load1 ty2 rfl rfl rfl rfl) ?_
  refine dl_r (sem_castb (c := false) (sem_cmp rfl rfl rfl rfl) (decide_eq_false (by omega))) ?_
  refine dl_r (sem_pick rfl rfl rfl rfl) ?_
  refine dl_r (sem_assign rfl rfl) ?_
  refine dl_end ?_
  refine dw_false rfl ?_
  refine dw_seq ?_
  -- region 3
  refine dw_region (by kernel_rfl) ?_
  refine dl_r (sem_field fd37_0 rfl rfl) ?_
  refine dl_r (sem_load1 ty2 rfl rfl rfl rfl) ?_
  refine dl_r (sem_field fd23_0 rfl rfl) ?_
  refine dl_r (sem_load1 ty2 rfl rfl rfl rfl) ?_
  refine dl_r (sem_castb (c := false) (sem_cmp rfl rfl rfl rfl) (beq_eq_false_iff_ne.2 (by omega))) ?_
  refine dl_r (sem_move rfl rfl) ?_
  refine dl_skip (sem_skip rfl) ?_
  refine dl_skip (sem_skip rfl) ?_
  refine dl_skip (sem_skip rfl) ?_
  refine dl_skip (sem_skip rfl) ?_
  refine dl_skip (sem_skip rfl) ?_
  refine dl_r (sem_pick rfl rfl rfl rfl) ?_
  refine dl_r (sem_assign rfl rfl) ?_
  refine dl_end ?_
  refine dw_false rfl ?_
  refine dw_seq ?_
  -- region 5
  refine dw_region (by kernel_rfl) ?_
  refine dl_r (sem_field fd37_1 rfl rfl) ?_
  refine dl_r (sem_load1 ty2 rfl rfl rfl rfl) ?_
  refine dl_r (sem_field fd23_1 rfl rfl) ?_
  refine dl_r (sem_load1 ty2 rfl rfl rfl rfl) ?_
  refine dl_r (sem_castb (c := true) (sem_cmp rfl rfl rfl rfl) (beq_iff_eq.2 (by omega))) ?_
  refine dl_r (sem_move rfl rfl) ?_
  refine dl_r (sem_field fd37_0 rfl rfl) ?_
  refine dl_r (sem_load1 ty2 rfl rfl rfl rfl) ?_
  refine dl_r (sem_field fd23_0 rfl rfl) ?_
  refine dl_r (sem_load1 ty2 rfl rfl rfl rfl) ?_
  refine dl_r (sem_castb (c := true) (sem_cmp rfl rfl rfl rfl) (decide_eq_true (by omega))) ?_
  refine dl_r (sem_pick rfl rfl rfl rfl) ?_
  refine dl_r (sem_assign rfl rfl) ?_
  refine dl_end ?_
  refine dw_true rfl ?_
  refine dw_seq ?_
  -- region 6
  refine dw_region (by kernel_rfl) ?_
  refine dl_r (sem_field fd37_0 rfl rfl) ?_
  refine dl_r (sem_load1 ty2 rfl rfl rfl rfl) ?_
  refine dl_r (sem_field fd23_0 rfl rfl) ?_
  refine dl_r (sem_load1 ty2 rfl rfl rfl rfl) ?_
  refine dl_r (sem_call rfl rfl (rcastu (iAp_ok (by omega) (by omega)) (apD_eq (r := r) (by omega) (by omega))) rfl) ?_
  refine dl_r (sem_assign rfl rfl) ?_
  refine dl_r (sem_assign rfl rfl) ?_
  refine dl_end ?_
  refine dw_ret ?_
  -- path 
  exact ⟨.inr rfl, (resL_tmp rfl (resL_tmp rfl resL_nil))⟩
theorem iPt_l {u v r z : Int} (hr : 1 ≤ r ∧ r ≤ 20000000) (hu : -10000000 ≤ u ∧ u ≤ 10000000) (_hv : -10000000 ≤ v ∧ v ≤ 10000000) : Ok Try.prog 31 [.a ([.i .i64 (u - (-1) * r)] ++ [.i .i64 (v - 0 * r)] ++ [.i .i64 z]), .a ([.i .i64 u] ++ [.i .i64 v])] [.c (.i .i64 0), .c (.i .u64 r)] := by
  refine Ok.of (by kernel_rfl) Try.func31 rfl rfl ?_
  rw [show Try.f31.ntmps = 78 from rfl, show Try.f31.results.toList = [.tmp 4, .tmp 5] from rfl]
  refine dw_seq ?_
  -- region 0
  refine dw_region (by kernel_rfl) ?_
  refine dl_new (sem_box_a rfl rfl) rfl ?_
  refine dl_new (sem_box_a rfl rfl) rfl ?_
  refine dl_r (sem_assign rfl rfl) ?_
  refine dl_r (sem_assign rfl rfl) ?_
  refine dl_end ?_
  refine dw_seq ?_
  refine dw_block ?_
  refine dw_seq ?_
  -- region 1
  refine dw_region (by kernel_rfl) ?_
  refine dl_r (sem_field fd37_1 rfl rfl) ?_
  refine dl_r (sem_load1 ty2 rfl rfl rfl rfl) ?_
  refine dl_r (sem_field fd23_1 rfl rfl) ?_
  refine dl_r (sem_load1 ty2 rfl rfl rfl rfl) ?_
  refine dl_r (sem_castb (c := true) (sem_cmp rfl rfl rfl rfl) (beq_iff_eq.2 (by omega))) ?_
  refine dl_r (sem_move rfl rfl) ?_
  refine dl_r (sem_field fd37_0 rfl rfl) ?_
  refine dl_r (sem_load1 ty2 rfl rfl rfl rfl) ?_
  refine dl_r (sem_field fd23_0 rfl rfl) ?_
  refine dl_r (sem_load1 ty2 rfl rfl rfl rfl) ?_
  refine dl_r (sem_castb (c := true) (sem_cmp rfl rfl rfl rfl) (decide_eq_true (by omega))) ?_
  refine dl_r (sem_pick rfl rfl rfl rfl) ?_
  refine dl_r (sem_assign rfl rfl) ?_
  refine dl_end ?_
  refine dw_true rfl ?_
  refine dw_seq ?_
  -- region 2
  refine dw_region (by kernel_rfl) ?_
  refine dl_r (sem_field fd37_0 rfl rfl) ?_
  refine dl_r (sem_load1 ty2 rfl rfl rfl rfl) ?_
  refine dl_r (sem_field fd23_0 rfl rfl) ?_
  refine dl_r (sem_load1 ty2 rfl rfl rfl rfl) ?_
  refine dl_r (sem_call rfl rfl (rcastu (iAp_ok (by omega) (by omega)) (apD_eq (r := r) (by omega) (by omega))) rfl) ?_
  refine dl_r (sem_assign rfl rfl) ?_
  refine dl_r (sem_assign rfl rfl) ?_
  refine dl_end ?_
  refine dw_ret ?_
  -- path 
  exact ⟨.inr rfl, (resL_tmp rfl (resL_tmp rfl resL_nil))⟩
theorem iPt_u {u v r z : Int} (hr : 1 ≤ r ∧ r ≤ 20000000) (_hu : -10000000 ≤ u ∧ u ≤ 10000000) (hv : -10000000 ≤ v ∧ v ≤ 10000000) : Ok Try.prog 31 [.a ([.i .i64 (u - 0 * r)] ++ [.i .i64 (v - 1 * r)] ++ [.i .i64 z]), .a ([.i .i64 u] ++ [.i .i64 v])] [.c (.i .i64 3), .c (.i .u64 r)] := by
  refine Ok.of (by kernel_rfl) Try.func31 rfl rfl ?_
  rw [show Try.f31.ntmps = 78 from rfl, show Try.f31.results.toList = [.tmp 4, .tmp 5] from rfl]
  refine dw_seq ?_
  -- region 0
  refine dw_region (by kernel_rfl) ?_
  refine dl_new (sem_box_a rfl rfl) rfl ?_
  refine dl_new (sem_box_a rfl rfl) rfl ?_
  refine dl_r (sem_assign rfl rfl) ?_
  refine dl_r (sem_assign rfl rfl) ?_
  refine dl_end ?_
  refine dw_seq ?_
  refine dw_block ?_
  refine dw_seq ?_
  -- region 1
  refine dw_region (by kernel_rfl) ?_
  refine dl_r (sem_field fd37_1 rfl rfl) ?_
  refine dl_r (sem_load1 ty2 rfl rfl rfl rfl) ?_
  refine dl_r (sem_field fd23_1 rfl rfl) ?_
  refine dl_r (sem_load1 ty2 rfl rfl rfl rfl) ?_
  refine dl_r (sem_castb (c := false) (sem_cmp rfl rfl rfl rfl) (beq_eq_false_iff_ne.2 (by omega))) ?_
  refine dl_r (sem_move rfl rfl) ?_
  refine dl_skip (sem_skip rfl) ?_
  refine dl_skip (sem_skip rfl) ?_
  refine dl_skip (sem_skip rfl) ?_
  refine dl_skip (sem_skip rfl) ?_
  refine dl_skip (sem_skip rfl) ?_
  refine dl_r (sem_pick rfl rfl rfl rfl) ?_
  refine dl_r (sem_assign rfl rfl) ?_
  refine dl_end ?_
  refine dw_false rfl ?_
  refine dw_seq ?_
  -- region 3
  refine dw_region (by kernel_rfl) ?_
  refine dl_r (sem_field fd37_0 rfl rfl) ?_
  refine dl_r (sem_load1 ty2 rfl rfl rfl rfl) ?_
  refine dl_r (sem_field fd23_0 rfl rfl) ?_
  refine dl_r (sem_load1 ty2 rfl rfl rfl rfl) ?_
  refine dl_r (sem_castb (c := true) (sem_cmp rfl rfl rfl rfl) (beq_iff_eq.2 (by omega))) ?_
  refine dl_r (sem_move rfl rfl) ?_
  refine dl_r (sem_field fd37_1 rfl rfl) ?_
  refine dl_r (sem_load1 ty2 rfl rfl rfl rfl) ?_
  refine dl_r (sem_field fd23_1 rfl rfl) ?_
  refine dl_r (sem_load1 ty2 rfl rfl rfl rfl) ?_
  refine dl_r (sem_castb (c := false) (sem_cmp rfl rfl rfl rfl) (decide_eq_false (by omega))) ?_
  refine dl_r (sem_pick rfl rfl rfl rfl) ?_
  refine dl_r (sem_assign rfl rfl) ?_
  refine dl_end ?_
  refine dw_false rfl ?_
  refine dw_seq ?_
  -- region 5
  refine dw_region (by kernel_rfl) ?_
  refine dl_r (sem_field fd37_1 rfl rfl) ?_
  refine dl_r (sem_load1 ty2 rfl rfl rfl rfl) ?_
  refine dl_r (sem_field fd23_1 rfl rfl) ?_
  refine dl_r (sem_load1 ty2 rfl rfl rfl rfl) ?_
  refine dl_r (sem_castb (c := false) (sem_cmp rfl rfl rfl rfl) (beq_eq_false_iff_ne.2 (by omega))) ?_
  refine dl_r (sem_move rfl rfl) ?_
  refine dl_skip (sem_skip rfl) ?_
  refine dl_skip (sem_skip rfl) ?_
  refine dl_skip (sem_skip rfl) ?_
  refine dl_skip (sem_skip rfl) ?_
  refine dl_skip (sem_skip rfl) ?_
  refine dl_r (sem_pick rfl rfl rfl rfl) ?_
  refine dl_r (sem_assign rfl rfl) ?_
  refine dl_end ?_
  refine dw_false rfl ?_
  refine dw_seq ?_
  -- region 7
  refine dw_region (by kernel_rfl) ?_
  refine dl_r (sem_field fd37_0 rfl rfl) ?_
  refine dl_r (sem_load1 ty2 rfl rfl rfl rfl) ?_
  refine dl_r (sem_field fd23_0 rfl rfl) ?_
  refine dl_r (sem_load1 ty2 rfl rfl rfl rfl) ?_
  refine dl_r (sem_castb (c := true) (sem_cmp rfl rfl rfl rfl) (beq_iff_eq.2 (by omega))) ?_
  refine dl_r (sem_move rfl rfl) ?_
  refine dl_r (sem_field fd37_1 rfl rfl) ?_
  refine dl_r (sem_load1 ty2 rfl rfl rfl rfl) ?_
  refine dl_r (sem_field fd23_1 rfl rfl) ?_
  refine dl_r (sem_load1 ty2 rfl rfl rfl rfl) ?_
  refine dl_r (sem_castb (c := true) (sem_cmp rfl rfl rfl rfl) (decide_eq_true (by omega))) ?_
  refine dl_r (sem_pick rfl rfl rfl rfl) ?_
  refine dl_r (sem_assign rfl rfl) ?_
  refine dl_end ?_
  refine dw_true rfl ?_
  refine dw_seq ?_
  -- region 8
  refine dw_region (by kernel_rfl) ?_
  refine dl_r (sem_field fd37_1 rfl rfl) ?_
  refine dl_r (sem_load1 ty2 rfl rfl rfl rfl) ?_
  refine dl_r (sem_field fd23_1 rfl rfl) ?_
  refine dl_r (sem_load1 ty2 rfl rfl rfl rfl) ?_
  refine dl_r (sem_call rfl rfl (rcastu (iAp_ok (by omega) (by omega)) (apD_eq (r := r) (by omega) (by omega))) rfl) ?_
  refine dl_r (sem_assign rfl rfl) ?_
  refine dl_r (sem_assign rfl rfl) ?_
  refine dl_end ?_
  refine dw_ret ?_
  -- path 
  exact ⟨.inr rfl, (resL_tmp rfl (resL_tmp rfl resL_nil))⟩
theorem iPt_d {u v r z : Int} (hr : 1 ≤ r ∧ r ≤ 20000000) (_hu : -10000000 ≤ u ∧ u ≤ 10000000) (hv : -10000000 ≤ v ∧ v ≤ 10000000) : Ok Try.prog 31 [.a ([.i .i64 (u - 0 * r)] ++ [.i .i64 (v - (-1) * r)] ++ [.i .i64 z]), .a ([.i .i64 u] ++ [.i .i64 v])] [.c (.i .i64 1), .c (.i .u64 r)] := by
  refine Ok.of (by kernel_rfl) Try.func31 rfl rfl ?_
  rw [show Try.f31.ntmps = 78 from rfl, show Try.f31.results.toList = [.tmp 4, .tmp 5] from rfl]
  refine dw_seq ?_
  -- region 0
  refine dw_region (by kernel_rfl) ?_
  refine dl_new (sem_box_a rfl rfl) rfl ?_
  refine dl_new (sem_box_a rfl rfl) rfl ?_
  refine dl_r (sem_assign rfl rfl) ?_
  refine dl_r (sem_assign rfl rfl) ?_
  refine dl_end ?_
  refine dw_seq ?_
  refine dw_block ?_
  refine dw_seq ?_
  -- region 1
  refine dw_region (by kernel_rfl) ?_
  refine dl_r (sem_field fd37_1 rfl rfl) ?_
  refine dl_r (sem_load1 ty2 rfl rfl rfl rfl) ?_
  refine dl_r (sem_field fd23_1 rfl rfl) ?_
  refine dl_r (sem_load1 ty2 rfl rfl rfl rfl) ?_
  refine dl_r (sem_castb (c := false) (sem_cmp rfl rfl rfl rfl) (beq_eq_false_iff_ne.2 (by omega))) ?_
  refine dl_r (sem_move rfl rfl) ?_
  refine dl_skip (sem_skip rfl) ?_
  refine dl_skip (sem_skip rfl) ?_
  refine dl_skip (sem_skip rfl) ?_
  refine dl_skip (sem_skip rfl) ?_
  refine dl_skip (sem_skip rfl) ?_
  refine dl_r (sem_pick rfl rfl rfl rfl) ?_
  refine dl_r (sem_assign rfl rfl) ?_
  refine dl_end ?_
  refine dw_false rfl ?_
  refine dw_seq ?_
  -- region 3
  refine dw_region (by kernel_rfl) ?_
  refine dl_r (sem_field fd37_0 rfl rfl) ?_
  refine dl_r (sem_load1 ty2 rfl rfl rfl rfl) ?_
  refine dl_r (sem_field fd23_0 rfl rfl) ?_
  refine dl_r (sem_load1 ty2 rfl rfl rfl rfl) ?_
  refine dl_r (sem_castb (c := true) (sem_cmp rfl rfl rfl rfl) (beq_iff_eq.2 (by omega))) ?_
  refine dl_r (sem_move rfl rfl) ?_
  refine dl_r (sem_field fd37_1 rfl rfl) ?_
  refine dl_r (sem_load1 ty2 rfl rfl rfl rfl) ?_
  refine dl_r (sem_field fd23_1 rfl rfl) ?_
  refine dl_r (sem_load1 ty2 rfl rfl rfl rfl) ?_
  refine dl_r (sem_castb (c := true) (sem_cmp rfl rfl rfl rfl) (decide_eq_true (by omega))) ?_
  refine dl_r (sem_pick rfl rfl rfl rfl) ?_
  refine dl_r (sem_assign rfl rfl) ?_
  refine dl_end ?_
  refine dw_true rfl ?_
  refine dw_seq ?_
  -- region 4
  refine dw_region (by kernel_rfl) ?_
  refine dl_r (sem_field fd37_1 rfl rfl) ?_
  refine dl_r (sem_load1 ty2 rfl rfl rfl rfl) ?_
  refine dl_r (sem_field fd23_1 rfl rfl) ?_
  refine dl_r (sem_load1 ty2 rfl rfl rfl rfl) ?_
  refine dl_r (sem_call rfl rfl (rcastu (iAp_ok (by omega) (by omega)) (apD_eq (r := r) (by omega) (by omega))) rfl) ?_
  refine dl_r (sem_assign rfl rfl) ?_
  refine dl_r (sem_assign rfl rfl) ?_
  refine dl_end ?_
  refine dw_ret ?_
  -- path 
  exact ⟨.inr rfl, (resL_tmp rfl (resL_tmp rfl resL_nil))⟩
theorem iPt_ok {u v dx dy r z : Int} (hd : Dir dx dy) (hr : 1 ≤ r ∧ r ≤ 20000000) (hu : -10000000 ≤ u ∧ u ≤ 10000000) (hv : -10000000 ≤ v ∧ v ≤ 10000000) : Ok Try.prog 31 [.a ([.i .i64 (u - dx * r)] ++ [.i .i64 (v - dy * r)] ++ [.i .i64 z]), .a ([.i .i64 u] ++ [.i .i64 v])] [.c (.i .i64 (qd dx dy)), .c (.i .u64 r)] := by
  rcases hd with ⟨rfl, rfl⟩ | ⟨rfl, rfl⟩ | ⟨rfl, rfl⟩ | ⟨rfl, rfl⟩
  · exact iPt_r hr hu hv
  · exact iPt_l hr hu hv
  · exact iPt_u hr hu hv
  · exact iPt_d hr hu hv
theorem iArc_4 {x y z u v f : Int} : Ok Try.prog 30 [.a ([.i .i64 4] ++ ([.i .i64 x] ++ [.i .i64 y] ++ [.i .i64 z]) ++ ([.i .i64 u] ++ [.i .i64 v]) ++ [.i .i64 f])] [.c (.b true)] := by
  refine Ok.of (by kernel_rfl) Try.func30 rfl rfl ?_
  rw [show Try.f30.ntmps = 11 from rfl, show Try.f30.results.toList = [.tmp 2] from rfl]
  refine dw_seq ?_
  -- region 0
  refine dw_region (by kernel_rfl) ?_
  refine dl_new (sem_box_a rfl rfl) rfl ?_
  refine dl_r (sem_assign rfl rfl) ?_
  refine dl_end ?_
  refine dw_seq ?_
  -- region 1
  refine dw_region (by kernel_rfl) ?_
  refine dl_r (sem_field fd42_0 rfl rfl) ?_
  refine dl_r (sem_load1 ty3 rfl rfl rfl rfl) ?_
  refine dl_r (sem_cmp rfl rfl rfl rfl) ?_
  refine dl_r (sem_move rfl rfl) ?_
  refine dl_r (sem_field fd42_0 rfl rfl) ?_
  refine dl_r (sem_load1 ty3 rfl rfl rfl rfl) ?_
  refine dl_r (sem_cmp rfl rfl rfl rfl) ?_
  refine dl_r (sem_pick rfl rfl rfl rfl) ?_
  refine dl_r (sem_assign rfl rfl) ?_
  refine dl_end ?_
  refine dw_ret ?_
  -- path 
  exact ⟨.inr rfl, (resL_tmp rfl resL_nil)⟩
theorem iArc_2 {x y z u v f : Int} : Ok Try.prog 30 [.a ([.i .i64 2] ++ ([.i .i64 x] ++ [.i .i64 y] ++ [.i .i64 z]) ++ ([.i .i64 u] ++ [.i .i64 v]) ++ [.i .i64 f])] [.c (.b false)] := by
  refine Ok.of (by kernel_rfl) Try.func30 rfl rfl ?_
  rw [show Try.f30.ntmps = 11 from rfl, show Try.f30.results.toList = [.tmp 2] from rfl]
  refine dw_seq ?_
  -- region 0
  refine dw_region (by kernel_rfl) ?_
  refine dl_new (sem_box_a rfl rfl) rfl ?_
  refine dl_r (sem_assign rfl rfl) ?_
  refine dl_end ?_
  refine dw_seq ?_
  -- region 1
  refine dw_region (by kernel_rfl) ?_
  refine dl_r (sem_field fd42_0 rfl rfl) ?_
  refine dl_r (sem_load1 ty3 rfl rfl rfl rfl) ?_
  refine dl_r (sem_cmp rfl rfl rfl rfl) ?_
  refine dl_r (sem_move rfl rfl) ?_
  refine dl_r (sem_field fd42_0 rfl rfl) ?_
  refine dl_r (sem_load1 ty3 rfl rfl rfl rfl) ?_
  refine dl_r (sem_cmp rfl rfl rfl rfl) ?_
  refine dl_r (sem_pick rfl rfl rfl rfl) ?_
  refine dl_r (sem_assign rfl rfl) ?_
  refine dl_end ?_
  refine dw_ret ?_
  -- path 
  exact ⟨.inr rfl, (resL_tmp rfl resL_nil)⟩
theorem iRt_4 {u v dx dy r z f : Int} (hd : Dir dx dy) (hr : 1 ≤ r ∧ r ≤ 20000000) (hf : 1 ≤ f) (hu : -10000000 ≤ u ∧ u ≤ 10000000) (hv : -10000000 ≤ v ∧ v ≤ 10000000) : Ok Try.prog 29 [.a ([.i .i64 (u - dx * r)] ++ [.i .i64 (v - dy * r)] ++ [.i .i64 z]), .a ([.i .i64 4] ++ ([.i .i64 (u - dx * r)] ++ [.i .i64 (v - dy * r)] ++ [.i .i64 z]) ++ ([.i .i64 u] ++ [.i .i64 v]) ++ [.i .i64 f])] [.c (.b true)] := by
  refine Ok.of (by kernel_rfl) Try.func29 rfl rfl ?_
  rw [show Try.f29.ntmps = 52 from rfl, show Try.f29.results.toList = [.tmp 4] from rfl]
  refine dw_seq ?_
  -- region 0
  refine dw_region (by kernel_rfl) ?_
  refine dl_new (sem_box_a rfl rfl) rfl ?_
  refine dl_new (sem_box_a rfl rfl) rfl ?_
  refine dl_r (sem_assign rfl rfl) ?_
  refine dl_end ?_
  refine dw_seq ?_
  refine dw_seq ?_
  -- region 1
  refine dw_region (by kernel_rfl) ?_
  refine dl_r (sem_field fd42_0 rfl rfl) ?_
  refine dl_r (sem_load1 ty3 rfl rfl rfl rfl) ?_
  refine dl_end ?_
  refine dw_block ?_
  refine dw_seq ?_
  -- region 2
  refine dw_region (by kernel_rfl) ?_
  refine dl_r (sem_cmp rfl rfl rfl rfl) ?_
  refine dl_r (sem_assign rfl rfl) ?_
  refine dl_end ?_
  refine dw_false rfl ?_
  refine dw_seq ?_
  -- region 4
  refine dw_region (by kernel_rfl) ?_
  refine dl_r (sem_cmp rfl rfl rfl rfl) ?_
  refine dl_r (sem_assign rfl rfl) ?_
  refine dl_end ?_
  refine dw_false rfl ?_
  refine dw_skip ?_
  refine dw_seq ?_
  -- region 6
  refine dw_region (by kernel_rfl) ?_
  refine dl_r (sem_load (us := ([.i .i64 (u - dx * r)] ++ [.i .i64 (v - dy * r)] ++ [.i .i64 z])) ty37 rfl rfl rfl rfl rfl) ?_
  refine dl_r (sem_field fd42_2 rfl rfl) ?_
  refine dl_r (sem_load (us := ([.i .i64 u] ++ [.i .i64 v])) ty23 rfl rfl rfl rfl rfl) ?_
  refine dl_r (sem_call rfl rfl (iPt_ok hd hr hu hv) rfl) ?_
  refine dl_r (sem_move rfl rfl) ?_
  refine dl_r (sem_extract rfl rfl rfl) ?_
  refine dl_r (sem_extract rfl rfl rfl) ?_
  refine dl_r (sem_assign rfl rfl) ?_
  refine dl_r (sem_assign rfl rfl) ?_
  refine dl_end ?_
  refine dw_seq ?_
  -- region 7
  refine dw_region (by kernel_rfl) ?_
  refine dl_r (sem_field fd42_1 rfl rfl) ?_
  refine dl_r (sem_load (us := ([.i .i64 (u - dx * r)] ++ [.i .i64 (v - dy * r)] ++ [.i .i64 z])) ty37 rfl rfl rfl rfl rfl) ?_
  refine dl_r (sem_field fd42_2 rfl rfl) ?_
  refine dl_r (sem_load (us := ([.i .i64 u] ++ [.i .i64 v])) ty23 rfl rfl rfl rfl rfl) ?_
  refine dl_r (sem_call rfl rfl (iPt_ok hd hr hu hv) rfl) ?_
  refine dl_r (sem_move rfl rfl) ?_
  refine dl_r (sem_extract rfl rfl rfl) ?_
  refine dl_r (sem_extract rfl rfl rfl) ?_
  refine dl_r (sem_assign rfl rfl) ?_
  refine dl_r (sem_assign rfl rfl) ?_
  refine dl_end ?_
  refine dw_seq ?_
  -- region 8
  refine dw_region (by kernel_rfl) ?_
  refine dl_r (sem_load (us := ([.i .i64 4] ++ ([.i .i64 (u - dx * r)] ++ [.i .i64 (v - dy * r)] ++ [.i .i64 z]) ++ ([.i .i64 u] ++ [.i .i64 v]) ++ [.i .i64 f])) ty42 rfl rfl rfl rfl rfl) ?_
  refine dl_r (sem_call rfl rfl (iArc_4) rfl) ?_
  refine dl_r (sem_move rfl rfl) ?_
  refine dl_r (sem_field fd42_3 rfl rfl) ?_
  refine dl_r (sem_load1 ty2 rfl rfl rfl rfl) ?_
  refine dl_r (sem_castb (c := true) (sem_cmp rfl rfl rfl rfl) (decide_eq_true (by omega))) ?_
  refine dl_r (sem_pick rfl rfl rfl rfl) ?_
  refine dl_r (sem_move rfl rfl) ?_
  refine dl_r (sem_move rfl rfl) ?_
  refine dl_r (sem_castb (c := true) (sem_cmp rfl rfl rfl rfl) (decide_eq_true (by omega))) ?_
  refine dl_r (sem_pick rfl rfl rfl rfl) ?_
  refine dl_r (sem_move rfl rfl) ?_
  refine dl_r (sem_move rfl rfl) ?_
  refine dl_r (sem_move rfl rfl) ?_
  refine dl_r (sem_castb (c := true) (sem_cmp rfl rfl rfl rfl) (beq_iff_eq.2 rfl)) ?_
  refine dl_r (sem_pick rfl rfl rfl rfl) ?_
  refine dl_r (sem_assign rfl rfl) ?_
  refine dl_end ?_
  refine dw_ret ?_
  -- path 
  exact ⟨.inr rfl, (resL_tmp rfl resL_nil)⟩
theorem iRt_2 {p q w x y z f : Int} (hf : 1 ≤ f) : Ok Try.prog 29 [.a ([.i .i64 p] ++ [.i .i64 q] ++ [.i .i64 w]), .a ([.i .i64 2] ++ ([.i .i64 x] ++ [.i .i64 y] ++ [.i .i64 z]) ++ ([.i .i64 0] ++ [.i .i64 0]) ++ [.i .i64 f])] [.c (.b true)] := by
  refine Ok.of (by kernel_rfl) Try.func29 rfl rfl ?_
  rw [show Try.f29.ntmps = 52 from rfl, show Try.f29.results.toList = [.tmp 4] from rfl]
  refine dw_seq ?_
  -- region 0
  refine dw_region (by kernel_rfl) ?_
  refine dl_new (sem_box_a rfl rfl) rfl ?_
  refine dl_new (sem_box_a rfl rfl) rfl ?_
  refine dl_r (sem_assign rfl rfl) ?_
  refine dl_end ?_
  refine dw_seq ?_
  refine dw_seq ?_
  -- region 1
  refine dw_region (by kernel_rfl) ?_
  refine dl_r (sem_field fd42_0 rfl rfl) ?_
  refine dl_r (sem_load1 ty3 rfl rfl rfl rfl) ?_
  refine dl_end ?_
  refine dw_block ?_
  refine dw_seq ?_
  -- region 2
  refine dw_region (by kernel_rfl) ?_
  refine dl_r (sem_cmp rfl rfl rfl rfl) ?_
  refine dl_r (sem_assign rfl rfl) ?_
  refine dl_end ?_
  refine dw_false rfl ?_
  refine dw_seq ?_
  -- region 4
  refine dw_region (by kernel_rfl) ?_
  refine dl_r (sem_cmp rfl rfl rfl rfl) ?_
  refine dl_r (sem_assign rfl rfl) ?_
  refine dl_end ?_
  refine dw_true rfl ?_
  refine dw_seq ?_
  -- region 5
  refine dw_region (by kernel_rfl) ?_
  refine dl_r (sem_field fd42_3 rfl rfl) ?_
  refine dl_r (sem_load1 ty2 rfl rfl rfl rfl) ?_
  refine dl_r (sem_castb (c := true) (sem_cmp rfl rfl rfl rfl) (decide_eq_true (by omega))) ?_
  refine dl_r (sem_assign rfl rfl) ?_
  refine dl_end ?_
  refine dw_ret ?_
  -- path 
  exact ⟨.inr rfl, (resL_tmp rfl resL_nil)⟩
theorem iVal_4 {u v dx dy r z f : Int} (hd : Dir dx dy) (hr : 1 ≤ r ∧ r ≤ 10000000) (hf : 1 ≤ f) (hu : -10000000 ≤ u ∧ u ≤ 10000000) (hv : -10000000 ≤ v ∧ v ≤ 10000000) (hz : -10000000 ≤ z ∧ z ≤ 10000000) (b1 : -10000000 ≤ u - r ∧ u + r ≤ 10000000) (b2 : -10000000 ≤ v - r ∧ v + r ≤ 10000000) : Ok Try.prog 16 [.a ([.i .i64 (u - dx * r)] ++ [.i .i64 (v - dy * r)] ++ [.i .i64 z]), .a ([.i .i64 4] ++ ([.i .i64 (u - dx * r)] ++ [.i .i64 (v - dy * r)] ++ [.i .i64 z]) ++ ([.i .i64 u] ++ [.i .i64 v]) ++ [.i .i64 f])] [.c (.i .i64 0)] := by
  have hr0 := hr
  replace hr : 1 ≤ r ∧ r ≤ 20000000 := by omega
  have hz0 : ([] : List CellD).length = (6 - 6) * 1 := rfl
  have hz1 : 6 ≤ maxLen := by decide
  have hFB : ([.i .i64 (u - dx * r)] ++ [.i .i64 (v - dy * r)] ++ [.i .i64 z] ++ [.i .i64 (u - dx * r)] ++ [.i .i64 (v - dy * r)] ++ [.i .i64 z] ++ ([.i .i64 (u + r)] ++ [.i .i64 (u - r)] ++ [.i .i64 (v + r)] ++ [.i .i64 (v - r)]) : List CellD).all bdJ = true := bd_app (bd_app (bd_app (bd_app (bd_app (bd_app (bd_one (by rcases hd with ⟨rfl, rfl⟩ | ⟨rfl, rfl⟩ | ⟨rfl, rfl⟩ | ⟨rfl, rfl⟩ <;> omega)) (bd_one (by rcases hd with ⟨rfl, rfl⟩ | ⟨rfl, rfl⟩ | ⟨rfl, rfl⟩ | ⟨rfl, rfl⟩ <;> omega))) (bd_one (hz))) (bd_one (by rcases hd with ⟨rfl, rfl⟩ | ⟨rfl, rfl⟩ | ⟨rfl, rfl⟩ | ⟨rfl, rfl⟩ <;> omega))) (bd_one (by rcases hd with ⟨rfl, rfl⟩ | ⟨rfl, rfl⟩ | ⟨rfl, rfl⟩ | ⟨rfl, rfl⟩ <;> omega))) (bd_one (hz))) (bd_app (bd_app (bd_app (bd_one (by omega)) (bd_one (by omega))) (bd_one (by omega))) (bd_one (by omega)))
  refine Ok.of (by kernel_rfl) Try.func16 rfl rfl ?_
  rw [show Try.f16.ntmps = 91 from rfl, show Try.f16.results.toList = [.tmp 4] from rfl]
  refine dw_seq ?_
  -- region 0
  refine dw_region (by kernel_rfl) ?_
  refine dl_new (sem_box_a rfl rfl) rfl ?_
  refine dl_new (sem_box_a rfl rfl) rfl ?_
  refine dl_r (sem_assign rfl rfl) ?_
  refine dl_end ?_
  refine dw_seq ?_
  refine dw_seq ?_
  -- region 1
  refine dw_region (by kernel_rfl) ?_
  refine dl_r (sem_load (us := ([.i .i64 (u - dx * r)] ++ [.i .i64 (v - dy * r)] ++ [.i .i64 z])) ty37 rfl rfl rfl rfl rfl) ?_
  refine dl_r (sem_load (us := ([.i .i64 4] ++ ([.i .i64 (u - dx * r)] ++ [.i .i64 (v - dy * r)] ++ [.i .i64 z]) ++ ([.i .i64 u] ++ [.i .i64 v]) ++ [.i .i64 f])) ty42 rfl rfl rfl rfl rfl) ?_
  refine dl_r (sem_call rfl rfl (iRt_4 hd hr hf hu hv) rfl) ?_
  refine dl_r (sem_not rfl rfl) ?_
  refine dl_end ?_
  refine dw_false rfl ?_
  refine dw_skip ?_
  refine dw_seq ?_
  -- region 3
  refine dw_region (by kernel_rfl) ?_
  refine dl_r (sem_field fd37_0 rfl rfl) ?_
  refine dl_r (sem_load1 ty2 rfl rfl rfl rfl) ?_
  refine dl_r (sem_field fd37_1 rfl rfl) ?_
  refine dl_r (sem_load1 ty2 rfl rfl rfl rfl) ?_
  refine dl_r (sem_field fd37_2 rfl rfl) ?_
  refine dl_r (sem_load1 ty2 rfl rfl rfl rfl) ?_
  refine dl_r (sem_field fd42_1 rfl rfl) ?_
  refine dl_r (sem_field fd37_0 rfl rfl) ?_
  refine dl_r (sem_load1 ty2 rfl rfl rfl rfl) ?_
  refine dl_r (sem_field fd42_1 rfl rfl) ?_
  refine dl_r (sem_field fd37_1 rfl rfl) ?_
  refine dl_r (sem_load1 ty2 rfl rfl rfl rfl) ?_
  refine dl_r (sem_field fd42_1 rfl rfl) ?_
  refine dl_r (sem_field fd37_2 rfl rfl) ?_
  refine dl_r (sem_load1 ty2 rfl rfl rfl rfl) ?_
  refine dl_mk (sem_slit (us := [.i .i64 (u - dx * r)] ++ [.i .i64 (v - dy * r)] ++ [.i .i64 z] ++ [.i .i64 (u - dx * r)] ++ [.i .i64 (v - dy * r)] ++ [.i .i64 z]) el62 rfl rfl (by decide) (by decide) rfl) rfl ?_
  refine dl_r (sem_assign rfl rfl) ?_
  refine dl_end ?_
  refine dw_seq ?_
  refine dw_seq ?_
  -- region 4
  refine dw_region (by kernel_rfl) ?_
  refine dl_r (sem_load (us := ([.i .i64 4] ++ ([.i .i64 (u - dx * r)] ++ [.i .i64 (v - dy * r)] ++ [.i .i64 z]) ++ ([.i .i64 u] ++ [.i .i64 v]) ++ [.i .i64 f])) ty42 rfl rfl rfl rfl rfl) ?_
  refine dl_r (sem_call rfl rfl (iArc_4) rfl) ?_
  refine dl_end ?_
  refine dw_true rfl ?_
  refine dw_seq ?_
  -- region 5
  refine dw_region (by kernel_rfl) ?_
  refine dl_r (sem_load (us := ([.i .i64 (u - dx * r)] ++ [.i .i64 (v - dy * r)] ++ [.i .i64 z])) ty37 rfl rfl rfl rfl rfl) ?_
  refine dl_r (sem_field fd42_2 rfl rfl) ?_
  refine dl_r (sem_load (us := ([.i .i64 u] ++ [.i .i64 v])) ty23 rfl rfl rfl rfl rfl) ?_
  refine dl_r (sem_call rfl rfl (iPt_ok hd hr hu hv) rfl) ?_
  refine dl_r (sem_move rfl rfl) ?_
  refine dl_r (sem_extract rfl rfl rfl) ?_
  refine dl_r (sem_extract rfl rfl rfl) ?_
  refine dl_r (sem_assign rfl rfl) ?_
  refine dl_r (sem_assign rfl rfl) ?_
  refine dl_end ?_
  refine dw_seq ?_
  refine dw_seq ?_
  -- region 6
  refine dw_region (by kernel_rfl) ?_
  refine dl_r (sem_move rfl rfl) ?_
  refine dl_r (sem_castb (c := false) (sem_cmp rfl rfl rfl rfl) (decide_eq_false (by omega))) ?_
  refine dl_r (sem_move rfl rfl) ?_
  refine dl_r (sem_field fd42_2 rfl rfl) ?_
  refine dl_r (sem_field fd23_0 rfl rfl) ?_
  refine dl_r (sem_load1 ty2 rfl rfl rfl rfl) ?_
  refine dl_r (sem_call rfl rfl (iAp_ok (by omega) (by omega)) rfl) ?_
  refine dl_r (sem_castb (c := false) (sem_cmp rfl rfl rfl rfl) (decide_eq_false (by have h9 := apD_le hu.1 hu.2; omega))) ?_
  refine dl_r (sem_pick rfl rfl rfl rfl) ?_
  refine dl_r (sem_move rfl rfl) ?_
  refine dl_r (sem_field fd42_2 rfl rfl) ?_
  refine dl_r (sem_field fd23_1 rfl rfl) ?_
  refine dl_r (sem_load1 ty2 rfl rfl rfl rfl) ?_
  refine dl_r (sem_call rfl rfl (iAp_ok (by omega) (by omega)) rfl) ?_
  refine dl_r (sem_castb (c := false) (sem_cmp rfl rfl rfl rfl) (decide_eq_false (by have h9 := apD_le hv.1 hv.2; omega))) ?_
  refine dl_r (sem_pick rfl rfl rfl rfl) ?_
  refine dl_end ?_
  refine dw_false rfl ?_
  refine dw_skip ?_
  refine dw_seq ?_
  -- region 8
  refine dw_region (by kernel_rfl) ?_
  refine dl_r (sem_move rfl rfl) ?_
  refine dl_r (sem_conv' (r := r) und64 und2 rfl (nw64 (by omega) (by omega)) rfl) ?_
  refine dl_r (sem_assign rfl rfl) ?_
  refine dl_end ?_
  -- region 9
  refine dw_region (by kernel_rfl) ?_
  refine dl_r (sem_move rfl rfl) ?_
  refine dl_r (sem_field fd42_2 rfl rfl) ?_
  refine dl_r (sem_field fd23_0 rfl rfl) ?_
  refine dl_r (sem_load1 ty2 rfl rfl rfl rfl) ?_
  refine dl_r (sem_move rfl rfl) ?_
  refine dl_r (sem_ari (r := u + r) rfl rfl (ari_i64_add (by omega) (by omega)) rfl) ?_
  refine dl_r (sem_field fd42_2 rfl rfl) ?_
  refine dl_r (sem_field fd23_0 rfl rfl) ?_
  refine dl_r (sem_load1 ty2 rfl rfl rfl rfl) ?_
  refine dl_r (sem_move rfl rfl) ?_
  refine dl_r (sem_ari (r := u - r) rfl rfl (ari_i64_sub (by omega) (by omega)) rfl) ?_
  refine dl_r (sem_field fd42_2 rfl rfl) ?_
  refine dl_r (sem_field fd23_1 rfl rfl) ?_
  refine dl_r (sem_load1 ty2 rfl rfl rfl rfl) ?_
  refine dl_r (sem_move rfl rfl) ?_
  refine dl_r (sem_ari (r := v + r) rfl rfl (ari_i64_add (by omega) (by omega)) rfl) ?_
  refine dl_r (sem_field fd42_2 rfl rfl) ?_
  refine dl_r (sem_field fd23_1 rfl rfl) ?_
  refine dl_r (sem_load1 ty2 rfl rfl rfl rfl) ?_
  refine dl_r (sem_move rfl rfl) ?_
  refine dl_r (sem_ari (r := v - r) rfl rfl (ari_i64_sub (by omega) (by omega)) rfl) ?_
  refine dl_r (sem_slit_D (n := 4) (us := [.i .i64 (u + r)] ++ [.i .i64 (u - r)] ++ [.i .i64 (v + r)] ++ [.i .i64 (v - r)]) el62 rfl rfl rfl (by decide) (by decide) rfl) ?_
  refine dl_grow (us := [.i .i64 (u - dx * r)] ++ [.i .i64 (v - dy * r)] ++ [.i .i64 z] ++ [.i .i64 (u - dx * r)] ++ [.i .i64 (v - dy * r)] ++ [.i .i64 z]) (rest := []) (ys := [.i .i64 (u + r)] ++ [.i .i64 (u - r)] ++ [.i .i64 (v + r)] ++ [.i .i64 (v - r)]) el62 rfl rfl rfl (rfl) (by assumption) rfl (by decide) (by omega) (by assumption) (by omega) (g_max (by omega)) (.inr rfl) rfl (fun cg1 rg1 hga1 hgb1 hgc1 => ?_)
  refine dl_r (sem_assign rfl rfl) ?_
  refine dl_end ?_
  refine dw_seq ?_
  refine dw_seq ?_
  -- region 10
  refine dw_release (t := 5) (m := 1) (us := [.i .i64 (u - dx * r)] ++ [.i .i64 (v - dy * r)] ++ [.i .i64 z] ++ [.i .i64 (u - dx * r)] ++ [.i .i64 (v - dy * r)] ++ [.i .i64 z] ++ ([.i .i64 (u + r)] ++ [.i .i64 (u - r)] ++ [.i .i64 (v + r)] ++ [.i .i64 (v - r)])) rfl rfl (g_len (n := 6 + 4) (rfl) (by assumption) (by omega)) (by omega) (by assumption) (g_take (rfl)) ?_
  refine dw_region (by kernel_rfl) ?_
  refine dl_r (sem_move rfl rfl) ?_
  refine dl_r (sem_len sl62 rfl rfl) ?_
  refine dl_r (sem_move rfl rfl) ?_
  refine dl_end ?_
  refine dw_block ?_
  have hl : ([.i .i64 (u - dx * r)] ++ [.i .i64 (v - dy * r)] ++ [.i .i64 z] ++ [.i .i64 (u - dx * r)] ++ [.i .i64 (v - dy * r)] ++ [.i .i64 z] ++ ([.i .i64 (u + r)] ++ [.i .i64 (u - r)] ++ [.i .i64 (v + r)] ++ [.i .i64 (v - r)]) : List CellD).length = 10 * 1 := rfl
  generalize ([.i .i64 (u - dx * r)] ++ [.i .i64 (v - dy * r)] ++ [.i .i64 z] ++ [.i .i64 (u - dx * r)] ++ [.i .i64 (v - dy * r)] ++ [.i .i64 z] ++ ([.i .i64 (u + r)] ++ [.i .i64 (u - r)] ++ [.i .i64 (v + r)] ++ [.i .i64 (v - r)]) : List CellD) = fs at hFB hl ⊢
  have hJ := bdJ_isJ hFB
  refine dw_loop (ι := {j : Nat // j ≤ 10}) (fun i => ⟨91, [(81, .v (.c (.s 10 fs))), (82, .v (.c (.i .i64 10))), (83, .v (.c (.i .i64 (i.1 : Int))))], []⟩) (fun i => 10 - i.1) ⟨0, Nat.zero_le _⟩ (sub_of ⟨rfl, rfl, rfl, trivial⟩ trivial rfl) ?_
  rintro ⟨j, h2⟩
  replace h2 : j ≤ 10 := h2
  show Dw _ _ ⟨91, [(81, .v (.c (.s 10 fs))), (82, .v (.c (.i .i64 10))), (83, .v (.c (.i .i64 (j : Int))))], []⟩ _
  refine dw_seq ?_
  -- region 11
  refine dw_region (by kernel_rfl) ?_
  refine dl_r (sem_cmp rfl rfl rfl rfl) ?_
  refine dl_end ?_
  refine dw_seq ?_
  refine dw_cond rfl (fun hc2 => ?_) (fun hc2 => ?_)
  · have g1 : j < 10 := by have := of_decide_eq_true hc2; omega
    have g2 := ci_bd hFB j
    refine dw_skip ?_
    refine dw_seq ?_
    refine dw_block ?_
    refine dw_seq ?_
    -- region 12
    refine dw_region (by kernel_rfl) ?_
    refine dl_r (sem_index (us := [.i .i64 (ci fs j)] ++ fs.drop (j + 1)) sl62 rfl rfl (by omega) (hl) (ci_drop1 hl hJ (by omega)) rfl) ?_
    refine dl_r (sem_loadq1 ty2 rfl rfl rfl) ?_
    refine dl_r (sem_assign rfl rfl) ?_
    refine dl_end ?_
    refine dw_seq ?_
    -- region 13
    refine dw_region (by kernel_rfl) ?_
    refine dl_r (sem_move rfl rfl) ?_
    refine dl_r (sem_call rfl rfl (iAp_ok (by omega) (by omega)) rfl) ?_
    refine dl_r (sem_castb (c := false) (sem_cmp rfl rfl rfl rfl) (decide_eq_false (by have h9 := apD_le g2.1 g2.2; omega))) ?_
    refine dl_end ?_
    refine dw_false rfl ?_
    refine dw_skip ?_
    -- region 15
    refine dw_region (by kernel_rfl) ?_
    refine dl_r (sem_ari (r := ((j + 1 : Nat) : Int)) rfl rfl ((ari_i64_add (by omega) (by omega)).trans (congrArg some (by omega))) rfl) ?_
    refine dl_r (sem_move rfl rfl) ?_
    refine dl_end ?_
    exact ⟨⟨j + 1, g1⟩, sub_of ⟨rfl, rfl, rfl, trivial⟩ trivial rfl, by show 10 - (j + 1) < 10 - j; omega⟩
  · refine dw_exit ?_
    refine dw_seq ?_
    -- region 16
    refine dw_region (by kernel_rfl) ?_
    refine dl_r (sem_assign rfl rfl) ?_
    refine dl_end ?_
    refine dw_ret ?_
    -- path F
    exact ⟨.inr rfl, (resL_tmp rfl resL_nil)⟩
theorem iVal_2 {p q w x y z f : Int} (hf : 1 ≤ f) (k0 : -10000000 ≤ p ∧ p ≤ 10000000) (k1 : -10000000 ≤ q ∧ q ≤ 10000000) (k2 : -10000000 ≤ w ∧ w ≤ 10000000) (k3 : -10000000 ≤ x ∧ x ≤ 10000000) (k4 : -10000000 ≤ y ∧ y ≤ 10000000) (k5 : -10000000 ≤ z ∧ z ≤ 10000000) : Ok Try.prog 16 [.a ([.i .i64 p] ++ [.i .i64 q] ++ [.i .i64 w]), .a ([.i .i64 2] ++ ([.i .i64 x] ++ [.i .i64 y] ++ [.i .i64 z]) ++ ([.i .i64 0] ++ [.i .i64 0]) ++ [.i .i64 f])] [.c (.i .i64 0)] := by
  have hz0 : ([] : List CellD).length = (6 - 6) * 1 := rfl
  have hz1 : 6 ≤ maxLen := by decide
  have hFB : ([.i .i64 p] ++ [.i .i64 q] ++ [.i .i64 w] ++ [.i .i64 x] ++ [.i .i64 y] ++ [.i .i64 z] : List CellD).all bdJ = true := bd_app (bd_app (bd_app (bd_app (bd_app (bd_one (k0)) (bd_one (k1))) (bd_one (k2))) (bd_one (k3))) (bd_one (k4))) (bd_one (k5))
  refine Ok.of (by kernel_rfl) Try.func16 rfl rfl ?_
  rw [show Try.f16.ntmps = 91 from rfl, show Try.f16.results.toList = [.tmp 4] from rfl]
  refine dw_seq ?_
  -- region 0
  refine dw_region (by kernel_rfl) ?_
  refine dl_new (sem_box_a rfl rfl) rfl ?_
  refine dl_new (sem_box_a rfl rfl) rfl ?_
  refine dl_r (sem_assign rfl rfl) ?_
  refine dl_end ?_
  refine dw_seq ?_
  refine dw_seq ?_
  -- region 1
  refine dw_region (by kernel_rfl) ?_
  refine dl_r (sem_load (us := ([.i .i64 p] ++ [.i .i64 q] ++ [.i .i64 w])) ty37 rfl rfl rfl rfl rfl) ?_
  refine dl_r (sem_load (us := ([.i .i64 2] ++ ([.i .i64 x] ++ [.i .i64 y] ++ [.i .i64 z]) ++ ([.i .i64 0] ++ [.i .i64 0]) ++ [.i .i64 f])) ty42 rfl rfl rfl rfl rfl) ?_
  refine dl_r (sem_call rfl rfl (iRt_2 hf) rfl) ?_
  refine dl_r (sem_not rfl rfl) ?_
  refine dl_end ?_
  refine dw_false rfl ?_
  refine dw_skip ?_
  refine dw_seq ?_
  -- region 3
  refine dw_region (by kernel_rfl) ?_
  refine dl_r (sem_field fd37_0 rfl rfl) ?_
  refine dl_r (sem_load1 ty2 rfl rfl rfl rfl) ?_
  refine dl_r (sem_field fd37_1 rfl rfl) ?_
  refine dl_r (sem_load1 ty2 rfl rfl rfl rfl) ?_
  refine dl_r (sem_field fd37_2 rfl rfl) ?_
  refine dl_r (sem_load1 ty2 rfl rfl rfl rfl) ?_
  refine dl_r (sem_field fd42_1 rfl rfl) ?_
  refine dl_r (sem_field fd37_0 rfl rfl) ?_
  refine dl_r (sem_load1 ty2 rfl rfl rfl rfl) ?_
  refine dl_r (sem_field fd42_1 rfl rfl) ?_
  refine dl_r (sem_field fd37_1 rfl rfl) ?_
  refine dl_r (sem_load1 ty2 rfl rfl rfl rfl) ?_
  refine dl_r (sem_field fd42_1 rfl rfl) ?_
  refine dl_r (sem_field fd37_2 rfl rfl) ?_
  refine dl_r (sem_load1 ty2 rfl rfl rfl rfl) ?_
  refine dl_mk (sem_slit (us := [.i .i64 p] ++ [.i .i64 q] ++ [.i .i64 w] ++ [.i .i64 x] ++ [.i .i64 y] ++ [.i .i64 z]) el62 rfl rfl (by decide) (by decide) rfl) rfl ?_
  refine dl_r (sem_assign rfl rfl) ?_
  refine dl_end ?_
  refine dw_seq ?_
  refine dw_seq ?_
  -- region 4
  refine dw_region (by kernel_rfl) ?_
  refine dl_r (sem_load (us := ([.i .i64 2] ++ ([.i .i64 x] ++ [.i .i64 y] ++ [.i .i64 z]) ++ ([.i .i64 0] ++ [.i .i64 0]) ++ [.i .i64 f])) ty42 rfl rfl rfl rfl rfl) ?_
  refine dl_r (sem_call rfl rfl (iArc_2) rfl) ?_
  refine dl_end ?_
  refine dw_false rfl ?_
  refine dw_skip ?_
  refine dw_seq ?_
  refine dw_seq ?_
  -- region 10
  refine dw_release (t := 5) (m := 1) (us := [.i .i64 p] ++ [.i .i64 q] ++ [.i .i64 w] ++ [.i .i64 x] ++ [.i .i64 y] ++ [.i .i64 z]) rfl rfl rfl (by decide) (by decide) rfl ?_
  refine dw_region (by kernel_rfl) ?_
  refine dl_r (sem_move rfl rfl) ?_
  refine dl_r (sem_len sl62 rfl rfl) ?_
  refine dl_r (sem_move rfl rfl) ?_
  refine dl_end ?_
  refine dw_block ?_
  have hl : ([.i .i64 p] ++ [.i .i64 q] ++ [.i .i64 w] ++ [.i .i64 x] ++ [.i .i64 y] ++ [.i .i64 z] : List CellD).length = 6 * 1 := rfl
  generalize ([.i .i64 p] ++ [.i .i64 q] ++ [.i .i64 w] ++ [.i .i64 x] ++ [.i .i64 y] ++ [.i .i64 z] : List CellD) = fs at hFB hl ⊢
  have hJ := bdJ_isJ hFB
  refine dw_loop (ι := {j : Nat // j ≤ 6}) (fun i => ⟨91, [(81, .v (.c (.s 6 fs))), (82, .v (.c (.i .i64 6))), (83, .v (.c (.i .i64 (i.1 : Int))))], []⟩) (fun i => 6 - i.1) ⟨0, Nat.zero_le _⟩ (sub_of ⟨rfl, rfl, rfl, trivial⟩ trivial rfl) ?_
  rintro ⟨j, h2⟩
  replace h2 : j ≤ 6 := h2
  show Dw _ _ ⟨91, [(81, .v (.c (.s 6 fs))), (82, .v (.c (.i .i64 6))), (83, .v (.c (.i .i64 (j : Int))))], []⟩ _
  refine dw_seq ?_
  -- region 11
  refine dw_region (by kernel_rfl) ?_
  refine dl_r (sem_cmp rfl rfl rfl rfl) ?_
  refine dl_end ?_
  refine dw_seq ?_
  refine dw_cond rfl (fun hc1 => ?_) (fun hc1 => ?_)
  · have g1 : j < 6 := by have := of_decide_eq_true hc1; omega
    have g2 := ci_bd hFB j
    refine dw_skip ?_
    refine dw_seq ?_
    refine dw_block ?_
    refine dw_seq ?_
    -- region 12
    refine dw_region (by kernel_rfl) ?_
    refine dl_r (sem_index (us := [.i .i64 (ci fs j)] ++ fs.drop (j + 1)) sl62 rfl rfl (by omega) (hl) (ci_drop1 hl hJ (by omega)) rfl) ?_
    refine dl_r (sem_loadq1 ty2 rfl rfl rfl) ?_
    refine dl_r (sem_assign rfl rfl) ?_
    refine dl_end ?_
    refine dw_seq ?_
    -- region 13
    refine dw_region (by kernel_rfl) ?_
    refine dl_r (sem_move rfl rfl) ?_
    refine dl_r (sem_call rfl rfl (iAp_ok (by omega) (by omega)) rfl) ?_
    refine dl_r (sem_castb (c := false) (sem_cmp rfl rfl rfl rfl) (decide_eq_false (by have h9 := apD_le g2.1 g2.2; omega))) ?_
    refine dl_end ?_
    refine dw_false rfl ?_
    refine dw_skip ?_
    -- region 15
    refine dw_region (by kernel_rfl) ?_
    refine dl_r (sem_ari (r := ((j + 1 : Nat) : Int)) rfl rfl ((ari_i64_add (by omega) (by omega)).trans (congrArg some (by omega))) rfl) ?_
    refine dl_r (sem_move rfl rfl) ?_
    refine dl_end ?_
    exact ⟨⟨j + 1, g1⟩, sub_of ⟨rfl, rfl, rfl, trivial⟩ trivial rfl, by show 6 - (j + 1) < 6 - j; omega⟩
  · refine dw_exit ?_
    refine dw_seq ?_
    -- region 16
    refine dw_region (by kernel_rfl) ?_
    refine dl_r (sem_assign rfl rfl) ?_
    refine dl_end ?_
    refine dw_ret ?_
    -- path F
    exact ⟨.inr rfl, (resL_tmp rfl resL_nil)⟩
end Go.Proofs.Ytonjlikaacengaa
/- The law of the moves at any answers. -/
namespace Go.Proofs.Ytonjlikaacengaa
open Go Go.RowKit
theorem mv_valid {a1 a2 L dx dy r s z f : Int} {k : Nat} (hL : 1 ≤ L) (hd : Dir dx dy) (hr : 1 ≤ r) (hs : 1 ≤ s) (hf : 1 ≤ f) (hk : (k : Int) = (L - 1) / s) (q1 : rnd a1 a2 r = true) (q2 : rnd (a1 + L * dx) (a2 + L * dy) r = true) (q3 : far z = false) {q : Nat} (hq : q < 2 * (k + 1) + 1) :
    Ok Try.prog 16 [.a ([.i .i64 (ci (ctb a1 a2 dx dy L s k) (q / 2 * 2) - dx * r)] ++ [.i .i64 (ci (ctb a1 a2 dx dy L s k) (q / 2 * 2 + 1) - dy * r)] ++ [.i .i64 z]), .a (me (ctb a1 a2 dx dy L s k) dx dy r z f q)] [.c (.i .i64 0)] := by
  have g1 := (rnd_iff _ _ _).1 q1
  have g2 := (rnd_iff _ _ _).1 q2
  have g3 := far_n q3
  obtain ⟨t, t0, t1, _, _, e1, e2⟩ := ctb_at (a1 := a1) (a2 := a2) (dx := dx) (dy := dy) hL hs hk (j := q / 2) (by omega)
  rcases Nat.mod_two_eq_zero_or_one q with h | h
  · have e3 : (q + 1) / 2 = q / 2 := by omega
    have e4 : me (ctb a1 a2 dx dy L s k) dx dy r z f q = [.i .i64 4] ++ ([.i .i64 (ci (ctb a1 a2 dx dy L s k) (q / 2 * 2) - dx * r)] ++ [.i .i64 (ci (ctb a1 a2 dx dy L s k) (q / 2 * 2 + 1) - dy * r)] ++ [.i .i64 z]) ++ ([.i .i64 (ci (ctb a1 a2 dx dy L s k) (q / 2 * 2))] ++ [.i .i64 (ci (ctb a1 a2 dx dy L s k) (q / 2 * 2 + 1))]) ++ [.i .i64 f] := by
      unfold me kd cnX cnY
      rw [h, e3]; rfl
    rw [e4]
    generalize ci (ctb a1 a2 dx dy L s k) (q / 2 * 2) = X at *
    generalize ci (ctb a1 a2 dx dy L s k) (q / 2 * 2 + 1) = Y at *
    exact iVal_4 hd (by omega) hf (by (rcases hd with ⟨rfl, rfl⟩ | ⟨rfl, rfl⟩ | ⟨rfl, rfl⟩ | ⟨rfl, rfl⟩ <;> omega)) (by (rcases hd with ⟨rfl, rfl⟩ | ⟨rfl, rfl⟩ | ⟨rfl, rfl⟩ | ⟨rfl, rfl⟩ <;> omega)) g3 (by (rcases hd with ⟨rfl, rfl⟩ | ⟨rfl, rfl⟩ | ⟨rfl, rfl⟩ | ⟨rfl, rfl⟩ <;> omega)) (by (rcases hd with ⟨rfl, rfl⟩ | ⟨rfl, rfl⟩ | ⟨rfl, rfl⟩ | ⟨rfl, rfl⟩ <;> omega))
  · obtain ⟨t', t0', t1', _, _, e1', e2'⟩ := ctb_at (a1 := a1) (a2 := a2) (dx := dx) (dy := dy) hL hs hk (j := (q + 1) / 2) (by omega)
    have e4 : me (ctb a1 a2 dx dy L s k) dx dy r z f q = [.i .i64 2] ++ ([.i .i64 (ci (ctb a1 a2 dx dy L s k) ((q + 1) / 2 * 2) - dx * r)] ++ [.i .i64 (ci (ctb a1 a2 dx dy L s k) ((q + 1) / 2 * 2 + 1) - dy * r)] ++ [.i .i64 z]) ++ ([.i .i64 0] ++ [.i .i64 0]) ++ [.i .i64 f] := by
      unfold me kd cnX cnY
      rw [h]; rfl
    rw [e4]
    generalize ci (ctb a1 a2 dx dy L s k) (q / 2 * 2) = X at *
    generalize ci (ctb a1 a2 dx dy L s k) (q / 2 * 2 + 1) = Y at *
    generalize ci (ctb a1 a2 dx dy L s k) ((q + 1) / 2 * 2) = X' at *
    generalize ci (ctb a1 a2 dx dy L s k) ((q + 1) / 2 * 2 + 1) = Y' at *
    exact iVal_2 hf (by (rcases hd with ⟨rfl, rfl⟩ | ⟨rfl, rfl⟩ | ⟨rfl, rfl⟩ | ⟨rfl, rfl⟩ <;> omega)) (by (rcases hd with ⟨rfl, rfl⟩ | ⟨rfl, rfl⟩ | ⟨rfl, rfl⟩ | ⟨rfl, rfl⟩ <;> omega)) g3 (by (rcases hd with ⟨rfl, rfl⟩ | ⟨rfl, rfl⟩ | ⟨rfl, rfl⟩ | ⟨rfl, rfl⟩ <;> omega)) (by (rcases hd with ⟨rfl, rfl⟩ | ⟨rfl, rfl⟩ | ⟨rfl, rfl⟩ | ⟨rfl, rfl⟩ <;> omega)) g3
theorem tS_0 {a1 a2 L dx dy r s z : Int} {k : Nat} (hL : 1 ≤ L) (hd : Dir dx dy) (hr : 1 ≤ r) (hs : 1 ≤ s) (hk : (k : Int) = (L - 1) / s) (q1 : rnd a1 a2 r = true) (q2 : rnd (a1 + L * dx) (a2 + L * dy) r = true) (q3 : far z = false) : Ok Try.prog 13 [.a ([.i .i64 a1] ++ [.i .i64 a2]), .a ([.i .i64 (a1 + L * dx)] ++ [.i .i64 (a2 + L * dy)]), .c (.i .i64 r), .c (.i .i64 z)]
    [.a ([.i .i64 (ci (ctb a1 a2 dx dy L s k) (0 / 2 * 2) - dx * r)] ++ [.i .i64 (ci (ctb a1 a2 dx dy L s k) (0 / 2 * 2 + 1) - dy * r)] ++ [.i .i64 z]), .c (.i .i64 0)] := by
  obtain ⟨t, _, _, t0, _, e1, e2⟩ := ctb_at (a1 := a1) (a2 := a2) (dx := dx) (dy := dy) hL hs hk (j := 0) (by omega)
  rw [t0 rfl, Int.mul_zero, Int.add_zero] at e1 e2
  rw [show ci (ctb a1 a2 dx dy L s k) (0 / 2 * 2) = a1 from e1, show ci (ctb a1 a2 dx dy L s k) (0 / 2 * 2 + 1) = a2 from e2]
  exact tS_ok hL hd hr q1 q2 q3
theorem lMv_e {a1 a2 b1 b2 r s z f : Int} {n : Nat} {us : List CellD} {e : Int} {β : Bool} (he : e ≠ 0) (hF : Ok Try.prog 7 [.a (([.i .i64 a1] ++ [.i .i64 a2]) ++ ([.i .i64 b1] ++ [.i .i64 b2]) ++ [.i .i64 r] ++ [.i .i64 s] ++ [.i .i64 z] ++ [.i .i64 f])] [.c (.b β)]) (hP : Ok Try.prog 11 [.a ([.i .i64 a1] ++ [.i .i64 a2]), .a ([.i .i64 b1] ++ [.i .i64 b2]), .c (.i .i64 r), .c (.i .i64 s), .c (.i .i64 z), .c (.i .i64 f)] [.c (.s n us), .c (.i .i64 e)]) : Ok Try.prog 5 [.a (([.i .i64 a1] ++ [.i .i64 a2]) ++ ([.i .i64 b1] ++ [.i .i64 b2]) ++ [.i .i64 r] ++ [.i .i64 s] ++ [.i .i64 z] ++ [.i .i64 f])] [.c (.b true)] := by
  refine Ok.of (by kernel_rfl) Try.func5 rfl rfl ?_
  rw [show Try.f5.ntmps = 118 from rfl, show Try.f5.results.toList = [.tmp 2] from rfl]
  refine dw_seq ?_
  -- region 0
  refine dw_region (by kernel_rfl) ?_
  refine dl_new (sem_box_a rfl rfl) rfl ?_
  refine dl_r (sem_assign rfl rfl) ?_
  refine dl_end ?_
  refine dw_seq ?_
  refine dw_seq ?_
  -- region 1
  refine dw_region (by kernel_rfl) ?_
  refine dl_r (sem_call rfl rfl (lAwake_ok) rfl) ?_
  refine dl_r (sem_not rfl rfl) ?_
  refine dl_r (sem_move rfl rfl) ?_
  refine dl_r (sem_load (us := (([.i .i64 a1] ++ [.i .i64 a2]) ++ ([.i .i64 b1] ++ [.i .i64 b2]) ++ [.i .i64 r] ++ [.i .i64 s] ++ [.i .i64 z] ++ [.i .i64 f])) ty25 rfl rfl rfl rfl rfl) ?_
  refine dl_r (sem_call rfl rfl (hF) rfl) ?_
  refine dl_r (sem_not rfl rfl) ?_
  refine dl_r (sem_pick rfl rfl rfl rfl) ?_
  refine dl_end ?_
  refine dw_cond rfl (fun hc1 => ?_) (fun hc1 => ?_)
  · refine dw_seq ?_
    -- region 2
    refine dw_region (by kernel_rfl) ?_
    refine dl_r (sem_call rfl rfl (lAwake_ok) rfl) ?_
    refine dl_r (sem_assign rfl rfl) ?_
    refine dl_end ?_
    refine dw_ret ?_
    -- path T
    exact ⟨.inr rfl, (resL_tmp rfl resL_nil)⟩
  · refine dw_skip ?_
    refine dw_seq ?_
    -- region 3
    refine dw_region (by kernel_rfl) ?_
    refine dl_r (sem_field fd25_0 rfl rfl) ?_
    refine dl_r (sem_load (us := ([.i .i64 a1] ++ [.i .i64 a2])) ty23 rfl rfl rfl rfl rfl) ?_
    refine dl_r (sem_field fd25_1 rfl rfl) ?_
    refine dl_r (sem_load (us := ([.i .i64 b1] ++ [.i .i64 b2])) ty23 rfl rfl rfl rfl rfl) ?_
    refine dl_r (sem_field fd25_2 rfl rfl) ?_
    refine dl_r (sem_load1 ty2 rfl rfl rfl rfl) ?_
    refine dl_r (sem_field fd25_3 rfl rfl) ?_
    refine dl_r (sem_load1 ty2 rfl rfl rfl rfl) ?_
    refine dl_r (sem_field fd25_4 rfl rfl) ?_
    refine dl_r (sem_load1 ty2 rfl rfl rfl rfl) ?_
    refine dl_r (sem_field fd25_5 rfl rfl) ?_
    refine dl_r (sem_load1 ty2 rfl rfl rfl rfl) ?_
    refine dl_r (sem_call rfl rfl (hP) rfl) ?_
    refine dl_r (sem_move rfl rfl) ?_
    refine dl_r (sem_extract rfl rfl rfl) ?_
    refine dl_r (sem_extract rfl rfl rfl) ?_
    refine dl_r (sem_assign rfl rfl) ?_
    refine dl_r (sem_assign rfl rfl) ?_
    refine dl_end ?_
    refine dw_seq ?_
    refine dw_seq ?_
    -- region 4
    refine dw_region (by kernel_rfl) ?_
    refine dl_r (sem_move rfl rfl) ?_
    refine dl_r (sem_castb (c := true) (sem_cmp rfl rfl rfl rfl) (by simp [he])) ?_
    refine dl_r (sem_move rfl rfl) ?_
    refine dl_skip (sem_skip rfl) ?_
    refine dl_skip (sem_skip rfl) ?_
    refine dl_skip (sem_skip rfl) ?_
    refine dl_r (sem_pick rfl rfl rfl rfl) ?_
    refine dl_end ?_
    refine dw_true rfl ?_
    refine dw_seq ?_
    -- region 5
    refine dw_region (by kernel_rfl) ?_
    refine dl_r (sem_assign rfl rfl) ?_
    refine dl_end ?_
    refine dw_ret ?_
    -- path F
    exact ⟨.inr rfl, (resL_tmp rfl resL_nil)⟩
theorem lMv_ok {a1 a2 L dx dy r s z f : Int} {k : Nat} (hL : 1 ≤ L) (hd : Dir dx dy) (hr : 1 ≤ r) (hs : 1 ≤ s) (hf : 1 ≤ f) (hsr : s ≤ r) (hk : (k : Int) = (L - 1) / s) (q1 : rnd a1 a2 r = true) (q2 : rnd (a1 + L * dx) (a2 + L * dy) r = true) (q3 : far z = false) {x y u g : Int} {β : Bool} (hfit : (L - 1) / s + 2 ≤ 10000) (hF : Ok Try.prog 7 [.a (([.i .i64 a1] ++ [.i .i64 a2]) ++ ([.i .i64 (a1 + L * dx)] ++ [.i .i64 (a2 + L * dy)]) ++ [.i .i64 r] ++ [.i .i64 s] ++ [.i .i64 z] ++ [.i .i64 f])] [.c (.b β)]) (hLs : Ok Try.prog 13 [.a ([.i .i64 (a1 + L * dx)] ++ [.i .i64 (a2 + L * dy)]), .a ([.i .i64 (2 * (a1 + L * dx) - a1)] ++ [.i .i64 (2 * (a2 + L * dy) - a2)]), .c (.i .i64 r), .c (.i .i64 z)] [.a ([.i .i64 x] ++ [.i .i64 y] ++ [.i .i64 u]), .c (.i .i64 g)]) (hg : g = 0 → x = a1 + L * dx - dx * r ∧ y = a2 + L * dy - dy * r ∧ u = z) : Ok Try.prog 5 [.a (([.i .i64 a1] ++ [.i .i64 a2]) ++ ([.i .i64 (a1 + L * dx)] ++ [.i .i64 (a2 + L * dy)]) ++ [.i .i64 r] ++ [.i .i64 s] ++ [.i .i64 z] ++ [.i .i64 f])] [.c (.b true)] := by
  have g1 := (rnd_iff _ _ _).1 q1
  have g2 := (rnd_iff _ _ _).1 q2
  have r1 : -10000000 ≤ a1 ∧ a1 ≤ 10000000 := by omega
  have r2 : -10000000 ≤ a2 ∧ a2 ≤ 10000000 := by omega
  have r3 : -10000000 ≤ a1 + L * dx ∧ a1 + L * dx ≤ 10000000 := by omega
  have r4 : -10000000 ≤ a2 + L * dy ∧ a2 + L * dy ≤ 10000000 := by omega
  have hq := q_bd hL hs
  have hk2 : k ≤ 9998 := by omega
  refine Ok.of (by kernel_rfl) Try.func5 rfl rfl ?_
  rw [show Try.f5.ntmps = 118 from rfl, show Try.f5.results.toList = [.tmp 2] from rfl]
  refine dw_seq ?_
  -- region 0
  refine dw_region (by kernel_rfl) ?_
  refine dl_new (sem_box_a rfl rfl) rfl ?_
  refine dl_r (sem_assign rfl rfl) ?_
  refine dl_end ?_
  refine dw_seq ?_
  refine dw_seq ?_
  -- region 1
  refine dw_region (by kernel_rfl) ?_
  refine dl_r (sem_call rfl rfl (lAwake_ok) rfl) ?_
  refine dl_r (sem_not rfl rfl) ?_
  refine dl_r (sem_move rfl rfl) ?_
  refine dl_r (sem_load (us := (([.i .i64 a1] ++ [.i .i64 a2]) ++ ([.i .i64 (a1 + L * dx)] ++ [.i .i64 (a2 + L * dy)]) ++ [.i .i64 r] ++ [.i .i64 s] ++ [.i .i64 z] ++ [.i .i64 f])) ty25 rfl rfl rfl rfl rfl) ?_
  refine dl_r (sem_call rfl rfl (hF) rfl) ?_
  refine dl_r (sem_not rfl rfl) ?_
  refine dl_r (sem_pick rfl rfl rfl rfl) ?_
  refine dl_end ?_
  refine dw_cond rfl (fun hc1 => ?_) (fun hc1 => ?_)
  · refine dw_seq ?_
    -- region 2
    refine dw_region (by kernel_rfl) ?_
    refine dl_r (sem_call rfl rfl (lAwake_ok) rfl) ?_
    refine dl_r (sem_assign rfl rfl) ?_
    refine dl_end ?_
    refine dw_ret ?_
    -- path T
    exact ⟨.inr rfl, (resL_tmp rfl resL_nil)⟩
  · refine dw_skip ?_
    refine dw_seq ?_
    -- region 3
    refine dw_region (by kernel_rfl) ?_
    refine dl_r (sem_field fd25_0 rfl rfl) ?_
    refine dl_r (sem_load (us := ([.i .i64 a1] ++ [.i .i64 a2])) ty23 rfl rfl rfl rfl rfl) ?_
    refine dl_r (sem_field fd25_1 rfl rfl) ?_
    refine dl_r (sem_load (us := ([.i .i64 (a1 + L * dx)] ++ [.i .i64 (a2 + L * dy)])) ty23 rfl rfl rfl rfl rfl) ?_
    refine dl_r (sem_field fd25_2 rfl rfl) ?_
    refine dl_r (sem_load1 ty2 rfl rfl rfl rfl) ?_
    refine dl_r (sem_field fd25_3 rfl rfl) ?_
    refine dl_r (sem_load1 ty2 rfl rfl rfl rfl) ?_
    refine dl_r (sem_field fd25_4 rfl rfl) ?_
    refine dl_r (sem_load1 ty2 rfl rfl rfl rfl) ?_
    refine dl_r (sem_field fd25_5 rfl rfl) ?_
    refine dl_r (sem_load1 ty2 rfl rfl rfl rfl) ?_
    refine dl_r (sem_call rfl rfl (tP_ok hL hd hr hs hf hsr hk q1 q2 q3 hfit) rfl) ?_
    refine dl_r (sem_move rfl rfl) ?_
    refine dl_r (sem_extract rfl rfl rfl) ?_
    refine dl_r (sem_extract rfl rfl rfl) ?_
    refine dl_r (sem_assign rfl rfl) ?_
    refine dl_r (sem_assign rfl rfl) ?_
    refine dl_end ?_
    refine dw_seq ?_
    refine dw_seq ?_
    -- region 4
    refine dw_region (by kernel_rfl) ?_
    refine dl_r (sem_move rfl rfl) ?_
    refine dl_r (sem_cmp rfl rfl rfl rfl) ?_
    refine dl_r (sem_move rfl rfl) ?_
    refine dl_r (sem_move rfl rfl) ?_
    refine dl_r (sem_len sl33 rfl rfl) ?_
    refine dl_r (sem_cmp rfl rfl rfl rfl) ?_
    refine dl_r (sem_pick rfl rfl rfl rfl) ?_
    refine dl_end ?_
    refine dw_cond rfl (fun hc2 => ?_) (fun hc2 => ?_)
    · refine dw_seq ?_
      -- region 5
      refine dw_region (by kernel_rfl) ?_
      refine dl_r (sem_assign rfl rfl) ?_
      refine dl_end ?_
      refine dw_ret ?_
      -- path FT
      exact ⟨.inr rfl, (resL_tmp rfl resL_nil)⟩
    · refine dw_skip ?_
      refine dw_seq ?_
      -- region 6
      refine dw_region (by kernel_rfl) ?_
      refine dl_r (sem_field fd25_0 rfl rfl) ?_
      refine dl_r (sem_load (us := ([.i .i64 a1] ++ [.i .i64 a2])) ty23 rfl rfl rfl rfl rfl) ?_
      refine dl_r (sem_field fd25_1 rfl rfl) ?_
      refine dl_r (sem_load (us := ([.i .i64 (a1 + L * dx)] ++ [.i .i64 (a2 + L * dy)])) ty23 rfl rfl rfl rfl rfl) ?_
      refine dl_r (sem_field fd25_2 rfl rfl) ?_
      refine dl_r (sem_load1 ty2 rfl rfl rfl rfl) ?_
      refine dl_r (sem_field fd25_4 rfl rfl) ?_
      refine dl_r (sem_load1 ty2 rfl rfl rfl rfl) ?_
      refine dl_r (sem_call rfl rfl (tS_0 hL hd hr hs hk q1 q2 q3) rfl) ?_
      refine dl_r (sem_move rfl rfl) ?_
      refine dl_r (sem_extract rfl rfl rfl) ?_
      refine dl_r (sem_extract rfl rfl rfl) ?_
      refine dl_new (sem_alloc zc37 rfl) rfl ?_
      refine dl_st (sem_store_a ty37 rfl rfl rfl rfl rfl rfl) ?_
      refine dl_r (sem_assign rfl rfl) ?_
      refine dl_end ?_
      refine dw_seq ?_
      -- region 7
      refine dw_region (by kernel_rfl) ?_
      refine dl_r (sem_field fd25_1 rfl rfl) ?_
      refine dl_r (sem_load (us := ([.i .i64 (a1 + L * dx)] ++ [.i .i64 (a2 + L * dy)])) ty23 rfl rfl rfl rfl rfl) ?_
      refine dl_r (sem_field fd25_1 rfl rfl) ?_
      refine dl_r (sem_field fd23_0 rfl rfl) ?_
      refine dl_r (sem_load1 ty2 rfl rfl rfl rfl) ?_
      refine dl_r (sem_ari (r := 2 * (a1 + L * dx)) rfl rfl (ari_i64_mul (by omega) (by omega)) rfl) ?_
      refine dl_r (sem_field fd25_0 rfl rfl) ?_
      refine dl_r (sem_field fd23_0 rfl rfl) ?_
      refine dl_r (sem_load1 ty2 rfl rfl rfl rfl) ?_
      refine dl_r (sem_ari (r := (2 * (a1 + L * dx)) - a1) rfl rfl (ari_i64_sub (by omega) (by omega)) rfl) ?_
      refine dl_r (sem_field fd25_1 rfl rfl) ?_
      refine dl_r (sem_field fd23_1 rfl rfl) ?_
      refine dl_r (sem_load1 ty2 rfl rfl rfl rfl) ?_
      refine dl_r (sem_ari (r := 2 * (a2 + L * dy)) rfl rfl (ari_i64_mul (by omega) (by omega)) rfl) ?_
      refine dl_r (sem_field fd25_0 rfl rfl) ?_
      refine dl_r (sem_field fd23_1 rfl rfl) ?_
      refine dl_r (sem_load1 ty2 rfl rfl rfl rfl) ?_
      refine dl_r (sem_ari (r := (2 * (a2 + L * dy)) - a2) rfl rfl (ari_i64_sub (by omega) (by omega)) rfl) ?_
      refine dl_r (sem_build (us := ([.i .i64 ((2 * (a1 + L * dx)) - a1)] ++ [.i .i64 ((2 * (a2 + L * dy)) - a2)])) fs23 zc23 rfl rfl rfl) ?_
      refine dl_r (sem_field fd25_2 rfl rfl) ?_
      refine dl_r (sem_load1 ty2 rfl rfl rfl rfl) ?_
      refine dl_r (sem_field fd25_4 rfl rfl) ?_
      refine dl_r (sem_load1 ty2 rfl rfl rfl rfl) ?_
      refine dl_r (sem_call rfl rfl (hLs) rfl) ?_
      refine dl_r (sem_move rfl rfl) ?_
      refine dl_r (sem_extract rfl rfl rfl) ?_
      refine dl_r (sem_extract rfl rfl rfl) ?_
      refine dl_new (sem_alloc zc37 rfl) rfl ?_
      refine dl_st (sem_store_a ty37 rfl rfl rfl rfl rfl rfl) ?_
      refine dl_r (sem_assign rfl rfl) ?_
      refine dl_end ?_
      refine dw_seq ?_
      refine dw_seq ?_
      -- region 8
      refine dw_region (by kernel_rfl) ?_
      refine dl_r (sem_move rfl rfl) ?_
      refine dl_r (sem_cmp rfl rfl rfl rfl) ?_
      refine dl_end ?_
      refine dw_false rfl ?_
      refine dw_skip ?_
      refine dw_seq ?_
      refine dw_seq ?_
      -- region 10
      refine dw_region (by kernel_rfl) ?_
      refine dl_r (sem_move rfl rfl) ?_
      refine dl_r (sem_len sl33 rfl rfl) ?_
      refine dl_r (sem_move rfl rfl) ?_
      refine dl_end ?_
      refine dw_block ?_
      refine dw_loop (ι := {q : Nat // q ≤ 2 * (k + 1) + 1}) (fun i => ⟨118, [(1, .p 1 0), (5, .p 5 0), (7, .p 7 0), (8, .v (.c (.i .i64 g))), (83, .v (.c (.s (2 * (k + 1) + 1) (pth (ctb a1 a2 dx dy L s k) dx dy r z f (k + 1))))), (84, .v (.c (.i .i64 (((2 * (k + 1) + 1 : Nat) : Int))))), (85, .v (.c (.i .i64 (i.1 : Int))))], [(1, 25, (([.i .i64 a1] ++ [.i .i64 a2]) ++ ([.i .i64 (a1 + L * dx)] ++ [.i .i64 (a2 + L * dy)]) ++ [.i .i64 r] ++ [.i .i64 s] ++ [.i .i64 z] ++ [.i .i64 f])), (5, 37, ([.i .i64 (ci (ctb a1 a2 dx dy L s k) (i.1 / 2 * 2) - dx * r)] ++ [.i .i64 (ci (ctb a1 a2 dx dy L s k) (i.1 / 2 * 2 + 1) - dy * r)] ++ [.i .i64 z])), (7, 37, ([.i .i64 x] ++ [.i .i64 y] ++ [.i .i64 u]))]⟩) (fun i => 2 * (k + 1) + 1 - i.1) ⟨0, Nat.zero_le _⟩ (sub_of ⟨rfl, rfl, rfl, rfl, rfl, rfl, rfl, trivial⟩ ⟨rfl, rfl, rfl, trivial⟩ rfl) ?_
      rintro ⟨q, h2⟩
      replace h2 : q ≤ 2 * (k + 1) + 1 := h2
      show Dw _ _ ⟨118, [(1, .p 1 0), (5, .p 5 0), (7, .p 7 0), (8, .v (.c (.i .i64 g))), (83, .v (.c (.s (2 * (k + 1) + 1) (pth (ctb a1 a2 dx dy L s k) dx dy r z f (k + 1))))), (84, .v (.c (.i .i64 (((2 * (k + 1) + 1 : Nat) : Int))))), (85, .v (.c (.i .i64 (q : Int))))], [(1, 25, (([.i .i64 a1] ++ [.i .i64 a2]) ++ ([.i .i64 (a1 + L * dx)] ++ [.i .i64 (a2 + L * dy)]) ++ [.i .i64 r] ++ [.i .i64 s] ++ [.i .i64 z] ++ [.i .i64 f])), (5, 37, ([.i .i64 (ci (ctb a1 a2 dx dy L s k) (q / 2 * 2) - dx * r)] ++ [.i .i64 (ci (ctb a1 a2 dx dy L s k) (q / 2 * 2 + 1) - dy * r)] ++ [.i .i64 z])), (7, 37, ([.i .i64 x] ++ [.i .i64 y] ++ [.i .i64 u]))]⟩ _
      refine dw_seq ?_
      -- region 11
      refine dw_region (by kernel_rfl) ?_
      refine dl_r (sem_cmp rfl rfl rfl rfl) ?_
      refine dl_end ?_
      refine dw_seq ?_
      refine dw_cond rfl (fun hc3 => ?_) (fun hc3 => ?_)
      · have g5 : q < 2 * (k + 1) + 1 := by have := of_decide_eq_true hc3; omega
        refine dw_skip ?_
        refine dw_seq ?_
        refine dw_block ?_
        refine dw_seq ?_
        -- region 12
        refine dw_region (by kernel_rfl) ?_
        refine dl_r (sem_index (us := me (ctb a1 a2 dx dy L s k) dx dy r z f q ++ (pth (ctb a1 a2 dx dy L s k) dx dy r z f (k + 1)).drop (q * 7 + 7)) sl33 rfl rfl (by omega) (pth_len _) (pth_drop g5) rfl) ?_
        refine dl_r (sem_loadq (us := ([.i .i64 (kd q)] ++ ([.i .i64 (ci (ctb a1 a2 dx dy L s k) ((q + 1) / 2 * 2) - dx * r)] ++ [.i .i64 (ci (ctb a1 a2 dx dy L s k) ((q + 1) / 2 * 2 + 1) - dy * r)] ++ [.i .i64 z]) ++ ([.i .i64 (cnX (ctb a1 a2 dx dy L s k) q)] ++ [.i .i64 (cnY (ctb a1 a2 dx dy L s k) q)]) ++ [.i .i64 f])) ty42 rfl rfl rfl rfl) ?_
        refine dl_new (sem_alloc zc42 rfl) rfl ?_
        refine dl_st (sem_store_a ty42 rfl rfl rfl rfl rfl rfl) ?_
        refine dl_end ?_
        refine dw_seq ?_
        refine dw_seq ?_
        -- region 13
        refine dw_region (by kernel_rfl) ?_
        refine dl_r (sem_load (us := ([.i .i64 (ci (ctb a1 a2 dx dy L s k) (q / 2 * 2) - dx * r)] ++ [.i .i64 (ci (ctb a1 a2 dx dy L s k) (q / 2 * 2 + 1) - dy * r)] ++ [.i .i64 z])) ty37 rfl rfl rfl rfl rfl) ?_
        refine dl_r (sem_load (us := ([.i .i64 (kd q)] ++ ([.i .i64 (ci (ctb a1 a2 dx dy L s k) ((q + 1) / 2 * 2) - dx * r)] ++ [.i .i64 (ci (ctb a1 a2 dx dy L s k) ((q + 1) / 2 * 2 + 1) - dy * r)] ++ [.i .i64 z]) ++ ([.i .i64 (cnX (ctb a1 a2 dx dy L s k) q)] ++ [.i .i64 (cnY (ctb a1 a2 dx dy L s k) q)]) ++ [.i .i64 f])) ty42 rfl rfl rfl rfl rfl) ?_
        refine dl_r (sem_call rfl rfl (mv_valid hL hd hr hs hf hk q1 q2 q3 g5) rfl) ?_
        refine dl_r (sem_cmp rfl rfl rfl rfl) ?_
        refine dl_r (sem_move rfl rfl) ?_
        refine dl_r (sem_field fd42_1 rfl rfl) ?_
        refine dl_r (sem_field fd37_2 rfl rfl) ?_
        refine dl_r (sem_load1 ty2 rfl rfl rfl rfl) ?_
        refine dl_r (sem_field fd25_4 rfl rfl) ?_
        refine dl_r (sem_load1 ty2 rfl rfl rfl rfl) ?_
        refine dl_r (sem_castb (c := false) (sem_cmp rfl rfl rfl rfl) (by simp)) ?_
        refine dl_r (sem_pick rfl rfl rfl rfl) ?_
        refine dl_r (sem_move rfl rfl) ?_
        refine dl_r (sem_field fd42_3 rfl rfl) ?_
        refine dl_r (sem_load1 ty2 rfl rfl rfl rfl) ?_
        refine dl_r (sem_field fd25_5 rfl rfl) ?_
        refine dl_r (sem_load1 ty2 rfl rfl rfl rfl) ?_
        refine dl_r (sem_castb (c := false) (sem_cmp rfl rfl rfl rfl) (by simp)) ?_
        refine dl_r (sem_pick rfl rfl rfl rfl) ?_
        refine dl_end ?_
        refine dw_false rfl ?_
        refine dw_skip ?_
        -- region 15
        refine dw_region (by kernel_rfl) ?_
        refine dl_r (sem_field fd42_1 rfl rfl) ?_
        refine dl_r (sem_load (us := ([.i .i64 (ci (ctb a1 a2 dx dy L s k) ((q + 1) / 2 * 2) - dx * r)] ++ [.i .i64 (ci (ctb a1 a2 dx dy L s k) ((q + 1) / 2 * 2 + 1) - dy * r)] ++ [.i .i64 z])) ty37 rfl rfl rfl rfl rfl) ?_
        refine dl_st (sem_store_a ty37 rfl rfl rfl rfl rfl rfl) ?_
        refine dl_end ?_
        -- region 16
        refine dw_region (by kernel_rfl) ?_
        refine dl_r (sem_ari (r := ((q + 1 : Nat) : Int)) rfl rfl ((ari_i64_add (by omega) (by omega)).trans (congrArg some (by omega))) rfl) ?_
        refine dl_r (sem_move rfl rfl) ?_
        refine dl_end ?_
        exact ⟨⟨q + 1, g5⟩, sub_of ⟨rfl, rfl, rfl, rfl, rfl, rfl, rfl, trivial⟩ ⟨rfl, rfl, rfl, trivial⟩ rfl, by show 2 * (k + 1) + 1 - (q + 1) < 2 * (k + 1) + 1 - q; omega⟩
      · have g6 : q = 2 * (k + 1) + 1 := by have := of_decide_eq_false hc3; omega
        refine dw_exit ?_
        refine dw_seq ?_
        -- region 17
        refine dw_region (by kernel_rfl) ?_
        refine dl_r (sem_move rfl rfl) ?_
        refine dl_r (sem_cmp rfl rfl rfl rfl) ?_
        refine dl_rb (sem_move rfl rfl) (fun c4 hb4 => ?_)
        cases c4
        · have g0 : g = 0 := by simpa using hb4
          obtain ⟨t, _, _, _, e5, e1, e2⟩ := ctb_at (a1 := a1) (a2 := a2) (dx := dx) (dy := dy) hL hs hk (Nat.le_refl (k + 1))
          have hx := hg g0
          have e6 : q / 2 = k + 1 := by omega
          have hEq : ci (ctb a1 a2 dx dy L s k) (q / 2 * 2) - dx * r = x ∧ ci (ctb a1 a2 dx dy L s k) (q / 2 * 2 + 1) - dy * r = y ∧ z = u := by
            rw [e6, e1, e2, e5 rfl, hx.1, hx.2.1, hx.2.2, Int.mul_comm dx L, Int.mul_comm dy L]
            exact ⟨rfl, rfl, rfl⟩
          refine dl_r (sem_load (us := ([.i .i64 (ci (ctb a1 a2 dx dy L s k) (q / 2 * 2) - dx * r)] ++ [.i .i64 (ci (ctb a1 a2 dx dy L s k) (q / 2 * 2 + 1) - dy * r)] ++ [.i .i64 z])) ty37 rfl rfl rfl rfl rfl) ?_
          refine dl_r (sem_load (us := ([.i .i64 x] ++ [.i .i64 y] ++ [.i .i64 u])) ty37 rfl rfl rfl rfl rfl) ?_
          refine dl_r (sem_seq (r := true) rfl rfl rfl rfl (by kernel_rfl) (fun w => eq_pos_of hEq w) rfl) ?_
          refine dl_r (sem_pick rfl rfl rfl rfl) ?_
          refine dl_r (sem_assign rfl rfl) ?_
          refine dl_end ?_
          refine dw_ret ?_
          -- path FFFf
          exact ⟨.inr rfl, (resL_tmp rfl resL_nil)⟩
        · refine dl_skip (sem_skip rfl) ?_
          refine dl_skip (sem_skip rfl) ?_
          refine dl_skip (sem_skip rfl) ?_
          refine dl_r (sem_pick rfl rfl rfl rfl) ?_
          refine dl_r (sem_assign rfl rfl) ?_
          refine dl_end ?_
          refine dw_ret ?_
          -- path FFFt
          exact ⟨.inr rfl, (resL_tmp rfl resL_nil)⟩
end Go.Proofs.Ytonjlikaacengaa
/- TrochoidMoves: for every input the law returns true, and each argument reads behind the call as it read before. No condition. -/
namespace Go.Proofs.Ytonjlikaacengaa
open Go.ChangeShapes Go.WideShapes Go.ChangeAt Go.RowKit
theorem last_start {a1 a2 L dx dy r z : Int} (hL : 1 ≤ L) (hd : Dir dx dy) (hr : 1 ≤ r) (q2 : rnd (a1 + L * dx) (a2 + L * dy) r = true) (q3 : far z = false) : ∃ x y u g : Int,
    Ok Try.prog 13 [.a ([.i .i64 (a1 + L * dx)] ++ [.i .i64 (a2 + L * dy)]), .a ([.i .i64 (2 * (a1 + L * dx) - a1)] ++ [.i .i64 (2 * (a2 + L * dy) - a2)]), .c (.i .i64 r), .c (.i .i64 z)] [.a ([.i .i64 x] ++ [.i .i64 y] ++ [.i .i64 u]), .c (.i .i64 g)] ∧
    (g = 0 → x = a1 + L * dx - dx * r ∧ y = a2 + L * dy - dy * r ∧ u = z) := by
  rw [show 2 * (a1 + L * dx) - a1 = (a1 + L * dx) + L * dx by omega, show 2 * (a2 + L * dy) - a2 = (a2 + L * dy) + L * dy by omega]
  cases h : rnd ((a1 + L * dx) + L * dx) ((a2 + L * dy) + L * dy) r with
  | false => exact ⟨0, 0, 0, 11, tS_11 (dok_dir hL hd) hr (.inr (.inl h)), fun h => by cases h⟩
  | true => exact ⟨_, _, _, _, tS_ok hL hd hr q2 h q3, fun _ => ⟨rfl, rfl, rfl⟩⟩
theorem few_any {a1 a2 b1 b2 r s z f : Int} (hs2 : s ≤ 9223372036854775807) : ∃ β : Bool, Ok Try.prog 7 [.a (([.i .i64 a1] ++ [.i .i64 a2]) ++ ([.i .i64 b1] ++ [.i .i64 b2]) ++ [.i .i64 r] ++ [.i .i64 s] ++ [.i .i64 z] ++ [.i .i64 f])] [.c (.b β)] := by
  obtain ⟨n, us, e, _, _, _, _, hR⟩ := cen_both (a1 := a1) (a2 := a2) (b1 := b1) (b2 := b2) hs2
  by_cases he : e = 0
  · subst he; exact ⟨_, lFew_0 hR⟩
  · exact ⟨_, lFew_e he hR⟩
theorem law_moves34 {a1 a2 b1 b2 r s z f : Int} (_ : -9223372036854775808 ≤ s) (hs2 : s ≤ 9223372036854775807) : Ok Try.prog 5 [.a (([.i .i64 a1] ++ [.i .i64 a2]) ++ ([.i .i64 b1] ++ [.i .i64 b2]) ++ [.i .i64 r] ++ [.i .i64 s] ++ [.i .i64 z] ++ [.i .i64 f])] [.c (.b true)] := by
  obtain ⟨β, hF⟩ := few_any (a1 := a1) (a2 := a2) (b1 := b1) (b2 := b2) (r := r) (z := z) (f := f) hs2
  by_cases hA : dok a1 a2 b1 b2 = false ∨ r ≤ 0 ∨ s ≤ 0 ∨ f ≤ 0 ∨ s > r
  · exact lMv_e (n := 0) (us := []) (by decide) hF (tP_1 hA)
  have hok : dok a1 a2 b1 b2 = true := by
    cases h : dok a1 a2 b1 b2 with
    | false => exact absurd (.inl h) hA
    | true => rfl
  have hr : 1 ≤ r := by omega
  have hs : 1 ≤ s := by omega
  have hf : 1 ≤ f := by omega
  have hsr : s ≤ r := by omega
  clear hA
  by_cases hB : rnd a1 a2 r = false ∨ rnd b1 b2 r = false ∨ far z = true
  · exact lMv_e (n := 0) (us := []) (by decide) hF (tP_11 hok hr hs hf hsr hB)
  have q1 : rnd a1 a2 r = true := by
    cases h : rnd a1 a2 r with
    | false => exact absurd (.inl h) hB
    | true => rfl
  have q2 : rnd b1 b2 r = true := by
    cases h : rnd b1 b2 r with
    | false => exact absurd (.inr (.inl h)) hB
    | true => rfl
  have q3 : far z = false := by
    cases h : far z with
    | true => exact absurd (.inr (.inr h)) hB
    | false => rfl
  obtain ⟨L, dx, dy, hL, hd, rfl, rfl⟩ := dir_of hok
  have hq := q_bd hL hs
  obtain ⟨k, hk⟩ : ∃ k : Nat, (k : Int) = (L - 1) / s := ⟨((L - 1) / s).toNat, Int.toNat_of_nonneg hq.1⟩
  by_cases hb : 10000 < (L - 1) / s + 2
  · exact lMv_e (n := 0) (us := []) (by decide) hF (tP_3 hL hd hr hs hf hsr q1 q2 q3 hb)
  · obtain ⟨x, y, u, g, h1, h2⟩ := last_start (a1 := a1) (a2 := a2) hL hd hr q2 q3
    exact lMv_ok hL hd hr hs hf hsr hk q1 q2 q3 (by omega) hF h1 h2
set_option maxRecDepth 100000 in
theorem moves34_lifted (os : Os) (started : os.Started) (H : Type) (enc : TypeId × Value → H) :
    ReturnsInHanded {} Try.checked os 5 .any (Rows.trochoidMovesSpec.pre6 enc Try.prog Try.f5 Rows.trochoidMovesRow.domain false) (Rows.trochoidMovesSpec.post enc Try.prog Try.f5 false true false false) := by
  refine returnsInHanded_of_change (C := Try.checked) own started (by kernel_rfl) Try.func5
    (ChangeSpec.witness6 (enc := enc) (C := Try.checked) false ⟨#[], #[.agg #[.int .i64 0, .int .i64 0, .int .i64 0, .int .i64 0, .int .i64 0, .int .i64 0, .int .i64 0, .int .i64 0]], []⟩ 8 (by kernel_rfl) (by kernel_rfl) (by kernel_rfl) (by kernel_rfl)) ?_
  intro W base args ds gs before hval0 hW hcnd _
  have hval : ∀ (j : Nat) t v, Try.f5.params[j]? = some t → args[j]? = some v → Value.okWide Try.prog W .any base t v := hval0
  have hW' := hW
  obtain ⟨p, q, hA0, hV, rfl, hfz, hnd⟩ := hW
  have hA : DataW.TrodAll enc Try.prog W 0 (fun _ => true) true Try.f5.params.toList args.toList ds p := hA0
  rw [Try.params5] at hA hval
  obtain ⟨v0, vs0, d0, ds0, p0, q0, hargs, rfl, rfl, h0, r0⟩ := trodAll_cons hA
  obtain ⟨rfl, rfl, rfl⟩ := trodAll_nil r0
  obtain rfl : args = #[v0] := by cases args; simp_all
  obtain ⟨rfl, rfl⟩ := trodVars_none hV
  obtain ⟨a0, rfl, _⟩ := okWide_struct Try.underlying25 (hval 0 25 v0 rfl rfl)
  have k0 := h0
  have lt0 : ∀ x ∈ p0, x.block < W.heap.size := by obtain ⟨m, hm⟩ := k0; exact DataW.trod_lt m _ _ _ hm
  obtain ⟨y00, y01, y02, y03, y04, y05, y06, y07, g00, g01, hr0⟩ := way_of (show DataW.trod enc Try.prog W 0 _ _ h0.choose 25 a0.toList = some _ from h0.choose_spec)
  clear hA0 hval0
  refine (law_of (law_moves34 g00 g01) (RdL.cons ⟨a0, rfl, hr0⟩ RdL.nil)).mono fun e W' ⟨he, bel⟩ => ?_
  subst he
  exact ⟨_, rfl, _, _, _, [], _, [], hW', trodAll_mk1 (shut_bool Try.underlying4 _), (trodAll_cons_mk (Below.trod laidOut (by kernel_rfl) (of_decide_eq_true (by kernel_rfl)) k0 bel lt0) trodAll_mk0), rfl, bel.frame _, fun h => by cases h⟩
theorem moves34_proved : Rows.TrochoidMovesSaid :=
  OpenClaim.holds_of_wide 5 Try.f5 rfl rfl rfl rfl rfl rfl rfl ⟨rfl, rfl, rfl, rfl, rfl⟩ rfl rfl rfl rfl rfl (by kernel_rfl) Try.func5 (by kernel_rfl)
    (of_decide_eq_true (by kernel_rfl)) (by unfold Func.isWrapper; first | (rw [if_pos (by decide +kernel)]; kernel_rfl) | (rw [if_neg (by decide +kernel)]; exact ⟨rfl, rfl⟩))
    (fun os started H enc _ => moves34_lifted os started H enc)
end Go.Proofs.Ytonjlikaacengaa
