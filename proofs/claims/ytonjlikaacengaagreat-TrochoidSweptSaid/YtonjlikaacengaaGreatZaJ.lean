/- Plain: lists of positions as cells; the centers of a way, the moves of a path. -/
import Derived.Test.YtonjlikaacengaaGreatZaI
namespace Go.Proofs.YtonjlikaacengaaGreat
open Go Go.RowKit
/-- The number in cell i. -/
def ci (us : List CellD) (i : Nat) : Int := match us[i]? with
  | some (.i _ x) => x
  | _ => 0
def isJ : CellD → Bool
  | .i .i64 _ => true
  | _ => false
def bdJ : CellD → Bool
  | .i .i64 x => decide (-10000000 ≤ x) && decide (x ≤ 10000000)
  | _ => false
theorem bdJ_isJ {us : List CellD} (h : us.all bdJ = true) : us.all isJ = true := by
  rw [List.all_eq_true] at *
  intro c hc
  have h1 := h c hc
  cases c with
  | i k x => cases k <;> first | rfl | cases h1
  | _ => cases h1
theorem ci_get {us : List CellD} (h : us.all isJ = true) {i : Nat} (hi : i < us.length) : us[i] = .i .i64 (ci us i) := by
  have h1 := List.all_eq_true.1 h _ (List.getElem_mem hi)
  unfold ci
  rw [List.getElem?_eq_getElem hi]
  generalize us[i] = c at h1
  cases c with
  | i k x => cases k <;> first | rfl | cases h1
  | _ => cases h1
theorem ci_bd {us : List CellD} (h : us.all bdJ = true) (i : Nat) : -10000000 ≤ ci us i ∧ ci us i ≤ 10000000 := by
  by_cases hi : i < us.length
  · have h1 := List.all_eq_true.1 h _ (List.getElem_mem hi)
    unfold ci
    rw [List.getElem?_eq_getElem hi]
    generalize us[i] = c at h1
    cases c with
    | i k x => cases k <;> first | (have h2 : (decide (-10000000 ≤ x) && decide (x ≤ 10000000)) = true := h1; rw [Bool.and_eq_true, decide_eq_true_eq, decide_eq_true_eq] at h2; exact h2) | cases h1
    | _ => cases h1
  · unfold ci
    rw [List.getElem?_eq_none (by omega)]
    exact ⟨by decide, by decide⟩
theorem ci_drop2 {us : List CellD} {n : Nat} (hl : us.length = n * 2) (hJ : us.all isJ = true) {j : Nat} (hj : j < n) : us.drop (j * 2) = ([.i .i64 (ci us (j * 2))] ++ [.i .i64 (ci us (j * 2 + 1))]) ++ us.drop (j * 2 + 2) := by
  rw [List.drop_eq_getElem_cons (show j * 2 < us.length by omega), List.drop_eq_getElem_cons (show j * 2 + 1 < us.length by omega), ci_get hJ, ci_get hJ]
  rfl
theorem ci_drop7 {us : List CellD} {n : Nat} (hl : us.length = n * 7) (hJ : us.all isJ = true) {j : Nat} (hj : j < n) : us.drop (j * 7) =
    ([.i .i64 (ci us (j * 7))] ++ ([.i .i64 (ci us (j * 7 + 1))] ++ [.i .i64 (ci us (j * 7 + 2))] ++ [.i .i64 (ci us (j * 7 + 3))]) ++ ([.i .i64 (ci us (j * 7 + 4))] ++ [.i .i64 (ci us (j * 7 + 5))]) ++ [.i .i64 (ci us (j * 7 + 6))]) ++ us.drop (j * 7 + 7) := by
  rw [List.drop_eq_getElem_cons (show j * 7 < us.length by omega), List.drop_eq_getElem_cons (show j * 7 + 1 < us.length by omega), List.drop_eq_getElem_cons (show j * 7 + 1 + 1 < us.length by omega),
    List.drop_eq_getElem_cons (show j * 7 + 1 + 1 + 1 < us.length by omega), List.drop_eq_getElem_cons (show j * 7 + 1 + 1 + 1 + 1 < us.length by omega), List.drop_eq_getElem_cons (show j * 7 + 1 + 1 + 1 + 1 + 1 < us.length by omega),
    List.drop_eq_getElem_cons (show j * 7 + 1 + 1 + 1 + 1 + 1 + 1 < us.length by omega), ci_get hJ, ci_get hJ, ci_get hJ, ci_get hJ, ci_get hJ, ci_get hJ, ci_get hJ]
  rfl
/-- All centers. -/
def ctb (a1 a2 dx dy L s : Int) (k : Nat) : List CellD := ctr a1 a2 dx dy s k ++ ([.i .i64 (a1 + L * dx)] ++ [.i .i64 (a2 + L * dy)])
theorem ctb_len {a1 a2 dx dy L s : Int} {k : Nat} : (ctb a1 a2 dx dy L s k).length = (k + 1 + 1) * 2 := by
  unfold ctb
  rw [List.length_append, ctr_len]
  show (k + 1) * 2 + 2 = _
  omega
theorem ctr_bd {a1 a2 dx dy L s : Int} {k : Nat} (hd : Dir dx dy) (hs : 1 ≤ s) (hk : (k : Int) = (L - 1) / s) (r1 : -10000000 ≤ a1 ∧ a1 ≤ 10000000) (r2 : -10000000 ≤ a2 ∧ a2 ≤ 10000000) (r3 : -10000000 ≤ a1 + L * dx ∧ a1 + L * dx ≤ 10000000) (r4 : -10000000 ≤ a2 + L * dy ∧ a2 + L * dy ≤ 10000000) :
    ∀ i, i ≤ k → (ctr a1 a2 dx dy s i).all bdJ = true
  | 0, _ => by
    show (decide _ && decide _ && (decide _ && decide _ && true)) = true
    simp only [Bool.and_true, Bool.and_eq_true, decide_eq_true_eq]
    omega
  | i + 1, h => by
    show (ctr a1 a2 dx dy s i ++ _).all bdJ = true
    rw [List.all_append, ctr_bd hd hs hk r1 r2 r3 r4 i (by omega), Bool.true_and]
    have h1 := (ct_iff hs hk i).2 (by omega)
    have h2 := ct_nn hs (i + 1)
    show (decide _ && decide _ && (decide _ && decide _ && true)) = true
    simp only [Bool.and_true, Bool.and_eq_true, decide_eq_true_eq]
    generalize ((i + 1 : Nat) : Int) * s = q at *
    rcases hd with ⟨rfl, rfl⟩ | ⟨rfl, rfl⟩ | ⟨rfl, rfl⟩ | ⟨rfl, rfl⟩ <;> omega
theorem ctb_bd {a1 a2 dx dy L s : Int} {k : Nat} (hd : Dir dx dy) (hs : 1 ≤ s) (hk : (k : Int) = (L - 1) / s) (r1 : -10000000 ≤ a1 ∧ a1 ≤ 10000000) (r2 : -10000000 ≤ a2 ∧ a2 ≤ 10000000) (r3 : -10000000 ≤ a1 + L * dx ∧ a1 + L * dx ≤ 10000000) (r4 : -10000000 ≤ a2 + L * dy ∧ a2 + L * dy ≤ 10000000) :
    (ctb a1 a2 dx dy L s k).all bdJ = true := by
  unfold ctb
  rw [List.all_append, ctr_bd hd hs hk r1 r2 r3 r4 k (Nat.le_refl _), Bool.true_and]
  show (decide _ && decide _ && (decide _ && decide _ && true)) = true
  simp only [Bool.and_true, Bool.and_eq_true, decide_eq_true_eq]
  omega
theorem min_ctb {a1 a2 dx dy L s : Int} {k : Nat} (hL : 1 ≤ L) (hs : 1 ≤ s) (hk : (k : Int) = (L - 1) / s) : ctb a1 a2 dx dy L (min s L) k = ctb a1 a2 dx dy L s k := by
  unfold ctb
  rw [min_ctr hL hs hk]
/-- The moves to, and around, center j. -/
def mvf (us : List CellD) (dx dy r z f : Int) (j : Nat) : List CellD := [.i .i64 2] ++ ([.i .i64 (ci us (j * 2) - dx * r)] ++ [.i .i64 (ci us (j * 2 + 1) - dy * r)] ++ [.i .i64 z]) ++ ([.i .i64 0] ++ [.i .i64 0]) ++ [.i .i64 f]
def mva (us : List CellD) (dx dy r z f : Int) (j : Nat) : List CellD := [.i .i64 4] ++ ([.i .i64 (ci us (j * 2) - dx * r)] ++ [.i .i64 (ci us (j * 2 + 1) - dy * r)] ++ [.i .i64 z]) ++ ([.i .i64 (ci us (j * 2))] ++ [.i .i64 (ci us (j * 2 + 1))]) ++ [.i .i64 f]
def pth (us : List CellD) (dx dy r z f : Int) : Nat → List CellD
  | 0 => mva us dx dy r z f 0
  | j + 1 => (pth us dx dy r z f j ++ mvf us dx dy r z f (j + 1)) ++ mva us dx dy r z f (j + 1)
theorem pth_len {us : List CellD} {dx dy r z f : Int} : ∀ j, (pth us dx dy r z f j).length = (2 * j + 1) * 7
  | 0 => rfl
  | j + 1 => by
    show ((pth us dx dy r z f j ++ _) ++ _).length = _
    rw [List.length_append, List.length_append, pth_len j]
    show (2 * j + 1) * 7 + 7 + 7 = _
    omega
theorem pth_J {us : List CellD} {dx dy r z f : Int} : ∀ j, (pth us dx dy r z f j).all isJ = true
  | 0 => rfl
  | j + 1 => by
    show ((pth us dx dy r z f j ++ _) ++ _).all isJ = true
    rw [List.all_append, List.all_append, pth_J j]
    rfl
theorem eq_g2r (a b : Int) (d : Nat) (w : World) : (Op.equalIn (d + 1 + 1) 34 (.agg #[.int .i64 a, .int .i64 b]) (.agg #[.int .i64 a, .int .i64 b])).run Tryz.prog w = .ok true w := by
  rw [run_equalIn_agg w _ _ _ _ (by kernel_rfl) (by kernel_rfl),
    show (Tryz.prog.fieldsOf 34).toList = [(Tryz.prog.fieldsOf 34)[0]!, (Tryz.prog.fieldsOf 34)[1]!] from by kernel_rfl,
    eqf_step (x := .int .i64 a) (y := .int .i64 a) (r := true) (of_decide_eq_true (by kernel_rfl)) (by kernel_rfl) (by kernel_rfl) ((run_equalIn_int w _ _ .i64 .i64 a a (by kernel_rfl)).trans (by rw [beq_self_eq_true])),
    eqf_step (x := .int .i64 b) (y := .int .i64 b) (r := true) (of_decide_eq_true (by kernel_rfl)) (by kernel_rfl) (by kernel_rfl) ((run_equalIn_int w _ _ .i64 .i64 b b (by kernel_rfl)).trans (by rw [beq_self_eq_true]))]
  rfl
theorem eq_move (k x y z a b f : Int) (w : World) : (Op.equalIn 10000 76 (.agg #[.int .i64 k, .int .i64 x, .int .i64 y, .int .i64 z, .int .i64 a, .int .i64 b, .int .i64 f]) (.agg #[.int .i64 k, .int .i64 x, .int .i64 y, .int .i64 z, .int .i64 a, .int .i64 b, .int .i64 f])).run Tryz.prog w = .ok true w := by
  rw [show (10000 : Nat) = 9997 + 1 + 1 + 1 from rfl, run_equalIn_agg w _ _ _ _ (by kernel_rfl) (by kernel_rfl),
    show (Tryz.prog.fieldsOf 76).toList = [(Tryz.prog.fieldsOf 76)[0]!, (Tryz.prog.fieldsOf 76)[1]!, (Tryz.prog.fieldsOf 76)[2]!, (Tryz.prog.fieldsOf 76)[3]!] from by kernel_rfl,
    eqf_step (x := .int .i64 k) (y := .int .i64 k) (r := true) (of_decide_eq_true (by kernel_rfl)) (by kernel_rfl) (by kernel_rfl) ((run_equalIn_int w _ _ .i64 .i64 k k (by kernel_rfl)).trans (by rw [beq_self_eq_true])),
    eqf_step (x := .agg #[.int .i64 x, .int .i64 y, .int .i64 z]) (y := .agg #[.int .i64 x, .int .i64 y, .int .i64 z]) (r := true) (of_decide_eq_true (by kernel_rfl)) (by kernel_rfl) (by kernel_rfl) (by rw [show ((Tryz.prog.fieldsOf 76)[1]!).type = 62 from by kernel_rfl]; exact eq_pos x y z 9997 w),
    eqf_step (x := .agg #[.int .i64 a, .int .i64 b]) (y := .agg #[.int .i64 a, .int .i64 b]) (r := true) (of_decide_eq_true (by kernel_rfl)) (by kernel_rfl) (by kernel_rfl) (by rw [show ((Tryz.prog.fieldsOf 76)[2]!).type = 34 from by kernel_rfl]; exact eq_g2r a b 9997 w),
    eqf_step (x := .int .i64 f) (y := .int .i64 f) (r := true) (of_decide_eq_true (by kernel_rfl)) (by kernel_rfl) (by kernel_rfl) ((run_equalIn_int w _ _ .i64 .i64 f f (by kernel_rfl)).trans (by rw [beq_self_eq_true]))]
  rfl
end Go.Proofs.YtonjlikaacengaaGreat
/- The centers of a way: the program. -/
namespace Go.Proofs.YtonjlikaacengaaGreat
open Go Go.RowKit
theorem tcen_big {a1 a2 L dx dy s : Int} (hL : 1 ≤ L) (hd : Dir dx dy) (hs : 1 ≤ s) (hs2 : s ≤ 9223372036854775807) (r1 : -10000000 ≤ a1 ∧ a1 ≤ 10000000) (r2 : -10000000 ≤ a2 ∧ a2 ≤ 10000000) (r3 : -10000000 ≤ a1 + L * dx ∧ a1 + L * dx ≤ 10000000) (r4 : -10000000 ≤ a2 + L * dy ∧ a2 + L * dy ≤ 10000000) (hbig : 10000 < (L - 1) / s + 2) : Ok Tryz.prog 64 [.a ([.i .i64 a1] ++ [.i .i64 a2]), .a ([.i .i64 (a1 + L * dx)] ++ [.i .i64 (a2 + L * dy)]), .a ([.i .i64 dx] ++ [.i .i64 dy]), .c (.i .i64 s)] [.c (.s 0 []), .c (.i .i64 3)] := by
  have hL2 := dir_L hL hd r1 r2 r3 r4
  have hq := q_bd hL hs
  refine Ok.of (by kernel_rfl) Tryz.func64 rfl rfl ?_
  rw [show Tryz.f64.ntmps = 68 from rfl, show Tryz.f64.results.toList = [.tmp 8, .tmp 9] from rfl]
  refine dw_seq ?_
  -- region 0
  refine dw_region (by kernel_rfl) ?_
  refine dl_new (sem_box_a rfl rfl) rfl ?_
  refine dl_new (sem_box_a rfl rfl) rfl ?_
  refine dl_new (sem_box_a rfl rfl) rfl ?_
  refine dl_r (sem_assign rfl rfl) ?_
  refine dl_r (sem_assign rfl rfl) ?_
  refine dl_end ?_
  refine dw_seq ?_
  -- region 1
  refine dw_region (by kernel_rfl) ?_
  refine dl_r (sem_field fd34_0 rfl rfl) ?_
  refine dl_r (sem_load1 ty2 rfl rfl rfl rfl) ?_
  refine dl_r (sem_field fd34_0 rfl rfl) ?_
  refine dl_r (sem_load1 ty2 rfl rfl rfl rfl) ?_
  refine dl_r (sem_ari (r := (a1 + L * dx) - a1) rfl rfl (ari_i64_sub (by rcases hd with ⟨rfl, rfl⟩ | ⟨rfl, rfl⟩ | ⟨rfl, rfl⟩ | ⟨rfl, rfl⟩ <;> omega) (by rcases hd with ⟨rfl, rfl⟩ | ⟨rfl, rfl⟩ | ⟨rfl, rfl⟩ | ⟨rfl, rfl⟩ <;> omega)) rfl) ?_
  refine dl_r (sem_field fd34_0 rfl rfl) ?_
  refine dl_r (sem_load1 ty2 rfl rfl rfl rfl) ?_
  refine dl_r (sem_field fd34_0 rfl rfl) ?_
  refine dl_r (sem_load1 ty2 rfl rfl rfl rfl) ?_
  refine dl_r (sem_ari (r := a1 - (a1 + L * dx)) rfl rfl (ari_i64_sub (by rcases hd with ⟨rfl, rfl⟩ | ⟨rfl, rfl⟩ | ⟨rfl, rfl⟩ | ⟨rfl, rfl⟩ <;> omega) (by rcases hd with ⟨rfl, rfl⟩ | ⟨rfl, rfl⟩ | ⟨rfl, rfl⟩ | ⟨rfl, rfl⟩ <;> omega)) rfl) ?_
  refine dl_r (sem_field fd34_1 rfl rfl) ?_
  refine dl_r (sem_load1 ty2 rfl rfl rfl rfl) ?_
  refine dl_r (sem_field fd34_1 rfl rfl) ?_
  refine dl_r (sem_load1 ty2 rfl rfl rfl rfl) ?_
  refine dl_r (sem_ari (r := (a2 + L * dy) - a2) rfl rfl (ari_i64_sub (by rcases hd with ⟨rfl, rfl⟩ | ⟨rfl, rfl⟩ | ⟨rfl, rfl⟩ | ⟨rfl, rfl⟩ <;> omega) (by rcases hd with ⟨rfl, rfl⟩ | ⟨rfl, rfl⟩ | ⟨rfl, rfl⟩ | ⟨rfl, rfl⟩ <;> omega)) rfl) ?_
  refine dl_r (sem_field fd34_1 rfl rfl) ?_
  refine dl_r (sem_load1 ty2 rfl rfl rfl rfl) ?_
  refine dl_r (sem_field fd34_1 rfl rfl) ?_
  refine dl_r (sem_load1 ty2 rfl rfl rfl rfl) ?_
  refine dl_r (sem_ari (r := a2 - (a2 + L * dy)) rfl rfl (ari_i64_sub (by rcases hd with ⟨rfl, rfl⟩ | ⟨rfl, rfl⟩ | ⟨rfl, rfl⟩ | ⟨rfl, rfl⟩ <;> omega) (by rcases hd with ⟨rfl, rfl⟩ | ⟨rfl, rfl⟩ | ⟨rfl, rfl⟩ | ⟨rfl, rfl⟩ <;> omega)) rfl) ?_
  refine dl_r (sem_casti (c := L) (sem_max4 rfl rfl rfl rfl rfl) (by (rcases hd with ⟨rfl, rfl⟩ | ⟨rfl, rfl⟩ | ⟨rfl, rfl⟩ | ⟨rfl, rfl⟩ <;> omega))) ?_
  refine dl_r (sem_assign rfl rfl) ?_
  refine dl_end ?_
  refine dw_seq ?_
  refine dw_seq ?_
  -- region 2
  refine dw_region (by kernel_rfl) ?_
  refine dl_r (sem_move rfl rfl) ?_
  refine dl_r (sem_ari (r := L - 1) rfl rfl (ari_i64_sub (by rcases hd with ⟨rfl, rfl⟩ | ⟨rfl, rfl⟩ | ⟨rfl, rfl⟩ | ⟨rfl, rfl⟩ <;> omega) (by rcases hd with ⟨rfl, rfl⟩ | ⟨rfl, rfl⟩ | ⟨rfl, rfl⟩ | ⟨rfl, rfl⟩ <;> omega)) rfl) ?_
  refine dl_r (sem_move rfl rfl) ?_
  refine dl_r (sem_quo' (r := (L - 1) / s) rfl rfl (by omega) (by rw [Int.tdiv_eq_ediv_of_nonneg (by omega)]; exact nw64 (by omega) (by omega)) rfl) ?_
  refine dl_r (sem_ari (r := ((L - 1) / s) + 2) rfl rfl (ari_i64_add (by rcases hd with ⟨rfl, rfl⟩ | ⟨rfl, rfl⟩ | ⟨rfl, rfl⟩ | ⟨rfl, rfl⟩ <;> omega) (by rcases hd with ⟨rfl, rfl⟩ | ⟨rfl, rfl⟩ | ⟨rfl, rfl⟩ | ⟨rfl, rfl⟩ <;> omega)) rfl) ?_
  refine dl_r (sem_castb (c := true) (sem_cmp rfl rfl rfl rfl) (decide_eq_true (by omega))) ?_
  refine dl_end ?_
  refine dw_true rfl ?_
  refine dw_seq ?_
  -- region 3
  refine dw_region (by kernel_rfl) ?_
  refine dl_r (sem_assign rfl rfl) ?_
  refine dl_r (sem_assign rfl rfl) ?_
  refine dl_end ?_
  refine dw_ret ?_
  -- path 
  exact ⟨.inr rfl, (resL_tmp rfl (resL_tmp rfl resL_nil))⟩
theorem tcen_ok {a1 a2 L dx dy s : Int} (hL : 1 ≤ L) (hd : Dir dx dy) (hs : 1 ≤ s) (hs2 : s ≤ 9223372036854775807) {k : Nat} (hk : (k : Int) = (L - 1) / s) (r1 : -10000000 ≤ a1 ∧ a1 ≤ 10000000) (r2 : -10000000 ≤ a2 ∧ a2 ≤ 10000000) (r3 : -10000000 ≤ a1 + L * dx ∧ a1 + L * dx ≤ 10000000) (r4 : -10000000 ≤ a2 + L * dy ∧ a2 + L * dy ≤ 10000000) (hfit : (L - 1) / s + 2 ≤ 10000) : Ok Tryz.prog 64 [.a ([.i .i64 a1] ++ [.i .i64 a2]), .a ([.i .i64 (a1 + L * dx)] ++ [.i .i64 (a2 + L * dy)]), .a ([.i .i64 dx] ++ [.i .i64 dy]), .c (.i .i64 s)] [.c (.s (k + 1 + 1) (ctb a1 a2 dx dy L s k)), .c (.i .i64 0)] := by
  have hL2 := dir_L hL hd r1 r2 r3 r4
  have hq := q_bd hL hs
  have hk2 : k ≤ 9998 := by omega
  refine Ok.of (by kernel_rfl) Tryz.func64 rfl rfl ?_
  rw [show Tryz.f64.ntmps = 68 from rfl, show Tryz.f64.results.toList = [.tmp 8, .tmp 9] from rfl]
  refine dw_seq ?_
  -- region 0
  refine dw_region (by kernel_rfl) ?_
  refine dl_new (sem_box_a rfl rfl) rfl ?_
  refine dl_new (sem_box_a rfl rfl) rfl ?_
  refine dl_new (sem_box_a rfl rfl) rfl ?_
  refine dl_r (sem_assign rfl rfl) ?_
  refine dl_r (sem_assign rfl rfl) ?_
  refine dl_end ?_
  refine dw_seq ?_
  -- region 1
  refine dw_region (by kernel_rfl) ?_
  refine dl_r (sem_field fd34_0 rfl rfl) ?_
  refine dl_r (sem_load1 ty2 rfl rfl rfl rfl) ?_
  refine dl_r (sem_field fd34_0 rfl rfl) ?_
  refine dl_r (sem_load1 ty2 rfl rfl rfl rfl) ?_
  refine dl_r (sem_ari (r := (a1 + L * dx) - a1) rfl rfl (ari_i64_sub (by rcases hd with ⟨rfl, rfl⟩ | ⟨rfl, rfl⟩ | ⟨rfl, rfl⟩ | ⟨rfl, rfl⟩ <;> omega) (by rcases hd with ⟨rfl, rfl⟩ | ⟨rfl, rfl⟩ | ⟨rfl, rfl⟩ | ⟨rfl, rfl⟩ <;> omega)) rfl) ?_
  refine dl_r (sem_field fd34_0 rfl rfl) ?_
  refine dl_r (sem_load1 ty2 rfl rfl rfl rfl) ?_
  refine dl_r (sem_field fd34_0 rfl rfl) ?_
  refine dl_r (sem_load1 ty2 rfl rfl rfl rfl) ?_
  refine dl_r (sem_ari (r := a1 - (a1 + L * dx)) rfl rfl (ari_i64_sub (by rcases hd with ⟨rfl, rfl⟩ | ⟨rfl, rfl⟩ | ⟨rfl, rfl⟩ | ⟨rfl, rfl⟩ <;> omega) (by rcases hd with ⟨rfl, rfl⟩ | ⟨rfl, rfl⟩ | ⟨rfl, rfl⟩ | ⟨rfl, rfl⟩ <;> omega)) rfl) ?_
  refine dl_r (sem_field fd34_1 rfl rfl) ?_
  refine dl_r (sem_load1 ty2 rfl rfl rfl rfl) ?_
  refine dl_r (sem_field fd34_1 rfl rfl) ?_
  refine dl_r (sem_load1 ty2 rfl rfl rfl rfl) ?_
  refine dl_r (sem_ari (r := (a2 + L * dy) - a2) rfl rfl (ari_i64_sub (by rcases hd with ⟨rfl, rfl⟩ | ⟨rfl, rfl⟩ | ⟨rfl, rfl⟩ | ⟨rfl, rfl⟩ <;> omega) (by rcases hd with ⟨rfl, rfl⟩ | ⟨rfl, rfl⟩ | ⟨rfl, rfl⟩ | ⟨rfl, rfl⟩ <;> omega)) rfl) ?_
  refine dl_r (sem_field fd34_1 rfl rfl) ?_
  refine dl_r (sem_load1 ty2 rfl rfl rfl rfl) ?_
  refine dl_r (sem_field fd34_1 rfl rfl) ?_
  refine dl_r (sem_load1 ty2 rfl rfl rfl rfl) ?_
  refine dl_r (sem_ari (r := a2 - (a2 + L * dy)) rfl rfl (ari_i64_sub (by rcases hd with ⟨rfl, rfl⟩ | ⟨rfl, rfl⟩ | ⟨rfl, rfl⟩ | ⟨rfl, rfl⟩ <;> omega) (by rcases hd with ⟨rfl, rfl⟩ | ⟨rfl, rfl⟩ | ⟨rfl, rfl⟩ | ⟨rfl, rfl⟩ <;> omega)) rfl) ?_
  refine dl_r (sem_casti (c := L) (sem_max4 rfl rfl rfl rfl rfl) (by (rcases hd with ⟨rfl, rfl⟩ | ⟨rfl, rfl⟩ | ⟨rfl, rfl⟩ | ⟨rfl, rfl⟩ <;> omega))) ?_
  refine dl_r (sem_assign rfl rfl) ?_
  refine dl_end ?_
  refine dw_seq ?_
  refine dw_seq ?_
  -- region 2
  refine dw_region (by kernel_rfl) ?_
  refine dl_r (sem_move rfl rfl) ?_
  refine dl_r (sem_ari (r := L - 1) rfl rfl (ari_i64_sub (by rcases hd with ⟨rfl, rfl⟩ | ⟨rfl, rfl⟩ | ⟨rfl, rfl⟩ | ⟨rfl, rfl⟩ <;> omega) (by rcases hd with ⟨rfl, rfl⟩ | ⟨rfl, rfl⟩ | ⟨rfl, rfl⟩ | ⟨rfl, rfl⟩ <;> omega)) rfl) ?_
  refine dl_r (sem_move rfl rfl) ?_
  refine dl_r (sem_quo' (r := (L - 1) / s) rfl rfl (by omega) (by rw [Int.tdiv_eq_ediv_of_nonneg (by omega)]; exact nw64 (by omega) (by omega)) rfl) ?_
  refine dl_r (sem_ari (r := ((L - 1) / s) + 2) rfl rfl (ari_i64_add (by rcases hd with ⟨rfl, rfl⟩ | ⟨rfl, rfl⟩ | ⟨rfl, rfl⟩ | ⟨rfl, rfl⟩ <;> omega) (by rcases hd with ⟨rfl, rfl⟩ | ⟨rfl, rfl⟩ | ⟨rfl, rfl⟩ | ⟨rfl, rfl⟩ <;> omega)) rfl) ?_
  refine dl_r (sem_castb (c := false) (sem_cmp rfl rfl rfl rfl) (decide_eq_false (by omega))) ?_
  refine dl_end ?_
  refine dw_false rfl ?_
  refine dw_skip ?_
  refine dw_seq ?_
  -- region 4
  refine dw_region (by kernel_rfl) ?_
  refine dl_r (sem_assign_z rfl) ?_
  refine dl_end ?_
  refine dw_seq ?_
  refine dw_seq ?_
  -- region 5
  refine dw_region (by kernel_rfl) ?_
  refine dl_r (sem_assign rfl rfl) ?_
  refine dl_end ?_
  refine dw_block ?_
  refine dw_loop1 (ι := {t : Nat × Nat × List CellD // t.1 ≤ k ∧ t.1 + 1 ≤ t.2.1 ∧ t.2.1 ≤ maxLen ∧ t.2.2.length = (t.2.1 - (t.1 + 1)) * 2}) (fun i => ⟨68, [(11, .o 63 (i.1.1 + 1) i.1.2.1), (3, .v (.c (.i .i64 s))), (4, .p 4 0), (5, .p 5 0), (6, .p 6 0), (10, .v (.c (.i .i64 L))), (12, .v (.c (.i .i64 (((i.1.1 + 1 : Nat) : Int) * s))))], [(4, 34, ([.i .i64 a1] ++ [.i .i64 a2])), (5, 34, ([.i .i64 (a1 + L * dx)] ++ [.i .i64 (a2 + L * dy)])), (6, 34, ([.i .i64 dx] ++ [.i .i64 dy])), (63, 34, ctr a1 a2 dx dy s i.1.1 ++ i.1.2.2)]⟩) (fun i => k - i.1.1) (k + 1) ?_ ?_
  · refine dw_seq ?_
    refine dw_seq ?_
    -- region 6
    refine dw_region (by kernel_rfl) ?_
    refine dl_r (sem_move rfl rfl) ?_
    refine dl_r (sem_move rfl rfl) ?_
    refine dl_r (sem_cmp rfl rfl rfl rfl) ?_
    refine dl_end ?_
    refine dw_cond rfl (fun hc1 => ?_) (fun hc1 => ?_)
    · refine dw_skip ?_
      refine dw_seq ?_
      refine dw_block ?_
      -- region 8
      refine dw_region (by kernel_rfl) ?_
      refine dl_r (sem_move rfl rfl) ?_
      refine dl_r (sem_field fd34_0 rfl rfl) ?_
      refine dl_r (sem_load1 ty2 rfl rfl rfl rfl) ?_
      refine dl_r (sem_field fd34_0 rfl rfl) ?_
      refine dl_r (sem_load1 ty2 rfl rfl rfl rfl) ?_
      refine dl_r (sem_move rfl rfl) ?_
      refine dl_r (sem_ari (r := dx * 0) rfl rfl (ari_i64_mul (by rcases hd with ⟨rfl, rfl⟩ | ⟨rfl, rfl⟩ | ⟨rfl, rfl⟩ | ⟨rfl, rfl⟩ <;> omega) (by rcases hd with ⟨rfl, rfl⟩ | ⟨rfl, rfl⟩ | ⟨rfl, rfl⟩ | ⟨rfl, rfl⟩ <;> omega)) rfl) ?_
      refine dl_r (sem_ari (r := a1) rfl rfl ((ari_i64_add (by (rcases hd with ⟨rfl, rfl⟩ | ⟨rfl, rfl⟩ | ⟨rfl, rfl⟩ | ⟨rfl, rfl⟩ <;> omega)) (by (rcases hd with ⟨rfl, rfl⟩ | ⟨rfl, rfl⟩ | ⟨rfl, rfl⟩ | ⟨rfl, rfl⟩ <;> omega))).trans (congrArg some (by (rcases hd with ⟨rfl, rfl⟩ | ⟨rfl, rfl⟩ | ⟨rfl, rfl⟩ | ⟨rfl, rfl⟩ <;> omega)))) rfl) ?_
      refine dl_r (sem_field fd34_1 rfl rfl) ?_
      refine dl_r (sem_load1 ty2 rfl rfl rfl rfl) ?_
      refine dl_r (sem_field fd34_1 rfl rfl) ?_
      refine dl_r (sem_load1 ty2 rfl rfl rfl rfl) ?_
      refine dl_r (sem_move rfl rfl) ?_
      refine dl_r (sem_ari (r := dy * 0) rfl rfl (ari_i64_mul (by rcases hd with ⟨rfl, rfl⟩ | ⟨rfl, rfl⟩ | ⟨rfl, rfl⟩ | ⟨rfl, rfl⟩ <;> omega) (by rcases hd with ⟨rfl, rfl⟩ | ⟨rfl, rfl⟩ | ⟨rfl, rfl⟩ | ⟨rfl, rfl⟩ <;> omega)) rfl) ?_
      refine dl_r (sem_ari (r := a2) rfl rfl ((ari_i64_add (by (rcases hd with ⟨rfl, rfl⟩ | ⟨rfl, rfl⟩ | ⟨rfl, rfl⟩ | ⟨rfl, rfl⟩ <;> omega)) (by (rcases hd with ⟨rfl, rfl⟩ | ⟨rfl, rfl⟩ | ⟨rfl, rfl⟩ | ⟨rfl, rfl⟩ <;> omega))).trans (congrArg some (by (rcases hd with ⟨rfl, rfl⟩ | ⟨rfl, rfl⟩ | ⟨rfl, rfl⟩ | ⟨rfl, rfl⟩ <;> omega)))) rfl) ?_
      refine dl_r (sem_build (us := ([.i .i64 a1] ++ [.i .i64 a2])) fs34 zc34 rfl rfl rfl) ?_
      refine dl_r (sem_slit_D (n := 1) (us := ([.i .i64 a1] ++ [.i .i64 a2])) el22 rfl rfl rfl (by decide) (by decide) rfl) ?_
      refine dl_grow0 (ys := ([.i .i64 a1] ++ [.i .i64 a2])) el22 rfl rfl rfl (by decide) (by decide) (by decide) rfl rfl (fun cg2 rg2 hga2 hgb2 hgc2 => ?_)
      refine dl_r (sem_assign rfl rfl) ?_
      refine dl_end ?_
      -- region 7
      refine dw_region (by kernel_rfl) ?_
      refine dl_r (sem_move rfl rfl) ?_
      refine dl_r (sem_move rfl rfl) ?_
      refine dl_r (sem_ari (r := ((0 + 1 : Nat) : Int) * s) rfl rfl ((ari_i64_add (by omega) (by omega)).trans (congrArg some (by simp))) rfl) ?_
      refine dl_r (sem_assign rfl rfl) ?_
      refine dl_end ?_
      exact ⟨⟨⟨0, cg2, rg2⟩, by omega, by omega, hgb2, hgc2⟩, sub_of ⟨rfl, rfl, rfl, rfl, rfl, rfl, rfl, trivial⟩ ⟨rfl, rfl, rfl, rfl, trivial⟩ rfl, by show k - 0 < k + 1; omega⟩
    · exact (of_decide_eq_false hc1 (by omega)).elim
  · rintro ⟨⟨j, c, rs⟩, h2, h3, h4, h5⟩
    dsimp only at h2 h3 h4 h5
    show Dw _ _ ⟨68, [(11, .o 63 (j + 1) c), (3, .v (.c (.i .i64 s))), (4, .p 4 0), (5, .p 5 0), (6, .p 6 0), (10, .v (.c (.i .i64 L))), (12, .v (.c (.i .i64 (((j + 1 : Nat) : Int) * s))))], [(4, 34, ([.i .i64 a1] ++ [.i .i64 a2])), (5, 34, ([.i .i64 (a1 + L * dx)] ++ [.i .i64 (a2 + L * dy)])), (6, 34, ([.i .i64 dx] ++ [.i .i64 dy])), (63, 34, ctr a1 a2 dx dy s j ++ rs)]⟩ _
    refine dw_seq ?_
    refine dw_seq ?_
    -- region 6
    refine dw_region (by kernel_rfl) ?_
    refine dl_r (sem_move rfl rfl) ?_
    refine dl_r (sem_move rfl rfl) ?_
    refine dl_r (sem_cmp rfl rfl rfl rfl) ?_
    refine dl_end ?_
    refine dw_cond rfl (fun hc3 => ?_) (fun hc3 => ?_)
    · have g1 := (ct_iff hs hk j).1 (of_decide_eq_true hc3)
      have g2 := ct_nn hs (j + 1)
      have g3 := ct_ge hs j
      have g4 := of_decide_eq_true hc3
      refine dw_skip ?_
      refine dw_seq ?_
      refine dw_block ?_
      -- region 8
      refine dw_region (by kernel_rfl) ?_
      refine dl_r (sem_move rfl rfl) ?_
      refine dl_r (sem_field fd34_0 rfl rfl) ?_
      refine dl_r (sem_load1 ty2 rfl rfl rfl rfl) ?_
      refine dl_r (sem_field fd34_0 rfl rfl) ?_
      refine dl_r (sem_load1 ty2 rfl rfl rfl rfl) ?_
      refine dl_r (sem_move rfl rfl) ?_
      refine dl_r (sem_ari (r := dx * (((j + 1 : Nat) : Int) * s)) rfl rfl (ari_i64_mul (by rcases hd with ⟨rfl, rfl⟩ | ⟨rfl, rfl⟩ | ⟨rfl, rfl⟩ | ⟨rfl, rfl⟩ <;> omega) (by rcases hd with ⟨rfl, rfl⟩ | ⟨rfl, rfl⟩ | ⟨rfl, rfl⟩ | ⟨rfl, rfl⟩ <;> omega)) rfl) ?_
      refine dl_r (sem_ari (r := a1 + (dx * (((j + 1 : Nat) : Int) * s))) rfl rfl (ari_i64_add (by rcases hd with ⟨rfl, rfl⟩ | ⟨rfl, rfl⟩ | ⟨rfl, rfl⟩ | ⟨rfl, rfl⟩ <;> omega) (by rcases hd with ⟨rfl, rfl⟩ | ⟨rfl, rfl⟩ | ⟨rfl, rfl⟩ | ⟨rfl, rfl⟩ <;> omega)) rfl) ?_
      refine dl_r (sem_field fd34_1 rfl rfl) ?_
      refine dl_r (sem_load1 ty2 rfl rfl rfl rfl) ?_
      refine dl_r (sem_field fd34_1 rfl rfl) ?_
      refine dl_r (sem_load1 ty2 rfl rfl rfl rfl) ?_
      refine dl_r (sem_move rfl rfl) ?_
      refine dl_r (sem_ari (r := dy * (((j + 1 : Nat) : Int) * s)) rfl rfl (ari_i64_mul (by rcases hd with ⟨rfl, rfl⟩ | ⟨rfl, rfl⟩ | ⟨rfl, rfl⟩ | ⟨rfl, rfl⟩ <;> omega) (by rcases hd with ⟨rfl, rfl⟩ | ⟨rfl, rfl⟩ | ⟨rfl, rfl⟩ | ⟨rfl, rfl⟩ <;> omega)) rfl) ?_
      refine dl_r (sem_ari (r := a2 + (dy * (((j + 1 : Nat) : Int) * s))) rfl rfl (ari_i64_add (by rcases hd with ⟨rfl, rfl⟩ | ⟨rfl, rfl⟩ | ⟨rfl, rfl⟩ | ⟨rfl, rfl⟩ <;> omega) (by rcases hd with ⟨rfl, rfl⟩ | ⟨rfl, rfl⟩ | ⟨rfl, rfl⟩ | ⟨rfl, rfl⟩ <;> omega)) rfl) ?_
      refine dl_r (sem_build (us := ([.i .i64 (a1 + (dx * (((j + 1 : Nat) : Int) * s)))] ++ [.i .i64 (a2 + (dy * (((j + 1 : Nat) : Int) * s)))])) fs34 zc34 rfl rfl rfl) ?_
      refine dl_r (sem_slit_D (n := 1) (us := ([.i .i64 (a1 + (dx * (((j + 1 : Nat) : Int) * s)))] ++ [.i .i64 (a2 + (dy * (((j + 1 : Nat) : Int) * s)))])) el22 rfl rfl rfl (by decide) (by decide) rfl) ?_
      refine dl_grow (us := ctr a1 a2 dx dy s j) (rest := rs) (ys := ([.i .i64 (a1 + (dx * (((j + 1 : Nat) : Int) * s)))] ++ [.i .i64 (a2 + (dy * (((j + 1 : Nat) : Int) * s)))])) el22 rfl rfl rfl (by first | exact ctr_len _ | (rw [List.length_append, ctr_len]; show _ + 2 = _; omega)) (by assumption) rfl (by decide) (by omega) (by assumption) (by omega) (g_max (by omega)) (.inl rfl) rfl (fun cg4 rg4 hga4 hgb4 hgc4 => ?_)
      refine dl_r (sem_assign rfl rfl) ?_
      refine dl_end ?_
      -- region 7
      refine dw_region (by kernel_rfl) ?_
      refine dl_r (sem_move rfl rfl) ?_
      refine dl_r (sem_move rfl rfl) ?_
      refine dl_r (sem_ari (r := (((j + 1) + 1 : Nat) : Int) * s) rfl rfl ((ari_i64_add (by omega) (by omega)).trans (congrArg some (ct_nx (j + 1)).symm)) rfl) ?_
      refine dl_r (sem_assign rfl rfl) ?_
      refine dl_end ?_
      exact ⟨⟨⟨j + 1, cg4, rg4⟩, g1, by omega, hgb4, hgc4⟩, sub_of ⟨rfl, rfl, rfl, rfl, rfl, rfl, rfl, trivial⟩ ⟨rfl, rfl, rfl, rfl, trivial⟩ rfl, by show k - (j + 1) < k - j; omega⟩
    · have g1 : ¬ j < k := fun h => absurd ((ct_iff hs hk j).2 h) (of_decide_eq_false hc3)
      obtain rfl : j = k := by omega
      refine dw_exit ?_
      refine dw_seq ?_
      -- region 9
      refine dw_region (by kernel_rfl) ?_
      refine dl_r (sem_move rfl rfl) ?_
      refine dl_r (sem_load (us := ([.i .i64 (a1 + L * dx)] ++ [.i .i64 (a2 + L * dy)])) ty34 rfl rfl rfl rfl rfl) ?_
      refine dl_r (sem_slit_D (n := 1) (us := ([.i .i64 (a1 + L * dx)] ++ [.i .i64 (a2 + L * dy)])) el22 rfl rfl rfl (by decide) (by decide) rfl) ?_
      refine dl_grow (us := ctr a1 a2 dx dy s j) (rest := rs) (ys := ([.i .i64 (a1 + L * dx)] ++ [.i .i64 (a2 + L * dy)])) el22 rfl rfl rfl (by first | exact ctr_len _ | (rw [List.length_append, ctr_len]; show _ + 2 = _; omega)) (by assumption) rfl (by decide) (by omega) (by assumption) (by omega) (g_max (by omega)) (.inr rfl) rfl (fun cg5 rg5 hga5 hgb5 hgc5 => ?_)
      refine dl_r (sem_assign rfl rfl) ?_
      refine dl_r (sem_assign rfl rfl) ?_
      refine dl_end ?_
      refine dw_release (t := 8) (m := 2) (us := ctr a1 a2 dx dy s j ++ (([.i .i64 (a1 + L * dx)] ++ [.i .i64 (a2 + L * dy)]))) rfl rfl (g_len (n := (j + 1) + 1) (by first | exact ctr_len _ | (rw [List.length_append, ctr_len]; show _ + 2 = _; omega)) (by assumption) (by omega)) (by omega) (by assumption) (g_take (by first | exact ctr_len _ | (rw [List.length_append, ctr_len]; show _ + 2 = _; omega))) ?_
      refine dw_ret ?_
      -- path LF
      exact ⟨.inr rfl, (resL_tmp rfl (resL_tmp rfl resL_nil))⟩
end Go.Proofs.YtonjlikaacengaaGreat
/- Centers, program and reference. -/
namespace Go.Proofs.YtonjlikaacengaaGreat
open Go Go.RowKit
theorem tC_a {a1 a2 b1 b2 s : Int} (hok : dok a1 a2 b1 b2 = false) : Ok Tryz.prog 25 [.a ([.i .i64 a1] ++ [.i .i64 a2]), .a ([.i .i64 b1] ++ [.i .i64 b2]), .c (.i .i64 s)] [.c (.s 0 []), .c (.i .i64 1)] := by
  refine Ok.of (by kernel_rfl) Tryz.func25 rfl rfl ?_
  rw [show Tryz.f25.ntmps = 37 from rfl, show Tryz.f25.results.toList = [.tmp 6, .tmp 7] from rfl]
  refine dw_seq ?_
  -- region 0
  refine dw_region (by kernel_rfl) ?_
  refine dl_new (sem_box_a rfl rfl) rfl ?_
  refine dl_new (sem_box_a rfl rfl) rfl ?_
  refine dl_r (sem_assign rfl rfl) ?_
  refine dl_r (sem_assign rfl rfl) ?_
  refine dl_end ?_
  refine dw_seq ?_
  -- region 1
  refine dw_region (by kernel_rfl) ?_
  refine dl_r (sem_load (us := ([.i .i64 a1] ++ [.i .i64 a2])) ty34 rfl rfl rfl rfl rfl) ?_
  refine dl_r (sem_load (us := ([.i .i64 b1] ++ [.i .i64 b2])) ty34 rfl rfl rfl rfl rfl) ?_
  refine dl_r (sem_call rfl rfl (icast2b tDir_ok rfl rfl hok) rfl) ?_
  refine dl_r (sem_move rfl rfl) ?_
  refine dl_r (sem_extract rfl rfl rfl) ?_
  refine dl_r (sem_extract rfl rfl rfl) ?_
  refine dl_new (sem_alloc zc34 rfl) rfl ?_
  refine dl_st (sem_store_a ty34 rfl rfl rfl rfl rfl rfl) ?_
  refine dl_r (sem_assign rfl rfl) ?_
  refine dl_end ?_
  refine dw_seq ?_
  refine dw_seq ?_
  -- region 2
  refine dw_region (by kernel_rfl) ?_
  refine dl_r (sem_move rfl rfl) ?_
  refine dl_r (sem_not rfl rfl) ?_
  refine dl_r (sem_move rfl rfl) ?_
  refine dl_skip (sem_skip rfl) ?_
  refine dl_skip (sem_skip rfl) ?_
  refine dl_r (sem_pick rfl rfl rfl rfl) ?_
  refine dl_end ?_
  refine dw_true rfl ?_
  refine dw_seq ?_
  -- region 3
  refine dw_region (by kernel_rfl) ?_
  refine dl_r (sem_assign rfl rfl) ?_
  refine dl_r (sem_assign rfl rfl) ?_
  refine dl_end ?_
  refine dw_ret ?_
  -- path 
  exact ⟨.inr rfl, (resL_tmp rfl (resL_tmp rfl resL_nil))⟩
theorem tC_b {a1 a2 b1 b2 s : Int} (hok : dok a1 a2 b1 b2 = true) (hs : s ≤ 0) : Ok Tryz.prog 25 [.a ([.i .i64 a1] ++ [.i .i64 a2]), .a ([.i .i64 b1] ++ [.i .i64 b2]), .c (.i .i64 s)] [.c (.s 0 []), .c (.i .i64 1)] := by
  refine Ok.of (by kernel_rfl) Tryz.func25 rfl rfl ?_
  rw [show Tryz.f25.ntmps = 37 from rfl, show Tryz.f25.results.toList = [.tmp 6, .tmp 7] from rfl]
  refine dw_seq ?_
  -- region 0
  refine dw_region (by kernel_rfl) ?_
  refine dl_new (sem_box_a rfl rfl) rfl ?_
  refine dl_new (sem_box_a rfl rfl) rfl ?_
  refine dl_r (sem_assign rfl rfl) ?_
  refine dl_r (sem_assign rfl rfl) ?_
  refine dl_end ?_
  refine dw_seq ?_
  -- region 1
  refine dw_region (by kernel_rfl) ?_
  refine dl_r (sem_load (us := ([.i .i64 a1] ++ [.i .i64 a2])) ty34 rfl rfl rfl rfl rfl) ?_
  refine dl_r (sem_load (us := ([.i .i64 b1] ++ [.i .i64 b2])) ty34 rfl rfl rfl rfl rfl) ?_
  refine dl_r (sem_call rfl rfl (icast2b tDir_ok rfl rfl hok) rfl) ?_
  refine dl_r (sem_move rfl rfl) ?_
  refine dl_r (sem_extract rfl rfl rfl) ?_
  refine dl_r (sem_extract rfl rfl rfl) ?_
  refine dl_new (sem_alloc zc34 rfl) rfl ?_
  refine dl_st (sem_store_a ty34 rfl rfl rfl rfl rfl rfl) ?_
  refine dl_r (sem_assign rfl rfl) ?_
  refine dl_end ?_
  refine dw_seq ?_
  refine dw_seq ?_
  -- region 2
  refine dw_region (by kernel_rfl) ?_
  refine dl_r (sem_move rfl rfl) ?_
  refine dl_r (sem_not rfl rfl) ?_
  refine dl_r (sem_move rfl rfl) ?_
  refine dl_r (sem_move rfl rfl) ?_
  refine dl_r (sem_castb (c := true) (sem_cmp rfl rfl rfl rfl) (decide_eq_true (by omega))) ?_
  refine dl_r (sem_pick rfl rfl rfl rfl) ?_
  refine dl_end ?_
  refine dw_true rfl ?_
  refine dw_seq ?_
  -- region 3
  refine dw_region (by kernel_rfl) ?_
  refine dl_r (sem_assign rfl rfl) ?_
  refine dl_r (sem_assign rfl rfl) ?_
  refine dl_end ?_
  refine dw_ret ?_
  -- path 
  exact ⟨.inr rfl, (resL_tmp rfl (resL_tmp rfl resL_nil))⟩
theorem tC_c {a1 a2 b1 b2 s : Int} (hok : dok a1 a2 b1 b2 = true) (hs : 1 ≤ s) (hf1 : rnd a1 a2 0 = false) : Ok Tryz.prog 25 [.a ([.i .i64 a1] ++ [.i .i64 a2]), .a ([.i .i64 b1] ++ [.i .i64 b2]), .c (.i .i64 s)] [.c (.s 0 []), .c (.i .i64 11)] := by
  refine Ok.of (by kernel_rfl) Tryz.func25 rfl rfl ?_
  rw [show Tryz.f25.ntmps = 37 from rfl, show Tryz.f25.results.toList = [.tmp 6, .tmp 7] from rfl]
  refine dw_seq ?_
  -- region 0
  refine dw_region (by kernel_rfl) ?_
  refine dl_new (sem_box_a rfl rfl) rfl ?_
  refine dl_new (sem_box_a rfl rfl) rfl ?_
  refine dl_r (sem_assign rfl rfl) ?_
  refine dl_r (sem_assign rfl rfl) ?_
  refine dl_end ?_
  refine dw_seq ?_
  -- region 1
  refine dw_region (by kernel_rfl) ?_
  refine dl_r (sem_load (us := ([.i .i64 a1] ++ [.i .i64 a2])) ty34 rfl rfl rfl rfl rfl) ?_
  refine dl_r (sem_load (us := ([.i .i64 b1] ++ [.i .i64 b2])) ty34 rfl rfl rfl rfl rfl) ?_
  refine dl_r (sem_call rfl rfl (icast2b tDir_ok rfl rfl hok) rfl) ?_
  refine dl_r (sem_move rfl rfl) ?_
  refine dl_r (sem_extract rfl rfl rfl) ?_
  refine dl_r (sem_extract rfl rfl rfl) ?_
  refine dl_new (sem_alloc zc34 rfl) rfl ?_
  refine dl_st (sem_store_a ty34 rfl rfl rfl rfl rfl rfl) ?_
  refine dl_r (sem_assign rfl rfl) ?_
  refine dl_end ?_
  refine dw_seq ?_
  refine dw_seq ?_
  -- region 2
  refine dw_region (by kernel_rfl) ?_
  refine dl_r (sem_move rfl rfl) ?_
  refine dl_r (sem_not rfl rfl) ?_
  refine dl_r (sem_move rfl rfl) ?_
  refine dl_r (sem_move rfl rfl) ?_
  refine dl_r (sem_castb (c := false) (sem_cmp rfl rfl rfl rfl) (decide_eq_false (by omega))) ?_
  refine dl_r (sem_pick rfl rfl rfl rfl) ?_
  refine dl_end ?_
  refine dw_false rfl ?_
  refine dw_skip ?_
  refine dw_seq ?_
  refine dw_seq ?_
  -- region 4
  refine dw_region (by kernel_rfl) ?_
  refine dl_r (sem_load (us := ([.i .i64 a1] ++ [.i .i64 a2])) ty34 rfl rfl rfl rfl rfl) ?_
  refine dl_r (sem_call rfl rfl (rcastb (tRound_ok (by omega)) hf1) rfl) ?_
  refine dl_r (sem_not rfl rfl) ?_
  refine dl_r (sem_move rfl rfl) ?_
  refine dl_skip (sem_skip rfl) ?_
  refine dl_skip (sem_skip rfl) ?_
  refine dl_skip (sem_skip rfl) ?_
  refine dl_r (sem_pick rfl rfl rfl rfl) ?_
  refine dl_end ?_
  refine dw_true rfl ?_
  refine dw_seq ?_
  -- region 5
  refine dw_region (by kernel_rfl) ?_
  refine dl_r (sem_assign rfl rfl) ?_
  refine dl_r (sem_assign rfl rfl) ?_
  refine dl_end ?_
  refine dw_ret ?_
  -- path 
  exact ⟨.inr rfl, (resL_tmp rfl (resL_tmp rfl resL_nil))⟩
theorem tC_d {a1 a2 b1 b2 s : Int} (hok : dok a1 a2 b1 b2 = true) (hs : 1 ≤ s) (hr1 : rnd a1 a2 0 = true) (hf2 : rnd b1 b2 0 = false) : Ok Tryz.prog 25 [.a ([.i .i64 a1] ++ [.i .i64 a2]), .a ([.i .i64 b1] ++ [.i .i64 b2]), .c (.i .i64 s)] [.c (.s 0 []), .c (.i .i64 11)] := by
  refine Ok.of (by kernel_rfl) Tryz.func25 rfl rfl ?_
  rw [show Tryz.f25.ntmps = 37 from rfl, show Tryz.f25.results.toList = [.tmp 6, .tmp 7] from rfl]
  refine dw_seq ?_
  -- region 0
  refine dw_region (by kernel_rfl) ?_
  refine dl_new (sem_box_a rfl rfl) rfl ?_
  refine dl_new (sem_box_a rfl rfl) rfl ?_
  refine dl_r (sem_assign rfl rfl) ?_
  refine dl_r (sem_assign rfl rfl) ?_
  refine dl_end ?_
  refine dw_seq ?_
  -- region 1
  refine dw_region (by kernel_rfl) ?_
  refine dl_r (sem_load (us := ([.i .i64 a1] ++ [.i .i64 a2])) ty34 rfl rfl rfl rfl rfl) ?_
  refine dl_r (sem_load (us := ([.i .i64 b1] ++ [.i .i64 b2])) ty34 rfl rfl rfl rfl rfl) ?_
  refine dl_r (sem_call rfl rfl (icast2b tDir_ok rfl rfl hok) rfl) ?_
  refine dl_r (sem_move rfl rfl) ?_
  refine dl_r (sem_extract rfl rfl rfl) ?_
  refine dl_r (sem_extract rfl rfl rfl) ?_
  refine dl_new (sem_alloc zc34 rfl) rfl ?_
  refine dl_st (sem_store_a ty34 rfl rfl rfl rfl rfl rfl) ?_
  refine dl_r (sem_assign rfl rfl) ?_
  refine dl_end ?_
  refine dw_seq ?_
  refine dw_seq ?_
  -- region 2
  refine dw_region (by kernel_rfl) ?_
  refine dl_r (sem_move rfl rfl) ?_
  refine dl_r (sem_not rfl rfl) ?_
  refine dl_r (sem_move rfl rfl) ?_
  refine dl_r (sem_move rfl rfl) ?_
  refine dl_r (sem_castb (c := false) (sem_cmp rfl rfl rfl rfl) (decide_eq_false (by omega))) ?_
  refine dl_r (sem_pick rfl rfl rfl rfl) ?_
  refine dl_end ?_
  refine dw_false rfl ?_
  refine dw_skip ?_
  refine dw_seq ?_
  refine dw_seq ?_
  -- region 4
  refine dw_region (by kernel_rfl) ?_
  refine dl_r (sem_load (us := ([.i .i64 a1] ++ [.i .i64 a2])) ty34 rfl rfl rfl rfl rfl) ?_
  refine dl_r (sem_call rfl rfl (rcastb (tRound_ok (by omega)) hr1) rfl) ?_
  refine dl_r (sem_not rfl rfl) ?_
  refine dl_r (sem_move rfl rfl) ?_
  refine dl_r (sem_load (us := ([.i .i64 b1] ++ [.i .i64 b2])) ty34 rfl rfl rfl rfl rfl) ?_
  refine dl_r (sem_call rfl rfl (rcastb (tRound_ok (by omega)) hf2) rfl) ?_
  refine dl_r (sem_not rfl rfl) ?_
  refine dl_r (sem_pick rfl rfl rfl rfl) ?_
  refine dl_end ?_
  refine dw_true rfl ?_
  refine dw_seq ?_
  -- region 5
  refine dw_region (by kernel_rfl) ?_
  refine dl_r (sem_assign rfl rfl) ?_
  refine dl_r (sem_assign rfl rfl) ?_
  refine dl_end ?_
  refine dw_ret ?_
  -- path 
  exact ⟨.inr rfl, (resL_tmp rfl (resL_tmp rfl resL_nil))⟩
theorem tC_e {a1 a2 L dx dy s : Int} (hL : 1 ≤ L) (hd : Dir dx dy) (hs : 1 ≤ s) (hs2 : s ≤ 9223372036854775807) (r1 : -10000000 ≤ a1 ∧ a1 ≤ 10000000) (r2 : -10000000 ≤ a2 ∧ a2 ≤ 10000000) (r3 : -10000000 ≤ a1 + L * dx ∧ a1 + L * dx ≤ 10000000) (r4 : -10000000 ≤ a2 + L * dy ∧ a2 + L * dy ≤ 10000000) (hbig : 10000 < (L - 1) / s + 2) : Ok Tryz.prog 25 [.a ([.i .i64 a1] ++ [.i .i64 a2]), .a ([.i .i64 (a1 + L * dx)] ++ [.i .i64 (a2 + L * dy)]), .c (.i .i64 s)] [.c (.s 0 []), .c (.i .i64 3)] := by
  refine Ok.of (by kernel_rfl) Tryz.func25 rfl rfl ?_
  rw [show Tryz.f25.ntmps = 37 from rfl, show Tryz.f25.results.toList = [.tmp 6, .tmp 7] from rfl]
  refine dw_seq ?_
  -- region 0
  refine dw_region (by kernel_rfl) ?_
  refine dl_new (sem_box_a rfl rfl) rfl ?_
  refine dl_new (sem_box_a rfl rfl) rfl ?_
  refine dl_r (sem_assign rfl rfl) ?_
  refine dl_r (sem_assign rfl rfl) ?_
  refine dl_end ?_
  refine dw_seq ?_
  -- region 1
  refine dw_region (by kernel_rfl) ?_
  refine dl_r (sem_load (us := ([.i .i64 a1] ++ [.i .i64 a2])) ty34 rfl rfl rfl rfl rfl) ?_
  refine dl_r (sem_load (us := ([.i .i64 (a1 + L * dx)] ++ [.i .i64 (a2 + L * dy)])) ty34 rfl rfl rfl rfl rfl) ?_
  refine dl_r (sem_call rfl rfl (icast2b tDir_ok (dsg_dir hL hd.x) (dsg_dir hL hd.y) (dok_dir hL hd)) rfl) ?_
  refine dl_r (sem_move rfl rfl) ?_
  refine dl_r (sem_extract rfl rfl rfl) ?_
  refine dl_r (sem_extract rfl rfl rfl) ?_
  refine dl_new (sem_alloc zc34 rfl) rfl ?_
  refine dl_st (sem_store_a ty34 rfl rfl rfl rfl rfl rfl) ?_
  refine dl_r (sem_assign rfl rfl) ?_
  refine dl_end ?_
  refine dw_seq ?_
  refine dw_seq ?_
  -- region 2
  refine dw_region (by kernel_rfl) ?_
  refine dl_r (sem_move rfl rfl) ?_
  refine dl_r (sem_not rfl rfl) ?_
  refine dl_r (sem_move rfl rfl) ?_
  refine dl_r (sem_move rfl rfl) ?_
  refine dl_r (sem_castb (c := false) (sem_cmp rfl rfl rfl rfl) (decide_eq_false (by omega))) ?_
  refine dl_r (sem_pick rfl rfl rfl rfl) ?_
  refine dl_end ?_
  refine dw_false rfl ?_
  refine dw_skip ?_
  refine dw_seq ?_
  refine dw_seq ?_
  -- region 4
  refine dw_region (by kernel_rfl) ?_
  refine dl_r (sem_load (us := ([.i .i64 a1] ++ [.i .i64 a2])) ty34 rfl rfl rfl rfl rfl) ?_
  refine dl_r (sem_call rfl rfl (rcastb (tRound_ok (by omega)) ((rnd_iff _ _ _).2 (by omega))) rfl) ?_
  refine dl_r (sem_not rfl rfl) ?_
  refine dl_r (sem_move rfl rfl) ?_
  refine dl_r (sem_load (us := ([.i .i64 (a1 + L * dx)] ++ [.i .i64 (a2 + L * dy)])) ty34 rfl rfl rfl rfl rfl) ?_
  refine dl_r (sem_call rfl rfl (rcastb (tRound_ok (by omega)) ((rnd_iff _ _ _).2 (by omega))) rfl) ?_
  refine dl_r (sem_not rfl rfl) ?_
  refine dl_r (sem_pick rfl rfl rfl rfl) ?_
  refine dl_end ?_
  refine dw_false rfl ?_
  refine dw_skip ?_
  refine dw_seq ?_
  -- region 6
  refine dw_region (by kernel_rfl) ?_
  refine dl_r (sem_load (us := ([.i .i64 a1] ++ [.i .i64 a2])) ty34 rfl rfl rfl rfl rfl) ?_
  refine dl_r (sem_load (us := ([.i .i64 (a1 + L * dx)] ++ [.i .i64 (a2 + L * dy)])) ty34 rfl rfl rfl rfl rfl) ?_
  refine dl_r (sem_load (us := ([.i .i64 dx] ++ [.i .i64 dy])) ty34 rfl rfl rfl rfl rfl) ?_
  refine dl_r (sem_move rfl rfl) ?_
  refine dl_r (sem_call rfl rfl (tcen_big hL hd hs hs2 r1 r2 r3 r4 hbig) rfl) ?_
  refine dl_r (sem_extract rfl rfl rfl) ?_
  refine dl_r (sem_extract rfl rfl rfl) ?_
  refine dl_r (sem_assign rfl rfl) ?_
  refine dl_r (sem_assign rfl rfl) ?_
  refine dl_end ?_
  refine dw_ret ?_
  -- path 
  exact ⟨.inr rfl, (resL_tmp rfl (resL_tmp rfl resL_nil))⟩
theorem tC_f {a1 a2 L dx dy s : Int} (hL : 1 ≤ L) (hd : Dir dx dy) (hs : 1 ≤ s) (hs2 : s ≤ 9223372036854775807) {k : Nat} (hk : (k : Int) = (L - 1) / s) (r1 : -10000000 ≤ a1 ∧ a1 ≤ 10000000) (r2 : -10000000 ≤ a2 ∧ a2 ≤ 10000000) (r3 : -10000000 ≤ a1 + L * dx ∧ a1 + L * dx ≤ 10000000) (r4 : -10000000 ≤ a2 + L * dy ∧ a2 + L * dy ≤ 10000000) (hfit : (L - 1) / s + 2 ≤ 10000) : Ok Tryz.prog 25 [.a ([.i .i64 a1] ++ [.i .i64 a2]), .a ([.i .i64 (a1 + L * dx)] ++ [.i .i64 (a2 + L * dy)]), .c (.i .i64 s)] [.c (.s (k + 1 + 1) (ctb a1 a2 dx dy L s k)), .c (.i .i64 0)] := by
  refine Ok.of (by kernel_rfl) Tryz.func25 rfl rfl ?_
  rw [show Tryz.f25.ntmps = 37 from rfl, show Tryz.f25.results.toList = [.tmp 6, .tmp 7] from rfl]
  refine dw_seq ?_
  -- region 0
  refine dw_region (by kernel_rfl) ?_
  refine dl_new (sem_box_a rfl rfl) rfl ?_
  refine dl_new (sem_box_a rfl rfl) rfl ?_
  refine dl_r (sem_assign rfl rfl) ?_
  refine dl_r (sem_assign rfl rfl) ?_
  refine dl_end ?_
  refine dw_seq ?_
  -- region 1
  refine dw_region (by kernel_rfl) ?_
  refine dl_r (sem_load (us := ([.i .i64 a1] ++ [.i .i64 a2])) ty34 rfl rfl rfl rfl rfl) ?_
  refine dl_r (sem_load (us := ([.i .i64 (a1 + L * dx)] ++ [.i .i64 (a2 + L * dy)])) ty34 rfl rfl rfl rfl rfl) ?_
  refine dl_r (sem_call rfl rfl (icast2b tDir_ok (dsg_dir hL hd.x) (dsg_dir hL hd.y) (dok_dir hL hd)) rfl) ?_
  refine dl_r (sem_move rfl rfl) ?_
  refine dl_r (sem_extract rfl rfl rfl) ?_
  refine dl_r (sem_extract rfl rfl rfl) ?_
  refine dl_new (sem_alloc zc34 rfl) rfl ?_
  refine dl_st (sem_store_a ty34 rfl rfl rfl rfl rfl rfl) ?_
  refine dl_r (sem_assign rfl rfl) ?_
  refine dl_end ?_
  refine dw_seq ?_
  refine dw_seq ?_
  -- region 2
  refine dw_region (by kernel_rfl) ?_
  refine dl_r (sem_move rfl rfl) ?_
  refine dl_r (sem_not rfl rfl) ?_
  refine dl_r (sem_move rfl rfl) ?_
  refine dl_r (sem_move rfl rfl) ?_
  refine dl_r (sem_castb (c := false) (sem_cmp rfl rfl rfl rfl) (decide_eq_false (by omega))) ?_
  refine dl_r (sem_pick rfl rfl rfl rfl) ?_
  refine dl_end ?_
  refine dw_false rfl ?_
  refine dw_skip ?_
  refine dw_seq ?_
  refine dw_seq ?_
  -- region 4
  refine dw_region (by kernel_rfl) ?_
  refine dl_r (sem_load (us := ([.i .i64 a1] ++ [.i .i64 a2])) ty34 rfl rfl rfl rfl rfl) ?_
  refine dl_r (sem_call rfl rfl (rcastb (tRound_ok (by omega)) ((rnd_iff _ _ _).2 (by omega))) rfl) ?_
  refine dl_r (sem_not rfl rfl) ?_
  refine dl_r (sem_move rfl rfl) ?_
  refine dl_r (sem_load (us := ([.i .i64 (a1 + L * dx)] ++ [.i .i64 (a2 + L * dy)])) ty34 rfl rfl rfl rfl rfl) ?_
  refine dl_r (sem_call rfl rfl (rcastb (tRound_ok (by omega)) ((rnd_iff _ _ _).2 (by omega))) rfl) ?_
  refine dl_r (sem_not rfl rfl) ?_
  refine dl_r (sem_pick rfl rfl rfl rfl) ?_
  refine dl_end ?_
  refine dw_false rfl ?_
  refine dw_skip ?_
  refine dw_seq ?_
  -- region 6
  refine dw_region (by kernel_rfl) ?_
  refine dl_r (sem_load (us := ([.i .i64 a1] ++ [.i .i64 a2])) ty34 rfl rfl rfl rfl rfl) ?_
  refine dl_r (sem_load (us := ([.i .i64 (a1 + L * dx)] ++ [.i .i64 (a2 + L * dy)])) ty34 rfl rfl rfl rfl rfl) ?_
  refine dl_r (sem_load (us := ([.i .i64 dx] ++ [.i .i64 dy])) ty34 rfl rfl rfl rfl rfl) ?_
  refine dl_r (sem_move rfl rfl) ?_
  refine dl_r (sem_call rfl rfl (tcen_ok hL hd hs hs2 hk r1 r2 r3 r4 hfit) rfl) ?_
  refine dl_r (sem_extract rfl rfl rfl) ?_
  refine dl_r (sem_extract rfl rfl rfl) ?_
  refine dl_r (sem_assign rfl rfl) ?_
  refine dl_r (sem_assign rfl rfl) ?_
  refine dl_end ?_
  refine dw_ret ?_
  -- path 
  exact ⟨.inr rfl, (resL_tmp rfl (resL_tmp rfl resL_nil))⟩
def chkE (a1 a2 b1 b2 r z : Int) : Int := if dok a1 a2 b1 b2 = true then (if (outb a1 a2 r || (outb b1 b2 r || far z)) = true then 11 else 0) else 1
theorem pj_bd {L s : Int} {k j : Nat} (hs : 1 ≤ s) (hk : (k : Int) = (L - 1) / s) (h2 : j ≤ k) : ((j + 1 : Nat) : Int) * s ≤ L - 1 + s := by
  rw [ct_nx]
  have h := Int.le_ediv_iff_mul_le (a := (j : Int)) (b := L - 1) (c := s) (by omega)
  have := h.1 (by omega)
  omega
theorem rChk_ok {a1 a2 b1 b2 r z : Int} : Ok Tryz.prog 37 [.a ([.i .i64 a1] ++ [.i .i64 a2]), .a ([.i .i64 b1] ++ [.i .i64 b2]), .c (.i .i64 r), .c (.i .i64 z)] [.c (.i .i64 (chkE a1 a2 b1 b2 r z))] := by
  refine Ok.of (by kernel_rfl) Tryz.func37 rfl rfl ?_
  rw [show Tryz.f37.ntmps = 31 from rfl, show Tryz.f37.results.toList = [.tmp 8] from rfl]
  refine dw_seq ?_
  -- region 0
  refine dw_region (by kernel_rfl) ?_
  refine dl_new (sem_box_a rfl rfl) rfl ?_
  refine dl_new (sem_box_a rfl rfl) rfl ?_
  refine dl_r (sem_assign rfl rfl) ?_
  refine dl_end ?_
  refine dw_seq ?_
  refine dw_seq ?_
  -- region 1
  refine dw_region (by kernel_rfl) ?_
  refine dl_r (sem_load (us := ([.i .i64 a1] ++ [.i .i64 a2])) ty34 rfl rfl rfl rfl rfl) ?_
  refine dl_r (sem_load (us := ([.i .i64 b1] ++ [.i .i64 b2])) ty34 rfl rfl rfl rfl rfl) ?_
  refine dl_r (sem_call rfl rfl (rDir_ok) rfl) ?_
  refine dl_r (sem_move rfl rfl) ?_
  refine dl_r (sem_extract rfl rfl rfl) ?_
  refine dl_r (sem_extract rfl rfl rfl) ?_
  refine dl_new (sem_alloc zc34 rfl) rfl ?_
  refine dl_st (sem_store_a ty34 rfl rfl rfl rfl rfl rfl) ?_
  refine dl_r (sem_assign rfl rfl) ?_
  refine dl_end ?_
  refine dw_seq ?_
  -- region 2
  refine dw_region (by kernel_rfl) ?_
  refine dl_r (sem_move rfl rfl) ?_
  refine dl_r (sem_not rfl rfl) ?_
  refine dl_end ?_
  refine dw_cond rfl (fun hc1 => ?_) (fun hc1 => ?_)
  · refine dw_seq ?_
    -- region 3
    refine dw_region (by kernel_rfl) ?_
    refine dl_r (sem_assign rfl rfl) ?_
    refine dl_end ?_
    refine dw_ret ?_
    -- path T
    rw [show chkE a1 a2 b1 b2 r z = 1 from by unfold chkE; simp [show dok a1 a2 b1 b2 = false from by simpa using hc1]]
    exact ⟨.inr rfl, (resL_tmp rfl resL_nil)⟩
  · refine dw_skip ?_
    refine dw_seq ?_
    refine dw_seq ?_
    -- region 4
    refine dw_region (by kernel_rfl) ?_
    refine dl_r (sem_load (us := ([.i .i64 a1] ++ [.i .i64 a2])) ty34 rfl rfl rfl rfl rfl) ?_
    refine dl_r (sem_move rfl rfl) ?_
    refine dl_r (sem_call rfl rfl (rOut_ok) rfl) ?_
    refine dl_rb (sem_move rfl rfl) (fun c2 hb2 => ?_)
    cases c2
    · refine dl_r (sem_load (us := ([.i .i64 b1] ++ [.i .i64 b2])) ty34 rfl rfl rfl rfl rfl) ?_
      refine dl_r (sem_move rfl rfl) ?_
      refine dl_r (sem_call rfl rfl (rOut_ok) rfl) ?_
      refine dl_r (sem_pick rfl rfl rfl rfl) ?_
      refine dl_rb (sem_move rfl rfl) (fun c3 hb3 => ?_)
      cases c3
      · refine dl_r (sem_move rfl rfl) ?_
        refine dl_r (sem_call rfl rfl (rFar_ok) rfl) ?_
        refine dl_r (sem_pick rfl rfl rfl rfl) ?_
        refine dl_end ?_
        refine dw_cond rfl (fun hc4 => ?_) (fun hc4 => ?_)
        · refine dw_seq ?_
          -- region 5
          refine dw_region (by kernel_rfl) ?_
          refine dl_r (sem_assign rfl rfl) ?_
          refine dl_end ?_
          refine dw_ret ?_
          -- path FffT
          rw [show chkE a1 a2 b1 b2 r z = 11 from by unfold chkE; simp [show dok a1 a2 b1 b2 = true from by simpa using hc1, hb2, hb3, hc4]]
          exact ⟨.inr rfl, (resL_tmp rfl resL_nil)⟩
        · refine dw_skip ?_
          refine dw_seq ?_
          -- region 6
          refine dw_region (by kernel_rfl) ?_
          refine dl_r (sem_assign rfl rfl) ?_
          refine dl_end ?_
          refine dw_ret ?_
          -- path FffF
          rw [show chkE a1 a2 b1 b2 r z = 0 from by unfold chkE; simp [show dok a1 a2 b1 b2 = true from by simpa using hc1, hb2, hb3, hc4]]
          exact ⟨.inr rfl, (resL_tmp rfl resL_nil)⟩
      · refine dl_skip (sem_skip rfl) ?_
        refine dl_skip (sem_skip rfl) ?_
        refine dl_r (sem_pick rfl rfl rfl rfl) ?_
        refine dl_end ?_
        refine dw_true rfl ?_
        refine dw_seq ?_
        -- region 5
        refine dw_region (by kernel_rfl) ?_
        refine dl_r (sem_assign rfl rfl) ?_
        refine dl_end ?_
        refine dw_ret ?_
        -- path Fft
        rw [show chkE a1 a2 b1 b2 r z = 11 from by unfold chkE; simp [show dok a1 a2 b1 b2 = true from by simpa using hc1, hb2, hb3]]
        exact ⟨.inr rfl, (resL_tmp rfl resL_nil)⟩
    · refine dl_skip (sem_skip rfl) ?_
      refine dl_skip (sem_skip rfl) ?_
      refine dl_skip (sem_skip rfl) ?_
      refine dl_r (sem_pick rfl rfl rfl rfl) ?_
      refine dl_r (sem_move rfl rfl) ?_
      refine dl_skip (sem_skip rfl) ?_
      refine dl_skip (sem_skip rfl) ?_
      refine dl_r (sem_pick rfl rfl rfl rfl) ?_
      refine dl_end ?_
      refine dw_true rfl ?_
      refine dw_seq ?_
      -- region 5
      refine dw_region (by kernel_rfl) ?_
      refine dl_r (sem_assign rfl rfl) ?_
      refine dl_end ?_
      refine dw_ret ?_
      -- path Ft
      rw [show chkE a1 a2 b1 b2 r z = 11 from by unfold chkE; simp [show dok a1 a2 b1 b2 = true from by simpa using hc1, hb2]]
      exact ⟨.inr rfl, (resL_tmp rfl resL_nil)⟩
theorem rAt_ok {x y dx dy n : Int} (hd : Dir dx dy) (q1 : -20000000 ≤ x ∧ x ≤ 20000000) (q2 : -20000000 ≤ y ∧ y ≤ 20000000) (q3 : -9000000000000000000 ≤ n ∧ n ≤ 9000000000000000000) : Ok Tryz.prog 43 [.a ([.i .i64 x] ++ [.i .i64 y]), .a ([.i .i64 dx] ++ [.i .i64 dy]), .c (.i .i64 n)] [.a ([.i .i64 (x + n * dx)] ++ [.i .i64 (y + n * dy)])] := by
  refine Ok.of (by kernel_rfl) Tryz.func43 rfl rfl ?_
  rw [show Tryz.f43.ntmps = 22 from rfl, show Tryz.f43.results.toList = [.cell 6 34] from rfl]
  refine dw_seq ?_
  -- region 0
  refine dw_region (by kernel_rfl) ?_
  refine dl_new (sem_box_a rfl rfl) rfl ?_
  refine dl_new (sem_box_a rfl rfl) rfl ?_
  refine dl_new (sem_alloc zc34 rfl) rfl ?_
  refine dl_end ?_
  refine dw_seq ?_
  -- region 1
  refine dw_region (by kernel_rfl) ?_
  refine dl_r (sem_field fd34_0 rfl rfl) ?_
  refine dl_r (sem_load1 ty2 rfl rfl rfl rfl) ?_
  refine dl_r (sem_move rfl rfl) ?_
  refine dl_r (sem_field fd34_0 rfl rfl) ?_
  refine dl_r (sem_load1 ty2 rfl rfl rfl rfl) ?_
  refine dl_r (sem_ari (r := n * dx) rfl rfl (ari_i64_mul (by rcases hd with ⟨rfl, rfl⟩ | ⟨rfl, rfl⟩ | ⟨rfl, rfl⟩ | ⟨rfl, rfl⟩ <;> omega) (by rcases hd with ⟨rfl, rfl⟩ | ⟨rfl, rfl⟩ | ⟨rfl, rfl⟩ | ⟨rfl, rfl⟩ <;> omega)) rfl) ?_
  refine dl_r (sem_ari (r := x + (n * dx)) rfl rfl (ari_i64_add (by rcases hd with ⟨rfl, rfl⟩ | ⟨rfl, rfl⟩ | ⟨rfl, rfl⟩ | ⟨rfl, rfl⟩ <;> omega) (by rcases hd with ⟨rfl, rfl⟩ | ⟨rfl, rfl⟩ | ⟨rfl, rfl⟩ | ⟨rfl, rfl⟩ <;> omega)) rfl) ?_
  refine dl_r (sem_field fd34_1 rfl rfl) ?_
  refine dl_r (sem_load1 ty2 rfl rfl rfl rfl) ?_
  refine dl_r (sem_move rfl rfl) ?_
  refine dl_r (sem_field fd34_1 rfl rfl) ?_
  refine dl_r (sem_load1 ty2 rfl rfl rfl rfl) ?_
  refine dl_r (sem_ari (r := n * dy) rfl rfl (ari_i64_mul (by rcases hd with ⟨rfl, rfl⟩ | ⟨rfl, rfl⟩ | ⟨rfl, rfl⟩ | ⟨rfl, rfl⟩ <;> omega) (by rcases hd with ⟨rfl, rfl⟩ | ⟨rfl, rfl⟩ | ⟨rfl, rfl⟩ | ⟨rfl, rfl⟩ <;> omega)) rfl) ?_
  refine dl_r (sem_ari (r := y + (n * dy)) rfl rfl (ari_i64_add (by rcases hd with ⟨rfl, rfl⟩ | ⟨rfl, rfl⟩ | ⟨rfl, rfl⟩ | ⟨rfl, rfl⟩ <;> omega) (by rcases hd with ⟨rfl, rfl⟩ | ⟨rfl, rfl⟩ | ⟨rfl, rfl⟩ | ⟨rfl, rfl⟩ <;> omega)) rfl) ?_
  refine dl_r (sem_build (us := ([.i .i64 (x + (n * dx))] ++ [.i .i64 (y + (n * dy))])) fs34 zc34 rfl rfl rfl) ?_
  refine dl_st (sem_store_a ty34 rfl rfl rfl rfl rfl rfl) ?_
  refine dl_end ?_
  refine dw_ret ?_
  -- path 
  exact ⟨.inr rfl, (resL_cell (us := ([.i .i64 (x + (n * dx))] ++ [.i .i64 (y + (n * dy))])) ty34 rfl rfl rfl rfl resL_nil)⟩
theorem rBef_ok {x y b1 b2 dx dy : Int} (hd : Dir dx dy) (q1 : -30000000 ≤ b1 - x ∧ b1 - x ≤ 30000000) (q2 : -30000000 ≤ b2 - y ∧ b2 - y ≤ 30000000) : Ok Tryz.prog 42 [.a ([.i .i64 x] ++ [.i .i64 y]), .a ([.i .i64 b1] ++ [.i .i64 b2]), .a ([.i .i64 dx] ++ [.i .i64 dy])] [.c (.b (decide ((b1 - x) * dx + (b2 - y) * dy > 0)))] := by
  refine Ok.of (by kernel_rfl) Tryz.func42 rfl rfl ?_
  rw [show Tryz.f42.ntmps = 25 from rfl, show Tryz.f42.results.toList = [.tmp 6] from rfl]
  refine dw_seq ?_
  -- region 0
  refine dw_region (by kernel_rfl) ?_
  refine dl_new (sem_box_a rfl rfl) rfl ?_
  refine dl_new (sem_box_a rfl rfl) rfl ?_
  refine dl_new (sem_box_a rfl rfl) rfl ?_
  refine dl_r (sem_assign rfl rfl) ?_
  refine dl_end ?_
  refine dw_seq ?_
  -- region 1
  refine dw_region (by kernel_rfl) ?_
  refine dl_r (sem_field fd34_0 rfl rfl) ?_
  refine dl_r (sem_load1 ty2 rfl rfl rfl rfl) ?_
  refine dl_r (sem_field fd34_0 rfl rfl) ?_
  refine dl_r (sem_load1 ty2 rfl rfl rfl rfl) ?_
  refine dl_r (sem_ari (r := b1 - x) rfl rfl (ari_i64_sub (by rcases hd with ⟨rfl, rfl⟩ | ⟨rfl, rfl⟩ | ⟨rfl, rfl⟩ | ⟨rfl, rfl⟩ <;> omega) (by rcases hd with ⟨rfl, rfl⟩ | ⟨rfl, rfl⟩ | ⟨rfl, rfl⟩ | ⟨rfl, rfl⟩ <;> omega)) rfl) ?_
  refine dl_r (sem_field fd34_0 rfl rfl) ?_
  refine dl_r (sem_load1 ty2 rfl rfl rfl rfl) ?_
  refine dl_r (sem_ari (r := (b1 - x) * dx) rfl rfl (ari_i64_mul (by rcases hd with ⟨rfl, rfl⟩ | ⟨rfl, rfl⟩ | ⟨rfl, rfl⟩ | ⟨rfl, rfl⟩ <;> omega) (by rcases hd with ⟨rfl, rfl⟩ | ⟨rfl, rfl⟩ | ⟨rfl, rfl⟩ | ⟨rfl, rfl⟩ <;> omega)) rfl) ?_
  refine dl_r (sem_field fd34_1 rfl rfl) ?_
  refine dl_r (sem_load1 ty2 rfl rfl rfl rfl) ?_
  refine dl_r (sem_field fd34_1 rfl rfl) ?_
  refine dl_r (sem_load1 ty2 rfl rfl rfl rfl) ?_
  refine dl_r (sem_ari (r := b2 - y) rfl rfl (ari_i64_sub (by rcases hd with ⟨rfl, rfl⟩ | ⟨rfl, rfl⟩ | ⟨rfl, rfl⟩ | ⟨rfl, rfl⟩ <;> omega) (by rcases hd with ⟨rfl, rfl⟩ | ⟨rfl, rfl⟩ | ⟨rfl, rfl⟩ | ⟨rfl, rfl⟩ <;> omega)) rfl) ?_
  refine dl_r (sem_field fd34_1 rfl rfl) ?_
  refine dl_r (sem_load1 ty2 rfl rfl rfl rfl) ?_
  refine dl_r (sem_ari (r := (b2 - y) * dy) rfl rfl (ari_i64_mul (by rcases hd with ⟨rfl, rfl⟩ | ⟨rfl, rfl⟩ | ⟨rfl, rfl⟩ | ⟨rfl, rfl⟩ <;> omega) (by rcases hd with ⟨rfl, rfl⟩ | ⟨rfl, rfl⟩ | ⟨rfl, rfl⟩ | ⟨rfl, rfl⟩ <;> omega)) rfl) ?_
  refine dl_r (sem_ari (r := ((b1 - x) * dx) + ((b2 - y) * dy)) rfl rfl (ari_i64_add (by rcases hd with ⟨rfl, rfl⟩ | ⟨rfl, rfl⟩ | ⟨rfl, rfl⟩ | ⟨rfl, rfl⟩ <;> omega) (by rcases hd with ⟨rfl, rfl⟩ | ⟨rfl, rfl⟩ | ⟨rfl, rfl⟩ | ⟨rfl, rfl⟩ <;> omega)) rfl) ?_
  refine dl_r (sem_cmp rfl rfl rfl rfl) ?_
  refine dl_r (sem_assign rfl rfl) ?_
  refine dl_end ?_
  refine dw_ret ?_
  -- path 
  exact ⟨.inr rfl, (resL_tmp rfl resL_nil)⟩
theorem rC_1 {a1 a2 b1 b2 s : Int} (hs : 1 ≤ s) (hE : chkE a1 a2 b1 b2 0 0 = 1) : Ok Tryz.prog 13 [.a ([.i .i64 a1] ++ [.i .i64 a2]), .a ([.i .i64 b1] ++ [.i .i64 b2]), .c (.i .i64 s)] [.c (.s 0 []), .c (.i .i64 1)] := by
  refine Ok.of (by kernel_rfl) Tryz.func13 rfl rfl ?_
  rw [show Tryz.f13.ntmps = 73 from rfl, show Tryz.f13.results.toList = [.tmp 6, .tmp 7] from rfl]
  refine dw_seq ?_
  -- region 0
  refine dw_region (by kernel_rfl) ?_
  refine dl_new (sem_box_a rfl rfl) rfl ?_
  refine dl_new (sem_box_a rfl rfl) rfl ?_
  refine dl_r (sem_assign rfl rfl) ?_
  refine dl_r (sem_assign rfl rfl) ?_
  refine dl_end ?_
  refine dw_seq ?_
  refine dw_seq ?_
  -- region 1
  refine dw_region (by kernel_rfl) ?_
  refine dl_r (sem_move rfl rfl) ?_
  refine dl_r (sem_castb (c := false) (sem_cmp rfl rfl rfl rfl) (decide_eq_false (by omega))) ?_
  refine dl_end ?_
  refine dw_false rfl ?_
  refine dw_skip ?_
  refine dw_seq ?_
  refine dw_seq ?_
  -- region 3
  refine dw_region (by kernel_rfl) ?_
  refine dl_r (sem_load (us := ([.i .i64 a1] ++ [.i .i64 a2])) ty34 rfl rfl rfl rfl rfl) ?_
  refine dl_r (sem_load (us := ([.i .i64 b1] ++ [.i .i64 b2])) ty34 rfl rfl rfl rfl rfl) ?_
  refine dl_r (sem_call rfl rfl (rcasti rChk_ok hE) rfl) ?_
  refine dl_r (sem_assign rfl rfl) ?_
  refine dl_end ?_
  refine dw_seq ?_
  -- region 4
  refine dw_region (by kernel_rfl) ?_
  refine dl_r (sem_move rfl rfl) ?_
  refine dl_r (sem_cmp rfl rfl rfl rfl) ?_
  refine dl_end ?_
  refine dw_true rfl ?_
  refine dw_seq ?_
  -- region 5
  refine dw_region (by kernel_rfl) ?_
  refine dl_r (sem_move rfl rfl) ?_
  refine dl_r (sem_assign rfl rfl) ?_
  refine dl_r (sem_assign rfl rfl) ?_
  refine dl_end ?_
  refine dw_ret ?_
  -- path 
  exact ⟨.inr rfl, (resL_tmp rfl (resL_tmp rfl resL_nil))⟩
theorem rC_11 {a1 a2 b1 b2 s : Int} (hs : 1 ≤ s) (hE : chkE a1 a2 b1 b2 0 0 = 11) : Ok Tryz.prog 13 [.a ([.i .i64 a1] ++ [.i .i64 a2]), .a ([.i .i64 b1] ++ [.i .i64 b2]), .c (.i .i64 s)] [.c (.s 0 []), .c (.i .i64 11)] := by
  refine Ok.of (by kernel_rfl) Tryz.func13 rfl rfl ?_
  rw [show Tryz.f13.ntmps = 73 from rfl, show Tryz.f13.results.toList = [.tmp 6, .tmp 7] from rfl]
  refine dw_seq ?_
  -- region 0
  refine dw_region (by kernel_rfl) ?_
  refine dl_new (sem_box_a rfl rfl) rfl ?_
  refine dl_new (sem_box_a rfl rfl) rfl ?_
  refine dl_r (sem_assign rfl rfl) ?_
  refine dl_r (sem_assign rfl rfl) ?_
  refine dl_end ?_
  refine dw_seq ?_
  refine dw_seq ?_
  -- region 1
  refine dw_region (by kernel_rfl) ?_
  refine dl_r (sem_move rfl rfl) ?_
  refine dl_r (sem_castb (c := false) (sem_cmp rfl rfl rfl rfl) (decide_eq_false (by omega))) ?_
  refine dl_end ?_
  refine dw_false rfl ?_
  refine dw_skip ?_
  refine dw_seq ?_
  refine dw_seq ?_
  -- region 3
  refine dw_region (by kernel_rfl) ?_
  refine dl_r (sem_load (us := ([.i .i64 a1] ++ [.i .i64 a2])) ty34 rfl rfl rfl rfl rfl) ?_
  refine dl_r (sem_load (us := ([.i .i64 b1] ++ [.i .i64 b2])) ty34 rfl rfl rfl rfl rfl) ?_
  refine dl_r (sem_call rfl rfl (rcasti rChk_ok hE) rfl) ?_
  refine dl_r (sem_assign rfl rfl) ?_
  refine dl_end ?_
  refine dw_seq ?_
  -- region 4
  refine dw_region (by kernel_rfl) ?_
  refine dl_r (sem_move rfl rfl) ?_
  refine dl_r (sem_cmp rfl rfl rfl rfl) ?_
  refine dl_end ?_
  refine dw_true rfl ?_
  refine dw_seq ?_
  -- region 5
  refine dw_region (by kernel_rfl) ?_
  refine dl_r (sem_move rfl rfl) ?_
  refine dl_r (sem_assign rfl rfl) ?_
  refine dl_r (sem_assign rfl rfl) ?_
  refine dl_end ?_
  refine dw_ret ?_
  -- path 
  exact ⟨.inr rfl, (resL_tmp rfl (resL_tmp rfl resL_nil))⟩
theorem rC_0 {a1 a2 b1 b2 s : Int} (hs : s ≤ 0) : Ok Tryz.prog 13 [.a ([.i .i64 a1] ++ [.i .i64 a2]), .a ([.i .i64 b1] ++ [.i .i64 b2]), .c (.i .i64 s)] [.c (.s 0 []), .c (.i .i64 1)] := by
  refine Ok.of (by kernel_rfl) Tryz.func13 rfl rfl ?_
  rw [show Tryz.f13.ntmps = 73 from rfl, show Tryz.f13.results.toList = [.tmp 6, .tmp 7] from rfl]
  refine dw_seq ?_
  -- region 0
  refine dw_region (by kernel_rfl) ?_
  refine dl_new (sem_box_a rfl rfl) rfl ?_
  refine dl_new (sem_box_a rfl rfl) rfl ?_
  refine dl_r (sem_assign rfl rfl) ?_
  refine dl_r (sem_assign rfl rfl) ?_
  refine dl_end ?_
  refine dw_seq ?_
  refine dw_seq ?_
  -- region 1
  refine dw_region (by kernel_rfl) ?_
  refine dl_r (sem_move rfl rfl) ?_
  refine dl_r (sem_castb (c := true) (sem_cmp rfl rfl rfl rfl) (decide_eq_true (by omega))) ?_
  refine dl_end ?_
  refine dw_true rfl ?_
  refine dw_seq ?_
  -- region 2
  refine dw_region (by kernel_rfl) ?_
  refine dl_r (sem_assign rfl rfl) ?_
  refine dl_r (sem_assign rfl rfl) ?_
  refine dl_end ?_
  refine dw_ret ?_
  -- path 
  exact ⟨.inr rfl, (resL_tmp rfl (resL_tmp rfl resL_nil))⟩
theorem rC_big {a1 a2 L dx dy s m : Int} (hL : 1 ≤ L) (hd : Dir dx dy) (hs1 : 1 ≤ s) (hmn : min s L = m) (r1 : -10000000 ≤ a1 ∧ a1 ≤ 10000000) (r2 : -10000000 ≤ a2 ∧ a2 ≤ 10000000) (r3 : -10000000 ≤ a1 + L * dx ∧ a1 + L * dx ≤ 10000000) (r4 : -10000000 ≤ a2 + L * dy ∧ a2 + L * dy ≤ 10000000) (hbig : 9999 < (L - 1) / m + 1) : Ok Tryz.prog 13 [.a ([.i .i64 a1] ++ [.i .i64 a2]), .a ([.i .i64 (a1 + L * dx)] ++ [.i .i64 (a2 + L * dy)]), .c (.i .i64 s)] [.c (.s 0 []), .c (.i .i64 3)] := by
  have hL2 := dir_L hL hd r1 r2 r3 r4
  have hs : 1 ≤ m := by omega
  have hm2 : m ≤ L := by omega
  have hq := q_bd hL hs
  have hE : chkE a1 a2 (a1 + L * dx) (a2 + L * dy) 0 0 = 0 := by
    unfold chkE
    rw [if_pos (dok_dir hL hd), (outb_iff _ _ _).2 (by omega), (outb_iff _ _ _).2 (by omega), far_i (by omega) (by omega)]; rfl
  refine Ok.of (by kernel_rfl) Tryz.func13 rfl rfl ?_
  rw [show Tryz.f13.ntmps = 73 from rfl, show Tryz.f13.results.toList = [.tmp 6, .tmp 7] from rfl]
  refine dw_seq ?_
  -- region 0
  refine dw_region (by kernel_rfl) ?_
  refine dl_new (sem_box_a rfl rfl) rfl ?_
  refine dl_new (sem_box_a rfl rfl) rfl ?_
  refine dl_r (sem_assign rfl rfl) ?_
  refine dl_r (sem_assign rfl rfl) ?_
  refine dl_end ?_
  refine dw_seq ?_
  refine dw_seq ?_
  -- region 1
  refine dw_region (by kernel_rfl) ?_
  refine dl_r (sem_move rfl rfl) ?_
  refine dl_r (sem_castb (c := false) (sem_cmp rfl rfl rfl rfl) (decide_eq_false (by omega))) ?_
  refine dl_end ?_
  refine dw_false rfl ?_
  refine dw_skip ?_
  refine dw_seq ?_
  refine dw_seq ?_
  -- region 3
  refine dw_region (by kernel_rfl) ?_
  refine dl_r (sem_load (us := ([.i .i64 a1] ++ [.i .i64 a2])) ty34 rfl rfl rfl rfl rfl) ?_
  refine dl_r (sem_load (us := ([.i .i64 (a1 + L * dx)] ++ [.i .i64 (a2 + L * dy)])) ty34 rfl rfl rfl rfl rfl) ?_
  refine dl_r (sem_call rfl rfl (rcasti rChk_ok hE) rfl) ?_
  refine dl_r (sem_assign rfl rfl) ?_
  refine dl_end ?_
  refine dw_seq ?_
  -- region 4
  refine dw_region (by kernel_rfl) ?_
  refine dl_r (sem_move rfl rfl) ?_
  refine dl_r (sem_cmp rfl rfl rfl rfl) ?_
  refine dl_end ?_
  refine dw_false rfl ?_
  refine dw_skip ?_
  refine dw_seq ?_
  -- region 6
  refine dw_region (by kernel_rfl) ?_
  refine dl_r (sem_load (us := ([.i .i64 a1] ++ [.i .i64 a2])) ty34 rfl rfl rfl rfl rfl) ?_
  refine dl_r (sem_load (us := ([.i .i64 (a1 + L * dx)] ++ [.i .i64 (a2 + L * dy)])) ty34 rfl rfl rfl rfl rfl) ?_
  refine dl_r (sem_call rfl rfl (icast2b rDir_ok (dsg_dir hL hd.x) (dsg_dir hL hd.y) (dok_dir hL hd)) rfl) ?_
  refine dl_r (sem_move rfl rfl) ?_
  refine dl_r (sem_extract rfl rfl rfl) ?_
  refine dl_r (sem_extract rfl rfl rfl) ?_
  refine dl_new (sem_alloc zc34 rfl) rfl ?_
  refine dl_st (sem_store_a ty34 rfl rfl rfl rfl rfl rfl) ?_
  refine dl_r (sem_assign rfl rfl) ?_
  refine dl_end ?_
  refine dw_seq ?_
  -- region 7
  refine dw_region (by kernel_rfl) ?_
  refine dl_r (sem_field fd34_0 rfl rfl) ?_
  refine dl_r (sem_load1 ty2 rfl rfl rfl rfl) ?_
  refine dl_r (sem_field fd34_0 rfl rfl) ?_
  refine dl_r (sem_load1 ty2 rfl rfl rfl rfl) ?_
  refine dl_r (sem_ari (r := (a1 + L * dx) - a1) rfl rfl (ari_i64_sub (by rcases hd with ⟨rfl, rfl⟩ | ⟨rfl, rfl⟩ | ⟨rfl, rfl⟩ | ⟨rfl, rfl⟩ <;> omega) (by rcases hd with ⟨rfl, rfl⟩ | ⟨rfl, rfl⟩ | ⟨rfl, rfl⟩ | ⟨rfl, rfl⟩ <;> omega)) rfl) ?_
  refine dl_r (sem_field fd34_0 rfl rfl) ?_
  refine dl_r (sem_load1 ty2 rfl rfl rfl rfl) ?_
  refine dl_r (sem_ari (r := ((a1 + L * dx) - a1) * dx) rfl rfl (ari_i64_mul (by rcases hd with ⟨rfl, rfl⟩ | ⟨rfl, rfl⟩ | ⟨rfl, rfl⟩ | ⟨rfl, rfl⟩ <;> omega) (by rcases hd with ⟨rfl, rfl⟩ | ⟨rfl, rfl⟩ | ⟨rfl, rfl⟩ | ⟨rfl, rfl⟩ <;> omega)) rfl) ?_
  refine dl_r (sem_field fd34_1 rfl rfl) ?_
  refine dl_r (sem_load1 ty2 rfl rfl rfl rfl) ?_
  refine dl_r (sem_field fd34_1 rfl rfl) ?_
  refine dl_r (sem_load1 ty2 rfl rfl rfl rfl) ?_
  refine dl_r (sem_ari (r := (a2 + L * dy) - a2) rfl rfl (ari_i64_sub (by rcases hd with ⟨rfl, rfl⟩ | ⟨rfl, rfl⟩ | ⟨rfl, rfl⟩ | ⟨rfl, rfl⟩ <;> omega) (by rcases hd with ⟨rfl, rfl⟩ | ⟨rfl, rfl⟩ | ⟨rfl, rfl⟩ | ⟨rfl, rfl⟩ <;> omega)) rfl) ?_
  refine dl_r (sem_field fd34_1 rfl rfl) ?_
  refine dl_r (sem_load1 ty2 rfl rfl rfl rfl) ?_
  refine dl_r (sem_ari (r := ((a2 + L * dy) - a2) * dy) rfl rfl (ari_i64_mul (by rcases hd with ⟨rfl, rfl⟩ | ⟨rfl, rfl⟩ | ⟨rfl, rfl⟩ | ⟨rfl, rfl⟩ <;> omega) (by rcases hd with ⟨rfl, rfl⟩ | ⟨rfl, rfl⟩ | ⟨rfl, rfl⟩ | ⟨rfl, rfl⟩ <;> omega)) rfl) ?_
  refine dl_r (sem_ari (r := L) rfl rfl ((ari_i64_add (by (rcases hd with ⟨rfl, rfl⟩ | ⟨rfl, rfl⟩ | ⟨rfl, rfl⟩ | ⟨rfl, rfl⟩ <;> omega)) (by (rcases hd with ⟨rfl, rfl⟩ | ⟨rfl, rfl⟩ | ⟨rfl, rfl⟩ | ⟨rfl, rfl⟩ <;> omega))).trans (congrArg some (by (rcases hd with ⟨rfl, rfl⟩ | ⟨rfl, rfl⟩ | ⟨rfl, rfl⟩ | ⟨rfl, rfl⟩ <;> omega)))) rfl) ?_
  refine dl_r (sem_assign rfl rfl) ?_
  refine dl_end ?_
  refine dw_seq ?_
  -- region 8
  refine dw_region (by kernel_rfl) ?_
  refine dl_r (sem_move rfl rfl) ?_
  refine dl_r (sem_move rfl rfl) ?_
  refine dl_r (sem_casti (c := m) (sem_min rfl rfl rfl) hmn) ?_
  refine dl_r (sem_assign rfl rfl) ?_
  refine dl_end ?_
  refine dw_seq ?_
  refine dw_seq ?_
  -- region 9
  refine dw_region (by kernel_rfl) ?_
  refine dl_r (sem_move rfl rfl) ?_
  refine dl_r (sem_move rfl rfl) ?_
  refine dl_r (sem_ari (r := L + m) rfl rfl (ari_i64_add (by rcases hd with ⟨rfl, rfl⟩ | ⟨rfl, rfl⟩ | ⟨rfl, rfl⟩ | ⟨rfl, rfl⟩ <;> omega) (by rcases hd with ⟨rfl, rfl⟩ | ⟨rfl, rfl⟩ | ⟨rfl, rfl⟩ | ⟨rfl, rfl⟩ <;> omega)) rfl) ?_
  refine dl_r (sem_ari (r := (L + m) - 1) rfl rfl (ari_i64_sub (by rcases hd with ⟨rfl, rfl⟩ | ⟨rfl, rfl⟩ | ⟨rfl, rfl⟩ | ⟨rfl, rfl⟩ <;> omega) (by rcases hd with ⟨rfl, rfl⟩ | ⟨rfl, rfl⟩ | ⟨rfl, rfl⟩ | ⟨rfl, rfl⟩ <;> omega)) rfl) ?_
  refine dl_r (sem_move rfl rfl) ?_
  refine dl_r (sem_quo' (r := (L - 1) / m + 1) rfl rfl (by omega) (cl_q hL hL2 hs) rfl) ?_
  refine dl_r (sem_castb (c := true) (sem_cmp rfl rfl rfl rfl) (decide_eq_true (by omega))) ?_
  refine dl_end ?_
  refine dw_true rfl ?_
  refine dw_seq ?_
  -- region 10
  refine dw_region (by kernel_rfl) ?_
  refine dl_r (sem_assign rfl rfl) ?_
  refine dl_r (sem_assign rfl rfl) ?_
  refine dl_end ?_
  refine dw_ret ?_
  -- path 
  exact ⟨.inr rfl, (resL_tmp rfl (resL_tmp rfl resL_nil))⟩
theorem rC_ok {a1 a2 L dx dy s m : Int} (hL : 1 ≤ L) (hd : Dir dx dy) (hs1 : 1 ≤ s) (hmn : min s L = m) {k : Nat} (hk : (k : Int) = (L - 1) / m) (r1 : -10000000 ≤ a1 ∧ a1 ≤ 10000000) (r2 : -10000000 ≤ a2 ∧ a2 ≤ 10000000) (r3 : -10000000 ≤ a1 + L * dx ∧ a1 + L * dx ≤ 10000000) (r4 : -10000000 ≤ a2 + L * dy ∧ a2 + L * dy ≤ 10000000) (hfit : (L - 1) / m + 1 ≤ 9999) : Ok Tryz.prog 13 [.a ([.i .i64 a1] ++ [.i .i64 a2]), .a ([.i .i64 (a1 + L * dx)] ++ [.i .i64 (a2 + L * dy)]), .c (.i .i64 s)] [.c (.s (k + 1 + 1) (ctb a1 a2 dx dy L m k)), .c (.i .i64 0)] := by
  have hL2 := dir_L hL hd r1 r2 r3 r4
  have hs : 1 ≤ m := by omega
  have hm2 : m ≤ L := by omega
  have hq := q_bd hL hs
  have hE : chkE a1 a2 (a1 + L * dx) (a2 + L * dy) 0 0 = 0 := by
    unfold chkE
    rw [if_pos (dok_dir hL hd), (outb_iff _ _ _).2 (by omega), (outb_iff _ _ _).2 (by omega), far_i (by omega) (by omega)]; rfl
  have hk2 : k ≤ 9998 := by omega
  refine Ok.of (by kernel_rfl) Tryz.func13 rfl rfl ?_
  rw [show Tryz.f13.ntmps = 73 from rfl, show Tryz.f13.results.toList = [.tmp 6, .tmp 7] from rfl]
  refine dw_seq ?_
  -- region 0
  refine dw_region (by kernel_rfl) ?_
  refine dl_new (sem_box_a rfl rfl) rfl ?_
  refine dl_new (sem_box_a rfl rfl) rfl ?_
  refine dl_r (sem_assign rfl rfl) ?_
  refine dl_r (sem_assign rfl rfl) ?_
  refine dl_end ?_
  refine dw_seq ?_
  refine dw_seq ?_
  -- region 1
  refine dw_region (by kernel_rfl) ?_
  refine dl_r (sem_move rfl rfl) ?_
  refine dl_r (sem_castb (c := false) (sem_cmp rfl rfl rfl rfl) (decide_eq_false (by omega))) ?_
  refine dl_end ?_
  refine dw_false rfl ?_
  refine dw_skip ?_
  refine dw_seq ?_
  refine dw_seq ?_
  -- region 3
  refine dw_region (by kernel_rfl) ?_
  refine dl_r (sem_load (us := ([.i .i64 a1] ++ [.i .i64 a2])) ty34 rfl rfl rfl rfl rfl) ?_
  refine dl_r (sem_load (us := ([.i .i64 (a1 + L * dx)] ++ [.i .i64 (a2 + L * dy)])) ty34 rfl rfl rfl rfl rfl) ?_
  refine dl_r (sem_call rfl rfl (rcasti rChk_ok hE) rfl) ?_
  refine dl_r (sem_assign rfl rfl) ?_
  refine dl_end ?_
  refine dw_seq ?_
  -- region 4
  refine dw_region (by kernel_rfl) ?_
  refine dl_r (sem_move rfl rfl) ?_
  refine dl_r (sem_cmp rfl rfl rfl rfl) ?_
  refine dl_end ?_
  refine dw_false rfl ?_
  refine dw_skip ?_
  refine dw_seq ?_
  -- region 6
  refine dw_region (by kernel_rfl) ?_
  refine dl_r (sem_load (us := ([.i .i64 a1] ++ [.i .i64 a2])) ty34 rfl rfl rfl rfl rfl) ?_
  refine dl_r (sem_load (us := ([.i .i64 (a1 + L * dx)] ++ [.i .i64 (a2 + L * dy)])) ty34 rfl rfl rfl rfl rfl) ?_
  refine dl_r (sem_call rfl rfl (icast2b rDir_ok (dsg_dir hL hd.x) (dsg_dir hL hd.y) (dok_dir hL hd)) rfl) ?_
  refine dl_r (sem_move rfl rfl) ?_
  refine dl_r (sem_extract rfl rfl rfl) ?_
  refine dl_r (sem_extract rfl rfl rfl) ?_
  refine dl_new (sem_alloc zc34 rfl) rfl ?_
  refine dl_st (sem_store_a ty34 rfl rfl rfl rfl rfl rfl) ?_
  refine dl_r (sem_assign rfl rfl) ?_
  refine dl_end ?_
  refine dw_seq ?_
  -- region 7
  refine dw_region (by kernel_rfl) ?_
  refine dl_r (sem_field fd34_0 rfl rfl) ?_
  refine dl_r (sem_load1 ty2 rfl rfl rfl rfl) ?_
  refine dl_r (sem_field fd34_0 rfl rfl) ?_
  refine dl_r (sem_load1 ty2 rfl rfl rfl rfl) ?_
  refine dl_r (sem_ari (r := (a1 + L * dx) - a1) rfl rfl (ari_i64_sub (by rcases hd with ⟨rfl, rfl⟩ | ⟨rfl, rfl⟩ | ⟨rfl, rfl⟩ | ⟨rfl, rfl⟩ <;> omega) (by rcases hd with ⟨rfl, rfl⟩ | ⟨rfl, rfl⟩ | ⟨rfl, rfl⟩ | ⟨rfl, rfl⟩ <;> omega)) rfl) ?_
  refine dl_r (sem_field fd34_0 rfl rfl) ?_
  refine dl_r (sem_load1 ty2 rfl rfl rfl rfl) ?_
  refine dl_r (sem_ari (r := ((a1 + L * dx) - a1) * dx) rfl rfl (ari_i64_mul (by rcases hd with ⟨rfl, rfl⟩ | ⟨rfl, rfl⟩ | ⟨rfl, rfl⟩ | ⟨rfl, rfl⟩ <;> omega) (by rcases hd with ⟨rfl, rfl⟩ | ⟨rfl, rfl⟩ | ⟨rfl, rfl⟩ | ⟨rfl, rfl⟩ <;> omega)) rfl) ?_
  refine dl_r (sem_field fd34_1 rfl rfl) ?_
  refine dl_r (sem_load1 ty2 rfl rfl rfl rfl) ?_
  refine dl_r (sem_field fd34_1 rfl rfl) ?_
  refine dl_r (sem_load1 ty2 rfl rfl rfl rfl) ?_
  refine dl_r (sem_ari (r := (a2 + L * dy) - a2) rfl rfl (ari_i64_sub (by rcases hd with ⟨rfl, rfl⟩ | ⟨rfl, rfl⟩ | ⟨rfl, rfl⟩ | ⟨rfl, rfl⟩ <;> omega) (by rcases hd with ⟨rfl, rfl⟩ | ⟨rfl, rfl⟩ | ⟨rfl, rfl⟩ | ⟨rfl, rfl⟩ <;> omega)) rfl) ?_
  refine dl_r (sem_field fd34_1 rfl rfl) ?_
  refine dl_r (sem_load1 ty2 rfl rfl rfl rfl) ?_
  refine dl_r (sem_ari (r := ((a2 + L * dy) - a2) * dy) rfl rfl (ari_i64_mul (by rcases hd with ⟨rfl, rfl⟩ | ⟨rfl, rfl⟩ | ⟨rfl, rfl⟩ | ⟨rfl, rfl⟩ <;> omega) (by rcases hd with ⟨rfl, rfl⟩ | ⟨rfl, rfl⟩ | ⟨rfl, rfl⟩ | ⟨rfl, rfl⟩ <;> omega)) rfl) ?_
  refine dl_r (sem_ari (r := L) rfl rfl ((ari_i64_add (by (rcases hd with ⟨rfl, rfl⟩ | ⟨rfl, rfl⟩ | ⟨rfl, rfl⟩ | ⟨rfl, rfl⟩ <;> omega)) (by (rcases hd with ⟨rfl, rfl⟩ | ⟨rfl, rfl⟩ | ⟨rfl, rfl⟩ | ⟨rfl, rfl⟩ <;> omega))).trans (congrArg some (by (rcases hd with ⟨rfl, rfl⟩ | ⟨rfl, rfl⟩ | ⟨rfl, rfl⟩ | ⟨rfl, rfl⟩ <;> omega)))) rfl) ?_
  refine dl_r (sem_assign rfl rfl) ?_
  refine dl_end ?_
  refine dw_seq ?_
  -- region 8
  refine dw_region (by kernel_rfl) ?_
  refine dl_r (sem_move rfl rfl) ?_
  refine dl_r (sem_move rfl rfl) ?_
  refine dl_r (sem_casti (c := m) (sem_min rfl rfl rfl) hmn) ?_
  refine dl_r (sem_assign rfl rfl) ?_
  refine dl_end ?_
  refine dw_seq ?_
  refine dw_seq ?_
  -- region 9
  refine dw_region (by kernel_rfl) ?_
  refine dl_r (sem_move rfl rfl) ?_
  refine dl_r (sem_move rfl rfl) ?_
  refine dl_r (sem_ari (r := L + m) rfl rfl (ari_i64_add (by rcases hd with ⟨rfl, rfl⟩ | ⟨rfl, rfl⟩ | ⟨rfl, rfl⟩ | ⟨rfl, rfl⟩ <;> omega) (by rcases hd with ⟨rfl, rfl⟩ | ⟨rfl, rfl⟩ | ⟨rfl, rfl⟩ | ⟨rfl, rfl⟩ <;> omega)) rfl) ?_
  refine dl_r (sem_ari (r := (L + m) - 1) rfl rfl (ari_i64_sub (by rcases hd with ⟨rfl, rfl⟩ | ⟨rfl, rfl⟩ | ⟨rfl, rfl⟩ | ⟨rfl, rfl⟩ <;> omega) (by rcases hd with ⟨rfl, rfl⟩ | ⟨rfl, rfl⟩ | ⟨rfl, rfl⟩ | ⟨rfl, rfl⟩ <;> omega)) rfl) ?_
  refine dl_r (sem_move rfl rfl) ?_
  refine dl_r (sem_quo' (r := (L - 1) / m + 1) rfl rfl (by omega) (cl_q hL hL2 hs) rfl) ?_
  refine dl_r (sem_castb (c := false) (sem_cmp rfl rfl rfl rfl) (decide_eq_false (by omega))) ?_
  refine dl_end ?_
  refine dw_false rfl ?_
  refine dw_skip ?_
  refine dw_seq ?_
  -- region 11
  refine dw_region (by kernel_rfl) ?_
  refine dl_r (sem_assign_z rfl) ?_
  refine dl_end ?_
  refine dw_seq ?_
  refine dw_seq ?_
  -- region 12
  refine dw_region (by kernel_rfl) ?_
  refine dl_r (sem_load (us := ([.i .i64 a1] ++ [.i .i64 a2])) ty34 rfl rfl rfl rfl rfl) ?_
  refine dl_new (sem_alloc zc34 rfl) rfl ?_
  refine dl_st (sem_store_a ty34 rfl rfl rfl rfl rfl rfl) ?_
  refine dl_end ?_
  refine dw_block ?_
  refine dw_loop1 (ι := {t : Nat × Nat × List CellD // t.1 ≤ k ∧ t.1 + 1 ≤ t.2.1 ∧ t.2.1 ≤ maxLen ∧ t.2.2.length = (t.2.1 - (t.1 + 1)) * 2}) (fun i => ⟨73, [(12, .o 67 (i.1.1 + 1) i.1.2.1), (2, .v (.c (.i .i64 m))), (4, .p 4 0), (9, .p 9 0), (13, .p 13 0)], [(4, 34, ([.i .i64 (a1 + L * dx)] ++ [.i .i64 (a2 + L * dy)])), (9, 34, ([.i .i64 dx] ++ [.i .i64 dy])), (13, 34, ([.i .i64 (a1 + dx * (((i.1.1 + 1 : Nat) : Int) * m))] ++ [.i .i64 (a2 + dy * (((i.1.1 + 1 : Nat) : Int) * m))])), (67, 34, ctr a1 a2 dx dy m i.1.1 ++ i.1.2.2)]⟩) (fun i => k - i.1.1) (k + 1) ?_ ?_
  · refine dw_seq ?_
    refine dw_seq ?_
    -- region 13
    refine dw_region (by kernel_rfl) ?_
    refine dl_r (sem_load (us := ([.i .i64 a1] ++ [.i .i64 a2])) ty34 rfl rfl rfl rfl rfl) ?_
    refine dl_r (sem_load (us := ([.i .i64 (a1 + L * dx)] ++ [.i .i64 (a2 + L * dy)])) ty34 rfl rfl rfl rfl rfl) ?_
    refine dl_r (sem_load (us := ([.i .i64 dx] ++ [.i .i64 dy])) ty34 rfl rfl rfl rfl rfl) ?_
    refine dl_r (sem_call rfl rfl (rcastb (c := true) (rBef_ok hd (by (rcases hd with ⟨rfl, rfl⟩ | ⟨rfl, rfl⟩ | ⟨rfl, rfl⟩ | ⟨rfl, rfl⟩ <;> omega)) (by (rcases hd with ⟨rfl, rfl⟩ | ⟨rfl, rfl⟩ | ⟨rfl, rfl⟩ | ⟨rfl, rfl⟩ <;> omega))) (decide_eq_true (by (rcases hd with ⟨rfl, rfl⟩ | ⟨rfl, rfl⟩ | ⟨rfl, rfl⟩ | ⟨rfl, rfl⟩ <;> omega)))) rfl) ?_
    refine dl_end ?_
    refine dw_true rfl ?_
    refine dw_skip ?_
    refine dw_seq ?_
    refine dw_block ?_
    -- region 15
    refine dw_region (by kernel_rfl) ?_
    refine dl_r (sem_move rfl rfl) ?_
    refine dl_r (sem_load (us := ([.i .i64 a1] ++ [.i .i64 a2])) ty34 rfl rfl rfl rfl rfl) ?_
    refine dl_r (sem_slit_D (n := 1) (us := ([.i .i64 a1] ++ [.i .i64 a2])) el22 rfl rfl rfl (by decide) (by decide) rfl) ?_
    refine dl_grow0 (ys := ([.i .i64 a1] ++ [.i .i64 a2])) el22 rfl rfl rfl (by decide) (by decide) (by decide) rfl rfl (fun cg1 rg1 hga1 hgb1 hgc1 => ?_)
    refine dl_r (sem_assign rfl rfl) ?_
    refine dl_end ?_
    refine dw_seq ?_
    refine dw_seq ?_
    -- region 16
    refine dw_region (by kernel_rfl) ?_
    refine dl_r (sem_load (us := ([.i .i64 a1] ++ [.i .i64 a2])) ty34 rfl rfl rfl rfl rfl) ?_
    refine dl_end ?_
    -- region 17
    refine Dw.weak (σ' := ⟨73, [(0, .v (.a ([.i .i64 a1] ++ [.i .i64 a2]))), (1, .v (.a ([.i .i64 (a1 + L * dx)] ++ [.i .i64 (a2 + L * dy)]))), (2, .v (.c (.i .i64 m))), (3, .p 3 0), (4, .p 4 0), (6, .v (.c (.s 0 []))), (7, .v (.c (.i .i64 0))), (14, .v (.c (.i .i64 s))), (15, .v (.c (.b false))), (16, .v (.a ([.i .i64 a1] ++ [.i .i64 a2]))), (17, .v (.a ([.i .i64 (a1 + L * dx)] ++ [.i .i64 (a2 + L * dy)]))), (18, .v (.c (.i .i64 0))), (8, .v (.c (.i .i64 0))), (19, .v (.c (.i .i64 0))), (20, .v (.c (.b false))), (23, .v (.a ([.i .i64 a1] ++ [.i .i64 a2]))), (24, .v (.a ([.i .i64 (a1 + L * dx)] ++ [.i .i64 (a2 + L * dy)]))), (26, .v (.a ([.i .i64 dx] ++ [.i .i64 dy]))), (27, .v (.c (.b true))), (9, .p 9 0), (10, .v (.c (.b true))), (28, .p 4 0), (29, .v (.c (.i .i64 (a1 + L * dx)))), (30, .p 3 0), (31, .v (.c (.i .i64 a1))), (32, .v (.c (.i .i64 ((a1 + L * dx) - a1)))), (33, .p 9 0), (34, .v (.c (.i .i64 dx))), (35, .v (.c (.i .i64 (((a1 + L * dx) - a1) * dx)))), (36, .p 4 1), (37, .v (.c (.i .i64 (a2 + L * dy)))), (38, .p 3 1), (39, .v (.c (.i .i64 a2))), (40, .v (.c (.i .i64 ((a2 + L * dy) - a2)))), (41, .p 9 1), (42, .v (.c (.i .i64 dy))), (43, .v (.c (.i .i64 (((a2 + L * dy) - a2) * dy)))), (44, .v (.c (.i .i64 L))), (11, .v (.c (.i .i64 L))), (45, .v (.c (.i .i64 s))), (46, .v (.c (.i .i64 L))), (47, .v (.c (.i .i64 m))), (48, .v (.c (.i .i64 L))), (49, .v (.c (.i .i64 m))), (50, .v (.c (.i .i64 (L + m)))), (51, .v (.c (.i .i64 ((L + m) - 1)))), (52, .v (.c (.i .i64 m))), (53, .v (.c (.i .i64 ((L - 1) / m + 1)))), (54, .v (.c (.b false))), (12, .o 67 1 cg1), (55, .v (.a ([.i .i64 a1] ++ [.i .i64 a2]))), (56, .v (.a ([.i .i64 a1] ++ [.i .i64 a2]))), (57, .v (.a ([.i .i64 (a1 + L * dx)] ++ [.i .i64 (a2 + L * dy)]))), (58, .v (.a ([.i .i64 dx] ++ [.i .i64 dy]))), (59, .v (.c (.b true))), (64, .z), (65, .v (.a ([.i .i64 a1] ++ [.i .i64 a2]))), (66, .v (.c (.s 1 (([.i .i64 a1] ++ [.i .i64 a2]))))), (67, .o 67 1 cg1), (68, .v (.a ([.i .i64 a1] ++ [.i .i64 a2])))], [(3, 34, ([.i .i64 a1] ++ [.i .i64 a2])), (4, 34, ([.i .i64 (a1 + L * dx)] ++ [.i .i64 (a2 + L * dy)])), (9, 34, ([.i .i64 dx] ++ [.i .i64 dy])), (67, 34, ([.i .i64 a1] ++ [.i .i64 a2]) ++ rg1)]⟩) (sub_of ⟨rfl, rfl, rfl, rfl, rfl, rfl, rfl, rfl, rfl, rfl, rfl, rfl, rfl, rfl, rfl, rfl, rfl, rfl, rfl, rfl, rfl, rfl, rfl, rfl, rfl, rfl, rfl, rfl, rfl, rfl, rfl, rfl, rfl, rfl, rfl, rfl, rfl, rfl, rfl, rfl, rfl, rfl, rfl, rfl, rfl, rfl, rfl, rfl, rfl, rfl, rfl, rfl, rfl, rfl, rfl, rfl, rfl, rfl, rfl, rfl, trivial⟩ ⟨rfl, rfl, rfl, rfl, trivial⟩ rfl) ?_
    refine dw_region (by kernel_rfl) ?_
    refine dl_new (sem_alloc zc34 rfl) rfl ?_
    refine dl_st (sem_store_a ty34 rfl rfl rfl rfl rfl rfl) ?_
    refine dl_end ?_
    -- region 14
    refine dw_region (by kernel_rfl) ?_
    refine dl_r (sem_load (us := ([.i .i64 a1] ++ [.i .i64 a2])) ty34 rfl rfl rfl rfl rfl) ?_
    refine dl_r (sem_load (us := ([.i .i64 dx] ++ [.i .i64 dy])) ty34 rfl rfl rfl rfl rfl) ?_
    refine dl_r (sem_move rfl rfl) ?_
    refine dl_r (sem_call rfl rfl (icast2 (rAt_ok hd (by omega) (by omega) (by omega)) (x' := a1 + dx * (((0 + 1 : Nat) : Int) * m)) (y' := a2 + dy * (((0 + 1 : Nat) : Int) * m)) (by rw [show ((0 + 1 : Nat) : Int) * m = m from by simp]; rcases hd with ⟨rfl, rfl⟩ | ⟨rfl, rfl⟩ | ⟨rfl, rfl⟩ | ⟨rfl, rfl⟩ <;> omega) (by rw [show ((0 + 1 : Nat) : Int) * m = m from by simp]; rcases hd with ⟨rfl, rfl⟩ | ⟨rfl, rfl⟩ | ⟨rfl, rfl⟩ | ⟨rfl, rfl⟩ <;> omega)) rfl) ?_
    refine dl_st (sem_store_a ty34 rfl rfl rfl rfl rfl rfl) ?_
    refine dl_end ?_
    exact ⟨⟨⟨0, cg1, rg1⟩, by omega, by omega, hgb1, hgc1⟩, sub_of ⟨rfl, rfl, rfl, rfl, rfl, trivial⟩ ⟨rfl, rfl, rfl, rfl, trivial⟩ rfl, by show k - 0 < k + 1; omega⟩
  · rintro ⟨⟨j, c, rs⟩, h2, h3, h4, h5⟩
    dsimp only at h2 h3 h4 h5
    show Dw _ _ ⟨73, [(12, .o 67 (j + 1) c), (2, .v (.c (.i .i64 m))), (4, .p 4 0), (9, .p 9 0), (13, .p 13 0)], [(4, 34, ([.i .i64 (a1 + L * dx)] ++ [.i .i64 (a2 + L * dy)])), (9, 34, ([.i .i64 dx] ++ [.i .i64 dy])), (13, 34, ([.i .i64 (a1 + dx * (((j + 1 : Nat) : Int) * m))] ++ [.i .i64 (a2 + dy * (((j + 1 : Nat) : Int) * m))])), (67, 34, ctr a1 a2 dx dy m j ++ rs)]⟩ _
    refine dw_seq ?_
    refine dw_seq ?_
    -- region 13
    refine dw_region (by kernel_rfl) ?_
    refine dl_r (sem_load (us := ([.i .i64 (a1 + dx * (((j + 1 : Nat) : Int) * m))] ++ [.i .i64 (a2 + dy * (((j + 1 : Nat) : Int) * m))])) ty34 rfl rfl rfl rfl rfl) ?_
    refine dl_r (sem_load (us := ([.i .i64 (a1 + L * dx)] ++ [.i .i64 (a2 + L * dy)])) ty34 rfl rfl rfl rfl rfl) ?_
    refine dl_r (sem_load (us := ([.i .i64 dx] ++ [.i .i64 dy])) ty34 rfl rfl rfl rfl rfl) ?_
    refine dl_r (sem_call rfl rfl (rcastb (c := decide (((j + 1 : Nat) : Int) * m < L)) (rBef_ok hd (by have g9 := ct_nn hs (j + 1); have g8 := pj_bd hs hk h2; rcases hd with ⟨rfl, rfl⟩ | ⟨rfl, rfl⟩ | ⟨rfl, rfl⟩ | ⟨rfl, rfl⟩ <;> omega) (by have g9 := ct_nn hs (j + 1); have g8 := pj_bd hs hk h2; rcases hd with ⟨rfl, rfl⟩ | ⟨rfl, rfl⟩ | ⟨rfl, rfl⟩ | ⟨rfl, rfl⟩ <;> omega)) (decide_eq_decide.2 (by (rcases hd with ⟨rfl, rfl⟩ | ⟨rfl, rfl⟩ | ⟨rfl, rfl⟩ | ⟨rfl, rfl⟩ <;> omega)))) rfl) ?_
    refine dl_end ?_
    refine dw_cond rfl (fun hc2 => ?_) (fun hc2 => ?_)
    · have g1 := (ct_iff hs hk j).1 (of_decide_eq_true hc2)
      have g2 := ct_nn hs (j + 1)
      have g3 := ct_ge hs j
      have g4 := of_decide_eq_true hc2
      refine dw_skip ?_
      refine dw_seq ?_
      refine dw_block ?_
      -- region 15
      refine dw_region (by kernel_rfl) ?_
      refine dl_r (sem_move rfl rfl) ?_
      refine dl_r (sem_load (us := ([.i .i64 (a1 + dx * (((j + 1 : Nat) : Int) * m))] ++ [.i .i64 (a2 + dy * (((j + 1 : Nat) : Int) * m))])) ty34 rfl rfl rfl rfl rfl) ?_
      refine dl_r (sem_slit_D (n := 1) (us := ([.i .i64 (a1 + dx * (((j + 1 : Nat) : Int) * m))] ++ [.i .i64 (a2 + dy * (((j + 1 : Nat) : Int) * m))])) el22 rfl rfl rfl (by decide) (by decide) rfl) ?_
      refine dl_grow (us := ctr a1 a2 dx dy m j) (rest := rs) (ys := ([.i .i64 (a1 + dx * (((j + 1 : Nat) : Int) * m))] ++ [.i .i64 (a2 + dy * (((j + 1 : Nat) : Int) * m))])) el22 rfl rfl rfl (by first | exact ctr_len _ | (rw [List.length_append, ctr_len]; show _ + 2 = _; omega)) (by assumption) rfl (by decide) (by omega) (by assumption) (by omega) (g_max (by omega)) (.inl rfl) rfl (fun cg3 rg3 hga3 hgb3 hgc3 => ?_)
      refine dl_r (sem_assign rfl rfl) ?_
      refine dl_end ?_
      refine dw_seq ?_
      refine dw_seq ?_
      -- region 16
      refine dw_region (by kernel_rfl) ?_
      refine dl_r (sem_load (us := ([.i .i64 (a1 + dx * (((j + 1 : Nat) : Int) * m))] ++ [.i .i64 (a2 + dy * (((j + 1 : Nat) : Int) * m))])) ty34 rfl rfl rfl rfl rfl) ?_
      refine dl_end ?_
      -- region 17
      refine Dw.weak (σ' := ⟨73, [(12, .o 67 ((j + 1) + 1) cg3), (2, .v (.c (.i .i64 m))), (4, .p 4 0), (9, .p 9 0), (56, .v (.a ([.i .i64 (a1 + dx * (((j + 1 : Nat) : Int) * m))] ++ [.i .i64 (a2 + dy * (((j + 1 : Nat) : Int) * m))]))), (57, .v (.a ([.i .i64 (a1 + L * dx)] ++ [.i .i64 (a2 + L * dy)]))), (58, .v (.a ([.i .i64 dx] ++ [.i .i64 dy]))), (59, .v (.c (.b (decide (((j + 1 : Nat) : Int) * m < L))))), (65, .v (.a ([.i .i64 (a1 + dx * (((j + 1 : Nat) : Int) * m))] ++ [.i .i64 (a2 + dy * (((j + 1 : Nat) : Int) * m))]))), (66, .v (.c (.s 1 (([.i .i64 (a1 + dx * (((j + 1 : Nat) : Int) * m))] ++ [.i .i64 (a2 + dy * (((j + 1 : Nat) : Int) * m))]))))), (67, .o 67 ((j + 1) + 1) cg3), (68, .v (.a ([.i .i64 (a1 + dx * (((j + 1 : Nat) : Int) * m))] ++ [.i .i64 (a2 + dy * (((j + 1 : Nat) : Int) * m))])))], [(4, 34, ([.i .i64 (a1 + L * dx)] ++ [.i .i64 (a2 + L * dy)])), (9, 34, ([.i .i64 dx] ++ [.i .i64 dy])), (67, 34, ctr a1 a2 dx dy m j ++ (([.i .i64 (a1 + dx * (((j + 1 : Nat) : Int) * m))] ++ [.i .i64 (a2 + dy * (((j + 1 : Nat) : Int) * m))])) ++ rg3)]⟩) (sub_of ⟨rfl, rfl, rfl, rfl, rfl, rfl, rfl, rfl, rfl, rfl, rfl, rfl, trivial⟩ ⟨rfl, rfl, rfl, trivial⟩ rfl) ?_
      refine dw_region (by kernel_rfl) ?_
      refine dl_new (sem_alloc zc34 rfl) rfl ?_
      refine dl_st (sem_store_a ty34 rfl rfl rfl rfl rfl rfl) ?_
      refine dl_end ?_
      -- region 14
      refine dw_region (by kernel_rfl) ?_
      refine dl_r (sem_load (us := ([.i .i64 (a1 + dx * (((j + 1 : Nat) : Int) * m))] ++ [.i .i64 (a2 + dy * (((j + 1 : Nat) : Int) * m))])) ty34 rfl rfl rfl rfl rfl) ?_
      refine dl_r (sem_load (us := ([.i .i64 dx] ++ [.i .i64 dy])) ty34 rfl rfl rfl rfl rfl) ?_
      refine dl_r (sem_move rfl rfl) ?_
      refine dl_r (sem_call rfl rfl (icast2 (rAt_ok hd (by (rcases hd with ⟨rfl, rfl⟩ | ⟨rfl, rfl⟩ | ⟨rfl, rfl⟩ | ⟨rfl, rfl⟩ <;> omega)) (by (rcases hd with ⟨rfl, rfl⟩ | ⟨rfl, rfl⟩ | ⟨rfl, rfl⟩ | ⟨rfl, rfl⟩ <;> omega)) (by omega)) (x' := a1 + dx * ((((j + 1) + 1 : Nat) : Int) * m)) (y' := a2 + dy * ((((j + 1) + 1 : Nat) : Int) * m)) (by rw [ct_nx (j + 1)]; rcases hd with ⟨rfl, rfl⟩ | ⟨rfl, rfl⟩ | ⟨rfl, rfl⟩ | ⟨rfl, rfl⟩ <;> omega) (by rw [ct_nx (j + 1)]; rcases hd with ⟨rfl, rfl⟩ | ⟨rfl, rfl⟩ | ⟨rfl, rfl⟩ | ⟨rfl, rfl⟩ <;> omega)) rfl) ?_
      refine dl_st (sem_store_a ty34 rfl rfl rfl rfl rfl rfl) ?_
      refine dl_end ?_
      exact ⟨⟨⟨j + 1, cg3, rg3⟩, g1, by omega, hgb3, hgc3⟩, sub_of ⟨rfl, rfl, rfl, rfl, rfl, trivial⟩ ⟨rfl, rfl, rfl, rfl, trivial⟩ rfl, by show k - (j + 1) < k - j; omega⟩
    · have g1 : ¬ j < k := fun h => absurd ((ct_iff hs hk j).2 h) (of_decide_eq_false hc2)
      obtain rfl : j = k := by omega
      refine dw_exit ?_
      refine dw_seq ?_
      -- region 18
      refine dw_region (by kernel_rfl) ?_
      refine dl_r (sem_move rfl rfl) ?_
      refine dl_r (sem_load (us := ([.i .i64 (a1 + L * dx)] ++ [.i .i64 (a2 + L * dy)])) ty34 rfl rfl rfl rfl rfl) ?_
      refine dl_r (sem_slit_D (n := 1) (us := ([.i .i64 (a1 + L * dx)] ++ [.i .i64 (a2 + L * dy)])) el22 rfl rfl rfl (by decide) (by decide) rfl) ?_
      refine dl_grow (us := ctr a1 a2 dx dy m j) (rest := rs) (ys := ([.i .i64 (a1 + L * dx)] ++ [.i .i64 (a2 + L * dy)])) el22 rfl rfl rfl (by first | exact ctr_len _ | (rw [List.length_append, ctr_len]; show _ + 2 = _; omega)) (by assumption) rfl (by decide) (by omega) (by assumption) (by omega) (g_max (by omega)) (.inr rfl) rfl (fun cg4 rg4 hga4 hgb4 hgc4 => ?_)
      refine dl_r (sem_assign rfl rfl) ?_
      refine dl_r (sem_assign rfl rfl) ?_
      refine dl_end ?_
      refine dw_release (t := 6) (m := 2) (us := ctr a1 a2 dx dy m j ++ (([.i .i64 (a1 + L * dx)] ++ [.i .i64 (a2 + L * dy)]))) rfl rfl (g_len (n := (j + 1) + 1) (by first | exact ctr_len _ | (rw [List.length_append, ctr_len]; show _ + 2 = _; omega)) (by assumption) (by omega)) (by omega) (by assumption) (g_take (by first | exact ctr_len _ | (rw [List.length_append, ctr_len]; show _ + 2 = _; omega))) ?_
      refine dw_ret ?_
      -- path LF
      exact ⟨.inr rfl, (resL_tmp rfl (resL_tmp rfl resL_nil))⟩
end Go.Proofs.YtonjlikaacengaaGreat
/- Data: function values that hold pointers, and pointers to memory that stays. -/
namespace Go.Proofs.YtonjlikaacengaaGreat
open Go Go.RowKit
theorem RdC.clo_eq {V : Nat → Prop} {w : World} {v : Value} {g : FuncId} {xs : List CellD} (h : RdC V w v (.k g xs)) : ∃ cs : Array Value, v = .func (.func g) #[] cs ∧ RdCs V w cs.toList xs := by
  cases h with
  | k _ cs _ h1 h2 => exact ⟨cs, rfl, by simpa using h1, fun j v u hv hu => h2 j v u (by simpa using hv) hu⟩
theorem RdC.ptr_eq {V : Nat → Prop} {w : World} {v : Value} {us : List CellD} (h : RdC V w v (.p us)) :
    ∃ b off, ∃ vs : List Value, v = .pointer (some ⟨b, off, none⟩) ∧ b < w.heap.size ∧ ¬ V b ∧ RdCs V w vs us ∧ ∀ (j : Nat) (u : Value), vs[j]? = some u → w.cell? ⟨b, off + j, none⟩ = some u := by
  cases h with
  | p b off _ cv h1 h2 h3 h4 =>
    refine ⟨b, off, (List.range us.length).map cv, rfl, h1, h2, ⟨by simp, fun j v u hv hu => ?_⟩, fun j u hu => ?_⟩
    · rw [List.getElem?_map] at hv
      have hlt : j < us.length := (List.getElem?_eq_some_iff.1 hu).1
      rw [List.getElem?_range hlt] at hv
      injection hv with hv; subst hv
      exact h4 j u hu
    · have hlt : j < us.length := by
        have := (List.getElem?_eq_some_iff.1 hu).1; simpa using this
      rw [List.getElem?_map, List.getElem?_range hlt] at hu
      injection hu with hu; subst hu
      exact h3 j hlt
section
variable {P : Program} {ops : Array Oper} {T : TF} {B : BF}
theorem sem_loadP {dst : Option Nat} {U : TypeId} {x : Operand} {ty : TypeId} {pos : String} {af : Array Edge} {g : Option (Nat × Bool)} {n : Nat} {cs us : List CellD}
    (hU : tyB P U = some (true, n)) (hx : opd T x = some (.v (.c (.p cs)))) (hu : cs.take n = us) (hn : us.length = n) (hg : gd ops ⟨dst, .load U x, ty, pos, af, g⟩ T = some true) :
    Sem P ops ⟨dst, .load U x, ty, pos, af, g⟩ T B (.r (.v (.a us))) :=
  sem_pure hg (nop rfl) (fun V β a w hs => by
    obtain ⟨b, off, vs, hp, _, _, hr, hc⟩ := RdC.ptr_eq (opd_reads hs (by simp [Op.operands]) hx)
    have hr2 := hr.take n
    rw [hu] at hr2
    have hrun := run_loadVar_agg (w := w) hU (b := b) (off := off) (vs := vs.take n) (by rw [hr2.1, hn]) (fun j v hv => by
      rw [List.getElem?_take] at hv
      split at hv
      · exact hc j v hv
      · cases hv)
    refine ⟨_, ?_, _, rfl, by simpa using hr2⟩
    simp only [execOp, Instr.loadAt, hp, Instr.sureAddr, Sem.run_bind, Sem.run_pure, Result.andThen_ok, hrun])
theorem sem_loadP1 {dst : Option Nat} {U : TypeId} {x : Operand} {ty : TypeId} {pos : String} {af : Array Edge} {g : Option (Nat × Bool)} {n : Nat} {cs : List CellD} {u : CellD}
    (hU : tyB P U = some (false, n)) (hx : opd T x = some (.v (.c (.p cs)))) (hu : cs[0]? = some u) (hg : gd ops ⟨dst, .load U x, ty, pos, af, g⟩ T = some true) :
    Sem P ops ⟨dst, .load U x, ty, pos, af, g⟩ T B (.r (.v (.c u))) :=
  sem_pure hg (nop rfl) (fun V β a w hs => by
    obtain ⟨b, off, vs, hp, _, _, hr, hc⟩ := RdC.ptr_eq (opd_reads hs (by simp [Op.operands]) hx)
    have hlt : 0 < cs.length := (List.getElem?_eq_some_iff.1 hu).1
    have hv : vs[0]? = some (vs[0]'(by rw [hr.1]; exact hlt)) := List.getElem?_eq_getElem _
    have hrun := run_loadVar_one (P := P) (w := w) hU (b := b) (off := off) (by have := hc 0 _ hv; simpa using this)
    refine ⟨_, ?_, hr.2 0 _ _ hv hu⟩
    simp only [execOp, Instr.loadAt, hp, Instr.sureAddr, Sem.run_bind, Sem.run_pure, Result.andThen_ok, hrun])

theorem sem_shrC {dst : Option Nat} {xt yt : TypeId} {x y : Operand} {ty : TypeId} {pos : String} {af : Array Edge} {g : Option (Nat × Bool)} {k yk : IntKind} {m n r : Int}
    (hx : opd T x = some (.v (.c (.i k m)))) (hy : opd T y = some (.v (.c (.i yk n)))) (h0 : ¬ n < 0) (hr : m.fdiv (2 ^ (min n.toNat k.bits)) = r) (hg : gd ops ⟨dst, .binOp .shr xt x y yt, ty, pos, af, g⟩ T = some true) :
    Sem P ops ⟨dst, .binOp .shr xt x y yt, ty, pos, af, g⟩ T B (.r (.v (.c (.i k r)))) :=
  sem_pure hg (nop rfl) (fun V β a w hs => by
      have e1 : a.eval x = .int k m := RdC.int_eq (opd_reads hs (x := x) (by simp [Op.operands]) hx)
      have e2 : a.eval y = .int yk n := RdC.int_eq (opd_reads hs (x := y) (by simp [Op.operands]) hy)
      subst hr
      exact ⟨.int k (m.fdiv (2 ^ (min n.toNat k.bits))), by simp [execOp, e1, e2, eqGuard, binOp, Op.shift, h0], .i _ _⟩)
/-- The operands read as cells. -/
def argsC (T : TF) : List Operand → Option (List CellD)
  | [] => some []
  | x :: xs => match opd T x, argsC T xs with
    | some (.v (.c u)), some us => some (u :: us)
    | _, _ => none
theorem argsC_reads {o : Oper} {V : Nat → Prop} {β : Nat → Nat} {a : Act} {w : World} (hs : Sees V (Looks ops o) T B β a w) : ∀ (xs : List Operand) (us : List CellD), (∀ x ∈ xs, x ∈ o.op.operands) → argsC T xs = some us → RdCs V w (xs.map a.eval) us
  | [], us, _, h => by injection h with h; subst h; exact RdCs.nil
  | x :: xs, us, hx, h => by
    unfold argsC at h
    split at h
    · rename_i u us' hu hus
      injection h with h
      subst h
      exact RdCs.cons (opd_reads hs (hx x (by simp)) hu) (argsC_reads hs xs us' (fun y hy => hx y (by simp [hy])) hus)
    · cases h
/-- A function value. -/
theorem sem_mkfn {dst : Option Nat} {f : FuncId} {cap : Array Operand} {ty : TypeId} {pos : String} {af : Array Edge} {g : Option (Nat × Bool)} {us : List CellD}
    (ha : argsC T cap.toList = some us) (hg : gd ops ⟨dst, .makeFunc (.func f) #[] cap, ty, pos, af, g⟩ T = some true) :
    Sem P ops ⟨dst, .makeFunc (.func f) #[] cap, ty, pos, af, g⟩ T B (.r (.v (.c (.k f us)))) :=
  sem_pure hg (nop rfl) (fun V β a w hs => by
    have h2 := argsC_reads hs cap.toList us (fun x hx => by have hx2 := Array.mem_toList_iff.1 hx; simp [Op.operands, hx2]) ha
    refine ⟨.func (.func f) #[] (cap.map a.eval), by simp [execOp, Instr.makeFunc], .k f _ us (by have := h2.1; simpa using this) (fun j v u hv hu => h2.2 j v u ?_ hu)⟩
    rw [← Array.toList_map, Array.getElem?_toList]; exact hv)
theorem RdL.append {V : Nat → Prop} {w : World} : ∀ {vs vs' : List Value} {ds ds' : List D0}, RdL V w vs ds → RdL V w vs' ds' → RdL V w (vs ++ vs') (ds ++ ds')
  | [], vs', [], ds', _, h' => h'
  | [], _, _ :: _, _, h, _ => by have := h.1; simp at this
  | _ :: _, _, [], _, h, _ => by have := h.1; simp at this
  | v :: vs, vs', d :: ds, ds', h, h' => by
    obtain ⟨h1, h2⟩ := h.uncons
    exact RdL.cons h1 (RdL.append h2 h')
theorem RdCs.toL {V : Nat → Prop} {w : World} {vs : List Value} {us : List CellD} (h : RdCs V w vs us) : RdL V w vs (us.map .c) := by
  refine ⟨by simp [h.1], fun j v d hv hd => ?_⟩
  rw [List.getElem?_map] at hd
  cases hu : us[j]? with
  | none => rw [hu] at hd; cases hd
  | some u => rw [hu] at hd; injection hd with hd; subst hd; exact h.2 j v u hv hu
/-- A call of a function value that holds something. -/
theorem sem_callk {dst : Option Nat} {fo : Operand} {args : Array Operand} {at_ : Array TypeId} {ty : TypeId} {pos : String} {af : Array Edge} {g : Option (Nat × Bool)} {f : FuncId} {ds rs : List D0} {us : List CellD}
    (hf : opd T fo = some (.v (.c (.k f us)))) (ha : argsD T args.toList = some ds) (hok : Ok P f (ds ++ us.map .c) rs) (hg : gd ops ⟨dst, .call ⟨.value fo, args, at_⟩, ty, pos, af, g⟩ T = some true) :
    Sem P ops ⟨dst, .call ⟨.value fo, args, at_⟩, ty, pos, af, g⟩ T B (.r (resD rs)) := by
  refine ⟨nop (by unfold resD; split <;> rfl), fun V β a w hs => ⟨gd_want hs hg, ?_⟩⟩
  obtain ⟨cs, h1, h1r⟩ := RdC.clo_eq (opd_reads hs (x := fo) (by simp [Op.operands, Call.operands]) hf)
  have h2 := argsD_reads hs args.toList ds (fun x hx => by have hx2 := Array.mem_toList_iff.1 hx; simp [Op.operands, Call.operands, hx2]) ha
  have hc := hok.cal
  unfold callable at hc
  cases hfn : P.funcs[f]? with
  | none => rw [hfn] at hc; cases hc
  | some fn =>
    rw [hfn] at hc
    simp only [Bool.and_eq_true, bne_iff_ne, ne_eq, Bool.not_eq_true'] at hc
    have hrun : (execOp a.eval ⟨dst, .call ⟨.value fo, args, at_⟩, ty, pos, af, g⟩).run P w = .ok (.enter f (args.map a.eval ++ cs)) w := by
      have hb2 : fn.body ≠ none := by have := hc.2; cases hbb : fn.body with
        | none => rw [hbb] at this; cases this
        | some c => simp
      simp [execOp, resolve, h1, Deferred.ofValue, invoke, callFunc, program, Sem.run, hfn, hc.1, hb2]
    unfold Gives
    rw [hrun]
    refine (hok.run V (args.map a.eval ++ cs) w hs.av (by rw [Array.toList_append, Array.toList_map]; exact h2.append h1r.toL)).mono ?_
    rintro e w' ⟨v, rfl, hr, hb⟩
    refine ⟨v, rfl, ?_, hb⟩
    unfold RdR at hr
    split at hr
    · exact hr
    · rename_i hne
      have e2 : resD rs = .t rs := by
        unfold resD
        split
        · rename_i d; exact absurd rfl (hne d)
        · rfl
      rw [e2]; exact hr
end
section
variable {P : Program} {σ : St} {Q : Exit → St → Prop}
/-- A box that no one will write any more: its pointer is a datum. -/
theorem dw_freeze {c : Code} {N t k : Nat} {tm : List (Nat × DV)} {bx : List (Nat × TypeId × List CellD)} {U : TypeId} {cs : List CellD}
    (ht : look t tm = some (.p k 0)) (hb : look k bx = some (U, cs))
    (h : Dw P c ⟨N, (t, .v (.c (.p cs))) :: killL k tm, dropL k bx⟩ Q) : Dw P c ⟨N, tm, bx⟩ Q := fun av w0 β a w hr => by
  obtain ⟨v, hv, hx⟩ := hr.sees.tmp t _ trivial ht
  have hx : v = .pointer (some ⟨β k, 0, none⟩) := hx
  subst hx
  obtain ⟨hvk, vs, ev, hrd⟩ := hr.sees.box k U cs hb
  have hk0 : (St.B ⟨N, tm, bx⟩) k ≠ none := by rw [show (St.B ⟨N, tm, bx⟩) k = some (U, cs) from hb]; simp
  have e := drop_av hr hk0
  have hkeep : Keep (fun b => av b ∨ ∃ l, (St.B ⟨N, tm, bx⟩) l ≠ none ∧ β l = b) (fun b => (av b ∨ ∃ l, (St.B ⟨N, tm, bx⟩) l ≠ none ∧ β l = b) ∧ b ≠ β k) w w := ⟨Nat.le_refl _, fun _ _ _ => rfl, fun _ _ h => h.1⟩
  have hread : RdC (fun b => (av b ∨ ∃ l, (St.B ⟨N, tm, bx⟩) l ≠ none ∧ β l = b) ∧ b ≠ β k) w (.pointer (some ⟨β k, 0, none⟩)) (.p cs) := by
    have hr2 := hrd.keep hkeep
    refine .p (β k) 0 cs (fun j => vs.getD j undef) (hr.sees.av _ hvk) (fun h => h.2 rfl) (fun j hj => ?_) (fun j u hj => ?_)
    · rw [Nat.zero_add, cells_of_box ev]
      have : j < vs.size := by have := hrd.1; simp at this; omega
      simp [Array.getD, this]
    · have hlt : j < cs.length := (List.getElem?_eq_some_iff.1 hj).1
      refine hr2.2 j _ u ?_ hj
      rw [Array.getElem?_toList]
      have : j < vs.size := by have := hrd.1; simp at this; omega
      simp [Array.getD, this]
  have h2 := (hr.drop k).upd (t := t) (x := .v (.c (.p cs))) hv (by rw [e]; exact hread) rfl
  refine h av w0 β a w (h2.congr (fun s => ?_) (fun l => ?_))
  · show look s ((t, .v (.c (.p cs))) :: killL k tm) = _
    rw [look_cons]
    split
    · rfl
    · rw [killL_look]
      show _ = killF k (fun s => look s tm) s
      unfold killF
      try (dsimp only)
      try (generalize look s tm = q; cases q <;> rfl)
  · exact dropL_look k l bx
end
end Go.Proofs.YtonjlikaacengaaGreat
/- Plain: the cosine of half the engagement beside a disc; it falls with the distance. -/
namespace Go.Proofs.YtonjlikaacengaaGreat
open Go Go.RowKit
theorem rcast1 {P : Program} {f : FuncId} {ds : List D0} {x x' : Rat} (h : Ok P f ds [dR x]) (e : x = x') : Ok P f ds [dR x'] := by subst e; exact h
theorem cmpR_le {x y : Rat} : cmpR x y ≤ 0 ↔ x ≤ y := by
  unfold cmpR
  split
  · rename_i h; exact ⟨fun _ => by grind, fun _ => by omega⟩
  · split
    · rename_i h; exact ⟨fun h2 => by omega, fun h2 => by grind⟩
    · rename_i h1 h2; exact ⟨fun _ => by grind, fun _ => by omega⟩
theorem cmpR_ge {x y : Rat} : cmpR x y ≥ 0 ↔ y ≤ x := by
  unfold cmpR
  split
  · rename_i h; exact ⟨fun _ => by omega, fun _ => by grind⟩
  · split
    · rename_i h; exact ⟨fun h2 => by grind, fun h2 => by omega⟩
    · rename_i h1 h2; exact ⟨fun _ => by grind, fun _ => by omega⟩
/-- A number that is a cosine. -/
def cosB (c : Rat) : Bool := decide (c ≤ 1) && decide (-1 ≤ c)
theorem cosB_t {c : Rat} (h : decide (cmpR c ((1 : Int) : Rat) ≤ 0) = true) : cosB c = decide (cmpR (-c) ((1 : Int) : Rat) ≤ 0) := by
  have h1 := cmpR_le.1 (of_decide_eq_true h)
  unfold cosB
  rw [decide_eq_true (show c ≤ 1 from h1), Bool.true_and]
  apply decide_eq_decide.2
  rw [cmpR_le]
  constructor <;> intro h <;> grind
theorem cosB_f {c : Rat} (h : decide (cmpR c ((1 : Int) : Rat) ≤ 0) = false) : cosB c = false := by
  have h1 := mt cmpR_le.2 (of_decide_eq_false h)
  unfold cosB
  rw [decide_eq_false (show ¬ c ≤ 1 from h1), Bool.false_and]
theorem cosB_t2 {c : Rat} (h : decide (cmpR c ((1 : Int) : Rat) ≤ 0) = true) : cosB c = decide (cmpR c (-((1 : Int) : Rat)) ≥ 0) := by
  have h1 := cmpR_le.1 (of_decide_eq_true h)
  unfold cosB
  rw [decide_eq_true (show c ≤ 1 from h1), Bool.true_and]
  apply decide_eq_decide.2
  rw [cmpR_ge]
  constructor <;> intro h <;> grind
/-- The cosine: cleared radius R, tool r, distance e. -/
def hfQ (R r e : Rat) : Rat := (R * R - e * e - r * r) / (((2 : Int) : Rat) * (e * r))
/-- For a circle a, a tool t, a step s. -/
def cq (a t s : Int) : Rat := hfQ (((a + t : Int)) : Rat) ((t : Int) : Rat) (((a + s : Int)) : Rat)
def alw (a t s : Int) (c : Rat) : Bool := decide (cmpR (cq a t s) 0 ≥ 0) && decide (cmpR (cq a t s * cq a t s + cq a t s * cq a t s - ((1 : Int) : Rat)) c ≥ 0)
theorem rpos {n : Int} (h : 1 ≤ n) : 0 < (n : Rat) := by
  have := Rat.intCast_lt_intCast.2 (show 0 < n by omega)
  exact this
theorem et_pos {a t s : Int} (ha : 1 ≤ a) (ht : 1 ≤ t) (hs : 0 ≤ s) : 0 < (((a + s : Int)) : Rat) * ((t : Int) : Rat) := Rat.mul_pos (rpos (by omega)) (rpos ht)
theorem cq_eq {a t s : Int} (ha : 1 ≤ a) (ht : 1 ≤ t) (hs : 0 ≤ s) : cq a t s * (((2 : Int) : Rat) * ((((a + s : Int)) : Rat) * ((t : Int) : Rat))) = (((a + t) * (a + t) - (a + s) * (a + s) - t * t : Int) : Rat) := by
  have h := et_pos ha ht hs
  unfold cq hfQ
  rw [Rat.div_mul_cancel (by have : (0 : Rat) < ((2 : Int) : Rat) * ((((a + s : Int)) : Rat) * ((t : Int) : Rat)) := Rat.mul_pos (by decide) h; grind)]
  simp only [Rat.intCast_sub, Rat.intCast_mul]
theorem cq_lt {a t s : Int} (ha : 1 ≤ a) (ht : 1 ≤ t) (hs : 1 ≤ s) : cq a t s < 1 := by
  have h := cq_eq ha ht (show 0 ≤ s by omega)
  have hp : (0 : Rat) < ((2 : Int) : Rat) * ((((a + s : Int)) : Rat) * ((t : Int) : Rat)) := Rat.mul_pos (by decide) (et_pos ha ht (by omega))
  apply Classical.byContradiction
  intro hn
  have h1 : (1 : Rat) ≤ cq a t s := by grind
  have h2 := Rat.mul_le_mul_of_nonneg_right h1 (show 0 ≤ ((2 : Int) : Rat) * ((((a + s : Int)) : Rat) * ((t : Int) : Rat)) by grind)
  rw [h, Rat.one_mul] at h2
  have h3 : (((2 * ((a + s) * t) : Int)) : Rat) ≤ (((a + t) * (a + t) - (a + s) * (a + s) - t * t : Int) : Rat) := by
    rw [Rat.intCast_mul, Rat.intCast_mul]; exact h2
  have h4 := Rat.intCast_le_intCast.1 h3
  have h5 : (a + t) * (a + t) ≤ (a + s + t) * (a + t) := Int.mul_le_mul_of_nonneg_right (by omega) (by omega)
  have h6 : (a + s + t) * (a + t) < (a + s + t) * (a + s + t) := Int.mul_lt_mul_of_pos_left (by omega) (by omega)
  grind
/-- A greater step: a greater engagement. -/
theorem cq_mono {a t s u : Int} (ha : 1 ≤ a) (ht : 1 ≤ t) (hs : 0 ≤ s) (hu : s ≤ u) (h0 : 0 ≤ cq a t u) : cq a t u ≤ cq a t s := by
  have e1 := cq_eq ha ht hs
  have e2 := cq_eq ha ht (show 0 ≤ u by omega)
  have p1 := et_pos ha ht hs
  have p2 := et_pos ha ht (show 0 ≤ u by omega)
  apply Classical.byContradiction
  intro hn
  have hlt : cq a t s < cq a t u := by grind
  have q1 : (0 : Rat) < ((2 : Int) : Rat) * ((((a + s : Int)) : Rat) * ((t : Int) : Rat)) := Rat.mul_pos (by decide) p1
  have h1 := Rat.mul_lt_mul_of_pos_right hlt q1
  have hle : ((2 : Int) : Rat) * ((((a + s : Int)) : Rat) * ((t : Int) : Rat)) ≤ ((2 : Int) : Rat) * ((((a + u : Int)) : Rat) * ((t : Int) : Rat)) := by
    have h3 : (2 * ((a + s) * t)) ≤ 2 * ((a + u) * t) := by
      have := Int.mul_le_mul_of_nonneg_right (show a + s ≤ a + u by omega) (show 0 ≤ t by omega)
      omega
    have h4 := Rat.intCast_le_intCast.2 h3
    rw [Rat.intCast_mul, Rat.intCast_mul, Rat.intCast_mul, Rat.intCast_mul] at h4
    exact h4
  have h2 := Rat.mul_le_mul_of_nonneg_left hle h0
  rw [e2] at h2
  rw [e1] at h1
  have h5 : (((a + t) * (a + t) - (a + s) * (a + s) - t * t : Int) : Rat) < (((a + t) * (a + t) - (a + u) * (a + u) - t * t : Int) : Rat) := by grind
  have h6 := Rat.intCast_lt_intCast.1 h5
  have h7 : (a + s) * (a + s) ≤ (a + u) * (a + u) := Int.mul_le_mul (by omega) (by omega) (by omega) (by omega)
  omega
theorem alw_iff {a t s : Int} {c : Rat} : alw a t s c = true ↔ 0 ≤ cq a t s ∧ c ≤ cq a t s * cq a t s + cq a t s * cq a t s - 1 := by
  unfold alw
  rw [Bool.and_eq_true, decide_eq_true_eq, decide_eq_true_eq, cmpR_ge, cmpR_ge]
  exact Iff.rfl
theorem alw_mono {a t s u : Int} {c : Rat} (ha : 1 ≤ a) (ht : 1 ≤ t) (hs : 0 ≤ s) (hu : s ≤ u) (h : alw a t u c = true) : alw a t s c = true := by
  rw [alw_iff] at *
  have h1 := cq_mono ha ht hs hu h.1
  have h2 : cq a t u * cq a t u ≤ cq a t s * cq a t s := by
    have g1 := Rat.mul_le_mul_of_nonneg_left h1 h.1
    have g2 := Rat.mul_le_mul_of_nonneg_right h1 (show 0 ≤ cq a t s by grind)
    grind
  exact ⟨by grind, by grind⟩
theorem no_full {a t s : Int} (ha : 1 ≤ a) (ht : 1 ≤ t) (hs : 1 ≤ s) (h : decide (cmpR (cq a t s) ((1 : Int) : Rat) ≥ 0) = true) : False := by
  have h1 := cmpR_ge.1 (of_decide_eq_true h)
  have h2 := cq_lt ha ht hs
  have h3 : (1 : Rat) ≤ cq a t s := h1
  grind
theorem alw_t {a t s : Int} {c : Rat} (h : decide (cmpR (cq a t s) 0 ≥ 0) = true) : alw a t s c = decide (cmpR (cq a t s * cq a t s + cq a t s * cq a t s - ((1 : Int) : Rat)) c ≥ 0) := by unfold alw; rw [h, Bool.true_and]
theorem alw_f {a t s : Int} {c : Rat} (h : decide (cmpR (cq a t s) 0 ≥ 0) = false) : alw a t s c = false := by unfold alw; rw [h, Bool.false_and]
theorem not_lt_le (i r : Int) : (!decide (i < r)) = decide (r ≤ i) := by rw [← decide_not]; exact decide_eq_decide.2 (by omega)
theorem shr_half {m : Int} : m.fdiv (2 ^ (min (1 : Int).toNat IntKind.u64.bits)) = m / 2 := by
  show m.fdiv 2 = m / 2
  exact Int.fdiv_eq_ediv_of_nonneg _ (by decide)
theorem Rz.num {n : Int} (h0 : -9223372036854775808 ≤ n) (h1 : n ≤ 9223372036854775807) : Rz 3 (n : Rat) := Rz.int (Sz.small (by decide) h0 h1) (by decide)
theorem cq_sz {a t s : Int} (ha : 1 ≤ a) (ht : 1 ≤ t) (hs : 1 ≤ s) (ha2 : a ≤ 10000000) (ht2 : t ≤ 10000000) (hs2 : s ≤ 10000001) : Rz 40 (cq a t s) := by
  have r1 : Rz 3 (((a + t : Int)) : Rat) := Rz.num (by omega) (by omega)
  have r2 : Rz 3 (((a + s : Int)) : Rat) := Rz.num (by omega) (by omega)
  have r3 : Rz 3 ((t : Int) : Rat) := Rz.num (by omega) (by omega)
  have r4 : Rz 3 ((2 : Int) : Rat) := Rz.num (by omega) (by omega)
  have hp : (0 : Rat) < ((2 : Int) : Rat) * ((((a + s : Int)) : Rat) * ((t : Int) : Rat)) := Rat.mul_pos (by decide) (et_pos ha ht (by omega))
  exact ((((r1.mul r1).sub (r2.mul r2)).sub (r3.mul r3)).div (r4.mul (r2.mul r3)) (by grind)).mono (by decide)
/-- A test that fails from some place on. -/
theorem first_fail (φ : Int → Bool) (hm : ∀ i j, 0 ≤ i → i ≤ j → φ j = true → φ i = true) : ∀ n : Nat, ∃ r : Int, 0 ≤ r ∧ r ≤ n ∧ ∀ i : Int, 0 ≤ i → i < n → φ i = decide (i < r)
  | 0 => ⟨0, by omega, by omega, fun i h1 h2 => by omega⟩
  | n + 1 => by
    obtain ⟨r, h1, h2, h3⟩ := first_fail φ hm n
    by_cases h : φ n = true
    · refine ⟨n + 1, by omega, by omega, fun i g1 g2 => ?_⟩
      rw [decide_eq_true (by omega)]
      exact hm i n g1 (by omega) h
    · refine ⟨r, h1, by omega, fun i g1 g2 => ?_⟩
      by_cases hi : i = n
      · subst hi
        rw [decide_eq_false (by omega)]
        simpa using h
      · exact h3 i g1 (by omega)
theorem step_ex {a t : Int} (c : Rat) (ha : 1 ≤ a) (ht : 1 ≤ t) : ∃ r : Int, 0 ≤ r ∧ r ≤ t + 1 ∧ ∀ i : Int, 0 ≤ i → i < t + 1 → alw a t (i + 1) c = decide (i < r) := by
  obtain ⟨r, h1, h2, h3⟩ := first_fail (fun i => alw a t (i + 1) c) (fun i j g1 g2 h => alw_mono ha ht (by omega) (by omega) h) (t + 1).toNat
  exact ⟨r, h1, by omega, fun i g1 g2 => h3 i g1 (by omega)⟩
end Go.Proofs.YtonjlikaacengaaGreat
