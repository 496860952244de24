/- Sizes of fractions by a tactic; small facts for the walks on fractions. -/
import Derived.Test.YthlnndkgpgfbnaaGreatRsG
namespace Go.Proofs.YthlnndkgpgfbnaaGreat
open Go Go.RowKit
theorem mul_ne {a b : Int} (ha : a ≠ 0) (hb : b ≠ 0) : a * b ≠ 0 := fun e => by rcases Int.mul_eq_zero.1 e with h | h <;> contradiction
theorem num_ne {x : Rat} (h : x ≠ 0) : x.num ≠ 0 := fun e => h (Rat.num_eq_zero.1 e)
theorem Sz.isq {k : Nat} {x : Int} (h : Sz k x) : Sz k (isqI x) := h.of_le isqI_abs
theorem cmpR_t0 {x : Rat} (h : (cmpR x 0 == 0) = true) : x = 0 := by rw [← cmpR_num] at h; exact Rat.num_eq_zero.1 (t_eq h)
theorem cmpR_eq0 {x y : Rat} : cmpR x y = 0 ↔ x = y := by
  unfold cmpR
  rw [← cmp_rat, cmpI_eq0, Rat.eq_iff_mul_eq_mul]
theorem cmpR_lt0 {x y : Rat} : cmpR x y < 0 ↔ x < y := by
  unfold cmpR
  rw [← cmp_rat, cmpI_lt0, Rat.lt_iff]
theorem cmpR_gt0 {x y : Rat} : 0 < cmpR x y ↔ y < x := by
  unfold cmpR
  rw [← cmp_rat, cmpI_gt0, Rat.lt_iff]
theorem cmpR_num0 {x : Rat} : cmpR x 0 = cmpI x.num 0 := cmpR_num.symm
theorem cmpR_signs {x y : Rat} (h : (cmpI (cmpR x 0) (cmpR y 0) != 0) = true) : cmpI (cmpR x 0) (cmpR y 0) = cmpR x y := by
  have h1 := t_ne h
  rw [cmpR_num0, cmpR_num0] at *
  have px := den_pos x
  have py := den_pos y
  have e1 : ∀ {a b : Int}, a < 0 → 0 < b → a * b < 0 := fun ha hb => Int.mul_neg_of_neg_of_pos ha hb
  have hr : cmpR x y = cmpI (x.num * (y.den : Int)) (y.num * (x.den : Int)) := by unfold cmpR; rw [← cmp_rat]
  rw [hr]
  rcases Int.lt_trichotomy x.num 0 with hx | hx | hx <;> rcases Int.lt_trichotomy y.num 0 with hy | hy | hy
  · rw [cmp_lt hx, cmp_lt hy] at h1; exact absurd rfl h1
  · rw [cmp_lt hx, cmp_eq hy, cmp_lt (a := -1) (by decide), cmp_lt]
    rw [hy, Int.zero_mul]; exact e1 hx py
  · rw [cmp_lt hx, cmp_gt hy, cmp_lt (a := -1) (by decide), cmp_lt]
    have := e1 hx py
    have := Int.mul_pos hy px
    omega
  · rw [cmp_eq hx, cmp_lt hy, cmp_gt (a := 0) (by decide), cmp_gt]
    rw [hx, Int.zero_mul]; exact e1 hy px
  · rw [cmp_eq hx, cmp_eq hy] at h1; exact absurd rfl h1
  · rw [cmp_eq hx, cmp_gt hy, cmp_lt (a := 0) (by decide), cmp_lt]
    rw [hx, Int.zero_mul]; exact Int.mul_pos hy px
  · rw [cmp_gt hx, cmp_lt hy, cmp_gt (a := 1) (by decide), cmp_gt]
    have := e1 hy px
    have := Int.mul_pos hx py
    omega
  · rw [cmp_gt hx, cmp_eq hy, cmp_gt (a := 1) (by decide), cmp_gt]
    rw [hy, Int.zero_mul]; exact Int.mul_pos hx py
  · rw [cmp_gt hx, cmp_gt hy] at h1; exact absurd rfl h1
theorem cmpR_mul {x y : Rat} : cmpR x y = cmpI (x.num * (y.den : Int)) (y.num * (x.den : Int)) := by unfold cmpR; rw [← cmp_rat]
theorem e7 {x : Int} (h : ((if x < 0 then (7 : Int) else 0) == 0) = false) : x < 0 := by
  by_cases hx : x < 0
  · exact hx
  · rw [if_neg hx] at h; cases h
theorem same_f {x y : Rat} (h : (x.num == y.num) = false) : decide (x = y) = false := by
  simp only [beq_eq_false_iff_ne, ne_eq] at h
  rw [decide_eq_false_iff_not]
  exact fun e => h (by rw [e])
theorem same_t {x y : Rat} (h : (x.num == y.num) = true) : decide (x = y) = ((x.den : Int) == (y.den : Int)) := by
  simp only [beq_iff_eq] at h
  rw [Bool.eq_iff_iff, decide_eq_true_eq, beq_iff_eq]
  exact ⟨fun e => by rw [e], fun e => Rat.ext h (by omega)⟩
theorem sqI_cmp {x : Int} : sqI x = (cmpI (isqI x * isqI x) x == 0) := by
  unfold sqI
  rcases Int.lt_trichotomy (isqI x * isqI x) x with h | h | h
  · rw [cmp_lt h]; simp; omega
  · rw [cmp_eq h]; simp; omega
  · rw [cmp_gt h]; simp; omega
theorem sqR_t {x : Rat} (h : sqI x.num = true) (h2 : sqI (x.den : Int) = true) : sqR x = true := by unfold sqR; rw [h, h2]; rfl
theorem sqR_f1 {x : Rat} (h : sqI x.num = false) : sqR x = false := by unfold sqR; rw [h]; rfl
theorem sqR_f2 {x : Rat} (h : sqI (x.den : Int) = false) : sqR x = false := by unfold sqR; rw [h]; cases sqI x.num <;> rfl
theorem dQ_zero : dQ 0 0 = .a (([.b false] ++ [.s 0 []]) ++ ([.b false] ++ [.s 0 []])) := by
  have h : cI 0 = [.b false] ++ [.s 0 []] := by
    have := dI_zero
    unfold dI at this
    injection this
  unfold dQ cQ
  rw [h]
theorem Sz.fdiv {k : Nat} {x y : Int} (h : Sz k x) : Sz k (x.fdiv y) := h.of_le (by
  have h0 : ∀ a b : Nat, a / b ≤ a := fun a b => Nat.div_le_self a b
  rcases Int.lt_trichotomy y 0 with hy | hy | hy
  · rw [← Int.neg_fdiv_neg, Int.fdiv_eq_ediv_of_nonneg _ (by omega)]
    have h2 : (-x / -y).natAbs ≤ (-x).natAbs := ediv_abs_le _ _
    omega
  · subst hy; simp
  · rw [Int.fdiv_eq_ediv_of_nonneg _ (by omega)]
    exact ediv_abs_le x y)
section
variable {P : Program} {ops : Array Oper} {T : TF} {B : BF}
theorem sem_max {dst : Option Nat} {x y : Operand} {t1 t2 : TypeId} {ty : TypeId} {pos : String} {af : Array Edge} {g : Option (Nat × Bool)} {k : IntKind} {m n : Int}
    (hx : opd T x = some (.v (.c (.i k m)))) (hy : opd T y = some (.v (.c (.i k n)))) (hg : gd ops ⟨dst, .call ⟨.builtin .max, #[x, y], #[t1, t2]⟩, ty, pos, af, g⟩ T = some true) :
    Sem P ops ⟨dst, .call ⟨.builtin .max, #[x, y], #[t1, t2]⟩, ty, pos, af, g⟩ T B (.r (.v (.c (.i k (max m n))))) :=
  sem_pure hg (nop rfl) (fun V β a w hs => by
    have e1 : a.eval x = .int k m := RdC.int_eq (opd_reads hs (x := x) (by simp [Op.operands, Call.operands]) hx)
    have e2 : a.eval y = .int k n := RdC.int_eq (opd_reads hs (x := y) (by simp [Op.operands, Call.operands]) hy)
    refine ⟨.int k (max m n), ?_, .i _ _⟩
    simp [execOp, resolve, invoke, builtin, Builtin.max_, Builtin.max2, e1, e2]
    split <;> omega)
theorem sem_min {dst : Option Nat} {x y : Operand} {t1 t2 : TypeId} {ty : TypeId} {pos : String} {af : Array Edge} {g : Option (Nat × Bool)} {k : IntKind} {m n : Int}
    (hx : opd T x = some (.v (.c (.i k m)))) (hy : opd T y = some (.v (.c (.i k n)))) (hg : gd ops ⟨dst, .call ⟨.builtin .min, #[x, y], #[t1, t2]⟩, ty, pos, af, g⟩ T = some true) :
    Sem P ops ⟨dst, .call ⟨.builtin .min, #[x, y], #[t1, t2]⟩, ty, pos, af, g⟩ T B (.r (.v (.c (.i k (min m n))))) :=
  sem_pure hg (nop rfl) (fun V β a w hs => by
    have e1 : a.eval x = .int k m := RdC.int_eq (opd_reads hs (x := x) (by simp [Op.operands, Call.operands]) hx)
    have e2 : a.eval y = .int k n := RdC.int_eq (opd_reads hs (x := y) (by simp [Op.operands, Call.operands]) hy)
    refine ⟨.int k (min m n), ?_, .i _ _⟩
    simp [execOp, resolve, invoke, builtin, Builtin.min_, Builtin.min2, e1, e2]
    split <;> omega)
end
theorem sem_slit_D {P : Program} {ops : Array Oper} {T : TF} {B : BF} {dst : Option Nat} {U e : TypeId} {ps : Array (Nat × Operand)} {ty : TypeId} {pos : String} {af : Array Edge} {g : Option (Nat × Bool)} {n m by_ : Nat} {zs us : List CellD} {dps : List (Nat × D0)}
    (hU : elB P U = some (e, m, by_, zs)) (hp : partsD T ps.toList = some dps) (hf : fillD (fun i => some (i * m, m)) (List.replicate n zs).flatten dps = some us) (hl : us.length = n * m) (hn : n * m ≤ 16777216) (hm : 0 < n * m)
    (hg : gd ops ⟨dst, .buildSlice U n ps, ty, pos, af, g⟩ T = some true) : Sem P ops ⟨dst, .buildSlice U n ps, ty, pos, af, g⟩ T B (.r (.v (.c (.s n us)))) := by
  have h := sem_slit (B := B) hU hp hf hn hm hg
  refine ⟨nop rfl, fun V β a w hs => ?_⟩
  obtain ⟨hw, hg⟩ := h V β a w hs
  refine ⟨hw, hg.mono ?_⟩
  rintro v w' ⟨vs, rfl, rfl, hr⟩
  refine ⟨?_, (Below.refl _ w).alloc (Nat.le_refl _) _⟩
  have hkeep := Keep.below (av := V) ((Below.refl w.heap.size w).alloc (Nat.le_refl _) (.cells vs e))
  have hr2 := hr.keep hkeep
  have hvl : vs.size = n * m := by have := hr.1; rw [hl] at this; simpa using this
  have hn0 : 0 < n := by
    rcases Nat.eq_zero_or_pos n with h0 | h0
    · rw [h0, Nat.zero_mul] at hm; omega
    · exact h0
  have hm0 : 0 < m := by
    rcases Nat.eq_zero_or_pos m with h0 | h0
    · rw [h0, Nat.mul_zero] at hm; omega
    · exact h0
  have hnm : n ≤ n * m := Nat.le_mul_of_pos_right n hm0
  refine .s w.heap.size 0 n m n _ (fun j => vs.getD j undef) hn0 (Nat.le_refl _) (by omega) hl (by simp) (fun h => by have := hs.av _ h; omega) (fun j hj => ?_) (fun j u hj => ?_)
  · rw [Nat.zero_add, cells_of_box (heap_alloc_new w (.cells vs e))]
    have : j < vs.size := by omega
    simp [Array.getD, this]
  · have hlt : j < n * m := by have := (List.getElem?_eq_some_iff.1 hj).1; omega
    refine hr2.2 j _ u ?_ hj
    rw [Array.getElem?_toList]
    have : j < vs.size := by omega
    simp [Array.getD, this]
theorem sem_castb {P : Program} {ops : Array Oper} {o : Oper} {T : TF} {B : BF} {b c : Bool} (h : Sem P ops o T B (.r (.v (.c (.b b))))) (e : b = c) : Sem P ops o T B (.r (.v (.c (.b c)))) := by subst e; exact h
theorem ari_i64_mul {a b : Int} (h0 : -9223372036854775808 ≤ a * b) (h1 : a * b ≤ 9223372036854775807) : iari .mul .i64 a b = some (a * b) := congrArg some (nw64 h0 h1)
section
variable {P : Program} {f : FuncId} {ds rs : List D0} {x y z u v x' y' z' u' v' : Rat}
theorem rcast1 (h : Ok P f ds [dR x]) (e : x = x') : Ok P f ds [dR x'] := by subst e; exact h
theorem rcast3 (h : Ok P f ds [.a (cR x ++ cR y ++ cR z)]) (e1 : x = x') (e2 : y = y') (e3 : z = z') : Ok P f ds [.a (cR x' ++ cR y' ++ cR z')] := by subst e1 e2 e3; exact h
theorem rcastb {b c : Bool} (h : Ok P f ds [.c (.b b)]) (e : b = c) : Ok P f ds [.c (.b c)] := by subst e; exact h
theorem rcasti {b c : Int} (h : Ok P f ds [.c (.i .i64 b)]) (e : b = c) : Ok P f ds [.c (.i .i64 c)] := by subst e; exact h
end
theorem Rz.num {n : Int} (h0 : -9223372036854775808 ≤ n) (h1 : n ≤ 9223372036854775807) : Rz 3 (n : Rat) := Rz.int (Sz.small (by decide) h0 h1) (by decide)
def U32s (xs : List Int) : Prop := ∀ x ∈ xs, 0 ≤ x ∧ x ≤ 4294967295
theorem u32_getD {xs : List Int} (h : U32s xs) (i : Nat) : 0 ≤ xs.getD i 0 ∧ xs.getD i 0 ≤ 4294967295 := by
  by_cases hi : i < xs.length
  · have : xs.getD i 0 = xs[i] := by simp [List.getD, hi]
    rw [this]; exact h _ (List.getElem_mem hi)
  · have : xs.getD i 0 = 0 := by rw [List.getD, List.getElem?_eq_none (by omega)]; rfl
    rw [this]; omega
def vI (neg : Bool) (xs : List Int) : Bool := xs.all (fun x => decide (x < 1000000000)) && ((trm xs).length == xs.length) && (!neg || decide (0 < xs.length))
theorem vI_bad {neg : Bool} {xs : List Int} {k : Nat} (hk : k < xs.length) (h : xs.getD k 0 ≥ 1000000000) : vI neg xs = false := by
  have h1 : xs.all (fun x => decide (x < 1000000000)) = false := by
    rw [Bool.eq_false_iff]
    intro hall
    have h2 := List.all_eq_true.1 hall xs[k] (List.getElem_mem hk)
    have h3 : xs.getD k 0 = xs[k] := by simp [List.getD, hk]
    simp only [decide_eq_true_eq] at h2
    omega
  unfold vI
  rw [h1]; rfl
theorem lim_of_all {xs : List Int} (hb : U32s xs) (h : ∀ k, k < xs.length → xs.getD k 0 < 1000000000) : Lim xs := by
  intro x hx
  obtain ⟨i, hi, rfl⟩ := List.getElem_of_mem hx
  have h1 := h i hi
  have h3 : xs.getD i 0 = xs[i] := by simp [List.getD, hi]
  have := hb xs[i] (List.getElem_mem hi)
  omega
theorem all_of_lim {xs : List Int} (h : Lim xs) : xs.all (fun x => decide (x < 1000000000)) = true := List.all_eq_true.2 fun x hx => by have := h x hx; simp; omega
theorem vI_lim {neg : Bool} {xs : List Int} (h : Lim xs) : vI neg xs = (((trm xs).length == xs.length) && (!neg || decide (0 < xs.length))) := by
  unfold vI; rw [all_of_lim h]; rfl
theorem vI_ref {neg : Bool} {xs : List Int} (h : Lim xs) : vI neg xs = ((((lim (val xs).natAbs).length : Int) == (xs.length : Int)) && (!neg || decide ((xs.length : Int) > 0))) := by
  rw [vI_lim h, lim_trm h]
  congr 1
  · rw [Bool.eq_iff_iff, beq_iff_eq, beq_iff_eq]; omega
  · simp
theorem vI_data {neg : Bool} {xs : List Int} (hb : U32s xs) (h : vI neg xs = true) : ([CellD.b neg] ++ [cM xs]) = cI (sg neg (val xs)) ∧ xs.length = (lim (sg neg (val xs)).natAbs).length := by
  unfold vI at h
  simp only [Bool.and_eq_true, beq_iff_eq] at h
  obtain ⟨⟨h1, h2⟩, h3⟩ := h
  have hL : Lim xs := fun x hx => by
    have := List.all_eq_true.1 h1 x hx
    simp only [decide_eq_true_eq] at this
    exact ⟨(hb x hx).1, this⟩
  have hN : trm xs = xs := by
    obtain ⟨n, hn, e1, _⟩ := trm_take xs
    rw [e1, List.length_take] at h2
    rw [e1, List.take_of_length_le (by omega)]
  have hv := val_nonneg hL
  have hx : lim (val xs).natAbs = xs := by rw [← lim_trm hL, hN]
  have e : (sg neg (val xs)).natAbs = (val xs).natAbs := by cases neg <;> simp [sg]
  refine ⟨?_, by rw [e, hx]⟩
  unfold cI
  rw [cL_cM, e, hx]
  congr 2
  cases neg with
  | false => rw [sg_false]; simp; omega
  | true =>
    rw [sg_true]
    simp at h3
    have : val xs ≠ 0 := fun e0 => by
      have := hx
      rw [e0] at this
      rw [show (0 : Int).natAbs = 0 from rfl, lim_zero] at this
      rw [← this] at h3; simp at h3
    simp; omega
theorem iGCD_ok {x y : Int} (hx : Sz 1000000 x) (hy : Sz 1000000 y) : Ok Tryz.prog 113 [dI x, dI y] [dI (Int.gcd x y : Int)] := by
  refine Ok.of (by kernel_rfl) Tryz.func113 rfl rfl ?_
  rw [show Tryz.f113.ntmps = 61 from rfl, show Tryz.f113.results.toList = [.cell 4 24] from rfl]
  refine dw_seq <| dw_region (by kernel_rfl) <| dl_new (sem_box_a rfl rfl) rfl <| dl_new (sem_box_a rfl rfl) rfl <| dl_new (sem_alloc zc24 rfl) rfl <| dl_end <| dw_seq <| dw_draw 8 [] follows_mixed (by kernel_rfl) rfl rfl ?_
  refine dq_r (sem_field fd24_1 rfl rfl) <| dq_r (sem_load1 ty22 rfl rfl rfl rfl) <| dq_r (sem_call rfl rfl (iSigned_cL) rfl) <| dq_r (sem_field fd24_1 rfl rfl) <| dq_r (sem_load1 ty22 rfl rfl rfl rfl) <| dq_r (sem_call rfl rfl (iSigned_cL) rfl) <| dq_new (sem_alloc zc24 rfl) rfl <| dq_new (sem_alloc zc24 rfl) rfl ?_
  refine dq_end <| dl_start2 <| dl_st (sem_store_a ty24 rfl rfl rfl rfl rfl rfl) <| dl_st (sem_store_a ty24 rfl rfl rfl rfl rfl rfl) <| dl_end <| dw_seq <| dw_block <| dw_loop (ι := {p : Int × Int // GInv x y p.1 p.2}) (fun i => ⟨61, [(4, .p 4 0), (5, .p 5 0), (6, .p 6 0)], [(4, 24, ([.b false] ++ [.s 0 []])), (5, 24, cI i.1.1), (6, 24, cI i.1.2)]⟩) (fun i => i.1.2.toNat) ⟨(sg false (x.natAbs : Int), sg false (y.natAbs : Int)), GInv.start hx hy⟩ (sub_of ⟨rfl, rfl, rfl, trivial⟩ ⟨rfl, rfl, rfl, trivial⟩ rfl) ?_
  rintro ⟨⟨a, c⟩, hg⟩
  replace hg : GInv x y a c := hg
  have ha := hg.sa
  have hcc := hg.sc
  show Dw _ _ ⟨61, [(4, .p 4 0), (5, .p 5 0), (6, .p 6 0)], [(4, 24, ([.b false] ++ [.s 0 []])), (5, 24, cI a), (6, 24, cI c)]⟩ _
  refine dw_seq <| dw_seq <| dw_region (by kernel_rfl) <| dl_r (sem_field fd24_1 rfl rfl) <| dl_r (sem_load1 ty22 rfl rfl rfl rfl) <| dl_r (sem_len sl22 rfl rfl) <| dl_r (sem_cmp rfl rfl rfl rfl) <| dl_end ?_
  refine dw_cond rfl (fun hc1 => ?_) (fun hc1 => ?_)
  · have hne := lenL_pos hc1
    refine dw_skip <| dw_block <| dw_seq <| dw_region (by kernel_rfl) <| dl_r (sem_load (us := cI a) ty24 rfl rfl rfl rfl rfl) <| dl_r (sem_call rfl rfl (iWord_ok) rfl) <| dl_r (sem_move rfl rfl) <| dl_r (sem_extract rfl rfl rfl) ?_
    refine dl_r (sem_extract rfl rfl rfl) <| dl_r (sem_assign rfl rfl) <| dl_r (sem_assign rfl rfl) <| dl_end <| dw_seq <| dw_region (by kernel_rfl) <| dl_r (sem_load (us := cI c) ty24 rfl rfl rfl rfl rfl) <| dl_r (sem_call rfl rfl (iWord_ok) rfl) ?_
    refine dl_r (sem_move rfl rfl) <| dl_r (sem_extract rfl rfl rfl) <| dl_r (sem_extract rfl rfl rfl) <| dl_r (sem_assign rfl rfl) <| dl_r (sem_assign rfl rfl) <| dl_end <| dw_seq <| dw_seq ?_
    refine dw_region (by kernel_rfl) <| dl_r (sem_move rfl rfl) ?_
    refine dl_rb (sem_move rfl rfl) (fun c2 hb2 => ?_)
    cases c2
    · refine dl_skip (sem_skip rfl) <| dl_r (sem_pick rfl rfl rfl rfl) <| dl_end <| dw_false rfl <| dw_skip <| dw_seq <| dw_region (by kernel_rfl) <| dl_r (sem_field fd24_1 rfl rfl) ?_
      refine dl_r (sem_load1 ty22 rfl rfl rfl rfl) <| dl_r (sem_field fd24_1 rfl rfl) <| dl_r (sem_load1 ty22 rfl rfl rfl rfl) <| dl_r (sem_call rfl rfl (iDivide_ok (by assumption) (by assumption) (by assumption)) rfl) <| dl_r (sem_move rfl rfl) <| dl_r (sem_extract rfl rfl rfl) <| dl_r (sem_extract rfl rfl rfl) <| dl_r (sem_assign rfl rfl) ?_
      refine dl_r (sem_assign rfl rfl) <| dl_end <| dw_draw 3 [] follows_mixed (by kernel_rfl) rfl rfl <| dq_r (sem_load (us := cI c) ty24 rfl rfl rfl rfl rfl) <| dq_r (sem_move rfl rfl) <| dq_r (sem_call rfl rfl (iSigned_ok) rfl) <| dq_end <| dl_start0 ?_
      refine dl_st (sem_store_a ty24 rfl rfl rfl rfl rfl rfl) <| dl_st (sem_store_a ty24 rfl rfl rfl rfl rfl rfl) <| dl_end ?_
      exact ⟨⟨(c, sg false ((a.natAbs : Int) % c.natAbs)), hg.step hne⟩, sub_of ⟨rfl, rfl, rfl, trivial⟩ ⟨rfl, rfl, rfl, trivial⟩ rfl, hg.less hne⟩
    · refine dl_r (sem_move rfl rfl) <| dl_r (sem_pick rfl rfl rfl rfl) <| dl_end ?_
      refine dw_cond rfl (fun hc3 => ?_) (fun hc3 => ?_)
      · refine dw_seq <| dw_block <| dw_loop (ι := {p : Int × Int // GInv2 x y p.1 p.2}) (fun i => ⟨61, [(4, .p 4 0), (7, .v (.c (.i .u64 i.1.1))), (9, .v (.c (.i .u64 i.1.2)))], [(4, 24, ([.b false] ++ [.s 0 []]))]⟩) (fun i => i.1.2.toNat) ⟨(if a.natAbs < 1000000000000000000 then (a.natAbs : Int) else 0, if c.natAbs < 1000000000000000000 then (c.natAbs : Int) else 0), hg.word hb2 hc3⟩ (sub_of ⟨rfl, rfl, rfl, trivial⟩ ⟨rfl, trivial⟩ rfl) ?_
        rintro ⟨⟨u, v⟩, hw⟩
        replace hw : GInv2 x y u v := hw
        show Dw _ _ ⟨61, [(4, .p 4 0), (7, .v (.c (.i .u64 u))), (9, .v (.c (.i .u64 v)))], [(4, 24, ([.b false] ++ [.s 0 []]))]⟩ _
        refine dw_seq <| dw_seq <| dw_region (by kernel_rfl) <| dl_r (sem_move rfl rfl) <| dl_r (sem_cmp rfl rfl rfl rfl) <| dl_end ?_
        refine dw_cond rfl (fun hc4 => ?_) (fun hc4 => ?_)
        · have hv : v > 0 := by simpa using hc4
          refine dw_skip <| dw_block <| dw_draw 6 [] follows_mixed (by kernel_rfl) rfl rfl <| dq_r (sem_move rfl rfl) <| dq_r (sem_move rfl rfl) <| dq_r (sem_move rfl rfl) <| dq_r (sem_rem rfl rfl (by omega) rfl) <| dq_r (sem_assign rfl rfl) ?_
          refine dq_r (sem_assign rfl rfl) <| dq_end <| dl_start0 <| dl_end ?_
          exact ⟨⟨(v, u.tmod v), hw.step hv⟩, sub_of ⟨rfl, rfl, rfl, trivial⟩ ⟨rfl, trivial⟩ rfl, hw.less hv⟩
        · refine dw_exit <| dw_seq <| dw_region (by kernel_rfl) <| dl_r (sem_move rfl rfl) <| dl_r (sem_call rfl rfl (iSplit_ok hw.u0 hw.u1) rfl) <| dl_r (sem_call rfl rfl (iSigned_ok) rfl) <| dl_st (sem_store_a ty24 rfl rfl rfl rfl rfl rfl) <| dl_end ?_
          refine dw_ret ?_
          rw [hw.done (by simpa using hc4)]
          exact ⟨.inr rfl, (resL_cell (us := cI (sg false u)) ty24 rfl rfl rfl rfl resL_nil)⟩
      · refine dw_skip <| dw_seq <| dw_region (by kernel_rfl) <| dl_r (sem_field fd24_1 rfl rfl) <| dl_r (sem_load1 ty22 rfl rfl rfl rfl) <| dl_r (sem_field fd24_1 rfl rfl) <| dl_r (sem_load1 ty22 rfl rfl rfl rfl) <| dl_r (sem_call rfl rfl (iDivide_ok (by assumption) (by assumption) (by assumption)) rfl) ?_
        refine dl_r (sem_move rfl rfl) <| dl_r (sem_extract rfl rfl rfl) <| dl_r (sem_extract rfl rfl rfl) <| dl_r (sem_assign rfl rfl) <| dl_r (sem_assign rfl rfl) <| dl_end <| dw_draw 3 [] follows_mixed (by kernel_rfl) rfl rfl <| dq_r (sem_load (us := cI c) ty24 rfl rfl rfl rfl rfl) ?_
        refine dq_r (sem_move rfl rfl) <| dq_r (sem_call rfl rfl (iSigned_ok) rfl) <| dq_end <| dl_start0 <| dl_st (sem_store_a ty24 rfl rfl rfl rfl rfl rfl) <| dl_st (sem_store_a ty24 rfl rfl rfl rfl rfl rfl) <| dl_end ?_
        exact ⟨⟨(c, sg false ((a.natAbs : Int) % c.natAbs)), hg.step hne⟩, sub_of ⟨rfl, rfl, rfl, trivial⟩ ⟨rfl, rfl, rfl, trivial⟩ rfl, hg.less hne⟩
  · refine dw_exit <| dw_seq <| dw_region (by kernel_rfl) <| dl_r (sem_field fd24_1 rfl rfl) <| dl_r (sem_load1 ty22 rfl rfl rfl rfl) <| dl_r (sem_copy rfl (by assumption) rfl) <| dl_r (sem_call rfl rfl (iSigned_cL) rfl) <| dl_st (sem_store_a ty24 rfl rfl rfl rfl rfl rfl) ?_
    refine dl_end <| dw_ret ?_
    rw [hg.done (lenL_zero hc1)]
    exact ⟨.inr rfl, (resL_cell (us := cI (sg false (a.natAbs : Int))) ty24 rfl rfl rfl rfl resL_nil)⟩
theorem iDivMod_ok {x y : Int} (hx : Sz 1000000 x) (hy : Sz 1000000 y) (h0 : y ≠ 0) : Ok Tryz.prog 107 [dI x, dI y] [dI (x.fdiv y), dI (x.fmod y), .c (.i .i64 0)] := by
  have hq : Sz 1000000 (q0 x y) := hx.q0
  have hr : Sz 1000000 (r0 x y) := hy.r0 h0
  have h1 : Sz 1000000 (1 : Int) := Sz.small (by omega) (by omega) (by omega)
  refine Ok.of (by kernel_rfl) Tryz.func107 rfl rfl ?_
  rw [show Tryz.f107.ntmps = 55 from rfl, show Tryz.f107.results.toList = [.cell 4 24, .cell 5 24, .tmp 6] from rfl]
  refine dw_seq <| dw_region (by kernel_rfl) <| dl_new (sem_box_a rfl rfl) rfl <| dl_new (sem_box_a rfl rfl) rfl <| dl_new (sem_alloc zc24 rfl) rfl <| dl_new (sem_alloc zc24 rfl) rfl <| dl_r (sem_assign rfl rfl) <| dl_end ?_
  refine dw_seq <| dw_seq <| dw_region (by kernel_rfl) <| dl_r (sem_field fd24_1 rfl rfl) <| dl_r (sem_load1 ty22 rfl rfl rfl rfl) <| dl_r (sem_len sl22 rfl rfl) <| dl_r (sem_cmp rfl rfl rfl rfl) <| dl_end ?_
  refine dw_cond rfl (fun hc1 => ?_) (fun hc1 => ?_)
  · exact absurd hc1 (by simp [lim_eq_nil, h0])
  · refine dw_skip <| dw_seq <| dw_region (by kernel_rfl) <| dl_r (sem_field fd24_1 rfl rfl) <| dl_r (sem_load1 ty22 rfl rfl rfl rfl) <| dl_r (sem_field fd24_1 rfl rfl) <| dl_r (sem_load1 ty22 rfl rfl rfl rfl) <| dl_r (sem_call rfl rfl (iDivide_ok (by assumption) (by assumption) (by assumption)) rfl) ?_
    refine dl_r (sem_move rfl rfl) <| dl_r (sem_extract rfl rfl rfl) <| dl_r (sem_extract rfl rfl rfl) <| dl_r (sem_assign rfl rfl) <| dl_r (sem_assign rfl rfl) <| dl_end <| dw_seq <| dw_draw 13 [] follows_mixed (by kernel_rfl) rfl rfl ?_
    refine dq_r (sem_field fd24_0 rfl rfl) <| dq_r (sem_load1 ty4 rfl rfl rfl rfl) <| dq_r (sem_field fd24_0 rfl rfl) <| dq_r (sem_load1 ty4 rfl rfl rfl rfl) <| dq_r (sem_bneq rfl rfl ty_bool rfl) <| dq_r (sem_move rfl rfl) <| dq_r (sem_call rfl rfl (iSigned_ok) rfl) <| dq_r (sem_field fd24_0 rfl rfl) ?_
    refine dq_r (sem_load1 ty4 rfl rfl rfl rfl) <| dq_r (sem_move rfl rfl) <| dq_r (sem_call rfl rfl (iSigned_ok) rfl) <| dq_new (sem_alloc zc24 rfl) rfl <| dq_new (sem_alloc zc24 rfl) rfl <| dq_end <| dl_start2 <| dl_st (sem_store_a ty24 rfl rfl rfl rfl rfl rfl) ?_
    refine dl_st (sem_store_a ty24 rfl rfl rfl rfl rfl rfl) <| dl_end <| dw_seq <| dw_seq <| dw_region (by kernel_rfl) <| dl_r (sem_field fd24_1 rfl rfl) <| dl_r (sem_load1 ty22 rfl rfl rfl rfl) <| dl_r (sem_len sl22 rfl rfl) ?_
    refine dl_r (sem_cmp rfl rfl rfl rfl) ?_
    refine dl_rb (sem_move rfl rfl) (fun c2 hb2 => ?_)
    cases c2
    · refine dl_skip (sem_skip rfl) <| dl_skip (sem_skip rfl) <| dl_skip (sem_skip rfl) <| dl_skip (sem_skip rfl) <| dl_skip (sem_skip rfl) <| dl_r (sem_pick rfl rfl rfl rfl) <| dl_end <| dw_false rfl ?_
      refine dw_skip <| dw_seq <| dw_draw 5 [4, 5] follows_mixed (by kernel_rfl) rfl rfl <| dq_r (sem_load (us := cI (sg (!((decide (x < 0)) == (decide (y < 0)))) ((x.natAbs : Int) / y.natAbs))) ty24 rfl rfl rfl rfl rfl) <| dq_r (sem_load (us := cI (sg (decide (x < 0)) ((x.natAbs : Int) % y.natAbs))) ty24 rfl rfl rfl rfl rfl) <| dq_st (sem_store_a ty24 rfl rfl rfl rfl rfl rfl) rfl rfl rfl rfl <| dq_st (sem_store_a ty24 rfl rfl rfl rfl rfl rfl) rfl rfl rfl rfl <| dq_r (sem_assign rfl rfl) ?_
      refine dq_end <| dl_start2 <| dl_end <| dw_ret ?_
      obtain ⟨e1, e2⟩ := dm_plain (x := x) h0 (.inl (lenL_zero hb2))
      rw [e1, e2]
      exact ⟨.inr rfl, (resL_cell (us := cI (sg (!((decide (x < 0)) == (decide (y < 0)))) ((x.natAbs : Int) / y.natAbs))) ty24 rfl rfl rfl rfl (resL_cell (us := cI (sg (decide (x < 0)) ((x.natAbs : Int) % y.natAbs))) ty24 rfl rfl rfl rfl (resL_tmp rfl resL_nil)))⟩
    · refine dl_r (sem_field fd24_0 rfl rfl) <| dl_r (sem_load1 ty4 rfl rfl rfl rfl) <| dl_r (sem_field fd24_0 rfl rfl) <| dl_r (sem_load1 ty4 rfl rfl rfl rfl) <| dl_r (sem_bneq rfl rfl ty_bool rfl) <| dl_r (sem_pick rfl rfl rfl rfl) <| dl_end ?_
      refine dw_cond rfl (fun hc3 => ?_) (fun hc3 => ?_)
      · -- region 6
        refine dw_draw 6 [] follows_mixed (by kernel_rfl) rfl rfl <| dq_r (sem_load (us := cI (sg (!((decide (x < 0)) == (decide (y < 0)))) ((x.natAbs : Int) / y.natAbs))) ty24 rfl rfl rfl rfl rfl) <| dq_r (sem_call rfl rfl (iFrom_ok (by omega) (by omega)) rfl) <| dq_r (sem_call rfl rfl (iSub_ok (by assumption) (by assumption)) rfl) <| dq_r (sem_load (us := cI (sg (decide (x < 0)) ((x.natAbs : Int) % y.natAbs))) ty24 rfl rfl rfl rfl rfl) <| dq_r (sem_load (us := cI y) ty24 rfl rfl rfl rfl rfl) <| dq_r (sem_call rfl rfl (iAdd_ok (by assumption) (by assumption)) rfl) <| dq_end ?_
        refine dl_start0 <| dl_st (sem_store_a ty24 rfl rfl rfl rfl rfl rfl) <| dl_st (sem_store_a ty24 rfl rfl rfl rfl rfl rfl) <| dl_end <| dw_seq <| dw_draw 5 [4, 5] follows_mixed (by kernel_rfl) rfl rfl <| dq_r (sem_load (us := cI ((sg (!((decide (x < 0)) == (decide (y < 0)))) ((x.natAbs : Int) / y.natAbs)) - 1)) ty24 rfl rfl rfl rfl rfl) <| dq_r (sem_load (us := cI ((sg (decide (x < 0)) ((x.natAbs : Int) % y.natAbs)) + y)) ty24 rfl rfl rfl rfl rfl) ?_
        refine dq_st (sem_store_a ty24 rfl rfl rfl rfl rfl rfl) rfl rfl rfl rfl <| dq_st (sem_store_a ty24 rfl rfl rfl rfl rfl rfl) rfl rfl rfl rfl <| dq_r (sem_assign rfl rfl) <| dq_end <| dl_start2 <| dl_end <| dw_ret ?_
        obtain ⟨e1, e2⟩ := dm_shift (x := x) h0 (lenL_pos hb2) (sgn_ne hc3)
        rw [e1, e2]
        exact ⟨.inr rfl, (resL_cell (us := cI ((sg (!((decide (x < 0)) == (decide (y < 0)))) ((x.natAbs : Int) / y.natAbs)) - 1)) ty24 rfl rfl rfl rfl (resL_cell (us := cI ((sg (decide (x < 0)) ((x.natAbs : Int) % y.natAbs)) + y)) ty24 rfl rfl rfl rfl (resL_tmp rfl resL_nil)))⟩
      · refine dw_skip <| dw_seq <| dw_draw 5 [4, 5] follows_mixed (by kernel_rfl) rfl rfl <| dq_r (sem_load (us := cI (sg (!((decide (x < 0)) == (decide (y < 0)))) ((x.natAbs : Int) / y.natAbs))) ty24 rfl rfl rfl rfl rfl) <| dq_r (sem_load (us := cI (sg (decide (x < 0)) ((x.natAbs : Int) % y.natAbs))) ty24 rfl rfl rfl rfl rfl) <| dq_st (sem_store_a ty24 rfl rfl rfl rfl rfl rfl) rfl rfl rfl rfl <| dq_st (sem_store_a ty24 rfl rfl rfl rfl rfl rfl) rfl rfl rfl rfl <| dq_r (sem_assign rfl rfl) ?_
        refine dq_end <| dl_start2 <| dl_end <| dw_ret ?_
        obtain ⟨e1, e2⟩ := dm_plain (x := x) h0 (.inr (sgn_eq hc3))
        rw [e1, e2]
        exact ⟨.inr rfl, (resL_cell (us := cI (sg (!((decide (x < 0)) == (decide (y < 0)))) ((x.natAbs : Int) / y.natAbs))) ty24 rfl rfl rfl rfl (resL_cell (us := cI (sg (decide (x < 0)) ((x.natAbs : Int) % y.natAbs))) ty24 rfl rfl rfl rfl (resL_tmp rfl resL_nil)))⟩
theorem nSign_ok {x : Int} : Ok Tryz.prog 37 [dI x] [.c (.i .i64 (cmpI x 0))] := by
  refine Ok.of (by kernel_rfl) Tryz.func37 rfl rfl ?_
  rw [show Tryz.f37.ntmps = 9 from rfl, show Tryz.f37.results.toList = [.tmp 2] from rfl]
  refine dw_seq <| dw_region (by kernel_rfl) <| dl_new (sem_box_a rfl rfl) rfl <| dl_r (sem_assign rfl rfl) <| dl_end <| dw_seq <| dw_seq <| dw_region (by kernel_rfl) ?_
  refine dl_r (sem_field fd24_1 rfl rfl) <| dl_r (sem_load1 ty22 rfl rfl rfl rfl) <| dl_r (sem_len sl22 rfl rfl) <| dl_r (sem_cmp rfl rfl rfl rfl) <| dl_end ?_
  refine dw_cond rfl (fun hc1 => ?_) (fun hc1 => ?_)
  · refine dw_seq <| dw_region (by kernel_rfl) <| dl_r (sem_assign rfl rfl) <| dl_end <| dw_ret ?_
    rw [cmp_eq (by have := hc1; simp [lim_eq_nil] at this; omega)]
    exact ⟨.inr rfl, (resL_tmp rfl resL_nil)⟩
  · refine dw_skip <| dw_seq <| dw_seq <| dw_region (by kernel_rfl) <| dl_r (sem_field fd24_0 rfl rfl) <| dl_r (sem_load1 ty4 rfl rfl rfl rfl) <| dl_end ?_
    refine dw_cond rfl (fun hc2 => ?_) (fun hc2 => ?_)
    · refine dw_seq <| dw_region (by kernel_rfl) <| dl_r (sem_assign rfl rfl) <| dl_end <| dw_ret ?_
      rw [cmp_lt (by simpa using hc2)]
      exact ⟨.inr rfl, (resL_tmp rfl resL_nil)⟩
    · refine dw_skip <| dw_seq <| dw_region (by kernel_rfl) <| dl_r (sem_assign rfl rfl) <| dl_end <| dw_ret ?_
      rw [cmp_gt (by have := hc1; have h2 := hc2; simp [lim_eq_nil] at this h2; omega)]
      exact ⟨.inr rfl, (resL_tmp rfl resL_nil)⟩
theorem nCmp_ok {x y : Int} (hx : Sz 1000000 x) (hy : Sz 1000000 y) : Ok Tryz.prog 46 [dI x, dI y] [.c (.i .i64 (cmpI x y))] := by
  refine Ok.of (by kernel_rfl) Tryz.func46 rfl rfl ?_
  rw [show Tryz.f46.ntmps = 24 from rfl, show Tryz.f46.results.toList = [.tmp 4] from rfl]
  refine dw_seq <| dw_region (by kernel_rfl) <| dl_new (sem_box_a rfl rfl) rfl <| dl_new (sem_box_a rfl rfl) rfl <| dl_r (sem_assign rfl rfl) <| dl_end <| dw_seq <| dw_seq ?_
  refine dw_region (by kernel_rfl) <| dl_r (sem_field fd24_0 rfl rfl) <| dl_r (sem_load1 ty4 rfl rfl rfl rfl) <| dl_r (sem_field fd24_0 rfl rfl) <| dl_r (sem_load1 ty4 rfl rfl rfl rfl) <| dl_r (sem_bneq rfl rfl ty_bool rfl) <| dl_end ?_
  refine dw_cond rfl (fun hc1 => ?_) (fun hc1 => ?_)
  · refine dw_seq <| dw_seq <| dw_region (by kernel_rfl) <| dl_r (sem_field fd24_0 rfl rfl) <| dl_r (sem_load1 ty4 rfl rfl rfl rfl) <| dl_end ?_
    refine dw_cond rfl (fun hc2 => ?_) (fun hc2 => ?_)
    · refine dw_seq <| dw_region (by kernel_rfl) <| dl_r (sem_assign rfl rfl) <| dl_end <| dw_ret ?_
      rw [cmp_lt (by have := sgn_ne hc1; have h2 := hc2; simp only [decide_eq_true_eq] at h2; omega)]
      exact ⟨.inr rfl, (resL_tmp rfl resL_nil)⟩
    · refine dw_skip <| dw_seq <| dw_region (by kernel_rfl) <| dl_r (sem_assign rfl rfl) <| dl_end <| dw_ret ?_
      rw [cmp_gt (by have := sgn_ne hc1; have h2 := hc2; simp only [decide_eq_false_iff_not] at h2; omega)]
      exact ⟨.inr rfl, (resL_tmp rfl resL_nil)⟩
  · refine dw_skip <| dw_seq <| dw_seq <| dw_region (by kernel_rfl) <| dl_r (sem_field fd24_0 rfl rfl) <| dl_r (sem_load1 ty4 rfl rfl rfl rfl) <| dl_end ?_
    refine dw_cond rfl (fun hc3 => ?_) (fun hc3 => ?_)
    · refine dw_seq <| dw_region (by kernel_rfl) <| dl_r (sem_field fd24_1 rfl rfl) <| dl_r (sem_load1 ty22 rfl rfl rfl rfl) <| dl_r (sem_field fd24_1 rfl rfl) <| dl_r (sem_load1 ty22 rfl rfl rfl rfl) <| dl_r (sem_call rfl rfl (rCompare_c (by assumption) (by assumption)) rfl) <| dl_r (sem_assign rfl rfl) ?_
      refine dl_end <| dw_ret ?_
      rw [← cmpI_abs_neg hc3 (by have := sgn_eq hc1; have h2 := hc3; simp only [decide_eq_true_eq] at h2; omega)]
      exact ⟨.inr rfl, (resL_tmp rfl resL_nil)⟩
    · refine dw_skip <| dw_seq <| dw_region (by kernel_rfl) <| dl_r (sem_field fd24_1 rfl rfl) <| dl_r (sem_load1 ty22 rfl rfl rfl rfl) <| dl_r (sem_field fd24_1 rfl rfl) <| dl_r (sem_load1 ty22 rfl rfl rfl rfl) <| dl_r (sem_call rfl rfl (rCompare_c (by assumption) (by assumption)) rfl) ?_
      refine dl_r (sem_assign rfl rfl) <| dl_end <| dw_ret ?_
      rw [← cmpI_abs_pos hc3 (by have := sgn_eq hc1; have h2 := hc3; simp only [decide_eq_false_iff_not] at h2; omega)]
      exact ⟨.inr rfl, (resL_tmp rfl resL_nil)⟩
theorem nFrom_ok {x : Int} (h0 : -9223372036854775808 ≤ x) (h1 : x ≤ 9223372036854775807) : Ok Tryz.prog 45 [.c (.i .i64 x)] [dI x] := by
  refine Ok.of (by kernel_rfl) Tryz.func45 rfl rfl ?_
  rw [show Tryz.f45.ntmps = 14 from rfl, show Tryz.f45.results.toList = [.cell 2 24] from rfl]
  refine dw_seq <| dw_region (by kernel_rfl) <| dl_new (sem_alloc zc24 rfl) rfl <| dl_end <| dw_seq <| dw_seq <| dw_region (by kernel_rfl) <| dl_r (sem_move rfl rfl) ?_
  refine dl_r (sem_cmp rfl rfl rfl rfl) <| dl_end ?_
  refine dw_cond rfl (fun hc1 => ?_) (fun hc1 => ?_)
  · have hn : x < 0 := by simpa using hc1
    refine dw_seq <| dw_region (by kernel_rfl) <| dl_r (sem_move rfl rfl) <| dl_r (sem_conv' (r := x + 18446744073709551616) und2 und69 rfl (wu64_neg hn h0) rfl) <| dl_r (sem_neg' (r := -x) rfl (wu64_neg2 hn h0) rfl) <| dl_r (sem_call rfl rfl (rLimbs_ok (by omega) (by omega)) rfl) <| dl_r (sem_call rfl rfl (rSigned_c (Sz.small3 (by omega) (by omega))) rfl) <| dl_st (sem_store_a ty24 rfl rfl rfl rfl rfl rfl) ?_
    refine dl_end <| dw_ret ?_
    have hfin : dI x = dI (sg true (((-x).natAbs : Nat) : Int)) := congrArg dI (by rw [sg_true]; omega)
    rw [hfin]
    exact ⟨.inr rfl, (resL_cell (us := cI (sg true (((-x).natAbs : Nat) : Int))) ty24 rfl rfl rfl rfl resL_nil)⟩
  · have hn : 0 ≤ x := by have := hc1; simp at this; omega
    refine dw_skip <| dw_seq <| dw_region (by kernel_rfl) <| dl_r (sem_move rfl rfl) <| dl_r (sem_conv' (r := x) und2 und69 rfl (nwu64 (by omega) (by omega)) rfl) <| dl_r (sem_call rfl rfl (rLimbs_ok (by omega) (by omega)) rfl) <| dl_r (sem_call rfl rfl (rSigned_c (Sz.small3 (by omega) (by omega))) rfl) <| dl_st (sem_store_a ty24 rfl rfl rfl rfl rfl rfl) ?_
    refine dl_end <| dw_ret ?_
    have hfin : dI x = dI (sg false ((x.natAbs : Nat) : Int)) := congrArg dI (by rw [sg_false]; omega)
    rw [hfin]
    exact ⟨.inr rfl, (resL_cell (us := cI (sg false ((x.natAbs : Nat) : Int))) ty24 rfl rfl rfl rfl resL_nil)⟩
theorem nNeg_ok {x : Int} (hx : Sz 1000000 x) : Ok Tryz.prog 54 [dI x] [dI (-x)] := by
  refine Ok.of (by kernel_rfl) Tryz.func54 rfl rfl ?_
  rw [show Tryz.f54.ntmps = 9 from rfl, show Tryz.f54.results.toList = [.cell 2 24] from rfl]
  refine dw_seq <| dw_region (by kernel_rfl) <| dl_new (sem_box_a rfl rfl) rfl <| dl_new (sem_alloc zc24 rfl) rfl <| dl_end <| dw_seq <| dw_region (by kernel_rfl) <| dl_r (sem_field fd24_0 rfl rfl) ?_
  refine dl_r (sem_load1 ty4 rfl rfl rfl rfl) <| dl_r (sem_not rfl rfl) <| dl_r (sem_field fd24_1 rfl rfl) <| dl_r (sem_load1 ty22 rfl rfl rfl rfl) <| dl_r (sem_call rfl rfl (rSigned_c (by assumption)) rfl) <| dl_st (sem_store_a ty24 rfl rfl rfl rfl rfl rfl) <| dl_end <| dw_ret ?_
  rw [← sa_not (x := x)]
  exact ⟨.inr rfl, (resL_cell (us := cI (sg (!(decide (x < 0))) ((x.natAbs : Nat) : Int))) ty24 rfl rfl rfl rfl resL_nil)⟩
theorem nMul_ok {x y : Int} (hx : Sz 400000 x) (hy : Sz 400000 y) : Ok Tryz.prog 50 [dI x, dI y] [dI (x * y)] := by
  have hx6 : Sz 1000000 x := hx.mono (by decide)
  have hy6 : Sz 1000000 y := hy.mono (by decide)
  have hp : Sz 1000000 ((x.natAbs : Int) * (y.natAbs : Int)) := ((nat_sz hx).mul (nat_sz hy)).mono (by decide)
  refine Ok.of (by kernel_rfl) Tryz.func50 rfl rfl ?_
  rw [show Tryz.f50.ntmps = 16 from rfl, show Tryz.f50.results.toList = [.cell 4 24] from rfl]
  refine dw_seq <| dw_region (by kernel_rfl) <| dl_new (sem_box_a rfl rfl) rfl <| dl_new (sem_box_a rfl rfl) rfl <| dl_new (sem_alloc zc24 rfl) rfl <| dl_end <| dw_seq <| dw_draw 11 [] follows_mixed (by kernel_rfl) rfl rfl ?_
  refine dq_r (sem_field fd24_0 rfl rfl) <| dq_r (sem_load1 ty4 rfl rfl rfl rfl) <| dq_r (sem_field fd24_0 rfl rfl) <| dq_r (sem_load1 ty4 rfl rfl rfl rfl) <| dq_r (sem_bneq rfl rfl ty_bool rfl) <| dq_r (sem_field fd24_1 rfl rfl) <| dq_r (sem_load1 ty22 rfl rfl rfl rfl) <| dq_r (sem_field fd24_1 rfl rfl) ?_
  refine dq_r (sem_load1 ty22 rfl rfl rfl rfl) <| dq_r (sem_call rfl rfl (rTimes_c (by assumption) (by assumption)) rfl) <| dq_r (sem_call rfl rfl (rSigned_c (by assumption)) rfl) <| dq_end <| dl_start0 <| dl_st (sem_store_a ty24 rfl rfl rfl rfl rfl rfl) <| dl_end <| dw_ret ?_
  rw [← sa_mul (x := x) (y := y)]
  exact ⟨.inr rfl, (resL_cell (us := cI (sg (!((decide (x < 0)) == (decide (y < 0)))) ((((x.natAbs : Int) * (y.natAbs : Int)).natAbs : Nat) : Int))) ty24 rfl rfl rfl rfl resL_nil)⟩
theorem nAdd_ok {x y : Int} (hx : Sz 900000 x) (hy : Sz 900000 y) : Ok Tryz.prog 51 [dI x, dI y] [dI (x + y)] := by
  have hx6 : Sz 1000000 x := hx.mono (by decide)
  have hy6 : Sz 1000000 y := hy.mono (by decide)
  have hp : Sz 1000000 ((x.natAbs : Int) + (y.natAbs : Int)) := ((nat_sz (hx.mono (l := 999999) (by decide))).add (nat_sz (hy.mono (by decide)))).mono (by decide)
  refine Ok.of (by kernel_rfl) Tryz.func51 rfl rfl ?_
  rw [show Tryz.f51.ntmps = 40 from rfl, show Tryz.f51.results.toList = [.cell 4 24] from rfl]
  refine dw_seq <| dw_region (by kernel_rfl) <| dl_new (sem_box_a rfl rfl) rfl <| dl_new (sem_box_a rfl rfl) rfl <| dl_new (sem_alloc zc24 rfl) rfl <| dl_end <| dw_seq <| dw_seq ?_
  refine dw_region (by kernel_rfl) <| dl_r (sem_field fd24_0 rfl rfl) <| dl_r (sem_load1 ty4 rfl rfl rfl rfl) <| dl_r (sem_field fd24_0 rfl rfl) <| dl_r (sem_load1 ty4 rfl rfl rfl rfl) <| dl_r (sem_beql rfl rfl ty_bool rfl) <| dl_end ?_
  refine dw_cond rfl (fun hc1 => ?_) (fun hc1 => ?_)
  · refine dw_seq <| dw_draw 8 [] follows_mixed (by kernel_rfl) rfl rfl <| dq_r (sem_field fd24_0 rfl rfl) <| dq_r (sem_load1 ty4 rfl rfl rfl rfl) <| dq_r (sem_field fd24_1 rfl rfl) <| dq_r (sem_load1 ty22 rfl rfl rfl rfl) <| dq_r (sem_field fd24_1 rfl rfl) <| dq_r (sem_load1 ty22 rfl rfl rfl rfl) ?_
    refine dq_r (sem_call rfl rfl (rPlus_c (by assumption) (by assumption)) rfl) <| dq_r (sem_call rfl rfl (rSigned_c (by assumption)) rfl) <| dq_end <| dl_start0 <| dl_st (sem_store_a ty24 rfl rfl rfl rfl rfl rfl) <| dl_end <| dw_ret ?_
    rw [← sa_same hc1]
    exact ⟨.inr rfl, (resL_cell (us := cI (sg (decide (x < 0)) ((((x.natAbs : Int) + (y.natAbs : Int)).natAbs : Nat) : Int))) ty24 rfl rfl rfl rfl resL_nil)⟩
  · refine dw_skip <| dw_seq <| dw_seq <| dw_region (by kernel_rfl) <| dl_r (sem_field fd24_1 rfl rfl) <| dl_r (sem_load1 ty22 rfl rfl rfl rfl) <| dl_r (sem_field fd24_1 rfl rfl) <| dl_r (sem_load1 ty22 rfl rfl rfl rfl) ?_
    refine dl_r (sem_call rfl rfl (rCompare_c (by assumption) (by assumption)) rfl) <| dl_r (sem_cmp rfl rfl rfl rfl) <| dl_end ?_
    refine dw_cond rfl (fun hc2 => ?_) (fun hc2 => ?_)
    · have hge := cmpI_ge hc2
      have hq : Sz 1000000 ((x.natAbs : Int) - (y.natAbs : Int)) := hx6.of_le (by omega)
      refine dw_seq <| dw_draw 8 [] follows_mixed (by kernel_rfl) rfl rfl <| dq_r (sem_field fd24_0 rfl rfl) <| dq_r (sem_load1 ty4 rfl rfl rfl rfl) <| dq_r (sem_field fd24_1 rfl rfl) <| dq_r (sem_load1 ty22 rfl rfl rfl rfl) <| dq_r (sem_field fd24_1 rfl rfl) <| dq_r (sem_load1 ty22 rfl rfl rfl rfl) ?_
      refine dq_r (sem_call rfl rfl (rMinus_c (by assumption) (by omega)) rfl) <| dq_r (sem_call rfl rfl (rSigned_c (by assumption)) rfl) <| dq_end <| dl_start0 <| dl_st (sem_store_a ty24 rfl rfl rfl rfl rfl rfl) <| dl_end <| dw_ret ?_
      rw [← sa_ge hc1 (by omega)]
      exact ⟨.inr rfl, (resL_cell (us := cI (sg (decide (x < 0)) ((((x.natAbs : Int) - (y.natAbs : Int)).natAbs : Nat) : Int))) ty24 rfl rfl rfl rfl resL_nil)⟩
    · have hge := cmpI_lt hc2
      have hq : Sz 1000000 ((y.natAbs : Int) - (x.natAbs : Int)) := hy6.of_le (by omega)
      refine dw_skip <| dw_seq <| dw_draw 8 [] follows_mixed (by kernel_rfl) rfl rfl <| dq_r (sem_field fd24_0 rfl rfl) <| dq_r (sem_load1 ty4 rfl rfl rfl rfl) <| dq_r (sem_field fd24_1 rfl rfl) <| dq_r (sem_load1 ty22 rfl rfl rfl rfl) <| dq_r (sem_field fd24_1 rfl rfl) ?_
      refine dq_r (sem_load1 ty22 rfl rfl rfl rfl) <| dq_r (sem_call rfl rfl (rMinus_c (by assumption) (by omega)) rfl) <| dq_r (sem_call rfl rfl (rSigned_c (by assumption)) rfl) <| dq_end <| dl_start0 <| dl_st (sem_store_a ty24 rfl rfl rfl rfl rfl rfl) <| dl_end <| dw_ret ?_
      rw [← sa_lt hc1 (by omega)]
      exact ⟨.inr rfl, (resL_cell (us := cI (sg (decide (y < 0)) ((((y.natAbs : Int) - (x.natAbs : Int)).natAbs : Nat) : Int))) ty24 rfl rfl rfl rfl resL_nil)⟩
theorem nSub_ok {x y : Int} (hx : Sz 900000 x) (hy : Sz 900000 y) : Ok Tryz.prog 112 [dI x, dI y] [dI (x - y)] := by
  have hx6 : Sz 1000000 x := hx.mono (by decide)
  have hy6 : Sz 1000000 y := hy.mono (by decide)
  have hyn : Sz 900000 (-y) := hy.neg
  refine Ok.of (by kernel_rfl) Tryz.func112 rfl rfl ?_
  rw [show Tryz.f112.ntmps = 9 from rfl, show Tryz.f112.results.toList = [.cell 4 24] from rfl]
  refine dw_seq <| dw_region (by kernel_rfl) <| dl_new (sem_box_a rfl rfl) rfl <| dl_new (sem_box_a rfl rfl) rfl <| dl_new (sem_alloc zc24 rfl) rfl <| dl_end <| dw_seq <| dw_draw 4 [] follows_mixed (by kernel_rfl) rfl rfl ?_
  refine dq_r (sem_load (us := cI x) ty24 rfl rfl rfl rfl rfl) <| dq_r (sem_load (us := cI y) ty24 rfl rfl rfl rfl rfl) <| dq_r (sem_call rfl rfl (nNeg_ok (by assumption)) rfl) <| dq_r (sem_call rfl rfl (nAdd_ok (by assumption) (by assumption)) rfl) <| dq_end <| dl_start0 <| dl_st (sem_store_a ty24 rfl rfl rfl rfl rfl rfl) <| dl_end ?_
  refine dw_ret ?_
  rw [Int.sub_eq_add_neg]
  exact ⟨.inr rfl, (resL_cell (us := cI (x + (-y))) ty24 rfl rfl rfl rfl resL_nil)⟩
theorem nSame_ok {x y : Int} (hx : Sz 1000000 x) (hy : Sz 1000000 y) : Ok Tryz.prog 38 [dI x, dI y] [.c (.b (x == y))] := by
  refine Ok.of (by kernel_rfl) Tryz.func38 rfl rfl ?_
  rw [show Tryz.f38.ntmps = 18 from rfl, show Tryz.f38.results.toList = [.tmp 4] from rfl]
  refine dw_seq <| dw_region (by kernel_rfl) <| dl_new (sem_box_a rfl rfl) rfl <| dl_new (sem_box_a rfl rfl) rfl <| dl_r (sem_assign rfl rfl) <| dl_end <| dw_seq <| dw_region (by kernel_rfl) ?_
  refine dl_r (sem_field fd24_0 rfl rfl) <| dl_r (sem_load1 ty4 rfl rfl rfl rfl) <| dl_r (sem_field fd24_0 rfl rfl) <| dl_r (sem_load1 ty4 rfl rfl rfl rfl) <| dl_r (sem_beql rfl rfl ty_bool rfl) ?_
  refine dl_rb (sem_move rfl rfl) (fun c1 hb1 => ?_)
  cases c1
  · refine dl_skip (sem_skip rfl) <| dl_skip (sem_skip rfl) <| dl_skip (sem_skip rfl) <| dl_skip (sem_skip rfl) <| dl_skip (sem_skip rfl) <| dl_skip (sem_skip rfl) <| dl_r (sem_pick rfl rfl rfl rfl) <| dl_r (sem_assign rfl rfl) ?_
    refine dl_end <| dw_ret ?_
    rw [show (x == y) = false from by have := hb1; simp only [beq_eq_false_iff_ne, ne_eq] at this ⊢; intro e; subst e; exact this rfl]
    exact ⟨.inr rfl, (resL_tmp rfl resL_nil)⟩
  · refine dl_r (sem_field fd24_1 rfl rfl) <| dl_r (sem_load1 ty22 rfl rfl rfl rfl) <| dl_r (sem_field fd24_1 rfl rfl) <| dl_r (sem_load1 ty22 rfl rfl rfl rfl) <| dl_r (sem_call rfl rfl (rCompare_c (by assumption) (by assumption)) rfl) <| dl_r (sem_cmp rfl rfl rfl rfl) <| dl_r (sem_pick rfl rfl rfl rfl) <| dl_r (sem_assign rfl rfl) ?_
    refine dl_end <| dw_ret ?_
    rw [← same_abs hb1]
    exact ⟨.inr rfl, (resL_tmp rfl resL_nil)⟩
theorem nDivMod_ok {x y : Int} (hx : Sz 200000 x) (hy : Sz 200000 y) (h0 : y ≠ 0) : Ok Tryz.prog 83 [dI x, dI y] [dI (x.fdiv y), dI (x.fmod y), .c (.i .i64 0)] := by
  have hq : Sz 900000 (q0 x y) := hx.q0.mono (by decide)
  have hr : Sz 900000 (r0 x y) := (hy.r0 h0).mono (by decide)
  have h1 : Sz 900000 (1 : Int) := Sz.small (by omega) (by omega) (by omega)
  have hy9 : Sz 900000 y := hy.mono (by decide)
  have hqq : Sz 1000000 ((x.natAbs : Int) / y.natAbs) := nq_sz hx
  have hrr : Sz 1000000 ((x.natAbs : Int) % y.natAbs) := nr_sz hy h0
  refine Ok.of (by kernel_rfl) Tryz.func83 rfl rfl ?_
  rw [show Tryz.f83.ntmps = 54 from rfl, show Tryz.f83.results.toList = [.cell 4 24, .cell 5 24, .tmp 6] from rfl]
  refine dw_seq <| dw_region (by kernel_rfl) <| dl_new (sem_box_a rfl rfl) rfl <| dl_new (sem_box_a rfl rfl) rfl <| dl_new (sem_alloc zc24 rfl) rfl <| dl_new (sem_alloc zc24 rfl) rfl <| dl_r (sem_assign rfl rfl) <| dl_end ?_
  refine dw_seq <| dw_seq <| dw_region (by kernel_rfl) <| dl_r (sem_field fd24_1 rfl rfl) <| dl_r (sem_load1 ty22 rfl rfl rfl rfl) <| dl_r (sem_len sl22 rfl rfl) <| dl_r (sem_cmp rfl rfl rfl rfl) <| dl_end ?_
  refine dw_cond rfl (fun hc1 => ?_) (fun hc1 => ?_)
  · exact absurd hc1 (by simp [lim_eq_nil, h0])
  · refine dw_skip <| dw_seq <| dw_region (by kernel_rfl) <| dl_r (sem_field fd24_1 rfl rfl) <| dl_r (sem_load1 ty22 rfl rfl rfl rfl) <| dl_r (sem_field fd24_1 rfl rfl) <| dl_r (sem_load1 ty22 rfl rfl rfl rfl) <| dl_r (sem_call rfl rfl (rParts_c (by assumption) (by assumption) (by assumption)) rfl) ?_
    refine dl_r (sem_move rfl rfl) <| dl_r (sem_extract rfl rfl rfl) <| dl_r (sem_extract rfl rfl rfl) <| dl_r (sem_assign rfl rfl) <| dl_r (sem_assign rfl rfl) <| dl_end <| dw_seq <| dw_draw 13 [] follows_mixed (by kernel_rfl) rfl rfl ?_
    refine dq_r (sem_field fd24_0 rfl rfl) <| dq_r (sem_load1 ty4 rfl rfl rfl rfl) <| dq_r (sem_field fd24_0 rfl rfl) <| dq_r (sem_load1 ty4 rfl rfl rfl rfl) <| dq_r (sem_bneq rfl rfl ty_bool rfl) <| dq_r (sem_move rfl rfl) <| dq_r (sem_call rfl rfl (rSigned_q0 hqq) rfl) <| dq_r (sem_field fd24_0 rfl rfl) ?_
    refine dq_r (sem_load1 ty4 rfl rfl rfl rfl) <| dq_r (sem_move rfl rfl) <| dq_r (sem_call rfl rfl (rSigned_r0 h0 hrr) rfl) <| dq_new (sem_alloc zc24 rfl) rfl <| dq_new (sem_alloc zc24 rfl) rfl <| dq_end <| dl_start2 <| dl_st (sem_store_a ty24 rfl rfl rfl rfl rfl rfl) ?_
    refine dl_st (sem_store_a ty24 rfl rfl rfl rfl rfl rfl) <| dl_end <| dw_seq <| dw_seq <| dw_region (by kernel_rfl) <| dl_r (sem_move rfl rfl) <| dl_r (sem_len sl22 rfl rfl) <| dl_r (sem_cmp rfl rfl rfl rfl) ?_
    refine dl_rb (sem_move rfl rfl) (fun c2 hb2 => ?_)
    cases c2
    · refine dl_skip (sem_skip rfl) <| dl_skip (sem_skip rfl) <| dl_skip (sem_skip rfl) <| dl_skip (sem_skip rfl) <| dl_skip (sem_skip rfl) <| dl_r (sem_pick rfl rfl rfl rfl) <| dl_end <| dw_false rfl ?_
      refine dw_skip <| dw_seq <| dw_draw 5 [4, 5] follows_mixed (by kernel_rfl) rfl rfl <| dq_r (sem_load (us := cI (q0 x y)) ty24 rfl rfl rfl rfl rfl) <| dq_r (sem_load (us := cI (r0 x y)) ty24 rfl rfl rfl rfl rfl) <| dq_st (sem_store_a ty24 rfl rfl rfl rfl rfl rfl) rfl rfl rfl rfl <| dq_st (sem_store_a ty24 rfl rfl rfl rfl rfl rfl) rfl rfl rfl rfl <| dq_r (sem_assign rfl rfl) ?_
      refine dq_end <| dl_start2 <| dl_end <| dw_ret ?_
      obtain ⟨e1, e2⟩ := dm_plain (x := x) h0 (.inl (r0_zero.1 (lenL_zero hb2)))
      rw [e1, e2]
      exact ⟨.inr rfl, (resL_cell (us := cI (q0 x y)) ty24 rfl rfl rfl rfl (resL_cell (us := cI (r0 x y)) ty24 rfl rfl rfl rfl (resL_tmp rfl resL_nil)))⟩
    · refine dl_r (sem_field fd24_0 rfl rfl) <| dl_r (sem_load1 ty4 rfl rfl rfl rfl) <| dl_r (sem_field fd24_0 rfl rfl) <| dl_r (sem_load1 ty4 rfl rfl rfl rfl) <| dl_r (sem_bneq rfl rfl ty_bool rfl) <| dl_r (sem_pick rfl rfl rfl rfl) <| dl_end ?_
      refine dw_cond rfl (fun hc3 => ?_) (fun hc3 => ?_)
      · -- region 6
        refine dw_draw 6 [] follows_mixed (by kernel_rfl) rfl rfl <| dq_r (sem_load (us := cI (q0 x y)) ty24 rfl rfl rfl rfl rfl) <| dq_r (sem_call rfl rfl (nFrom_ok (by omega) (by omega)) rfl) <| dq_r (sem_call rfl rfl (nSub_ok (by assumption) (by assumption)) rfl) <| dq_r (sem_load (us := cI (r0 x y)) ty24 rfl rfl rfl rfl rfl) <| dq_r (sem_load (us := cI y) ty24 rfl rfl rfl rfl rfl) <| dq_r (sem_call rfl rfl (nAdd_ok (by assumption) (by assumption)) rfl) <| dq_end ?_
        refine dl_start0 <| dl_st (sem_store_a ty24 rfl rfl rfl rfl rfl rfl) <| dl_st (sem_store_a ty24 rfl rfl rfl rfl rfl rfl) <| dl_end <| dw_seq <| dw_draw 5 [4, 5] follows_mixed (by kernel_rfl) rfl rfl <| dq_r (sem_load (us := cI ((q0 x y) - 1)) ty24 rfl rfl rfl rfl rfl) <| dq_r (sem_load (us := cI ((r0 x y) + y)) ty24 rfl rfl rfl rfl rfl) ?_
        refine dq_st (sem_store_a ty24 rfl rfl rfl rfl rfl rfl) rfl rfl rfl rfl <| dq_st (sem_store_a ty24 rfl rfl rfl rfl rfl rfl) rfl rfl rfl rfl <| dq_r (sem_assign rfl rfl) <| dq_end <| dl_start2 <| dl_end <| dw_ret ?_
        obtain ⟨e1, e2⟩ := dm_shift (x := x) h0 (fun e => lenL_pos hb2 (r0_zero.2 e)) (by rw [r0_sign h0 (lenL_pos hb2)]; exact sgn_ne hc3)
        rw [e1, e2]
        exact ⟨.inr rfl, (resL_cell (us := cI ((q0 x y) - 1)) ty24 rfl rfl rfl rfl (resL_cell (us := cI ((r0 x y) + y)) ty24 rfl rfl rfl rfl (resL_tmp rfl resL_nil)))⟩
      · refine dw_skip <| dw_seq <| dw_draw 5 [4, 5] follows_mixed (by kernel_rfl) rfl rfl <| dq_r (sem_load (us := cI (q0 x y)) ty24 rfl rfl rfl rfl rfl) <| dq_r (sem_load (us := cI (r0 x y)) ty24 rfl rfl rfl rfl rfl) <| dq_st (sem_store_a ty24 rfl rfl rfl rfl rfl rfl) rfl rfl rfl rfl <| dq_st (sem_store_a ty24 rfl rfl rfl rfl rfl rfl) rfl rfl rfl rfl <| dq_r (sem_assign rfl rfl) ?_
        refine dq_end <| dl_start2 <| dl_end <| dw_ret ?_
        obtain ⟨e1, e2⟩ := dm_plain (x := x) h0 (.inr (by rw [r0_sign h0 (lenL_pos hb2)]; exact sgn_eq hc3))
        rw [e1, e2]
        exact ⟨.inr rfl, (resL_cell (us := cI (q0 x y)) ty24 rfl rfl rfl rfl (resL_cell (us := cI (r0 x y)) ty24 rfl rfl rfl rfl (resL_tmp rfl resL_nil)))⟩
theorem nGCD_ok {x y : Int} (hx : Sz 200000 x) (hy : Sz 200000 y) : Ok Tryz.prog 39 [dI x, dI y] [dI (Int.gcd x y : Int)] := by
  refine Ok.of (by kernel_rfl) Tryz.func39 rfl rfl ?_
  rw [show Tryz.f39.ntmps = 54 from rfl, show Tryz.f39.results.toList = [.cell 4 24] from rfl]
  refine dw_seq <| dw_region (by kernel_rfl) <| dl_new (sem_box_a rfl rfl) rfl <| dl_new (sem_box_a rfl rfl) rfl <| dl_new (sem_alloc zc24 rfl) rfl <| dl_end <| dw_seq <| dw_draw 6 [] follows_mixed (by kernel_rfl) rfl rfl ?_
  refine dq_r (sem_field fd24_1 rfl rfl) <| dq_r (sem_load1 ty22 rfl rfl rfl rfl) <| dq_r (sem_field fd24_1 rfl rfl) <| dq_r (sem_load1 ty22 rfl rfl rfl rfl) <| dq_r (sem_assign rfl rfl) <| dq_r (sem_assign rfl rfl) <| dq_end <| dl_start0 ?_
  refine dl_end <| dw_seq <| dw_block <| dw_loop (ι := {p : Int × Int // RG x y p.1 p.2}) (fun i => ⟨54, [(4, .p 4 0), (5, .v (.c (cL i.1.1))), (6, .v (.c (cL i.1.2)))], [(4, 24, ([.b false] ++ [.s 0 []]))]⟩) (fun i => i.1.2.toNat) ⟨((x.natAbs : Int), (y.natAbs : Int)), RG.start hx hy⟩ (sub_of ⟨rfl, by rw [cL_abs x]; rfl, by rw [cL_abs y]; rfl, trivial⟩ ⟨rfl, trivial⟩ rfl) ?_
  rintro ⟨⟨a, c⟩, hg⟩
  replace hg : RG x y a c := hg
  have ha := hg.sa
  have hcc := hg.sc
  have ha0 := hg.a0
  have hcc0 := hg.c0
  have ha6 : Sz 1000000 a := ha.mono (by decide)
  show Dw _ _ ⟨54, [(4, .p 4 0), (5, .v (.c (cL a))), (6, .v (.c (cL c)))], [(4, 24, ([.b false] ++ [.s 0 []]))]⟩ _
  refine dw_seq <| dw_seq <| dw_region (by kernel_rfl) <| dl_r (sem_move rfl rfl) <| dl_r (sem_len sl22 rfl rfl) <| dl_r (sem_cmp rfl rfl rfl rfl) ?_
  refine dl_rb (sem_move rfl rfl) (fun c1 hb1 => ?_)
  cases c1
  · refine dl_skip (sem_skip rfl) <| dl_skip (sem_skip rfl) <| dl_skip (sem_skip rfl) <| dl_skip (sem_skip rfl) <| dl_skip (sem_skip rfl) <| dl_skip (sem_skip rfl) <| dl_skip (sem_skip rfl) <| dl_skip (sem_skip rfl) ?_
    refine dl_r (sem_pick rfl rfl rfl rfl) <| dl_end <| dw_false rfl <| dw_exit <| dw_seq <| dw_seq <| dw_region (by kernel_rfl) <| dl_r (sem_move rfl rfl) ?_
    refine dl_r (sem_len sl22 rfl rfl) <| dl_r (sem_cmp rfl rfl rfl rfl) <| dl_end ?_
    refine dw_cond rfl (fun hc2 => ?_) (fun hc2 => ?_)
    · refine dw_seq <| dw_region (by kernel_rfl) <| dl_r (sem_move rfl rfl) <| dl_r (sem_call rfl rfl (rSigned_c (by assumption)) rfl) <| dl_st (sem_store_a ty24 rfl rfl rfl rfl rfl rfl) <| dl_end <| dw_ret ?_
      rw [hg.done (lenL_zero hb1)]
      exact ⟨.inr rfl, (resL_cell (us := cI (sg false ((a.natAbs : Nat) : Int))) ty24 rfl rfl rfl rfl resL_nil)⟩
    · exact absurd hc2 (by simp [lim_eq_nil, lenL_zero hb1])
  · have hne := lenL_pos hb1
    refine dl_r (sem_move rfl rfl) <| dl_r (sem_len sl22 rfl rfl) <| dl_r (sem_cmp rfl rfl rfl rfl) ?_
    refine dl_rb (sem_move rfl rfl) (fun c3 hb3 => ?_)
    cases c3
    · have hwa := word_of hb3
      refine dl_r (sem_move rfl rfl) <| dl_r (sem_len sl22 rfl rfl) <| dl_r (sem_cmp rfl rfl rfl rfl) <| dl_r (sem_pick rfl rfl rfl rfl) <| dl_r (sem_pick rfl rfl rfl rfl) <| dl_end ?_
      refine dw_cond rfl (fun hc4 => ?_) (fun hc4 => ?_)
      · refine dw_skip <| dw_block <| dw_seq <| dw_region (by kernel_rfl) <| dl_r (sem_move rfl rfl) <| dl_r (sem_move rfl rfl) <| dl_r (sem_call rfl rfl (rParts_c (by assumption) (by assumption) (by assumption)) rfl) <| dl_r (sem_move rfl rfl) ?_
        refine dl_r (sem_extract rfl rfl rfl) <| dl_r (sem_extract rfl rfl rfl) <| dl_r (sem_assign rfl rfl) <| dl_r (sem_assign rfl rfl) <| dl_end <| dw_region (by kernel_rfl) <| dl_r (sem_move rfl rfl) <| dl_r (sem_move rfl rfl) ?_
        refine dl_r (sem_assign rfl rfl) <| dl_r (sem_assign rfl rfl) <| dl_end ?_
        exact ⟨⟨(c, (a.natAbs : Int) % c.natAbs), hg.step hne⟩, sub_of ⟨rfl, rfl, rfl, trivial⟩ ⟨rfl, trivial⟩ rfl, hg.less hne⟩
      · have hwc := word_of hc4
        refine dw_exit <| dw_seq <| dw_seq <| dw_region (by kernel_rfl) <| dl_r (sem_move rfl rfl) <| dl_r (sem_len sl22 rfl rfl) <| dl_r (sem_cmp rfl rfl rfl rfl) <| dl_end ?_
        refine dw_cond rfl (fun hc5 => ?_) (fun hc5 => ?_)
        · exact absurd hc5 (by simp [lim_eq_nil, hne])
        · refine dw_skip <| dw_seq <| dw_region (by kernel_rfl) <| dl_r (sem_move rfl rfl) <| dl_r (sem_call rfl rfl (rShort_c (by assumption)) rfl) <| dl_r (sem_move rfl rfl) <| dl_r (sem_call rfl rfl (rShort_c (by assumption)) rfl) <| dl_r (sem_assign rfl rfl) ?_
          refine dl_r (sem_assign rfl rfl) <| dl_end <| dw_seq <| dw_block <| dw_loop (ι := {p : Int × Int // GInv2 x y p.1 p.2}) (fun i => ⟨54, [(4, .p 4 0), (9, .v (.c (.i .u64 i.1.1))), (10, .v (.c (.i .u64 i.1.2)))], [(4, 24, ([.b false] ++ [.s 0 []]))]⟩) (fun i => i.1.2.toNat) ⟨((a.natAbs : Int), (c.natAbs : Int)), hg.word hwa hwc⟩ (sub_of ⟨rfl, rfl, rfl, trivial⟩ ⟨rfl, trivial⟩ rfl) ?_
          rintro ⟨⟨u, v⟩, hw⟩
          replace hw : GInv2 x y u v := hw
          have hu0 := hw.u0
          have hu1 := hw.u1
          have hsu : Sz 1000000 u := Sz.small3 hu0 hu1
          show Dw _ _ ⟨54, [(4, .p 4 0), (9, .v (.c (.i .u64 u))), (10, .v (.c (.i .u64 v)))], [(4, 24, ([.b false] ++ [.s 0 []]))]⟩ _
          refine dw_seq <| dw_seq <| dw_region (by kernel_rfl) <| dl_r (sem_move rfl rfl) <| dl_r (sem_cmp rfl rfl rfl rfl) <| dl_end ?_
          refine dw_cond rfl (fun hc6 => ?_) (fun hc6 => ?_)
          · have hv : v > 0 := by simpa using hc6
            have hvn : v ≠ 0 := by omega
            refine dw_skip <| dw_block <| dw_draw 6 [] follows_mixed (by kernel_rfl) rfl rfl <| dq_r (sem_move rfl rfl) <| dq_r (sem_move rfl rfl) <| dq_r (sem_move rfl rfl) <| dq_r (sem_rem rfl rfl (by omega) rfl) <| dq_r (sem_assign rfl rfl) ?_
            refine dq_r (sem_assign rfl rfl) <| dq_end <| dl_start0 <| dl_end ?_
            exact ⟨⟨(v, u.tmod v), hw.step hv⟩, sub_of ⟨rfl, rfl, rfl, trivial⟩ ⟨rfl, trivial⟩ rfl, hw.less hv⟩
          · refine dw_exit <| dw_seq <| dw_region (by kernel_rfl) <| dl_r (sem_move rfl rfl) <| dl_r (sem_call rfl rfl (rLimbs_ok (by omega) (by omega)) rfl) <| dl_r (sem_call rfl rfl (rSigned_c (by assumption)) rfl) <| dl_st (sem_store_a ty24 rfl rfl rfl rfl rfl rfl) <| dl_end ?_
            refine dw_ret ?_
            rw [hw.fin (by simpa using hc6)]
            exact ⟨.inr rfl, (resL_cell (us := cI (sg false ((u.natAbs : Nat) : Int))) ty24 rfl rfl rfl rfl resL_nil)⟩
    · refine dl_skip (sem_skip rfl) <| dl_skip (sem_skip rfl) <| dl_skip (sem_skip rfl) <| dl_r (sem_pick rfl rfl rfl rfl) <| dl_r (sem_pick rfl rfl rfl rfl) <| dl_end <| dw_true rfl <| dw_skip ?_
      refine dw_block <| dw_seq <| dw_region (by kernel_rfl) <| dl_r (sem_move rfl rfl) <| dl_r (sem_move rfl rfl) <| dl_r (sem_call rfl rfl (rParts_c (by assumption) (by assumption) (by assumption)) rfl) <| dl_r (sem_move rfl rfl) <| dl_r (sem_extract rfl rfl rfl) ?_
      refine dl_r (sem_extract rfl rfl rfl) <| dl_r (sem_assign rfl rfl) <| dl_r (sem_assign rfl rfl) <| dl_end <| dw_region (by kernel_rfl) <| dl_r (sem_move rfl rfl) <| dl_r (sem_move rfl rfl) <| dl_r (sem_assign rfl rfl) ?_
      refine dl_r (sem_assign rfl rfl) <| dl_end ?_
      exact ⟨⟨(c, (a.natAbs : Int) % c.natAbs), hg.step hne⟩, sub_of ⟨rfl, rfl, rfl, trivial⟩ ⟨rfl, trivial⟩ rfl, hg.less hne⟩
theorem iSqrt_ok {x : Int} (hx : Sz 999999 x) : Ok Tryz.prog 106 [dI x] [dI (isqI x), .c (.i .i64 (if x < 0 then 7 else 0))] := by
  have h20 : (2 : Int) ≠ 0 := by decide
  have hl := lim_len hx
  have hs2 : Sz 1000000 (2 : Int) := Sz.small (by omega) (by omega) (by omega)
  refine Ok.of (by kernel_rfl) Tryz.func106 rfl rfl ?_
  rw [show Tryz.f106.ntmps = 54 from rfl, show Tryz.f106.results.toList = [.cell 2 24, .tmp 3] from rfl]
  refine dw_seq <| dw_region (by kernel_rfl) <| dl_new (sem_box_a rfl rfl) rfl <| dl_new (sem_alloc zc24 rfl) rfl <| dl_r (sem_assign rfl rfl) <| dl_end <| dw_seq <| dw_seq ?_
  refine dw_region (by kernel_rfl) <| dl_r (sem_field fd24_0 rfl rfl) <| dl_r (sem_load1 ty4 rfl rfl rfl rfl) <| dl_end ?_
  refine dw_cond rfl (fun hc1 => ?_) (fun hc1 => ?_)
  · have hn : x < 0 := by simpa using hc1
    refine dw_seq <| dw_region (by kernel_rfl) <| dl_r (sem_build (us := ([.b false] ++ [.s 0 []])) fs24 zc24 rfl rfl rfl) <| dl_st (sem_store_a ty24 rfl rfl rfl rfl rfl rfl) <| dl_r (sem_assign rfl rfl) <| dl_end <| dw_ret ?_
    rw [isqI_neg hn, if_pos hn, dI_zero]
    exact ⟨.inr rfl, (resL_cell (us := ([.b false] ++ [.s 0 []])) ty24 rfl rfl rfl rfl (resL_tmp rfl resL_nil))⟩
  · have hn : 0 ≤ x := by have := hc1; simp at this; omega
    refine dw_skip <| dw_seq <| dw_seq <| dw_region (by kernel_rfl) <| dl_r (sem_field fd24_1 rfl rfl) <| dl_r (sem_load1 ty22 rfl rfl rfl rfl) <| dl_r (sem_len sl22 rfl rfl) <| dl_r (sem_cmp rfl rfl rfl rfl) ?_
    refine dl_end ?_
    refine dw_cond rfl (fun hc2 => ?_) (fun hc2 => ?_)
    · have hz : x = 0 := by have := hc2; simp [lim_eq_nil] at this; omega
      refine dw_seq <| dw_region (by kernel_rfl) <| dl_r (sem_build (us := ([.b false] ++ [.s 0 []])) fs24 zc24 rfl rfl rfl) <| dl_st (sem_store_a ty24 rfl rfl rfl rfl rfl rfl) <| dl_r (sem_assign rfl rfl) <| dl_end <| dw_ret ?_
      rw [hz, isqI_zero, dI_zero, if_neg (by omega)]
      exact ⟨.inr rfl, (resL_cell (us := ([.b false] ++ [.s 0 []])) ty24 rfl rfl rfl rfl (resL_tmp rfl resL_nil))⟩
    · have hx0 : 0 < x := by have := hc2; simp [lim_eq_nil] at this; omega
      obtain ⟨k, hk⟩ : ∃ k : Nat, ((lim x.natAbs).length + 1) / 2 = k := ⟨_, rfl⟩
      have hpk := pw_pos k
      have hpc : cL (pw k) = cL (pw k) := rfl
      refine dw_skip <| dw_seq <| dw_region (by kernel_rfl) <| dl_r (sem_field fd24_1 rfl rfl) <| dl_r (sem_load1 ty22 rfl rfl rfl rfl) <| dl_r (sem_len sl22 rfl rfl) <| dl_r (sem_ari (r := (((lim x.natAbs).length : Int)) + 1) rfl rfl (ari_i64_add (by omega) (by omega)) rfl) <| dl_r (sem_quo' (r := (k : Int)) rfl rfl (by omega) (by rw [Int.tdiv_eq_ediv_of_nonneg (by omega), show (((lim x.natAbs).length : Int) + 1) / 2 = (k : Int) from by omega]; exact nw64 (by omega) (by omega)) rfl) ?_
      refine dl_r (sem_assign rfl rfl) <| dl_end <| dw_seq <| dw_region (by kernel_rfl) <| dl_r (sem_move rfl rfl) <| dl_mk (sem_make (n := k) el22 rfl rfl (by omega) (by omega) rfl) rfl <| dl_r (sem_slit_M el22 rfl rfl) <| dl_c (sem_append_pw el22 rfl rfl rfl (by omega) rfl) ?_
      refine dl_r (sem_call rfl rfl (iSigned_cL) rfl) <| dl_new (sem_alloc zc24 rfl) rfl <| dl_st (sem_store_a ty24 rfl rfl rfl rfl rfl rfl) <| dl_end <| dw_seq <| dw_region (by kernel_rfl) <| dl_r (sem_call rfl rfl (iFrom_ok (by omega) (by omega)) rfl) <| dl_new (sem_alloc zc24 rfl) rfl ?_
      refine dl_st (sem_store_a ty24 rfl rfl rfl rfl rfl rfl) <| dl_end <| dw_block <| dw_loop (ι := {r : Int // NInv 999999 x r}) (fun i => ⟨54, [(1, .p 1 0), (2, .p 2 0), (3, .v (.c (.i .i64 0))), (5, .p 5 0), (6, .p 6 0)], [(1, 24, cI x), (2, 24, ([.b false] ++ [.s 0 []])), (5, 24, cI i.1), (6, 24, cI 2)]⟩) (fun i => i.1.toNat) ⟨pw k, NInv.start hx0 hx hk (by omega)⟩ (sub_of ⟨rfl, rfl, rfl, rfl, rfl, trivial⟩ ⟨rfl, rfl, by rw [show sg false (((pw k).natAbs : Nat) : Int) = pw k from by rw [sg_false]; have := pw_pos k; omega]; rfl, rfl, trivial⟩ rfl) ?_
      rintro ⟨r, hg⟩
      replace hg : NInv 999999 x r := hg
      have hsr := hg.sz
      have hr0 := hg.r0
      have hrn : r ≠ 0 := by omega
      obtain ⟨hsq, hsum, hsn⟩ := hg.sum hx hx0
      have a1 : Sz 1000000 r := hsr.mono (by decide)
      have a2 : Sz 1000000 (x.fdiv r) := hsq.mono (by decide)
      have a3 : Sz 1000000 x := hx.mono (by decide)
      show Dw _ _ ⟨54, [(1, .p 1 0), (2, .p 2 0), (3, .v (.c (.i .i64 0))), (5, .p 5 0), (6, .p 6 0)], [(1, 24, cI x), (2, 24, ([.b false] ++ [.s 0 []])), (5, 24, cI r), (6, 24, cI 2)]⟩ _
      refine dw_block <| dw_seq <| dw_region (by kernel_rfl) <| dl_r (sem_load (us := cI x) ty24 rfl rfl rfl rfl rfl) <| dl_r (sem_load (us := cI r) ty24 rfl rfl rfl rfl rfl) <| dl_r (sem_call rfl rfl (iDivMod_ok (by assumption) (by assumption) (by assumption)) rfl) <| dl_r (sem_move rfl rfl) <| dl_r (sem_extract rfl rfl rfl) ?_
      refine dl_r (sem_extract rfl rfl rfl) <| dl_r (sem_extract rfl rfl rfl) <| dl_new (sem_alloc zc24 rfl) rfl <| dl_new (sem_alloc zc24 rfl) rfl <| dl_st (sem_store_a ty24 rfl rfl rfl rfl rfl rfl) <| dl_st (sem_store_a ty24 rfl rfl rfl rfl rfl rfl) <| dl_r (sem_assign rfl rfl) <| dl_end ?_
      refine dw_seq <| dw_draw 14 [10, 11] follows_mixed (by kernel_rfl) rfl rfl <| dq_r (sem_load (us := cI r) ty24 rfl rfl rfl rfl rfl) <| dq_r (sem_load (us := cI (x.fdiv r)) ty24 rfl rfl rfl rfl rfl) <| dq_r (sem_call rfl rfl (iAdd_ok (by assumption) (by assumption)) rfl) <| dq_r (sem_load (us := cI 2) ty24 rfl rfl rfl rfl rfl) <| dq_r (sem_call rfl rfl (iDivMod_ok (by assumption) (by assumption) (by assumption)) rfl) <| dq_r (sem_move rfl rfl) ?_
      refine dq_r (sem_extract rfl rfl rfl) <| dq_r (sem_extract rfl rfl rfl) <| dq_r (sem_extract rfl rfl rfl) <| dq_new (sem_alloc zc24 rfl) rfl <| dq_new (sem_alloc zc24 rfl) rfl <| dq_sn (sem_store_a ty24 rfl rfl rfl rfl rfl rfl) rfl rfl rfl rfl <| dq_sn (sem_store_a ty24 rfl rfl rfl rfl rfl rfl) rfl rfl rfl rfl <| dq_r (sem_assign rfl rfl) ?_
      refine dq_end <| dl_start4 <| dl_end <| dw_seq <| dw_seq <| dw_region (by kernel_rfl) <| dl_r (sem_load (us := cI ((r + (x.fdiv r)).fdiv 2)) ty24 rfl rfl rfl rfl rfl) <| dl_r (sem_load (us := cI r) ty24 rfl rfl rfl rfl rfl) ?_
      refine dl_r (sem_call rfl rfl (iCmp_ok) rfl) <| dl_r (sem_cmp rfl rfl rfl rfl) <| dl_end ?_
      refine dw_cond rfl (fun hc3 => ?_) (fun hc3 => ?_)
      · have hst := cmpI_ge hc3
        refine dw_seq <| dw_region (by kernel_rfl) <| dl_r (sem_load (us := cI r) ty24 rfl rfl rfl rfl rfl) <| dl_st (sem_store_a ty24 rfl rfl rfl rfl rfl rfl) <| dl_r (sem_assign rfl rfl) <| dl_end <| dw_ret ?_
        rw [hg.done hx0 hst, if_neg (by omega)]
        exact ⟨.inr rfl, (resL_cell (us := cI r) ty24 rfl rfl rfl rfl (resL_tmp rfl resL_nil))⟩
      · have hlt := cmpI_lt hc3
        refine dw_skip <| dw_region (by kernel_rfl) <| dl_r (sem_load (us := cI ((r + (x.fdiv r)).fdiv 2)) ty24 rfl rfl rfl rfl rfl) <| dl_st (sem_store_a ty24 rfl rfl rfl rfl rfl rfl) <| dl_end ?_
        exact ⟨⟨(r + x.fdiv r).fdiv 2, hg.next hx0 hlt⟩, sub_of ⟨rfl, rfl, rfl, rfl, rfl, trivial⟩ ⟨rfl, rfl, rfl, rfl, trivial⟩ rfl, by show ((r + x.fdiv r).fdiv 2).toNat < r.toNat; omega⟩
theorem nSqrt_ok {x : Int} (hx : Sz 199999 x) : Ok Tryz.prog 52 [dI x] [dI (isqI x), .c (.i .i64 (if x < 0 then 7 else 0))] := by
  have h20 : (2 : Int) ≠ 0 := by decide
  have hl := lim_len hx
  have hs2 : Sz 200000 (2 : Int) := Sz.small (by omega) (by omega) (by omega)
  refine Ok.of (by kernel_rfl) Tryz.func52 rfl rfl ?_
  rw [show Tryz.f52.ntmps = 52 from rfl, show Tryz.f52.results.toList = [.cell 2 24, .tmp 3] from rfl]
  refine dw_seq <| dw_region (by kernel_rfl) <| dl_new (sem_box_a rfl rfl) rfl <| dl_new (sem_alloc zc24 rfl) rfl <| dl_r (sem_assign rfl rfl) <| dl_end <| dw_seq <| dw_seq ?_
  refine dw_region (by kernel_rfl) <| dl_r (sem_field fd24_0 rfl rfl) <| dl_r (sem_load1 ty4 rfl rfl rfl rfl) <| dl_end ?_
  refine dw_cond rfl (fun hc1 => ?_) (fun hc1 => ?_)
  · have hn : x < 0 := by simpa using hc1
    refine dw_seq <| dw_region (by kernel_rfl) <| dl_r (sem_build (us := ([.b false] ++ [.s 0 []])) fs24 zc24 rfl rfl rfl) <| dl_st (sem_store_a ty24 rfl rfl rfl rfl rfl rfl) <| dl_r (sem_assign rfl rfl) <| dl_end <| dw_ret ?_
    rw [isqI_neg hn, if_pos hn, dI_zero]
    exact ⟨.inr rfl, (resL_cell (us := ([.b false] ++ [.s 0 []])) ty24 rfl rfl rfl rfl (resL_tmp rfl resL_nil))⟩
  · have hn : 0 ≤ x := by have := hc1; simp at this; omega
    refine dw_skip <| dw_seq <| dw_seq <| dw_region (by kernel_rfl) <| dl_r (sem_field fd24_1 rfl rfl) <| dl_r (sem_load1 ty22 rfl rfl rfl rfl) <| dl_r (sem_len sl22 rfl rfl) <| dl_r (sem_cmp rfl rfl rfl rfl) ?_
    refine dl_end ?_
    refine dw_cond rfl (fun hc2 => ?_) (fun hc2 => ?_)
    · have hz : x = 0 := by have := hc2; simp [lim_eq_nil] at this; omega
      refine dw_seq <| dw_region (by kernel_rfl) <| dl_r (sem_build (us := ([.b false] ++ [.s 0 []])) fs24 zc24 rfl rfl rfl) <| dl_st (sem_store_a ty24 rfl rfl rfl rfl rfl rfl) <| dl_r (sem_assign rfl rfl) <| dl_end <| dw_ret ?_
      rw [hz, isqI_zero, dI_zero, if_neg (by omega)]
      exact ⟨.inr rfl, (resL_cell (us := ([.b false] ++ [.s 0 []])) ty24 rfl rfl rfl rfl (resL_tmp rfl resL_nil))⟩
    · have hx0 : 0 < x := by have := hc2; simp [lim_eq_nil] at this; omega
      obtain ⟨k, hk⟩ : ∃ k : Nat, ((lim x.natAbs).length + 1) / 2 = k := ⟨_, rfl⟩
      have hpk := pw_pos k
      have hpc : cL (pw k) = cL (pw k) := rfl
      refine dw_skip <| dw_seq <| dw_region (by kernel_rfl) <| dl_r (sem_field fd24_1 rfl rfl) <| dl_r (sem_load1 ty22 rfl rfl rfl rfl) <| dl_r (sem_len sl22 rfl rfl) <| dl_r (sem_ari (r := (((lim x.natAbs).length : Int)) + 1) rfl rfl (ari_i64_add (by omega) (by omega)) rfl) <| dl_r (sem_quo' (r := (k : Int)) rfl rfl (by omega) (by rw [Int.tdiv_eq_ediv_of_nonneg (by omega), show (((lim x.natAbs).length : Int) + 1) / 2 = (k : Int) from by omega]; exact nw64 (by omega) (by omega)) rfl) ?_
      refine dl_mk (sem_make (n := k) el22 rfl rfl (by omega) (by omega) rfl) rfl <| dl_r (sem_slit_M el22 rfl rfl) <| dl_c (sem_append_pw el22 rfl rfl rfl (by omega) rfl) <| dl_r (sem_build (us := ([.b false] ++ [cL (pw k)])) fs24 zc24 rfl rfl rfl) <| dl_new (sem_alloc zc24 rfl) rfl <| dl_st (sem_store_a ty24 rfl rfl rfl rfl rfl rfl) <| dl_end <| dw_seq ?_
      refine dw_region (by kernel_rfl) <| dl_r (sem_call rfl rfl (nFrom_ok (by omega) (by omega)) rfl) <| dl_new (sem_alloc zc24 rfl) rfl <| dl_st (sem_store_a ty24 rfl rfl rfl rfl rfl rfl) <| dl_end <| dw_block <| dw_loop (ι := {r : Int // NInv 199999 x r}) (fun i => ⟨52, [(1, .p 1 0), (2, .p 2 0), (3, .v (.c (.i .i64 0))), (4, .p 4 0), (5, .p 5 0)], [(1, 24, cI x), (2, 24, ([.b false] ++ [.s 0 []])), (4, 24, cI i.1), (5, 24, cI 2)]⟩) (fun i => i.1.toNat) ⟨pw k, NInv.start hx0 hx hk (by omega)⟩ (sub_of ⟨rfl, rfl, rfl, rfl, rfl, trivial⟩ ⟨rfl, rfl, by rw [cI_nn (by have := pw_pos k; omega)]; rfl, rfl, trivial⟩ rfl) ?_
      rintro ⟨r, hg⟩
      replace hg : NInv 199999 x r := hg
      have hsr := hg.sz
      have hr0 := hg.r0
      have hrn : r ≠ 0 := by omega
      obtain ⟨hsq, hsum, hsn⟩ := hg.sum hx hx0
      have a1 : Sz 200000 r := hsr.mono (by decide)
      have a2 : Sz 900000 (x.fdiv r) := hsq.mono (by decide)
      have a3 : Sz 200000 x := hx.mono (by decide)
      have a4 : Sz 900000 r := hsr.mono (by decide)
      have a5 : Sz 1000000 r := hsr.mono (by decide)
      have a6 : Sz 1000000 ((r + x.fdiv r).fdiv 2) := hsn.mono (by decide)
      show Dw _ _ ⟨52, [(1, .p 1 0), (2, .p 2 0), (3, .v (.c (.i .i64 0))), (4, .p 4 0), (5, .p 5 0)], [(1, 24, cI x), (2, 24, ([.b false] ++ [.s 0 []])), (4, 24, cI r), (5, 24, cI 2)]⟩ _
      refine dw_block <| dw_seq <| dw_region (by kernel_rfl) <| dl_r (sem_load (us := cI x) ty24 rfl rfl rfl rfl rfl) <| dl_r (sem_load (us := cI r) ty24 rfl rfl rfl rfl rfl) <| dl_r (sem_call rfl rfl (nDivMod_ok (by assumption) (by assumption) (by assumption)) rfl) <| dl_r (sem_move rfl rfl) <| dl_r (sem_extract rfl rfl rfl) ?_
      refine dl_r (sem_extract rfl rfl rfl) <| dl_r (sem_extract rfl rfl rfl) <| dl_new (sem_alloc zc24 rfl) rfl <| dl_new (sem_alloc zc24 rfl) rfl <| dl_st (sem_store_a ty24 rfl rfl rfl rfl rfl rfl) <| dl_st (sem_store_a ty24 rfl rfl rfl rfl rfl rfl) <| dl_r (sem_assign rfl rfl) <| dl_end ?_
      refine dw_seq <| dw_draw 14 [9, 10] follows_mixed (by kernel_rfl) rfl rfl <| dq_r (sem_load (us := cI r) ty24 rfl rfl rfl rfl rfl) <| dq_r (sem_load (us := cI (x.fdiv r)) ty24 rfl rfl rfl rfl rfl) <| dq_r (sem_call rfl rfl (nAdd_ok (by assumption) (by assumption)) rfl) <| dq_r (sem_load (us := cI 2) ty24 rfl rfl rfl rfl rfl) <| dq_r (sem_call rfl rfl (nDivMod_ok (by assumption) (by assumption) (by assumption)) rfl) <| dq_r (sem_move rfl rfl) ?_
      refine dq_r (sem_extract rfl rfl rfl) <| dq_r (sem_extract rfl rfl rfl) <| dq_r (sem_extract rfl rfl rfl) <| dq_new (sem_alloc zc24 rfl) rfl <| dq_new (sem_alloc zc24 rfl) rfl <| dq_sn (sem_store_a ty24 rfl rfl rfl rfl rfl rfl) rfl rfl rfl rfl <| dq_sn (sem_store_a ty24 rfl rfl rfl rfl rfl rfl) rfl rfl rfl rfl <| dq_r (sem_assign rfl rfl) ?_
      refine dq_end <| dl_start4 <| dl_end <| dw_seq <| dw_seq <| dw_region (by kernel_rfl) <| dl_r (sem_load (us := cI ((r + (x.fdiv r)).fdiv 2)) ty24 rfl rfl rfl rfl rfl) <| dl_r (sem_load (us := cI r) ty24 rfl rfl rfl rfl rfl) ?_
      refine dl_r (sem_call rfl rfl (nCmp_ok (by assumption) (by assumption)) rfl) <| dl_r (sem_cmp rfl rfl rfl rfl) <| dl_end ?_
      refine dw_cond rfl (fun hc3 => ?_) (fun hc3 => ?_)
      · have hst := cmpI_ge hc3
        refine dw_seq <| dw_region (by kernel_rfl) <| dl_r (sem_load (us := cI r) ty24 rfl rfl rfl rfl rfl) <| dl_st (sem_store_a ty24 rfl rfl rfl rfl rfl rfl) <| dl_r (sem_assign rfl rfl) <| dl_end <| dw_ret ?_
        rw [hg.done hx0 hst, if_neg (by omega)]
        exact ⟨.inr rfl, (resL_cell (us := cI r) ty24 rfl rfl rfl rfl (resL_tmp rfl resL_nil))⟩
      · have hlt := cmpI_lt hc3
        refine dw_skip <| dw_region (by kernel_rfl) <| dl_r (sem_load (us := cI ((r + (x.fdiv r)).fdiv 2)) ty24 rfl rfl rfl rfl rfl) <| dl_st (sem_store_a ty24 rfl rfl rfl rfl rfl rfl) <| dl_end ?_
        exact ⟨⟨(r + x.fdiv r).fdiv 2, hg.next hx0 hlt⟩, sub_of ⟨rfl, rfl, rfl, rfl, rfl, trivial⟩ ⟨rfl, rfl, rfl, rfl, trivial⟩ rfl, by show ((r + x.fdiv r).fdiv 2).toNat < r.toNat; omega⟩
theorem unit_ok  : Ok Tryz.prog 101 [] [dI 1] := by
  refine Ok.of (by kernel_rfl) Tryz.func101 rfl rfl ?_
  rw [show Tryz.f101.ntmps = 2 from rfl, show Tryz.f101.results.toList = [.cell 0 24] from rfl]
  refine dw_seq <| dw_region (by kernel_rfl) <| dl_new (sem_alloc zc24 rfl) rfl <| dl_end <| dw_seq <| dw_region (by kernel_rfl) <| dl_r (sem_call rfl rfl (iFrom_ok (by omega) (by omega)) rfl) <| dl_st (sem_store_a ty24 rfl rfl rfl rfl rfl rfl) ?_
  refine dl_end <| dw_ret ?_
  exact ⟨.inr rfl, (resL_cell (us := cI 1) ty24 rfl rfl rfl rfl resL_nil)⟩
theorem isNaN_ok {m : Int} : Ok Tryz.prog 123 [.c (.i .i64 m)] [.c (.b false)] := by
  refine Ok.of (by kernel_rfl) Tryz.func123 rfl rfl ?_
  rw [show Tryz.f123.ntmps = 6 from rfl, show Tryz.f123.results.toList = [.tmp 2] from rfl]
  refine dw_seq <| dw_region (by kernel_rfl) <| dl_r (sem_assign rfl rfl) <| dl_end <| dw_seq <| dw_region (by kernel_rfl) <| dl_r (sem_move rfl rfl) <| dl_r (sem_move rfl rfl) ?_
  refine dl_r (sem_cmp rfl rfl rfl rfl) <| dl_r (sem_assign rfl rfl) <| dl_end <| dw_ret ?_
  exact ⟨.inr rfl, by simpa using (resL_tmp rfl resL_nil)⟩
theorem cmpInt_ok {m n : Int} : Ok Tryz.prog 98 [.c (.i .i64 m), .c (.i .i64 n)] [.c (.i .i64 (cmpI m n))] := by
  refine Ok.of (by kernel_rfl) Tryz.func98 rfl rfl ?_
  rw [show Tryz.f98.ntmps = 20 from rfl, show Tryz.f98.results.toList = [.tmp 4] from rfl]
  refine dw_seq <| dw_region (by kernel_rfl) <| dl_r (sem_assign rfl rfl) <| dl_end <| dw_seq <| dw_region (by kernel_rfl) <| dl_r (sem_move rfl rfl) <| dl_r (sem_call rfl rfl (isNaN_ok) rfl) ?_
  refine dl_r (sem_assign rfl rfl) <| dl_end <| dw_seq <| dw_region (by kernel_rfl) <| dl_r (sem_move rfl rfl) <| dl_r (sem_call rfl rfl (isNaN_ok) rfl) <| dl_r (sem_assign rfl rfl) <| dl_end ?_
  refine dw_seq <| dw_seq <| dw_region (by kernel_rfl) <| dl_r (sem_move rfl rfl) <| dl_end <| dw_false rfl <| dw_skip <| dw_seq ?_
  refine dw_seq <| dw_region (by kernel_rfl) <| dl_r (sem_move rfl rfl) <| dl_end <| dw_false rfl <| dw_skip <| dw_seq <| dw_seq ?_
  refine dw_region (by kernel_rfl) <| dl_r (sem_move rfl rfl) <| dl_r (sem_move rfl rfl) <| dl_r (sem_cmp rfl rfl rfl rfl) <| dl_end ?_
  refine dw_cond rfl (fun hc1 => ?_) (fun hc1 => ?_)
  · refine dw_seq <| dw_region (by kernel_rfl) <| dl_r (sem_assign rfl rfl) <| dl_end <| dw_ret ?_
    rw [cmp_lt (by simpa using hc1)]
    exact ⟨.inr rfl, (resL_tmp rfl resL_nil)⟩
  · refine dw_skip <| dw_seq <| dw_seq <| dw_region (by kernel_rfl) <| dl_r (sem_move rfl rfl) <| dl_r (sem_move rfl rfl) <| dl_r (sem_cmp rfl rfl rfl rfl) <| dl_end ?_
    refine dw_cond rfl (fun hc2 => ?_) (fun hc2 => ?_)
    · refine dw_seq <| dw_region (by kernel_rfl) <| dl_r (sem_assign rfl rfl) <| dl_end <| dw_ret ?_
      rw [cmp_gt (by simpa using hc2)]
      exact ⟨.inr rfl, (resL_tmp rfl resL_nil)⟩
    · refine dw_skip <| dw_seq <| dw_region (by kernel_rfl) <| dl_r (sem_assign rfl rfl) <| dl_end <| dw_ret ?_
      rw [cmp_eq (by have := hc1; have h2 := hc2; simp at this h2; omega)]
      exact ⟨.inr rfl, (resL_tmp rfl resL_nil)⟩
end Go.Proofs.YthlnndkgpgfbnaaGreat
