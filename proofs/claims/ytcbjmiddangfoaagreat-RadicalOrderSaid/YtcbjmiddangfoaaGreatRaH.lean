/- Sizes of fractions by a tactic; small facts for the walks on fractions. -/
import Derived.Test.YtcbjmiddangfoaaGreatRaG
namespace Go.Proofs.YtcbjmiddangfoaaGreat
open Go Go.RowKit
theorem mul_ne {a b : Int} (ha : a ≠ 0) (hb : b ≠ 0) : a * b ≠ 0 := fun e => by rcases Int.mul_eq_zero.1 e with h | h <;> contradiction
theorem num_ne {x : Rat} (h : x ≠ 0) : x.num ≠ 0 := fun e => h (Rat.num_eq_zero.1 e)
theorem neg_ne {a : Int} (h : a ≠ 0) : -a ≠ 0 := by omega
theorem Sz.isq {k : Nat} {x : Int} (h : Sz k x) : Sz k (isqI x) := h.of_le isqI_abs
theorem Sz.natAbs {k : Nat} {x : Int} (h : Sz k x) : Sz k (x.natAbs : Int) := h.of_le (by omega)
theorem cmpR_t0 {x : Rat} (h : (cmpR x 0 == 0) = true) : x = 0 := by rw [← cmpR_num] at h; exact Rat.num_eq_zero.1 (t_eq h)
theorem cmpR_eq0 {x y : Rat} : cmpR x y = 0 ↔ x = y := by
  unfold cmpR
  rw [← cmp_rat, cmpI_eq0, Rat.eq_iff_mul_eq_mul]
theorem cmpR_lt0 {x y : Rat} : cmpR x y < 0 ↔ x < y := by
  unfold cmpR
  rw [← cmp_rat, cmpI_lt0, Rat.lt_iff]
theorem cmpR_gt0 {x y : Rat} : 0 < cmpR x y ↔ y < x := by
  unfold cmpR
  rw [← cmp_rat, cmpI_gt0, Rat.lt_iff]
theorem cmpR_num0 {x : Rat} : cmpR x 0 = cmpI x.num 0 := cmpR_num.symm
/-- signs that differ decide -/
theorem cmpR_signs {x y : Rat} (h : (cmpI (cmpR x 0) (cmpR y 0) != 0) = true) : cmpI (cmpR x 0) (cmpR y 0) = cmpR x y := by
  have h1 := t_ne h
  rw [cmpR_num0, cmpR_num0] at *
  have px := den_pos x
  have py := den_pos y
  have e1 : ∀ {a b : Int}, a < 0 → 0 < b → a * b < 0 := fun ha hb => Int.mul_neg_of_neg_of_pos ha hb
  have hr : cmpR x y = cmpI (x.num * (y.den : Int)) (y.num * (x.den : Int)) := by unfold cmpR; rw [← cmp_rat]
  rw [hr]
  rcases Int.lt_trichotomy x.num 0 with hx | hx | hx <;> rcases Int.lt_trichotomy y.num 0 with hy | hy | hy
  · rw [cmp_lt hx, cmp_lt hy] at h1; exact absurd rfl h1
  · rw [cmp_lt hx, cmp_eq hy, cmp_lt (a := -1) (by decide), cmp_lt]
    rw [hy, Int.zero_mul]; exact e1 hx py
  · rw [cmp_lt hx, cmp_gt hy, cmp_lt (a := -1) (by decide), cmp_lt]
    have := e1 hx py
    have := Int.mul_pos hy px
    omega
  · rw [cmp_eq hx, cmp_lt hy, cmp_gt (a := 0) (by decide), cmp_gt]
    rw [hx, Int.zero_mul]; exact e1 hy px
  · rw [cmp_eq hx, cmp_eq hy] at h1; exact absurd rfl h1
  · rw [cmp_eq hx, cmp_gt hy, cmp_lt (a := 0) (by decide), cmp_lt]
    rw [hx, Int.zero_mul]; exact Int.mul_pos hy px
  · rw [cmp_gt hx, cmp_lt hy, cmp_gt (a := 1) (by decide), cmp_gt]
    have := e1 hy px
    have := Int.mul_pos hx py
    omega
  · rw [cmp_gt hx, cmp_eq hy, cmp_gt (a := 1) (by decide), cmp_gt]
    rw [hy, Int.zero_mul]; exact Int.mul_pos hx py
  · rw [cmp_gt hx, cmp_gt hy] at h1; exact absurd rfl h1
theorem cmpR_mul {x y : Rat} : cmpR x y = cmpI (x.num * (y.den : Int)) (y.num * (x.den : Int)) := by unfold cmpR; rw [← cmp_rat]
theorem e7 {x : Int} (h : ((if x < 0 then (7 : Int) else 0) == 0) = false) : x < 0 := by
  by_cases hx : x < 0
  · exact hx
  · rw [if_neg hx] at h; cases h
theorem same_f {x y : Rat} (h : (x.num == y.num) = false) : decide (x = y) = false := by
  simp only [beq_eq_false_iff_ne, ne_eq] at h
  rw [decide_eq_false_iff_not]
  exact fun e => h (by rw [e])
theorem same_t {x y : Rat} (h : (x.num == y.num) = true) : decide (x = y) = ((x.den : Int) == (y.den : Int)) := by
  simp only [beq_iff_eq] at h
  rw [Bool.eq_iff_iff, decide_eq_true_eq, beq_iff_eq]
  exact ⟨fun e => by rw [e], fun e => Rat.ext h (by omega)⟩
theorem sqI_cmp {x : Int} : sqI x = (cmpI (isqI x * isqI x) x == 0) := by
  unfold sqI
  rcases Int.lt_trichotomy (isqI x * isqI x) x with h | h | h
  · rw [cmp_lt h]; simp; omega
  · rw [cmp_eq h]; simp; omega
  · rw [cmp_gt h]; simp; omega
theorem sqR_t {x : Rat} (h : sqI x.num = true) (h2 : sqI (x.den : Int) = true) : sqR x = true := by unfold sqR; rw [h, h2]; rfl
theorem sqR_f1 {x : Rat} (h : sqI x.num = false) : sqR x = false := by unfold sqR; rw [h]; rfl
theorem sqR_f2 {x : Rat} (h : sqI (x.den : Int) = false) : sqR x = false := by unfold sqR; rw [h]; cases sqI x.num <;> rfl
theorem dQ_zero : dQ 0 0 = .a (([.b false] ++ [.s 0 []]) ++ ([.b false] ++ [.s 0 []])) := by
  have h : cI 0 = [.b false] ++ [.s 0 []] := by
    have := dI_zero
    unfold dI at this
    injection this
  unfold dQ cQ
  rw [h]
theorem Sz.fdiv {k : Nat} {x y : Int} (h : Sz k x) : Sz k (x.fdiv y) := h.of_le (by
  have h0 : ∀ a b : Nat, a / b ≤ a := fun a b => Nat.div_le_self a b
  rcases Int.lt_trichotomy y 0 with hy | hy | hy
  · rw [← Int.neg_fdiv_neg, Int.fdiv_eq_ediv_of_nonneg _ (by omega)]
    have h2 : (-x / -y).natAbs ≤ (-x).natAbs := ediv_abs_le _ _
    omega
  · subst hy; simp
  · rw [Int.fdiv_eq_ediv_of_nonneg _ (by omega)]
    exact ediv_abs_le x y)
end Go.Proofs.YtcbjmiddangfoaaGreat
/- Plain: numbers as they may come in (limbs as they are), and when they are numbers in reduced form. -/
namespace Go.Proofs.YtcbjmiddangfoaaGreat
open Go Go.RowKit
/-- limbs are of 32 bits -/
def U32s (xs : List Int) : Prop := ∀ x ∈ xs, 0 ≤ x ∧ x ≤ 4294967295
theorem u32_getD {xs : List Int} (h : U32s xs) (i : Nat) : 0 ≤ xs.getD i 0 ∧ xs.getD i 0 ≤ 4294967295 := by
  by_cases hi : i < xs.length
  · have : xs.getD i 0 = xs[i] := by simp [List.getD, hi]
    rw [this]; exact h _ (List.getElem_mem hi)
  · have : xs.getD i 0 = 0 := by rw [List.getD, List.getElem?_eq_none (by omega)]; rfl
    rw [this]; omega
/-- a whole number in reduced form -/
def vI (neg : Bool) (xs : List Int) : Bool := xs.all (fun x => decide (x < 1000000000)) && ((trm xs).length == xs.length) && (!neg || decide (0 < xs.length))
theorem vI_bad {neg : Bool} {xs : List Int} {k : Nat} (hk : k < xs.length) (h : xs.getD k 0 ≥ 1000000000) : vI neg xs = false := by
  have h1 : xs.all (fun x => decide (x < 1000000000)) = false := by
    rw [Bool.eq_false_iff]
    intro hall
    have h2 := List.all_eq_true.1 hall xs[k] (List.getElem_mem hk)
    have h3 : xs.getD k 0 = xs[k] := by simp [List.getD, hk]
    simp only [decide_eq_true_eq] at h2
    omega
  unfold vI
  rw [h1]; rfl
theorem lim_of_all {xs : List Int} (hb : U32s xs) (h : ∀ k, k < xs.length → xs.getD k 0 < 1000000000) : Lim xs := by
  intro x hx
  obtain ⟨i, hi, rfl⟩ := List.getElem_of_mem hx
  have h1 := h i hi
  have h3 : xs.getD i 0 = xs[i] := by simp [List.getD, hi]
  have := hb xs[i] (List.getElem_mem hi)
  omega
theorem all_of_lim {xs : List Int} (h : Lim xs) : xs.all (fun x => decide (x < 1000000000)) = true := List.all_eq_true.2 fun x hx => by have := h x hx; simp; omega
theorem vI_lim {neg : Bool} {xs : List Int} (h : Lim xs) : vI neg xs = (((trm xs).length == xs.length) && (!neg || decide (0 < xs.length))) := by
  unfold vI; rw [all_of_lim h]; rfl
theorem trm_last {xs : List Int} (h : 0 < xs.length) : ((trm xs).length == xs.length) = (xs.getD (xs.length - 1) 0 != 0) := by
  cases hb : (xs.getD (xs.length - 1) 0 == 0) with
  | true =>
    have h1 := trim_step (xs := xs) (k := xs.length) h (Nat.le_refl _) (by rw [List.take_length]) (by rw [List.take_length]; exact hb)
    have h2 := trm_len (xs.take (xs.length - 1))
    rw [h1, List.length_take] at h2
    have : (trm xs).length ≠ xs.length := by omega
    simp at hb
    simp [this, hb]
  | false =>
    have h1 := trim_stop (xs := xs) (k := xs.length) h (Nat.le_refl _) (by rw [List.take_length]) (by rw [List.take_length]; exact hb)
    rw [h1, List.take_length]
    simp at hb
    simp [hb]
theorem vI_pos {neg : Bool} {xs : List Int} (h : Lim xs) (h0 : 0 < xs.length) : vI neg xs = (xs.getD (xs.length - 1) 0 != 0) := by
  rw [vI_lim h, trm_last h0]
  simp [h0]
theorem vI_nil {neg : Bool} {xs : List Int} (h0 : ¬ 0 < xs.length) : vI neg xs = !neg := by
  have : xs = [] := List.length_eq_zero_iff.1 (by omega)
  subst this
  cases neg <;> decide
theorem vI_ref {neg : Bool} {xs : List Int} (h : Lim xs) : vI neg xs = ((((lim (val xs).natAbs).length : Int) == (xs.length : Int)) && (!neg || decide ((xs.length : Int) > 0))) := by
  rw [vI_lim h, lim_trm h]
  congr 1
  · rw [Bool.eq_iff_iff, beq_iff_eq, beq_iff_eq]; omega
  · simp
theorem vI_data {neg : Bool} {xs : List Int} (hb : U32s xs) (h : vI neg xs = true) : ([CellD.b neg] ++ [cM xs]) = cI (sg neg (val xs)) ∧ xs.length = (lim (sg neg (val xs)).natAbs).length := by
  unfold vI at h
  simp only [Bool.and_eq_true, beq_iff_eq] at h
  obtain ⟨⟨h1, h2⟩, h3⟩ := h
  have hL : Lim xs := fun x hx => by
    have := List.all_eq_true.1 h1 x hx
    simp only [decide_eq_true_eq] at this
    exact ⟨(hb x hx).1, this⟩
  have hN : trm xs = xs := by
    obtain ⟨n, hn, e1, _⟩ := trm_take xs
    rw [e1, List.length_take] at h2
    rw [e1, List.take_of_length_le (by omega)]
  have hv := val_nonneg hL
  have hx : lim (val xs).natAbs = xs := by rw [← lim_trm hL, hN]
  have e : (sg neg (val xs)).natAbs = (val xs).natAbs := by cases neg <;> simp [sg]
  refine ⟨?_, by rw [e, hx]⟩
  unfold cI
  rw [cL_cM, e, hx]
  congr 2
  cases neg with
  | false => rw [sg_false]; simp; omega
  | true =>
    rw [sg_true]
    simp at h3
    have : val xs ≠ 0 := fun e0 => by
      have := hx
      rw [e0] at this
      rw [show (0 : Int).natAbs = 0 from rfl, lim_zero] at this
      rw [← this] at h3; simp at h3
    simp; omega
end Go.Proofs.YtcbjmiddangfoaaGreat
/- Package integer: GCD. -/
namespace Go.Proofs.YtcbjmiddangfoaaGreat
open Go Go.RowKit
theorem iGCD_ok {x y : Int} (hx : Sz 1000000 x) (hy : Sz 1000000 y) : Ok Tryz.prog 96 [dI x, dI y] [dI (Int.gcd x y : Int)] := by
  refine Ok.of (by kernel_rfl) Tryz.func96 rfl rfl ?_
  rw [show Tryz.f96.ntmps = 61 from rfl, show Tryz.f96.results.toList = [.cell 4 24] from rfl]
  refine dw_seq ?_
  -- region 0
  refine dw_region (by kernel_rfl) ?_
  refine dl_new (sem_box_a rfl rfl) rfl ?_
  refine dl_new (sem_box_a rfl rfl) rfl ?_
  refine dl_new (sem_alloc zc24 rfl) rfl ?_
  refine dl_end ?_
  refine dw_seq ?_
  -- region 1
  refine dw_draw 8 [] follows_mixed (by kernel_rfl) rfl rfl ?_
  refine dq_r (sem_field fd24_1 rfl rfl) ?_
  refine dq_r (sem_load1 ty22 rfl rfl rfl rfl) ?_
  refine dq_r (sem_call rfl rfl (iSigned_cL) rfl) ?_
  refine dq_r (sem_field fd24_1 rfl rfl) ?_
  refine dq_r (sem_load1 ty22 rfl rfl rfl rfl) ?_
  refine dq_r (sem_call rfl rfl (iSigned_cL) rfl) ?_
  refine dq_new (sem_alloc zc24 rfl) rfl ?_
  refine dq_new (sem_alloc zc24 rfl) rfl ?_
  refine dq_end ?_
  refine dl_start2 ?_
  refine dl_st (sem_store_a ty24 rfl rfl rfl rfl rfl rfl) ?_
  refine dl_st (sem_store_a ty24 rfl rfl rfl rfl rfl rfl) ?_
  refine dl_end ?_
  refine dw_seq ?_
  refine dw_block ?_
  refine dw_loop (ι := {p : Int × Int // GInv x y p.1 p.2}) (fun i => ⟨61, [(4, .p 4 0), (5, .p 5 0), (6, .p 6 0)], [(4, 24, ([.b false] ++ [.s 0 []])), (5, 24, cI i.1.1), (6, 24, cI i.1.2)]⟩) (fun i => i.1.2.toNat) ⟨(sg false (x.natAbs : Int), sg false (y.natAbs : Int)), GInv.start hx hy⟩ (sub_of ⟨rfl, rfl, rfl, trivial⟩ ⟨rfl, rfl, rfl, trivial⟩ rfl) ?_
  rintro ⟨⟨a, c⟩, hg⟩
  replace hg : GInv x y a c := hg
  have ha := hg.sa
  have hcc := hg.sc
  show Dw _ _ ⟨61, [(4, .p 4 0), (5, .p 5 0), (6, .p 6 0)], [(4, 24, ([.b false] ++ [.s 0 []])), (5, 24, cI a), (6, 24, cI c)]⟩ _
  refine dw_seq ?_
  refine dw_seq ?_
  -- region 2
  refine dw_region (by kernel_rfl) ?_
  refine dl_r (sem_field fd24_1 rfl rfl) ?_
  refine dl_r (sem_load1 ty22 rfl rfl rfl rfl) ?_
  refine dl_r (sem_len sl22 rfl rfl) ?_
  refine dl_r (sem_cmp rfl rfl rfl rfl) ?_
  refine dl_end ?_
  refine dw_cond rfl (fun hc1 => ?_) (fun hc1 => ?_)
  · have hne := lenL_pos hc1
    refine dw_skip ?_
    refine dw_block ?_
    refine dw_seq ?_
    -- region 3
    refine dw_region (by kernel_rfl) ?_
    refine dl_r (sem_load (us := cI a) ty24 rfl rfl rfl rfl rfl) ?_
    refine dl_r (sem_call rfl rfl (iWord_ok) rfl) ?_
    refine dl_r (sem_move rfl rfl) ?_
    refine dl_r (sem_extract rfl rfl rfl) ?_
    refine dl_r (sem_extract rfl rfl rfl) ?_
    refine dl_r (sem_assign rfl rfl) ?_
    refine dl_r (sem_assign rfl rfl) ?_
    refine dl_end ?_
    refine dw_seq ?_
    -- region 4
    refine dw_region (by kernel_rfl) ?_
    refine dl_r (sem_load (us := cI c) ty24 rfl rfl rfl rfl rfl) ?_
    refine dl_r (sem_call rfl rfl (iWord_ok) rfl) ?_
    refine dl_r (sem_move rfl rfl) ?_
    refine dl_r (sem_extract rfl rfl rfl) ?_
    refine dl_r (sem_extract rfl rfl rfl) ?_
    refine dl_r (sem_assign rfl rfl) ?_
    refine dl_r (sem_assign rfl rfl) ?_
    refine dl_end ?_
    refine dw_seq ?_
    refine dw_seq ?_
    -- region 5
    refine dw_region (by kernel_rfl) ?_
    refine dl_r (sem_move rfl rfl) ?_
    refine dl_rb (sem_move rfl rfl) (fun c2 hb2 => ?_)
    cases c2
    · refine dl_skip (sem_skip rfl) ?_
      refine dl_r (sem_pick rfl rfl rfl rfl) ?_
      refine dl_end ?_
      refine dw_false rfl ?_
      refine dw_skip ?_
      refine dw_seq ?_
      -- region 9
      refine dw_region (by kernel_rfl) ?_
      refine dl_r (sem_field fd24_1 rfl rfl) ?_
      refine dl_r (sem_load1 ty22 rfl rfl rfl rfl) ?_
      refine dl_r (sem_field fd24_1 rfl rfl) ?_
      refine dl_r (sem_load1 ty22 rfl rfl rfl rfl) ?_
      refine dl_r (sem_call rfl rfl (iDivide_ok (by assumption) (by assumption) (by assumption)) rfl) ?_
      refine dl_r (sem_move rfl rfl) ?_
      refine dl_r (sem_extract rfl rfl rfl) ?_
      refine dl_r (sem_extract rfl rfl rfl) ?_
      refine dl_r (sem_assign rfl rfl) ?_
      refine dl_r (sem_assign rfl rfl) ?_
      refine dl_end ?_
      -- region 10
      refine dw_draw 3 [] follows_mixed (by kernel_rfl) rfl rfl ?_
      refine dq_r (sem_load (us := cI c) ty24 rfl rfl rfl rfl rfl) ?_
      refine dq_r (sem_move rfl rfl) ?_
      refine dq_r (sem_call rfl rfl (iSigned_ok) rfl) ?_
      refine dq_end ?_
      refine dl_start0 ?_
      refine dl_st (sem_store_a ty24 rfl rfl rfl rfl rfl rfl) ?_
      refine dl_st (sem_store_a ty24 rfl rfl rfl rfl rfl rfl) ?_
      refine dl_end ?_
      exact ⟨⟨(c, sg false ((a.natAbs : Int) % c.natAbs)), hg.step hne⟩, sub_of ⟨rfl, rfl, rfl, trivial⟩ ⟨rfl, rfl, rfl, trivial⟩ rfl, hg.less hne⟩
    · refine dl_r (sem_move rfl rfl) ?_
      refine dl_r (sem_pick rfl rfl rfl rfl) ?_
      refine dl_end ?_
      refine dw_cond rfl (fun hc3 => ?_) (fun hc3 => ?_)
      · refine dw_seq ?_
        refine dw_block ?_
        refine dw_loop (ι := {p : Int × Int // GInv2 x y p.1 p.2}) (fun i => ⟨61, [(4, .p 4 0), (7, .v (.c (.i .u64 i.1.1))), (9, .v (.c (.i .u64 i.1.2)))], [(4, 24, ([.b false] ++ [.s 0 []]))]⟩) (fun i => i.1.2.toNat) ⟨(if a.natAbs < 1000000000000000000 then (a.natAbs : Int) else 0, if c.natAbs < 1000000000000000000 then (c.natAbs : Int) else 0), hg.word hb2 hc3⟩ (sub_of ⟨rfl, rfl, rfl, trivial⟩ ⟨rfl, trivial⟩ rfl) ?_
        rintro ⟨⟨u, v⟩, hw⟩
        replace hw : GInv2 x y u v := hw
        show Dw _ _ ⟨61, [(4, .p 4 0), (7, .v (.c (.i .u64 u))), (9, .v (.c (.i .u64 v)))], [(4, 24, ([.b false] ++ [.s 0 []]))]⟩ _
        refine dw_seq ?_
        refine dw_seq ?_
        -- region 6
        refine dw_region (by kernel_rfl) ?_
        refine dl_r (sem_move rfl rfl) ?_
        refine dl_r (sem_cmp rfl rfl rfl rfl) ?_
        refine dl_end ?_
        refine dw_cond rfl (fun hc4 => ?_) (fun hc4 => ?_)
        · have hv : v > 0 := by simpa using hc4
          refine dw_skip ?_
          refine dw_block ?_
          -- region 7
          refine dw_draw 6 [] follows_mixed (by kernel_rfl) rfl rfl ?_
          refine dq_r (sem_move rfl rfl) ?_
          refine dq_r (sem_move rfl rfl) ?_
          refine dq_r (sem_move rfl rfl) ?_
          refine dq_r (sem_rem rfl rfl (by omega) rfl) ?_
          refine dq_r (sem_assign rfl rfl) ?_
          refine dq_r (sem_assign rfl rfl) ?_
          refine dq_end ?_
          refine dl_start0 ?_
          refine dl_end ?_
          exact ⟨⟨(v, u.tmod v), hw.step hv⟩, sub_of ⟨rfl, rfl, rfl, trivial⟩ ⟨rfl, trivial⟩ rfl, hw.less hv⟩
        · refine dw_exit ?_
          refine dw_seq ?_
          -- region 8
          refine dw_region (by kernel_rfl) ?_
          refine dl_r (sem_move rfl rfl) ?_
          refine dl_r (sem_call rfl rfl (iSplit_ok hw.u0 hw.u1) rfl) ?_
          refine dl_r (sem_call rfl rfl (iSigned_ok) rfl) ?_
          refine dl_st (sem_store_a ty24 rfl rfl rfl rfl rfl rfl) ?_
          refine dl_end ?_
          refine dw_ret ?_
          -- path TtTF
          rw [hw.done (by simpa using hc4)]
          exact ⟨.inr rfl, (resL_cell (us := cI (sg false u)) ty24 rfl rfl rfl rfl resL_nil)⟩
      · refine dw_skip ?_
        refine dw_seq ?_
        -- region 9
        refine dw_region (by kernel_rfl) ?_
        refine dl_r (sem_field fd24_1 rfl rfl) ?_
        refine dl_r (sem_load1 ty22 rfl rfl rfl rfl) ?_
        refine dl_r (sem_field fd24_1 rfl rfl) ?_
        refine dl_r (sem_load1 ty22 rfl rfl rfl rfl) ?_
        refine dl_r (sem_call rfl rfl (iDivide_ok (by assumption) (by assumption) (by assumption)) rfl) ?_
        refine dl_r (sem_move rfl rfl) ?_
        refine dl_r (sem_extract rfl rfl rfl) ?_
        refine dl_r (sem_extract rfl rfl rfl) ?_
        refine dl_r (sem_assign rfl rfl) ?_
        refine dl_r (sem_assign rfl rfl) ?_
        refine dl_end ?_
        -- region 10
        refine dw_draw 3 [] follows_mixed (by kernel_rfl) rfl rfl ?_
        refine dq_r (sem_load (us := cI c) ty24 rfl rfl rfl rfl rfl) ?_
        refine dq_r (sem_move rfl rfl) ?_
        refine dq_r (sem_call rfl rfl (iSigned_ok) rfl) ?_
        refine dq_end ?_
        refine dl_start0 ?_
        refine dl_st (sem_store_a ty24 rfl rfl rfl rfl rfl rfl) ?_
        refine dl_st (sem_store_a ty24 rfl rfl rfl rfl rfl rfl) ?_
        refine dl_end ?_
        exact ⟨⟨(c, sg false ((a.natAbs : Int) % c.natAbs)), hg.step hne⟩, sub_of ⟨rfl, rfl, rfl, trivial⟩ ⟨rfl, rfl, rfl, trivial⟩ rfl, hg.less hne⟩
  · refine dw_exit ?_
    refine dw_seq ?_
    -- region 11
    refine dw_region (by kernel_rfl) ?_
    refine dl_r (sem_field fd24_1 rfl rfl) ?_
    refine dl_r (sem_load1 ty22 rfl rfl rfl rfl) ?_
    refine dl_r (sem_copy rfl (by assumption) rfl) ?_
    refine dl_r (sem_call rfl rfl (iSigned_cL) rfl) ?_
    refine dl_st (sem_store_a ty24 rfl rfl rfl rfl rfl rfl) ?_
    refine dl_end ?_
    refine dw_ret ?_
    -- path F
    rw [hg.done (lenL_zero hc1)]
    exact ⟨.inr rfl, (resL_cell (us := cI (sg false (a.natAbs : Int))) ty24 rfl rfl rfl rfl resL_nil)⟩
end Go.Proofs.YtcbjmiddangfoaaGreat
/- Package integer: DivMod. -/
namespace Go.Proofs.YtcbjmiddangfoaaGreat
open Go Go.RowKit
theorem iDivMod_ok {x y : Int} (hx : Sz 1000000 x) (hy : Sz 1000000 y) (h0 : y ≠ 0) : Ok Tryz.prog 110 [dI x, dI y] [dI (x.fdiv y), dI (x.fmod y), .c (.i .i64 0)] := by
  have hq : Sz 1000000 (q0 x y) := hx.q0
  have hr : Sz 1000000 (r0 x y) := hy.r0 h0
  have h1 : Sz 1000000 (1 : Int) := Sz.small (by omega) (by omega) (by omega)
  refine Ok.of (by kernel_rfl) Tryz.func110 rfl rfl ?_
  rw [show Tryz.f110.ntmps = 55 from rfl, show Tryz.f110.results.toList = [.cell 4 24, .cell 5 24, .tmp 6] from rfl]
  refine dw_seq ?_
  -- region 0
  refine dw_region (by kernel_rfl) ?_
  refine dl_new (sem_box_a rfl rfl) rfl ?_
  refine dl_new (sem_box_a rfl rfl) rfl ?_
  refine dl_new (sem_alloc zc24 rfl) rfl ?_
  refine dl_new (sem_alloc zc24 rfl) rfl ?_
  refine dl_r (sem_assign rfl rfl) ?_
  refine dl_end ?_
  refine dw_seq ?_
  refine dw_seq ?_
  -- region 1
  refine dw_region (by kernel_rfl) ?_
  refine dl_r (sem_field fd24_1 rfl rfl) ?_
  refine dl_r (sem_load1 ty22 rfl rfl rfl rfl) ?_
  refine dl_r (sem_len sl22 rfl rfl) ?_
  refine dl_r (sem_cmp rfl rfl rfl rfl) ?_
  refine dl_end ?_
  refine dw_cond rfl (fun hc1 => ?_) (fun hc1 => ?_)
  · exact absurd hc1 (by simp [lim_eq_nil, h0])
  · refine dw_skip ?_
    refine dw_seq ?_
    -- region 3
    refine dw_region (by kernel_rfl) ?_
    refine dl_r (sem_field fd24_1 rfl rfl) ?_
    refine dl_r (sem_load1 ty22 rfl rfl rfl rfl) ?_
    refine dl_r (sem_field fd24_1 rfl rfl) ?_
    refine dl_r (sem_load1 ty22 rfl rfl rfl rfl) ?_
    refine dl_r (sem_call rfl rfl (iDivide_ok (by assumption) (by assumption) (by assumption)) rfl) ?_
    refine dl_r (sem_move rfl rfl) ?_
    refine dl_r (sem_extract rfl rfl rfl) ?_
    refine dl_r (sem_extract rfl rfl rfl) ?_
    refine dl_r (sem_assign rfl rfl) ?_
    refine dl_r (sem_assign rfl rfl) ?_
    refine dl_end ?_
    refine dw_seq ?_
    -- region 4
    refine dw_draw 13 [] follows_mixed (by kernel_rfl) rfl rfl ?_
    refine dq_r (sem_field fd24_0 rfl rfl) ?_
    refine dq_r (sem_load1 ty4 rfl rfl rfl rfl) ?_
    refine dq_r (sem_field fd24_0 rfl rfl) ?_
    refine dq_r (sem_load1 ty4 rfl rfl rfl rfl) ?_
    refine dq_r (sem_bneq rfl rfl ty_bool rfl) ?_
    refine dq_r (sem_move rfl rfl) ?_
    refine dq_r (sem_call rfl rfl (iSigned_ok) rfl) ?_
    refine dq_r (sem_field fd24_0 rfl rfl) ?_
    refine dq_r (sem_load1 ty4 rfl rfl rfl rfl) ?_
    refine dq_r (sem_move rfl rfl) ?_
    refine dq_r (sem_call rfl rfl (iSigned_ok) rfl) ?_
    refine dq_new (sem_alloc zc24 rfl) rfl ?_
    refine dq_new (sem_alloc zc24 rfl) rfl ?_
    refine dq_end ?_
    refine dl_start2 ?_
    refine dl_st (sem_store_a ty24 rfl rfl rfl rfl rfl rfl) ?_
    refine dl_st (sem_store_a ty24 rfl rfl rfl rfl rfl rfl) ?_
    refine dl_end ?_
    refine dw_seq ?_
    refine dw_seq ?_
    -- region 5
    refine dw_region (by kernel_rfl) ?_
    refine dl_r (sem_field fd24_1 rfl rfl) ?_
    refine dl_r (sem_load1 ty22 rfl rfl rfl rfl) ?_
    refine dl_r (sem_len sl22 rfl rfl) ?_
    refine dl_r (sem_cmp rfl rfl rfl rfl) ?_
    refine dl_rb (sem_move rfl rfl) (fun c2 hb2 => ?_)
    cases c2
    · refine dl_skip (sem_skip rfl) ?_
      refine dl_skip (sem_skip rfl) ?_
      refine dl_skip (sem_skip rfl) ?_
      refine dl_skip (sem_skip rfl) ?_
      refine dl_skip (sem_skip rfl) ?_
      refine dl_r (sem_pick rfl rfl rfl rfl) ?_
      refine dl_end ?_
      refine dw_false rfl ?_
      refine dw_skip ?_
      refine dw_seq ?_
      -- region 7
      refine dw_draw 5 [4, 5] follows_mixed (by kernel_rfl) rfl rfl ?_
      refine dq_r (sem_load (us := cI (sg (!((decide (x < 0)) == (decide (y < 0)))) ((x.natAbs : Int) / y.natAbs))) ty24 rfl rfl rfl rfl rfl) ?_
      refine dq_r (sem_load (us := cI (sg (decide (x < 0)) ((x.natAbs : Int) % y.natAbs))) ty24 rfl rfl rfl rfl rfl) ?_
      refine dq_st (sem_store_a ty24 rfl rfl rfl rfl rfl rfl) rfl rfl rfl ?_
      refine dq_st (sem_store_a ty24 rfl rfl rfl rfl rfl rfl) rfl rfl rfl ?_
      refine dq_r (sem_assign rfl rfl) ?_
      refine dq_end ?_
      refine dl_start2 ?_
      refine dl_end ?_
      refine dw_ret ?_
      -- path Ff
      obtain ⟨e1, e2⟩ := dm_plain (x := x) h0 (.inl (lenL_zero hb2))
      rw [e1, e2]
      exact ⟨.inr rfl, (resL_cell (us := cI (sg (!((decide (x < 0)) == (decide (y < 0)))) ((x.natAbs : Int) / y.natAbs))) ty24 rfl rfl rfl rfl (resL_cell (us := cI (sg (decide (x < 0)) ((x.natAbs : Int) % y.natAbs))) ty24 rfl rfl rfl rfl (resL_tmp rfl resL_nil)))⟩
    · refine dl_r (sem_field fd24_0 rfl rfl) ?_
      refine dl_r (sem_load1 ty4 rfl rfl rfl rfl) ?_
      refine dl_r (sem_field fd24_0 rfl rfl) ?_
      refine dl_r (sem_load1 ty4 rfl rfl rfl rfl) ?_
      refine dl_r (sem_bneq rfl rfl ty_bool rfl) ?_
      refine dl_r (sem_pick rfl rfl rfl rfl) ?_
      refine dl_end ?_
      refine dw_cond rfl (fun hc3 => ?_) (fun hc3 => ?_)
      · -- region 6
        refine dw_draw 6 [] follows_mixed (by kernel_rfl) rfl rfl ?_
        refine dq_r (sem_load (us := cI (sg (!((decide (x < 0)) == (decide (y < 0)))) ((x.natAbs : Int) / y.natAbs))) ty24 rfl rfl rfl rfl rfl) ?_
        refine dq_r (sem_call rfl rfl (iFrom_ok (by omega) (by omega)) rfl) ?_
        refine dq_r (sem_call rfl rfl (iSub_ok (by assumption) (by assumption)) rfl) ?_
        refine dq_r (sem_load (us := cI (sg (decide (x < 0)) ((x.natAbs : Int) % y.natAbs))) ty24 rfl rfl rfl rfl rfl) ?_
        refine dq_r (sem_load (us := cI y) ty24 rfl rfl rfl rfl rfl) ?_
        refine dq_r (sem_call rfl rfl (iAdd_ok (by assumption) (by assumption)) rfl) ?_
        refine dq_end ?_
        refine dl_start0 ?_
        refine dl_st (sem_store_a ty24 rfl rfl rfl rfl rfl rfl) ?_
        refine dl_st (sem_store_a ty24 rfl rfl rfl rfl rfl rfl) ?_
        refine dl_end ?_
        refine dw_seq ?_
        -- region 7
        refine dw_draw 5 [4, 5] follows_mixed (by kernel_rfl) rfl rfl ?_
        refine dq_r (sem_load (us := cI ((sg (!((decide (x < 0)) == (decide (y < 0)))) ((x.natAbs : Int) / y.natAbs)) - 1)) ty24 rfl rfl rfl rfl rfl) ?_
        refine dq_r (sem_load (us := cI ((sg (decide (x < 0)) ((x.natAbs : Int) % y.natAbs)) + y)) ty24 rfl rfl rfl rfl rfl) ?_
        refine dq_st (sem_store_a ty24 rfl rfl rfl rfl rfl rfl) rfl rfl rfl ?_
        refine dq_st (sem_store_a ty24 rfl rfl rfl rfl rfl rfl) rfl rfl rfl ?_
        refine dq_r (sem_assign rfl rfl) ?_
        refine dq_end ?_
        refine dl_start2 ?_
        refine dl_end ?_
        refine dw_ret ?_
        -- path FtT
        obtain ⟨e1, e2⟩ := dm_shift (x := x) h0 (lenL_pos hb2) (sgn_ne hc3)
        rw [e1, e2]
        exact ⟨.inr rfl, (resL_cell (us := cI ((sg (!((decide (x < 0)) == (decide (y < 0)))) ((x.natAbs : Int) / y.natAbs)) - 1)) ty24 rfl rfl rfl rfl (resL_cell (us := cI ((sg (decide (x < 0)) ((x.natAbs : Int) % y.natAbs)) + y)) ty24 rfl rfl rfl rfl (resL_tmp rfl resL_nil)))⟩
      · refine dw_skip ?_
        refine dw_seq ?_
        -- region 7
        refine dw_draw 5 [4, 5] follows_mixed (by kernel_rfl) rfl rfl ?_
        refine dq_r (sem_load (us := cI (sg (!((decide (x < 0)) == (decide (y < 0)))) ((x.natAbs : Int) / y.natAbs))) ty24 rfl rfl rfl rfl rfl) ?_
        refine dq_r (sem_load (us := cI (sg (decide (x < 0)) ((x.natAbs : Int) % y.natAbs))) ty24 rfl rfl rfl rfl rfl) ?_
        refine dq_st (sem_store_a ty24 rfl rfl rfl rfl rfl rfl) rfl rfl rfl ?_
        refine dq_st (sem_store_a ty24 rfl rfl rfl rfl rfl rfl) rfl rfl rfl ?_
        refine dq_r (sem_assign rfl rfl) ?_
        refine dq_end ?_
        refine dl_start2 ?_
        refine dl_end ?_
        refine dw_ret ?_
        -- path FtF
        obtain ⟨e1, e2⟩ := dm_plain (x := x) h0 (.inr (sgn_eq hc3))
        rw [e1, e2]
        exact ⟨.inr rfl, (resL_cell (us := cI (sg (!((decide (x < 0)) == (decide (y < 0)))) ((x.natAbs : Int) / y.natAbs))) ty24 rfl rfl rfl rfl (resL_cell (us := cI (sg (decide (x < 0)) ((x.natAbs : Int) % y.natAbs))) ty24 rfl rfl rfl rfl (resL_tmp rfl resL_nil)))⟩
end Go.Proofs.YtcbjmiddangfoaaGreat
/- Package swarfref01: the functions on numbers. -/
namespace Go.Proofs.YtcbjmiddangfoaaGreat
open Go Go.RowKit
theorem nSign_ok {x : Int} : Ok Tryz.prog 44 [dI x] [.c (.i .i64 (cmpI x 0))] := by
  refine Ok.of (by kernel_rfl) Tryz.func44 rfl rfl ?_
  rw [show Tryz.f44.ntmps = 9 from rfl, show Tryz.f44.results.toList = [.tmp 2] from rfl]
  refine dw_seq ?_
  -- region 0
  refine dw_region (by kernel_rfl) ?_
  refine dl_new (sem_box_a rfl rfl) rfl ?_
  refine dl_r (sem_assign rfl rfl) ?_
  refine dl_end ?_
  refine dw_seq ?_
  refine dw_seq ?_
  -- region 1
  refine dw_region (by kernel_rfl) ?_
  refine dl_r (sem_field fd24_1 rfl rfl) ?_
  refine dl_r (sem_load1 ty22 rfl rfl rfl rfl) ?_
  refine dl_r (sem_len sl22 rfl rfl) ?_
  refine dl_r (sem_cmp rfl rfl rfl rfl) ?_
  refine dl_end ?_
  refine dw_cond rfl (fun hc1 => ?_) (fun hc1 => ?_)
  · refine dw_seq ?_
    -- region 2
    refine dw_region (by kernel_rfl) ?_
    refine dl_r (sem_assign rfl rfl) ?_
    refine dl_end ?_
    refine dw_ret ?_
    -- path T
    rw [cmp_eq (by have := hc1; simp [lim_eq_nil] at this; omega)]
    exact ⟨.inr rfl, (resL_tmp rfl resL_nil)⟩
  · refine dw_skip ?_
    refine dw_seq ?_
    refine dw_seq ?_
    -- region 3
    refine dw_region (by kernel_rfl) ?_
    refine dl_r (sem_field fd24_0 rfl rfl) ?_
    refine dl_r (sem_load1 ty4 rfl rfl rfl rfl) ?_
    refine dl_end ?_
    refine dw_cond rfl (fun hc2 => ?_) (fun hc2 => ?_)
    · refine dw_seq ?_
      -- region 4
      refine dw_region (by kernel_rfl) ?_
      refine dl_r (sem_assign rfl rfl) ?_
      refine dl_end ?_
      refine dw_ret ?_
      -- path FT
      rw [cmp_lt (by simpa using hc2)]
      exact ⟨.inr rfl, (resL_tmp rfl resL_nil)⟩
    · refine dw_skip ?_
      refine dw_seq ?_
      -- region 5
      refine dw_region (by kernel_rfl) ?_
      refine dl_r (sem_assign rfl rfl) ?_
      refine dl_end ?_
      refine dw_ret ?_
      -- path FF
      rw [cmp_gt (by have := hc1; have h2 := hc2; simp [lim_eq_nil] at this h2; omega)]
      exact ⟨.inr rfl, (resL_tmp rfl resL_nil)⟩
theorem nCmp_ok {x y : Int} (hx : Sz 1000000 x) (hy : Sz 1000000 y) : Ok Tryz.prog 103 [dI x, dI y] [.c (.i .i64 (cmpI x y))] := by
  refine Ok.of (by kernel_rfl) Tryz.func103 rfl rfl ?_
  rw [show Tryz.f103.ntmps = 24 from rfl, show Tryz.f103.results.toList = [.tmp 4] from rfl]
  refine dw_seq ?_
  -- region 0
  refine dw_region (by kernel_rfl) ?_
  refine dl_new (sem_box_a rfl rfl) rfl ?_
  refine dl_new (sem_box_a rfl rfl) rfl ?_
  refine dl_r (sem_assign rfl rfl) ?_
  refine dl_end ?_
  refine dw_seq ?_
  refine dw_seq ?_
  -- region 1
  refine dw_region (by kernel_rfl) ?_
  refine dl_r (sem_field fd24_0 rfl rfl) ?_
  refine dl_r (sem_load1 ty4 rfl rfl rfl rfl) ?_
  refine dl_r (sem_field fd24_0 rfl rfl) ?_
  refine dl_r (sem_load1 ty4 rfl rfl rfl rfl) ?_
  refine dl_r (sem_bneq rfl rfl ty_bool rfl) ?_
  refine dl_end ?_
  refine dw_cond rfl (fun hc1 => ?_) (fun hc1 => ?_)
  · refine dw_seq ?_
    refine dw_seq ?_
    -- region 2
    refine dw_region (by kernel_rfl) ?_
    refine dl_r (sem_field fd24_0 rfl rfl) ?_
    refine dl_r (sem_load1 ty4 rfl rfl rfl rfl) ?_
    refine dl_end ?_
    refine dw_cond rfl (fun hc2 => ?_) (fun hc2 => ?_)
    · refine dw_seq ?_
      -- region 3
      refine dw_region (by kernel_rfl) ?_
      refine dl_r (sem_assign rfl rfl) ?_
      refine dl_end ?_
      refine dw_ret ?_
      -- path TT
      rw [cmp_lt (by have := sgn_ne hc1; have h2 := hc2; simp only [decide_eq_true_eq] at h2; omega)]
      exact ⟨.inr rfl, (resL_tmp rfl resL_nil)⟩
    · refine dw_skip ?_
      refine dw_seq ?_
      -- region 4
      refine dw_region (by kernel_rfl) ?_
      refine dl_r (sem_assign rfl rfl) ?_
      refine dl_end ?_
      refine dw_ret ?_
      -- path TF
      rw [cmp_gt (by have := sgn_ne hc1; have h2 := hc2; simp only [decide_eq_false_iff_not] at h2; omega)]
      exact ⟨.inr rfl, (resL_tmp rfl resL_nil)⟩
  · refine dw_skip ?_
    refine dw_seq ?_
    refine dw_seq ?_
    -- region 5
    refine dw_region (by kernel_rfl) ?_
    refine dl_r (sem_field fd24_0 rfl rfl) ?_
    refine dl_r (sem_load1 ty4 rfl rfl rfl rfl) ?_
    refine dl_end ?_
    refine dw_cond rfl (fun hc3 => ?_) (fun hc3 => ?_)
    · refine dw_seq ?_
      -- region 6
      refine dw_region (by kernel_rfl) ?_
      refine dl_r (sem_field fd24_1 rfl rfl) ?_
      refine dl_r (sem_load1 ty22 rfl rfl rfl rfl) ?_
      refine dl_r (sem_field fd24_1 rfl rfl) ?_
      refine dl_r (sem_load1 ty22 rfl rfl rfl rfl) ?_
      refine dl_r (sem_call rfl rfl (rCompare_c (by assumption) (by assumption)) rfl) ?_
      refine dl_r (sem_assign rfl rfl) ?_
      refine dl_end ?_
      refine dw_ret ?_
      -- path FT
      rw [← cmpI_abs_neg hc3 (by have := sgn_eq hc1; have h2 := hc3; simp only [decide_eq_true_eq] at h2; omega)]
      exact ⟨.inr rfl, (resL_tmp rfl resL_nil)⟩
    · refine dw_skip ?_
      refine dw_seq ?_
      -- region 7
      refine dw_region (by kernel_rfl) ?_
      refine dl_r (sem_field fd24_1 rfl rfl) ?_
      refine dl_r (sem_load1 ty22 rfl rfl rfl rfl) ?_
      refine dl_r (sem_field fd24_1 rfl rfl) ?_
      refine dl_r (sem_load1 ty22 rfl rfl rfl rfl) ?_
      refine dl_r (sem_call rfl rfl (rCompare_c (by assumption) (by assumption)) rfl) ?_
      refine dl_r (sem_assign rfl rfl) ?_
      refine dl_end ?_
      refine dw_ret ?_
      -- path FF
      rw [← cmpI_abs_pos hc3 (by have := sgn_eq hc1; have h2 := hc3; simp only [decide_eq_false_iff_not] at h2; omega)]
      exact ⟨.inr rfl, (resL_tmp rfl resL_nil)⟩
theorem nFrom_ok {x : Int} (h0 : -9223372036854775808 ≤ x) (h1 : x ≤ 9223372036854775807) : Ok Tryz.prog 50 [.c (.i .i64 x)] [dI x] := by
  refine Ok.of (by kernel_rfl) Tryz.func50 rfl rfl ?_
  rw [show Tryz.f50.ntmps = 14 from rfl, show Tryz.f50.results.toList = [.cell 2 24] from rfl]
  refine dw_seq ?_
  -- region 0
  refine dw_region (by kernel_rfl) ?_
  refine dl_new (sem_alloc zc24 rfl) rfl ?_
  refine dl_end ?_
  refine dw_seq ?_
  refine dw_seq ?_
  -- region 1
  refine dw_region (by kernel_rfl) ?_
  refine dl_r (sem_move rfl rfl) ?_
  refine dl_r (sem_cmp rfl rfl rfl rfl) ?_
  refine dl_end ?_
  refine dw_cond rfl (fun hc1 => ?_) (fun hc1 => ?_)
  · have hn : x < 0 := by simpa using hc1
    refine dw_seq ?_
    -- region 2
    refine dw_region (by kernel_rfl) ?_
    refine dl_r (sem_move rfl rfl) ?_
    refine dl_r (sem_conv' (r := x + 18446744073709551616) und2 und106 rfl (wu64_neg hn h0) rfl) ?_
    refine dl_r (sem_neg' (r := -x) rfl (wu64_neg2 hn h0) rfl) ?_
    refine dl_r (sem_call rfl rfl (rLimbs_ok (by omega) (by omega)) rfl) ?_
    refine dl_r (sem_call rfl rfl (rSigned_c (Sz.small3 (by omega) (by omega))) rfl) ?_
    refine dl_st (sem_store_a ty24 rfl rfl rfl rfl rfl rfl) ?_
    refine dl_end ?_
    refine dw_ret ?_
    -- path T
    have hfin : dI x = dI (sg true (((-x).natAbs : Nat) : Int)) := congrArg dI (by rw [sg_true]; omega)
    rw [hfin]
    exact ⟨.inr rfl, (resL_cell (us := cI (sg true (((-x).natAbs : Nat) : Int))) ty24 rfl rfl rfl rfl resL_nil)⟩
  · have hn : 0 ≤ x := by have := hc1; simp at this; omega
    refine dw_skip ?_
    refine dw_seq ?_
    -- region 3
    refine dw_region (by kernel_rfl) ?_
    refine dl_r (sem_move rfl rfl) ?_
    refine dl_r (sem_conv' (r := x) und2 und106 rfl (nwu64 (by omega) (by omega)) rfl) ?_
    refine dl_r (sem_call rfl rfl (rLimbs_ok (by omega) (by omega)) rfl) ?_
    refine dl_r (sem_call rfl rfl (rSigned_c (Sz.small3 (by omega) (by omega))) rfl) ?_
    refine dl_st (sem_store_a ty24 rfl rfl rfl rfl rfl rfl) ?_
    refine dl_end ?_
    refine dw_ret ?_
    -- path F
    have hfin : dI x = dI (sg false ((x.natAbs : Nat) : Int)) := congrArg dI (by rw [sg_false]; omega)
    rw [hfin]
    exact ⟨.inr rfl, (resL_cell (us := cI (sg false ((x.natAbs : Nat) : Int))) ty24 rfl rfl rfl rfl resL_nil)⟩
theorem nNeg_ok {x : Int} (hx : Sz 1000000 x) : Ok Tryz.prog 38 [dI x] [dI (-x)] := by
  refine Ok.of (by kernel_rfl) Tryz.func38 rfl rfl ?_
  rw [show Tryz.f38.ntmps = 9 from rfl, show Tryz.f38.results.toList = [.cell 2 24] from rfl]
  refine dw_seq ?_
  -- region 0
  refine dw_region (by kernel_rfl) ?_
  refine dl_new (sem_box_a rfl rfl) rfl ?_
  refine dl_new (sem_alloc zc24 rfl) rfl ?_
  refine dl_end ?_
  refine dw_seq ?_
  -- region 1
  refine dw_region (by kernel_rfl) ?_
  refine dl_r (sem_field fd24_0 rfl rfl) ?_
  refine dl_r (sem_load1 ty4 rfl rfl rfl rfl) ?_
  refine dl_r (sem_not rfl rfl) ?_
  refine dl_r (sem_field fd24_1 rfl rfl) ?_
  refine dl_r (sem_load1 ty22 rfl rfl rfl rfl) ?_
  refine dl_r (sem_call rfl rfl (rSigned_c (by assumption)) rfl) ?_
  refine dl_st (sem_store_a ty24 rfl rfl rfl rfl rfl rfl) ?_
  refine dl_end ?_
  refine dw_ret ?_
  -- path 
  rw [← sa_not (x := x)]
  exact ⟨.inr rfl, (resL_cell (us := cI (sg (!(decide (x < 0))) ((x.natAbs : Nat) : Int))) ty24 rfl rfl rfl rfl resL_nil)⟩
theorem nMul_ok {x y : Int} (hx : Sz 400000 x) (hy : Sz 400000 y) : Ok Tryz.prog 37 [dI x, dI y] [dI (x * y)] := by
  have hx6 : Sz 1000000 x := hx.mono (by decide)
  have hy6 : Sz 1000000 y := hy.mono (by decide)
  have hp : Sz 1000000 ((x.natAbs : Int) * (y.natAbs : Int)) := ((nat_sz hx).mul (nat_sz hy)).mono (by decide)
  refine Ok.of (by kernel_rfl) Tryz.func37 rfl rfl ?_
  rw [show Tryz.f37.ntmps = 16 from rfl, show Tryz.f37.results.toList = [.cell 4 24] from rfl]
  refine dw_seq ?_
  -- region 0
  refine dw_region (by kernel_rfl) ?_
  refine dl_new (sem_box_a rfl rfl) rfl ?_
  refine dl_new (sem_box_a rfl rfl) rfl ?_
  refine dl_new (sem_alloc zc24 rfl) rfl ?_
  refine dl_end ?_
  refine dw_seq ?_
  -- region 1
  refine dw_draw 11 [] follows_mixed (by kernel_rfl) rfl rfl ?_
  refine dq_r (sem_field fd24_0 rfl rfl) ?_
  refine dq_r (sem_load1 ty4 rfl rfl rfl rfl) ?_
  refine dq_r (sem_field fd24_0 rfl rfl) ?_
  refine dq_r (sem_load1 ty4 rfl rfl rfl rfl) ?_
  refine dq_r (sem_bneq rfl rfl ty_bool rfl) ?_
  refine dq_r (sem_field fd24_1 rfl rfl) ?_
  refine dq_r (sem_load1 ty22 rfl rfl rfl rfl) ?_
  refine dq_r (sem_field fd24_1 rfl rfl) ?_
  refine dq_r (sem_load1 ty22 rfl rfl rfl rfl) ?_
  refine dq_r (sem_call rfl rfl (rTimes_c (by assumption) (by assumption)) rfl) ?_
  refine dq_r (sem_call rfl rfl (rSigned_c (by assumption)) rfl) ?_
  refine dq_end ?_
  refine dl_start0 ?_
  refine dl_st (sem_store_a ty24 rfl rfl rfl rfl rfl rfl) ?_
  refine dl_end ?_
  refine dw_ret ?_
  -- path 
  rw [← sa_mul (x := x) (y := y)]
  exact ⟨.inr rfl, (resL_cell (us := cI (sg (!((decide (x < 0)) == (decide (y < 0)))) ((((x.natAbs : Int) * (y.natAbs : Int)).natAbs : Nat) : Int))) ty24 rfl rfl rfl rfl resL_nil)⟩
theorem nAdd_ok {x y : Int} (hx : Sz 900000 x) (hy : Sz 900000 y) : Ok Tryz.prog 43 [dI x, dI y] [dI (x + y)] := by
  have hx6 : Sz 1000000 x := hx.mono (by decide)
  have hy6 : Sz 1000000 y := hy.mono (by decide)
  have hp : Sz 1000000 ((x.natAbs : Int) + (y.natAbs : Int)) := ((nat_sz (hx.mono (l := 999999) (by decide))).add (nat_sz (hy.mono (by decide)))).mono (by decide)
  refine Ok.of (by kernel_rfl) Tryz.func43 rfl rfl ?_
  rw [show Tryz.f43.ntmps = 40 from rfl, show Tryz.f43.results.toList = [.cell 4 24] from rfl]
  refine dw_seq ?_
  -- region 0
  refine dw_region (by kernel_rfl) ?_
  refine dl_new (sem_box_a rfl rfl) rfl ?_
  refine dl_new (sem_box_a rfl rfl) rfl ?_
  refine dl_new (sem_alloc zc24 rfl) rfl ?_
  refine dl_end ?_
  refine dw_seq ?_
  refine dw_seq ?_
  -- region 1
  refine dw_region (by kernel_rfl) ?_
  refine dl_r (sem_field fd24_0 rfl rfl) ?_
  refine dl_r (sem_load1 ty4 rfl rfl rfl rfl) ?_
  refine dl_r (sem_field fd24_0 rfl rfl) ?_
  refine dl_r (sem_load1 ty4 rfl rfl rfl rfl) ?_
  refine dl_r (sem_beql rfl rfl ty_bool rfl) ?_
  refine dl_end ?_
  refine dw_cond rfl (fun hc1 => ?_) (fun hc1 => ?_)
  · refine dw_seq ?_
    -- region 2
    refine dw_draw 8 [] follows_mixed (by kernel_rfl) rfl rfl ?_
    refine dq_r (sem_field fd24_0 rfl rfl) ?_
    refine dq_r (sem_load1 ty4 rfl rfl rfl rfl) ?_
    refine dq_r (sem_field fd24_1 rfl rfl) ?_
    refine dq_r (sem_load1 ty22 rfl rfl rfl rfl) ?_
    refine dq_r (sem_field fd24_1 rfl rfl) ?_
    refine dq_r (sem_load1 ty22 rfl rfl rfl rfl) ?_
    refine dq_r (sem_call rfl rfl (rPlus_c (by assumption) (by assumption)) rfl) ?_
    refine dq_r (sem_call rfl rfl (rSigned_c (by assumption)) rfl) ?_
    refine dq_end ?_
    refine dl_start0 ?_
    refine dl_st (sem_store_a ty24 rfl rfl rfl rfl rfl rfl) ?_
    refine dl_end ?_
    refine dw_ret ?_
    -- path T
    rw [← sa_same hc1]
    exact ⟨.inr rfl, (resL_cell (us := cI (sg (decide (x < 0)) ((((x.natAbs : Int) + (y.natAbs : Int)).natAbs : Nat) : Int))) ty24 rfl rfl rfl rfl resL_nil)⟩
  · refine dw_skip ?_
    refine dw_seq ?_
    refine dw_seq ?_
    -- region 3
    refine dw_region (by kernel_rfl) ?_
    refine dl_r (sem_field fd24_1 rfl rfl) ?_
    refine dl_r (sem_load1 ty22 rfl rfl rfl rfl) ?_
    refine dl_r (sem_field fd24_1 rfl rfl) ?_
    refine dl_r (sem_load1 ty22 rfl rfl rfl rfl) ?_
    refine dl_r (sem_call rfl rfl (rCompare_c (by assumption) (by assumption)) rfl) ?_
    refine dl_r (sem_cmp rfl rfl rfl rfl) ?_
    refine dl_end ?_
    refine dw_cond rfl (fun hc2 => ?_) (fun hc2 => ?_)
    · have hge := cmpI_ge hc2
      have hq : Sz 1000000 ((x.natAbs : Int) - (y.natAbs : Int)) := hx6.of_le (by omega)
      refine dw_seq ?_
      -- region 4
      refine dw_draw 8 [] follows_mixed (by kernel_rfl) rfl rfl ?_
      refine dq_r (sem_field fd24_0 rfl rfl) ?_
      refine dq_r (sem_load1 ty4 rfl rfl rfl rfl) ?_
      refine dq_r (sem_field fd24_1 rfl rfl) ?_
      refine dq_r (sem_load1 ty22 rfl rfl rfl rfl) ?_
      refine dq_r (sem_field fd24_1 rfl rfl) ?_
      refine dq_r (sem_load1 ty22 rfl rfl rfl rfl) ?_
      refine dq_r (sem_call rfl rfl (rMinus_c (by assumption) (by omega)) rfl) ?_
      refine dq_r (sem_call rfl rfl (rSigned_c (by assumption)) rfl) ?_
      refine dq_end ?_
      refine dl_start0 ?_
      refine dl_st (sem_store_a ty24 rfl rfl rfl rfl rfl rfl) ?_
      refine dl_end ?_
      refine dw_ret ?_
      -- path FT
      rw [← sa_ge hc1 (by omega)]
      exact ⟨.inr rfl, (resL_cell (us := cI (sg (decide (x < 0)) ((((x.natAbs : Int) - (y.natAbs : Int)).natAbs : Nat) : Int))) ty24 rfl rfl rfl rfl resL_nil)⟩
    · have hge := cmpI_lt hc2
      have hq : Sz 1000000 ((y.natAbs : Int) - (x.natAbs : Int)) := hy6.of_le (by omega)
      refine dw_skip ?_
      refine dw_seq ?_
      -- region 5
      refine dw_draw 8 [] follows_mixed (by kernel_rfl) rfl rfl ?_
      refine dq_r (sem_field fd24_0 rfl rfl) ?_
      refine dq_r (sem_load1 ty4 rfl rfl rfl rfl) ?_
      refine dq_r (sem_field fd24_1 rfl rfl) ?_
      refine dq_r (sem_load1 ty22 rfl rfl rfl rfl) ?_
      refine dq_r (sem_field fd24_1 rfl rfl) ?_
      refine dq_r (sem_load1 ty22 rfl rfl rfl rfl) ?_
      refine dq_r (sem_call rfl rfl (rMinus_c (by assumption) (by omega)) rfl) ?_
      refine dq_r (sem_call rfl rfl (rSigned_c (by assumption)) rfl) ?_
      refine dq_end ?_
      refine dl_start0 ?_
      refine dl_st (sem_store_a ty24 rfl rfl rfl rfl rfl rfl) ?_
      refine dl_end ?_
      refine dw_ret ?_
      -- path FF
      rw [← sa_lt hc1 (by omega)]
      exact ⟨.inr rfl, (resL_cell (us := cI (sg (decide (y < 0)) ((((y.natAbs : Int) - (x.natAbs : Int)).natAbs : Nat) : Int))) ty24 rfl rfl rfl rfl resL_nil)⟩
theorem nSub_ok {x y : Int} (hx : Sz 900000 x) (hy : Sz 900000 y) : Ok Tryz.prog 104 [dI x, dI y] [dI (x - y)] := by
  have hx6 : Sz 1000000 x := hx.mono (by decide)
  have hy6 : Sz 1000000 y := hy.mono (by decide)
  have hyn : Sz 900000 (-y) := hy.neg
  refine Ok.of (by kernel_rfl) Tryz.func104 rfl rfl ?_
  rw [show Tryz.f104.ntmps = 9 from rfl, show Tryz.f104.results.toList = [.cell 4 24] from rfl]
  refine dw_seq ?_
  -- region 0
  refine dw_region (by kernel_rfl) ?_
  refine dl_new (sem_box_a rfl rfl) rfl ?_
  refine dl_new (sem_box_a rfl rfl) rfl ?_
  refine dl_new (sem_alloc zc24 rfl) rfl ?_
  refine dl_end ?_
  refine dw_seq ?_
  -- region 1
  refine dw_draw 4 [] follows_mixed (by kernel_rfl) rfl rfl ?_
  refine dq_r (sem_load (us := cI x) ty24 rfl rfl rfl rfl rfl) ?_
  refine dq_r (sem_load (us := cI y) ty24 rfl rfl rfl rfl rfl) ?_
  refine dq_r (sem_call rfl rfl (nNeg_ok (by assumption)) rfl) ?_
  refine dq_r (sem_call rfl rfl (nAdd_ok (by assumption) (by assumption)) rfl) ?_
  refine dq_end ?_
  refine dl_start0 ?_
  refine dl_st (sem_store_a ty24 rfl rfl rfl rfl rfl rfl) ?_
  refine dl_end ?_
  refine dw_ret ?_
  -- path 
  rw [Int.sub_eq_add_neg]
  exact ⟨.inr rfl, (resL_cell (us := cI (x + (-y))) ty24 rfl rfl rfl rfl resL_nil)⟩
theorem nSame_ok {x y : Int} (hx : Sz 1000000 x) (hy : Sz 1000000 y) : Ok Tryz.prog 51 [dI x, dI y] [.c (.b (x == y))] := by
  refine Ok.of (by kernel_rfl) Tryz.func51 rfl rfl ?_
  rw [show Tryz.f51.ntmps = 18 from rfl, show Tryz.f51.results.toList = [.tmp 4] from rfl]
  refine dw_seq ?_
  -- region 0
  refine dw_region (by kernel_rfl) ?_
  refine dl_new (sem_box_a rfl rfl) rfl ?_
  refine dl_new (sem_box_a rfl rfl) rfl ?_
  refine dl_r (sem_assign rfl rfl) ?_
  refine dl_end ?_
  refine dw_seq ?_
  -- region 1
  refine dw_region (by kernel_rfl) ?_
  refine dl_r (sem_field fd24_0 rfl rfl) ?_
  refine dl_r (sem_load1 ty4 rfl rfl rfl rfl) ?_
  refine dl_r (sem_field fd24_0 rfl rfl) ?_
  refine dl_r (sem_load1 ty4 rfl rfl rfl rfl) ?_
  refine dl_r (sem_beql rfl rfl ty_bool rfl) ?_
  refine dl_rb (sem_move rfl rfl) (fun c1 hb1 => ?_)
  cases c1
  · refine dl_skip (sem_skip rfl) ?_
    refine dl_skip (sem_skip rfl) ?_
    refine dl_skip (sem_skip rfl) ?_
    refine dl_skip (sem_skip rfl) ?_
    refine dl_skip (sem_skip rfl) ?_
    refine dl_skip (sem_skip rfl) ?_
    refine dl_r (sem_pick rfl rfl rfl rfl) ?_
    refine dl_r (sem_assign rfl rfl) ?_
    refine dl_end ?_
    refine dw_ret ?_
    -- path f
    rw [show (x == y) = false from by have := hb1; simp only [beq_eq_false_iff_ne, ne_eq] at this ⊢; intro e; subst e; exact this rfl]
    exact ⟨.inr rfl, (resL_tmp rfl resL_nil)⟩
  · refine dl_r (sem_field fd24_1 rfl rfl) ?_
    refine dl_r (sem_load1 ty22 rfl rfl rfl rfl) ?_
    refine dl_r (sem_field fd24_1 rfl rfl) ?_
    refine dl_r (sem_load1 ty22 rfl rfl rfl rfl) ?_
    refine dl_r (sem_call rfl rfl (rCompare_c (by assumption) (by assumption)) rfl) ?_
    refine dl_r (sem_cmp rfl rfl rfl rfl) ?_
    refine dl_r (sem_pick rfl rfl rfl rfl) ?_
    refine dl_r (sem_assign rfl rfl) ?_
    refine dl_end ?_
    refine dw_ret ?_
    -- path t
    rw [← same_abs hb1]
    exact ⟨.inr rfl, (resL_tmp rfl resL_nil)⟩
theorem nDivMod_ok {x y : Int} (hx : Sz 1000 x) (hy : Sz 1000 y) (h0 : y ≠ 0) : Ok Tryz.prog 67 [dI x, dI y] [dI (x.fdiv y), dI (x.fmod y), .c (.i .i64 0)] := by
  have hq : Sz 900000 (q0 x y) := hx.q0.mono (by decide)
  have hr : Sz 900000 (r0 x y) := (hy.r0 h0).mono (by decide)
  have h1 : Sz 900000 (1 : Int) := Sz.small (by omega) (by omega) (by omega)
  have hy9 : Sz 900000 y := hy.mono (by decide)
  have hqq : Sz 1000000 ((x.natAbs : Int) / y.natAbs) := nq_sz hx
  have hrr : Sz 1000000 ((x.natAbs : Int) % y.natAbs) := nr_sz hy h0
  refine Ok.of (by kernel_rfl) Tryz.func67 rfl rfl ?_
  rw [show Tryz.f67.ntmps = 54 from rfl, show Tryz.f67.results.toList = [.cell 4 24, .cell 5 24, .tmp 6] from rfl]
  refine dw_seq ?_
  -- region 0
  refine dw_region (by kernel_rfl) ?_
  refine dl_new (sem_box_a rfl rfl) rfl ?_
  refine dl_new (sem_box_a rfl rfl) rfl ?_
  refine dl_new (sem_alloc zc24 rfl) rfl ?_
  refine dl_new (sem_alloc zc24 rfl) rfl ?_
  refine dl_r (sem_assign rfl rfl) ?_
  refine dl_end ?_
  refine dw_seq ?_
  refine dw_seq ?_
  -- region 1
  refine dw_region (by kernel_rfl) ?_
  refine dl_r (sem_field fd24_1 rfl rfl) ?_
  refine dl_r (sem_load1 ty22 rfl rfl rfl rfl) ?_
  refine dl_r (sem_len sl22 rfl rfl) ?_
  refine dl_r (sem_cmp rfl rfl rfl rfl) ?_
  refine dl_end ?_
  refine dw_cond rfl (fun hc1 => ?_) (fun hc1 => ?_)
  · exact absurd hc1 (by simp [lim_eq_nil, h0])
  · refine dw_skip ?_
    refine dw_seq ?_
    -- region 3
    refine dw_region (by kernel_rfl) ?_
    refine dl_r (sem_field fd24_1 rfl rfl) ?_
    refine dl_r (sem_load1 ty22 rfl rfl rfl rfl) ?_
    refine dl_r (sem_field fd24_1 rfl rfl) ?_
    refine dl_r (sem_load1 ty22 rfl rfl rfl rfl) ?_
    refine dl_r (sem_call rfl rfl (rParts_c (by assumption) (by assumption) (by assumption)) rfl) ?_
    refine dl_r (sem_move rfl rfl) ?_
    refine dl_r (sem_extract rfl rfl rfl) ?_
    refine dl_r (sem_extract rfl rfl rfl) ?_
    refine dl_r (sem_assign rfl rfl) ?_
    refine dl_r (sem_assign rfl rfl) ?_
    refine dl_end ?_
    refine dw_seq ?_
    -- region 4
    refine dw_draw 13 [] follows_mixed (by kernel_rfl) rfl rfl ?_
    refine dq_r (sem_field fd24_0 rfl rfl) ?_
    refine dq_r (sem_load1 ty4 rfl rfl rfl rfl) ?_
    refine dq_r (sem_field fd24_0 rfl rfl) ?_
    refine dq_r (sem_load1 ty4 rfl rfl rfl rfl) ?_
    refine dq_r (sem_bneq rfl rfl ty_bool rfl) ?_
    refine dq_r (sem_move rfl rfl) ?_
    refine dq_r (sem_call rfl rfl (rSigned_q0 hqq) rfl) ?_
    refine dq_r (sem_field fd24_0 rfl rfl) ?_
    refine dq_r (sem_load1 ty4 rfl rfl rfl rfl) ?_
    refine dq_r (sem_move rfl rfl) ?_
    refine dq_r (sem_call rfl rfl (rSigned_r0 h0 hrr) rfl) ?_
    refine dq_new (sem_alloc zc24 rfl) rfl ?_
    refine dq_new (sem_alloc zc24 rfl) rfl ?_
    refine dq_end ?_
    refine dl_start2 ?_
    refine dl_st (sem_store_a ty24 rfl rfl rfl rfl rfl rfl) ?_
    refine dl_st (sem_store_a ty24 rfl rfl rfl rfl rfl rfl) ?_
    refine dl_end ?_
    refine dw_seq ?_
    refine dw_seq ?_
    -- region 5
    refine dw_region (by kernel_rfl) ?_
    refine dl_r (sem_move rfl rfl) ?_
    refine dl_r (sem_len sl22 rfl rfl) ?_
    refine dl_r (sem_cmp rfl rfl rfl rfl) ?_
    refine dl_rb (sem_move rfl rfl) (fun c2 hb2 => ?_)
    cases c2
    · refine dl_skip (sem_skip rfl) ?_
      refine dl_skip (sem_skip rfl) ?_
      refine dl_skip (sem_skip rfl) ?_
      refine dl_skip (sem_skip rfl) ?_
      refine dl_skip (sem_skip rfl) ?_
      refine dl_r (sem_pick rfl rfl rfl rfl) ?_
      refine dl_end ?_
      refine dw_false rfl ?_
      refine dw_skip ?_
      refine dw_seq ?_
      -- region 7
      refine dw_draw 5 [4, 5] follows_mixed (by kernel_rfl) rfl rfl ?_
      refine dq_r (sem_load (us := cI (q0 x y)) ty24 rfl rfl rfl rfl rfl) ?_
      refine dq_r (sem_load (us := cI (r0 x y)) ty24 rfl rfl rfl rfl rfl) ?_
      refine dq_st (sem_store_a ty24 rfl rfl rfl rfl rfl rfl) rfl rfl rfl ?_
      refine dq_st (sem_store_a ty24 rfl rfl rfl rfl rfl rfl) rfl rfl rfl ?_
      refine dq_r (sem_assign rfl rfl) ?_
      refine dq_end ?_
      refine dl_start2 ?_
      refine dl_end ?_
      refine dw_ret ?_
      -- path Ff
      obtain ⟨e1, e2⟩ := dm_plain (x := x) h0 (.inl (r0_zero.1 (lenL_zero hb2)))
      rw [e1, e2]
      exact ⟨.inr rfl, (resL_cell (us := cI (q0 x y)) ty24 rfl rfl rfl rfl (resL_cell (us := cI (r0 x y)) ty24 rfl rfl rfl rfl (resL_tmp rfl resL_nil)))⟩
    · refine dl_r (sem_field fd24_0 rfl rfl) ?_
      refine dl_r (sem_load1 ty4 rfl rfl rfl rfl) ?_
      refine dl_r (sem_field fd24_0 rfl rfl) ?_
      refine dl_r (sem_load1 ty4 rfl rfl rfl rfl) ?_
      refine dl_r (sem_bneq rfl rfl ty_bool rfl) ?_
      refine dl_r (sem_pick rfl rfl rfl rfl) ?_
      refine dl_end ?_
      refine dw_cond rfl (fun hc3 => ?_) (fun hc3 => ?_)
      · -- region 6
        refine dw_draw 6 [] follows_mixed (by kernel_rfl) rfl rfl ?_
        refine dq_r (sem_load (us := cI (q0 x y)) ty24 rfl rfl rfl rfl rfl) ?_
        refine dq_r (sem_call rfl rfl (nFrom_ok (by omega) (by omega)) rfl) ?_
        refine dq_r (sem_call rfl rfl (nSub_ok (by assumption) (by assumption)) rfl) ?_
        refine dq_r (sem_load (us := cI (r0 x y)) ty24 rfl rfl rfl rfl rfl) ?_
        refine dq_r (sem_load (us := cI y) ty24 rfl rfl rfl rfl rfl) ?_
        refine dq_r (sem_call rfl rfl (nAdd_ok (by assumption) (by assumption)) rfl) ?_
        refine dq_end ?_
        refine dl_start0 ?_
        refine dl_st (sem_store_a ty24 rfl rfl rfl rfl rfl rfl) ?_
        refine dl_st (sem_store_a ty24 rfl rfl rfl rfl rfl rfl) ?_
        refine dl_end ?_
        refine dw_seq ?_
        -- region 7
        refine dw_draw 5 [4, 5] follows_mixed (by kernel_rfl) rfl rfl ?_
        refine dq_r (sem_load (us := cI ((q0 x y) - 1)) ty24 rfl rfl rfl rfl rfl) ?_
        refine dq_r (sem_load (us := cI ((r0 x y) + y)) ty24 rfl rfl rfl rfl rfl) ?_
        refine dq_st (sem_store_a ty24 rfl rfl rfl rfl rfl rfl) rfl rfl rfl ?_
        refine dq_st (sem_store_a ty24 rfl rfl rfl rfl rfl rfl) rfl rfl rfl ?_
        refine dq_r (sem_assign rfl rfl) ?_
        refine dq_end ?_
        refine dl_start2 ?_
        refine dl_end ?_
        refine dw_ret ?_
        -- path FtT
        obtain ⟨e1, e2⟩ := dm_shift (x := x) h0 (fun e => lenL_pos hb2 (r0_zero.2 e)) (by rw [r0_sign h0 (lenL_pos hb2)]; exact sgn_ne hc3)
        rw [e1, e2]
        exact ⟨.inr rfl, (resL_cell (us := cI ((q0 x y) - 1)) ty24 rfl rfl rfl rfl (resL_cell (us := cI ((r0 x y) + y)) ty24 rfl rfl rfl rfl (resL_tmp rfl resL_nil)))⟩
      · refine dw_skip ?_
        refine dw_seq ?_
        -- region 7
        refine dw_draw 5 [4, 5] follows_mixed (by kernel_rfl) rfl rfl ?_
        refine dq_r (sem_load (us := cI (q0 x y)) ty24 rfl rfl rfl rfl rfl) ?_
        refine dq_r (sem_load (us := cI (r0 x y)) ty24 rfl rfl rfl rfl rfl) ?_
        refine dq_st (sem_store_a ty24 rfl rfl rfl rfl rfl rfl) rfl rfl rfl ?_
        refine dq_st (sem_store_a ty24 rfl rfl rfl rfl rfl rfl) rfl rfl rfl ?_
        refine dq_r (sem_assign rfl rfl) ?_
        refine dq_end ?_
        refine dl_start2 ?_
        refine dl_end ?_
        refine dw_ret ?_
        -- path FtF
        obtain ⟨e1, e2⟩ := dm_plain (x := x) h0 (.inr (by rw [r0_sign h0 (lenL_pos hb2)]; exact sgn_eq hc3))
        rw [e1, e2]
        exact ⟨.inr rfl, (resL_cell (us := cI (q0 x y)) ty24 rfl rfl rfl rfl (resL_cell (us := cI (r0 x y)) ty24 rfl rfl rfl rfl (resL_tmp rfl resL_nil)))⟩
theorem nGCD_ok {x y : Int} (hx : Sz 1000 x) (hy : Sz 1000 y) : Ok Tryz.prog 53 [dI x, dI y] [dI (Int.gcd x y : Int)] := by
  refine Ok.of (by kernel_rfl) Tryz.func53 rfl rfl ?_
  rw [show Tryz.f53.ntmps = 54 from rfl, show Tryz.f53.results.toList = [.cell 4 24] from rfl]
  refine dw_seq ?_
  -- region 0
  refine dw_region (by kernel_rfl) ?_
  refine dl_new (sem_box_a rfl rfl) rfl ?_
  refine dl_new (sem_box_a rfl rfl) rfl ?_
  refine dl_new (sem_alloc zc24 rfl) rfl ?_
  refine dl_end ?_
  refine dw_seq ?_
  -- region 1
  refine dw_draw 6 [] follows_mixed (by kernel_rfl) rfl rfl ?_
  refine dq_r (sem_field fd24_1 rfl rfl) ?_
  refine dq_r (sem_load1 ty22 rfl rfl rfl rfl) ?_
  refine dq_r (sem_field fd24_1 rfl rfl) ?_
  refine dq_r (sem_load1 ty22 rfl rfl rfl rfl) ?_
  refine dq_r (sem_assign rfl rfl) ?_
  refine dq_r (sem_assign rfl rfl) ?_
  refine dq_end ?_
  refine dl_start0 ?_
  refine dl_end ?_
  refine dw_seq ?_
  refine dw_block ?_
  refine dw_loop (ι := {p : Int × Int // RG x y p.1 p.2}) (fun i => ⟨54, [(4, .p 4 0), (5, .v (.c (cL i.1.1))), (6, .v (.c (cL i.1.2)))], [(4, 24, ([.b false] ++ [.s 0 []]))]⟩) (fun i => i.1.2.toNat) ⟨((x.natAbs : Int), (y.natAbs : Int)), RG.start hx hy⟩ (sub_of ⟨rfl, by rw [cL_abs x]; rfl, by rw [cL_abs y]; rfl, trivial⟩ ⟨rfl, trivial⟩ rfl) ?_
  rintro ⟨⟨a, c⟩, hg⟩
  replace hg : RG x y a c := hg
  have ha := hg.sa
  have hcc := hg.sc
  have ha0 := hg.a0
  have hcc0 := hg.c0
  have ha6 : Sz 1000000 a := ha.mono (by decide)
  show Dw _ _ ⟨54, [(4, .p 4 0), (5, .v (.c (cL a))), (6, .v (.c (cL c)))], [(4, 24, ([.b false] ++ [.s 0 []]))]⟩ _
  refine dw_seq ?_
  refine dw_seq ?_
  -- region 2
  refine dw_region (by kernel_rfl) ?_
  refine dl_r (sem_move rfl rfl) ?_
  refine dl_r (sem_len sl22 rfl rfl) ?_
  refine dl_r (sem_cmp rfl rfl rfl rfl) ?_
  refine dl_rb (sem_move rfl rfl) (fun c1 hb1 => ?_)
  cases c1
  · refine dl_skip (sem_skip rfl) ?_
    refine dl_skip (sem_skip rfl) ?_
    refine dl_skip (sem_skip rfl) ?_
    refine dl_skip (sem_skip rfl) ?_
    refine dl_skip (sem_skip rfl) ?_
    refine dl_skip (sem_skip rfl) ?_
    refine dl_skip (sem_skip rfl) ?_
    refine dl_skip (sem_skip rfl) ?_
    refine dl_r (sem_pick rfl rfl rfl rfl) ?_
    refine dl_end ?_
    refine dw_false rfl ?_
    refine dw_exit ?_
    refine dw_seq ?_
    refine dw_seq ?_
    -- region 5
    refine dw_region (by kernel_rfl) ?_
    refine dl_r (sem_move rfl rfl) ?_
    refine dl_r (sem_len sl22 rfl rfl) ?_
    refine dl_r (sem_cmp rfl rfl rfl rfl) ?_
    refine dl_end ?_
    refine dw_cond rfl (fun hc2 => ?_) (fun hc2 => ?_)
    · refine dw_seq ?_
      -- region 6
      refine dw_region (by kernel_rfl) ?_
      refine dl_r (sem_move rfl rfl) ?_
      refine dl_r (sem_call rfl rfl (rSigned_c (by assumption)) rfl) ?_
      refine dl_st (sem_store_a ty24 rfl rfl rfl rfl rfl rfl) ?_
      refine dl_end ?_
      refine dw_ret ?_
      -- path fT
      rw [hg.done (lenL_zero hb1)]
      exact ⟨.inr rfl, (resL_cell (us := cI (sg false ((a.natAbs : Nat) : Int))) ty24 rfl rfl rfl rfl resL_nil)⟩
    · exact absurd hc2 (by simp [lim_eq_nil, lenL_zero hb1])
  · have hne := lenL_pos hb1
    refine dl_r (sem_move rfl rfl) ?_
    refine dl_r (sem_len sl22 rfl rfl) ?_
    refine dl_r (sem_cmp rfl rfl rfl rfl) ?_
    refine dl_rb (sem_move rfl rfl) (fun c3 hb3 => ?_)
    cases c3
    · have hwa := word_of hb3
      refine dl_r (sem_move rfl rfl) ?_
      refine dl_r (sem_len sl22 rfl rfl) ?_
      refine dl_r (sem_cmp rfl rfl rfl rfl) ?_
      refine dl_r (sem_pick rfl rfl rfl rfl) ?_
      refine dl_r (sem_pick rfl rfl rfl rfl) ?_
      refine dl_end ?_
      refine dw_cond rfl (fun hc4 => ?_) (fun hc4 => ?_)
      · refine dw_skip ?_
        refine dw_block ?_
        refine dw_seq ?_
        -- region 3
        refine dw_region (by kernel_rfl) ?_
        refine dl_r (sem_move rfl rfl) ?_
        refine dl_r (sem_move rfl rfl) ?_
        refine dl_r (sem_call rfl rfl (rParts_c (by assumption) (by assumption) (by assumption)) rfl) ?_
        refine dl_r (sem_move rfl rfl) ?_
        refine dl_r (sem_extract rfl rfl rfl) ?_
        refine dl_r (sem_extract rfl rfl rfl) ?_
        refine dl_r (sem_assign rfl rfl) ?_
        refine dl_r (sem_assign rfl rfl) ?_
        refine dl_end ?_
        -- region 4
        refine dw_region (by kernel_rfl) ?_
        refine dl_r (sem_move rfl rfl) ?_
        refine dl_r (sem_move rfl rfl) ?_
        refine dl_r (sem_assign rfl rfl) ?_
        refine dl_r (sem_assign rfl rfl) ?_
        refine dl_end ?_
        exact ⟨⟨(c, (a.natAbs : Int) % c.natAbs), hg.step hne⟩, sub_of ⟨rfl, rfl, rfl, trivial⟩ ⟨rfl, trivial⟩ rfl, hg.less hne⟩
      · have hwc := word_of hc4
        refine dw_exit ?_
        refine dw_seq ?_
        refine dw_seq ?_
        -- region 5
        refine dw_region (by kernel_rfl) ?_
        refine dl_r (sem_move rfl rfl) ?_
        refine dl_r (sem_len sl22 rfl rfl) ?_
        refine dl_r (sem_cmp rfl rfl rfl rfl) ?_
        refine dl_end ?_
        refine dw_cond rfl (fun hc5 => ?_) (fun hc5 => ?_)
        · exact absurd hc5 (by simp [lim_eq_nil, hne])
        · refine dw_skip ?_
          refine dw_seq ?_
          -- region 7
          refine dw_region (by kernel_rfl) ?_
          refine dl_r (sem_move rfl rfl) ?_
          refine dl_r (sem_call rfl rfl (rShort_c (by assumption)) rfl) ?_
          refine dl_r (sem_move rfl rfl) ?_
          refine dl_r (sem_call rfl rfl (rShort_c (by assumption)) rfl) ?_
          refine dl_r (sem_assign rfl rfl) ?_
          refine dl_r (sem_assign rfl rfl) ?_
          refine dl_end ?_
          refine dw_seq ?_
          refine dw_block ?_
          refine dw_loop (ι := {p : Int × Int // GInv2 x y p.1 p.2}) (fun i => ⟨54, [(4, .p 4 0), (9, .v (.c (.i .u64 i.1.1))), (10, .v (.c (.i .u64 i.1.2)))], [(4, 24, ([.b false] ++ [.s 0 []]))]⟩) (fun i => i.1.2.toNat) ⟨((a.natAbs : Int), (c.natAbs : Int)), hg.word hwa hwc⟩ (sub_of ⟨rfl, rfl, rfl, trivial⟩ ⟨rfl, trivial⟩ rfl) ?_
          rintro ⟨⟨u, v⟩, hw⟩
          replace hw : GInv2 x y u v := hw
          have hu0 := hw.u0
          have hu1 := hw.u1
          have hsu : Sz 1000000 u := Sz.small3 hu0 hu1
          show Dw _ _ ⟨54, [(4, .p 4 0), (9, .v (.c (.i .u64 u))), (10, .v (.c (.i .u64 v)))], [(4, 24, ([.b false] ++ [.s 0 []]))]⟩ _
          refine dw_seq ?_
          refine dw_seq ?_
          -- region 8
          refine dw_region (by kernel_rfl) ?_
          refine dl_r (sem_move rfl rfl) ?_
          refine dl_r (sem_cmp rfl rfl rfl rfl) ?_
          refine dl_end ?_
          refine dw_cond rfl (fun hc6 => ?_) (fun hc6 => ?_)
          · have hv : v > 0 := by simpa using hc6
            have hvn : v ≠ 0 := by omega
            refine dw_skip ?_
            refine dw_block ?_
            -- region 9
            refine dw_draw 6 [] follows_mixed (by kernel_rfl) rfl rfl ?_
            refine dq_r (sem_move rfl rfl) ?_
            refine dq_r (sem_move rfl rfl) ?_
            refine dq_r (sem_move rfl rfl) ?_
            refine dq_r (sem_rem rfl rfl (by omega) rfl) ?_
            refine dq_r (sem_assign rfl rfl) ?_
            refine dq_r (sem_assign rfl rfl) ?_
            refine dq_end ?_
            refine dl_start0 ?_
            refine dl_end ?_
            exact ⟨⟨(v, u.tmod v), hw.step hv⟩, sub_of ⟨rfl, rfl, rfl, trivial⟩ ⟨rfl, trivial⟩ rfl, hw.less hv⟩
          · refine dw_exit ?_
            refine dw_seq ?_
            -- region 10
            refine dw_region (by kernel_rfl) ?_
            refine dl_r (sem_move rfl rfl) ?_
            refine dl_r (sem_call rfl rfl (rLimbs_ok (by omega) (by omega)) rfl) ?_
            refine dl_r (sem_call rfl rfl (rSigned_c (by assumption)) rfl) ?_
            refine dl_st (sem_store_a ty24 rfl rfl rfl rfl rfl rfl) ?_
            refine dl_end ?_
            refine dw_ret ?_
            -- path tfFFF
            rw [hw.fin (by simpa using hc6)]
            exact ⟨.inr rfl, (resL_cell (us := cI (sg false ((u.natAbs : Nat) : Int))) ty24 rfl rfl rfl rfl resL_nil)⟩
    · refine dl_skip (sem_skip rfl) ?_
      refine dl_skip (sem_skip rfl) ?_
      refine dl_skip (sem_skip rfl) ?_
      refine dl_r (sem_pick rfl rfl rfl rfl) ?_
      refine dl_r (sem_pick rfl rfl rfl rfl) ?_
      refine dl_end ?_
      refine dw_true rfl ?_
      refine dw_skip ?_
      refine dw_block ?_
      refine dw_seq ?_
      -- region 3
      refine dw_region (by kernel_rfl) ?_
      refine dl_r (sem_move rfl rfl) ?_
      refine dl_r (sem_move rfl rfl) ?_
      refine dl_r (sem_call rfl rfl (rParts_c (by assumption) (by assumption) (by assumption)) rfl) ?_
      refine dl_r (sem_move rfl rfl) ?_
      refine dl_r (sem_extract rfl rfl rfl) ?_
      refine dl_r (sem_extract rfl rfl rfl) ?_
      refine dl_r (sem_assign rfl rfl) ?_
      refine dl_r (sem_assign rfl rfl) ?_
      refine dl_end ?_
      -- region 4
      refine dw_region (by kernel_rfl) ?_
      refine dl_r (sem_move rfl rfl) ?_
      refine dl_r (sem_move rfl rfl) ?_
      refine dl_r (sem_assign rfl rfl) ?_
      refine dl_r (sem_assign rfl rfl) ?_
      refine dl_end ?_
      exact ⟨⟨(c, (a.natAbs : Int) % c.natAbs), hg.step hne⟩, sub_of ⟨rfl, rfl, rfl, trivial⟩ ⟨rfl, trivial⟩ rfl, hg.less hne⟩
end Go.Proofs.YtcbjmiddangfoaaGreat
/- Square roots of integers, program and reference. -/
namespace Go.Proofs.YtcbjmiddangfoaaGreat
open Go Go.RowKit
theorem iSqrt_ok {x : Int} (hx : Sz 999999 x) : Ok Tryz.prog 109 [dI x] [dI (isqI x), .c (.i .i64 (if x < 0 then 7 else 0))] := by
  have h20 : (2 : Int) ≠ 0 := by decide
  have hl := lim_len hx
  have hs2 : Sz 1000000 (2 : Int) := Sz.small (by omega) (by omega) (by omega)
  refine Ok.of (by kernel_rfl) Tryz.func109 rfl rfl ?_
  rw [show Tryz.f109.ntmps = 54 from rfl, show Tryz.f109.results.toList = [.cell 2 24, .tmp 3] from rfl]
  refine dw_seq ?_
  -- region 0
  refine dw_region (by kernel_rfl) ?_
  refine dl_new (sem_box_a rfl rfl) rfl ?_
  refine dl_new (sem_alloc zc24 rfl) rfl ?_
  refine dl_r (sem_assign rfl rfl) ?_
  refine dl_end ?_
  refine dw_seq ?_
  refine dw_seq ?_
  -- region 1
  refine dw_region (by kernel_rfl) ?_
  refine dl_r (sem_field fd24_0 rfl rfl) ?_
  refine dl_r (sem_load1 ty4 rfl rfl rfl rfl) ?_
  refine dl_end ?_
  refine dw_cond rfl (fun hc1 => ?_) (fun hc1 => ?_)
  · have hn : x < 0 := by simpa using hc1
    refine dw_seq ?_
    -- region 2
    refine dw_region (by kernel_rfl) ?_
    refine dl_r (sem_build (us := ([.b false] ++ [.s 0 []])) fs24 zc24 rfl rfl rfl) ?_
    refine dl_st (sem_store_a ty24 rfl rfl rfl rfl rfl rfl) ?_
    refine dl_r (sem_assign rfl rfl) ?_
    refine dl_end ?_
    refine dw_ret ?_
    -- path T
    rw [isqI_neg hn, if_pos hn, dI_zero]
    exact ⟨.inr rfl, (resL_cell (us := ([.b false] ++ [.s 0 []])) ty24 rfl rfl rfl rfl (resL_tmp rfl resL_nil))⟩
  · have hn : 0 ≤ x := by have := hc1; simp at this; omega
    refine dw_skip ?_
    refine dw_seq ?_
    refine dw_seq ?_
    -- region 3
    refine dw_region (by kernel_rfl) ?_
    refine dl_r (sem_field fd24_1 rfl rfl) ?_
    refine dl_r (sem_load1 ty22 rfl rfl rfl rfl) ?_
    refine dl_r (sem_len sl22 rfl rfl) ?_
    refine dl_r (sem_cmp rfl rfl rfl rfl) ?_
    refine dl_end ?_
    refine dw_cond rfl (fun hc2 => ?_) (fun hc2 => ?_)
    · have hz : x = 0 := by have := hc2; simp [lim_eq_nil] at this; omega
      refine dw_seq ?_
      -- region 4
      refine dw_region (by kernel_rfl) ?_
      refine dl_r (sem_build (us := ([.b false] ++ [.s 0 []])) fs24 zc24 rfl rfl rfl) ?_
      refine dl_st (sem_store_a ty24 rfl rfl rfl rfl rfl rfl) ?_
      refine dl_r (sem_assign rfl rfl) ?_
      refine dl_end ?_
      refine dw_ret ?_
      -- path FT
      rw [hz, isqI_zero, dI_zero, if_neg (by omega)]
      exact ⟨.inr rfl, (resL_cell (us := ([.b false] ++ [.s 0 []])) ty24 rfl rfl rfl rfl (resL_tmp rfl resL_nil))⟩
    · have hx0 : 0 < x := by have := hc2; simp [lim_eq_nil] at this; omega
      obtain ⟨k, hk⟩ : ∃ k : Nat, ((lim x.natAbs).length + 1) / 2 = k := ⟨_, rfl⟩
      have hpk := pw_pos k
      have hpc : cL (pw k) = cL (pw k) := rfl
      refine dw_skip ?_
      refine dw_seq ?_
      -- region 5
      refine dw_region (by kernel_rfl) ?_
      refine dl_r (sem_field fd24_1 rfl rfl) ?_
      refine dl_r (sem_load1 ty22 rfl rfl rfl rfl) ?_
      refine dl_r (sem_len sl22 rfl rfl) ?_
      refine dl_r (sem_ari (r := (((lim x.natAbs).length : Int)) + 1) rfl rfl (ari_i64_add (by omega) (by omega)) rfl) ?_
      refine dl_r (sem_quo' (r := (k : Int)) rfl rfl (by omega) (by rw [Int.tdiv_eq_ediv_of_nonneg (by omega), show (((lim x.natAbs).length : Int) + 1) / 2 = (k : Int) from by omega]; exact nw64 (by omega) (by omega)) rfl) ?_
      refine dl_r (sem_assign rfl rfl) ?_
      refine dl_end ?_
      refine dw_seq ?_
      -- region 6
      refine dw_region (by kernel_rfl) ?_
      refine dl_r (sem_move rfl rfl) ?_
      refine dl_mk (sem_make (n := k) el22 rfl rfl (by omega) (by omega) rfl) rfl ?_
      refine dl_r (sem_slit_M el22 rfl rfl) ?_
      refine dl_c (sem_append_pw el22 rfl rfl rfl (by omega) rfl) ?_
      refine dl_r (sem_call rfl rfl (iSigned_cL) rfl) ?_
      refine dl_new (sem_alloc zc24 rfl) rfl ?_
      refine dl_st (sem_store_a ty24 rfl rfl rfl rfl rfl rfl) ?_
      refine dl_end ?_
      refine dw_seq ?_
      -- region 7
      refine dw_region (by kernel_rfl) ?_
      refine dl_r (sem_call rfl rfl (iFrom_ok (by omega) (by omega)) rfl) ?_
      refine dl_new (sem_alloc zc24 rfl) rfl ?_
      refine dl_st (sem_store_a ty24 rfl rfl rfl rfl rfl rfl) ?_
      refine dl_end ?_
      refine dw_block ?_
      refine dw_loop (ι := {r : Int // NInv 999999 x r}) (fun i => ⟨54, [(1, .p 1 0), (2, .p 2 0), (3, .v (.c (.i .i64 0))), (5, .p 5 0), (6, .p 6 0)], [(1, 24, cI x), (2, 24, ([.b false] ++ [.s 0 []])), (5, 24, cI i.1), (6, 24, cI 2)]⟩) (fun i => i.1.toNat) ⟨pw k, NInv.start hx0 hx hk (by omega)⟩ (sub_of ⟨rfl, rfl, rfl, rfl, rfl, trivial⟩ ⟨rfl, rfl, by rw [show sg false (((pw k).natAbs : Nat) : Int) = pw k from by rw [sg_false]; have := pw_pos k; omega]; rfl, rfl, trivial⟩ rfl) ?_
      rintro ⟨r, hg⟩
      replace hg : NInv 999999 x r := hg
      have hsr := hg.sz
      have hr0 := hg.r0
      have hrn : r ≠ 0 := by omega
      obtain ⟨hsq, hsum, hsn⟩ := hg.sum hx hx0
      have a1 : Sz 1000000 r := hsr.mono (by decide)
      have a2 : Sz 1000000 (x.fdiv r) := hsq.mono (by decide)
      have a3 : Sz 1000000 x := hx.mono (by decide)
      show Dw _ _ ⟨54, [(1, .p 1 0), (2, .p 2 0), (3, .v (.c (.i .i64 0))), (5, .p 5 0), (6, .p 6 0)], [(1, 24, cI x), (2, 24, ([.b false] ++ [.s 0 []])), (5, 24, cI r), (6, 24, cI 2)]⟩ _
      refine dw_block ?_
      refine dw_seq ?_
      -- region 8
      refine dw_region (by kernel_rfl) ?_
      refine dl_r (sem_load (us := cI x) ty24 rfl rfl rfl rfl rfl) ?_
      refine dl_r (sem_load (us := cI r) ty24 rfl rfl rfl rfl rfl) ?_
      refine dl_r (sem_call rfl rfl (iDivMod_ok (by assumption) (by assumption) (by assumption)) rfl) ?_
      refine dl_r (sem_move rfl rfl) ?_
      refine dl_r (sem_extract rfl rfl rfl) ?_
      refine dl_r (sem_extract rfl rfl rfl) ?_
      refine dl_r (sem_extract rfl rfl rfl) ?_
      refine dl_new (sem_alloc zc24 rfl) rfl ?_
      refine dl_new (sem_alloc zc24 rfl) rfl ?_
      refine dl_st (sem_store_a ty24 rfl rfl rfl rfl rfl rfl) ?_
      refine dl_st (sem_store_a ty24 rfl rfl rfl rfl rfl rfl) ?_
      refine dl_r (sem_assign rfl rfl) ?_
      refine dl_end ?_
      refine dw_seq ?_
      -- region 9
      refine dw_draw 14 [10, 11] follows_mixed (by kernel_rfl) rfl rfl ?_
      refine dq_r (sem_load (us := cI r) ty24 rfl rfl rfl rfl rfl) ?_
      refine dq_r (sem_load (us := cI (x.fdiv r)) ty24 rfl rfl rfl rfl rfl) ?_
      refine dq_r (sem_call rfl rfl (iAdd_ok (by assumption) (by assumption)) rfl) ?_
      refine dq_r (sem_load (us := cI 2) ty24 rfl rfl rfl rfl rfl) ?_
      refine dq_r (sem_call rfl rfl (iDivMod_ok (by assumption) (by assumption) (by assumption)) rfl) ?_
      refine dq_r (sem_move rfl rfl) ?_
      refine dq_r (sem_extract rfl rfl rfl) ?_
      refine dq_r (sem_extract rfl rfl rfl) ?_
      refine dq_r (sem_extract rfl rfl rfl) ?_
      refine dq_new (sem_alloc zc24 rfl) rfl ?_
      refine dq_new (sem_alloc zc24 rfl) rfl ?_
      refine dq_sn (sem_store_a ty24 rfl rfl rfl rfl rfl rfl) rfl rfl rfl ?_
      refine dq_sn (sem_store_a ty24 rfl rfl rfl rfl rfl rfl) rfl rfl rfl ?_
      refine dq_r (sem_assign rfl rfl) ?_
      refine dq_end ?_
      refine dl_start4 ?_
      refine dl_end ?_
      refine dw_seq ?_
      refine dw_seq ?_
      -- region 10
      refine dw_region (by kernel_rfl) ?_
      refine dl_r (sem_load (us := cI ((r + (x.fdiv r)).fdiv 2)) ty24 rfl rfl rfl rfl rfl) ?_
      refine dl_r (sem_load (us := cI r) ty24 rfl rfl rfl rfl rfl) ?_
      refine dl_r (sem_call rfl rfl (iCmp_ok) rfl) ?_
      refine dl_r (sem_cmp rfl rfl rfl rfl) ?_
      refine dl_end ?_
      refine dw_cond rfl (fun hc3 => ?_) (fun hc3 => ?_)
      · have hst := cmpI_ge hc3
        refine dw_seq ?_
        -- region 11
        refine dw_region (by kernel_rfl) ?_
        refine dl_r (sem_load (us := cI r) ty24 rfl rfl rfl rfl rfl) ?_
        refine dl_st (sem_store_a ty24 rfl rfl rfl rfl rfl rfl) ?_
        refine dl_r (sem_assign rfl rfl) ?_
        refine dl_end ?_
        refine dw_ret ?_
        -- path FFT
        rw [hg.done hx0 hst, if_neg (by omega)]
        exact ⟨.inr rfl, (resL_cell (us := cI r) ty24 rfl rfl rfl rfl (resL_tmp rfl resL_nil))⟩
      · have hlt := cmpI_lt hc3
        refine dw_skip ?_
        -- region 12
        refine dw_region (by kernel_rfl) ?_
        refine dl_r (sem_load (us := cI ((r + (x.fdiv r)).fdiv 2)) ty24 rfl rfl rfl rfl rfl) ?_
        refine dl_st (sem_store_a ty24 rfl rfl rfl rfl rfl rfl) ?_
        refine dl_end ?_
        exact ⟨⟨(r + x.fdiv r).fdiv 2, hg.next hx0 hlt⟩, sub_of ⟨rfl, rfl, rfl, rfl, rfl, trivial⟩ ⟨rfl, rfl, rfl, rfl, trivial⟩ rfl, by show ((r + x.fdiv r).fdiv 2).toNat < r.toNat; omega⟩
theorem nSqrt_ok {x : Int} (hx : Sz 999 x) : Ok Tryz.prog 105 [dI x] [dI (isqI x), .c (.i .i64 (if x < 0 then 7 else 0))] := by
  have h20 : (2 : Int) ≠ 0 := by decide
  have hl := lim_len hx
  have hs2 : Sz 1000 (2 : Int) := Sz.small (by omega) (by omega) (by omega)
  refine Ok.of (by kernel_rfl) Tryz.func105 rfl rfl ?_
  rw [show Tryz.f105.ntmps = 52 from rfl, show Tryz.f105.results.toList = [.cell 2 24, .tmp 3] from rfl]
  refine dw_seq ?_
  -- region 0
  refine dw_region (by kernel_rfl) ?_
  refine dl_new (sem_box_a rfl rfl) rfl ?_
  refine dl_new (sem_alloc zc24 rfl) rfl ?_
  refine dl_r (sem_assign rfl rfl) ?_
  refine dl_end ?_
  refine dw_seq ?_
  refine dw_seq ?_
  -- region 1
  refine dw_region (by kernel_rfl) ?_
  refine dl_r (sem_field fd24_0 rfl rfl) ?_
  refine dl_r (sem_load1 ty4 rfl rfl rfl rfl) ?_
  refine dl_end ?_
  refine dw_cond rfl (fun hc1 => ?_) (fun hc1 => ?_)
  · have hn : x < 0 := by simpa using hc1
    refine dw_seq ?_
    -- region 2
    refine dw_region (by kernel_rfl) ?_
    refine dl_r (sem_build (us := ([.b false] ++ [.s 0 []])) fs24 zc24 rfl rfl rfl) ?_
    refine dl_st (sem_store_a ty24 rfl rfl rfl rfl rfl rfl) ?_
    refine dl_r (sem_assign rfl rfl) ?_
    refine dl_end ?_
    refine dw_ret ?_
    -- path T
    rw [isqI_neg hn, if_pos hn, dI_zero]
    exact ⟨.inr rfl, (resL_cell (us := ([.b false] ++ [.s 0 []])) ty24 rfl rfl rfl rfl (resL_tmp rfl resL_nil))⟩
  · have hn : 0 ≤ x := by have := hc1; simp at this; omega
    refine dw_skip ?_
    refine dw_seq ?_
    refine dw_seq ?_
    -- region 3
    refine dw_region (by kernel_rfl) ?_
    refine dl_r (sem_field fd24_1 rfl rfl) ?_
    refine dl_r (sem_load1 ty22 rfl rfl rfl rfl) ?_
    refine dl_r (sem_len sl22 rfl rfl) ?_
    refine dl_r (sem_cmp rfl rfl rfl rfl) ?_
    refine dl_end ?_
    refine dw_cond rfl (fun hc2 => ?_) (fun hc2 => ?_)
    · have hz : x = 0 := by have := hc2; simp [lim_eq_nil] at this; omega
      refine dw_seq ?_
      -- region 4
      refine dw_region (by kernel_rfl) ?_
      refine dl_r (sem_build (us := ([.b false] ++ [.s 0 []])) fs24 zc24 rfl rfl rfl) ?_
      refine dl_st (sem_store_a ty24 rfl rfl rfl rfl rfl rfl) ?_
      refine dl_r (sem_assign rfl rfl) ?_
      refine dl_end ?_
      refine dw_ret ?_
      -- path FT
      rw [hz, isqI_zero, dI_zero, if_neg (by omega)]
      exact ⟨.inr rfl, (resL_cell (us := ([.b false] ++ [.s 0 []])) ty24 rfl rfl rfl rfl (resL_tmp rfl resL_nil))⟩
    · have hx0 : 0 < x := by have := hc2; simp [lim_eq_nil] at this; omega
      obtain ⟨k, hk⟩ : ∃ k : Nat, ((lim x.natAbs).length + 1) / 2 = k := ⟨_, rfl⟩
      have hpk := pw_pos k
      have hpc : cL (pw k) = cL (pw k) := rfl
      refine dw_skip ?_
      refine dw_seq ?_
      -- region 5
      refine dw_region (by kernel_rfl) ?_
      refine dl_r (sem_field fd24_1 rfl rfl) ?_
      refine dl_r (sem_load1 ty22 rfl rfl rfl rfl) ?_
      refine dl_r (sem_len sl22 rfl rfl) ?_
      refine dl_r (sem_ari (r := (((lim x.natAbs).length : Int)) + 1) rfl rfl (ari_i64_add (by omega) (by omega)) rfl) ?_
      refine dl_r (sem_quo' (r := (k : Int)) rfl rfl (by omega) (by rw [Int.tdiv_eq_ediv_of_nonneg (by omega), show (((lim x.natAbs).length : Int) + 1) / 2 = (k : Int) from by omega]; exact nw64 (by omega) (by omega)) rfl) ?_
      refine dl_mk (sem_make (n := k) el22 rfl rfl (by omega) (by omega) rfl) rfl ?_
      refine dl_r (sem_slit_M el22 rfl rfl) ?_
      refine dl_c (sem_append_pw el22 rfl rfl rfl (by omega) rfl) ?_
      refine dl_r (sem_build (us := ([.b false] ++ [cL (pw k)])) fs24 zc24 rfl rfl rfl) ?_
      refine dl_new (sem_alloc zc24 rfl) rfl ?_
      refine dl_st (sem_store_a ty24 rfl rfl rfl rfl rfl rfl) ?_
      refine dl_end ?_
      refine dw_seq ?_
      -- region 6
      refine dw_region (by kernel_rfl) ?_
      refine dl_r (sem_call rfl rfl (nFrom_ok (by omega) (by omega)) rfl) ?_
      refine dl_new (sem_alloc zc24 rfl) rfl ?_
      refine dl_st (sem_store_a ty24 rfl rfl rfl rfl rfl rfl) ?_
      refine dl_end ?_
      refine dw_block ?_
      refine dw_loop (ι := {r : Int // NInv 999 x r}) (fun i => ⟨52, [(1, .p 1 0), (2, .p 2 0), (3, .v (.c (.i .i64 0))), (4, .p 4 0), (5, .p 5 0)], [(1, 24, cI x), (2, 24, ([.b false] ++ [.s 0 []])), (4, 24, cI i.1), (5, 24, cI 2)]⟩) (fun i => i.1.toNat) ⟨pw k, NInv.start hx0 hx hk (by omega)⟩ (sub_of ⟨rfl, rfl, rfl, rfl, rfl, trivial⟩ ⟨rfl, rfl, by rw [cI_nn (by have := pw_pos k; omega)]; rfl, rfl, trivial⟩ rfl) ?_
      rintro ⟨r, hg⟩
      replace hg : NInv 999 x r := hg
      have hsr := hg.sz
      have hr0 := hg.r0
      have hrn : r ≠ 0 := by omega
      obtain ⟨hsq, hsum, hsn⟩ := hg.sum hx hx0
      have a1 : Sz 1000 r := hsr.mono (by decide)
      have a2 : Sz 900000 (x.fdiv r) := hsq.mono (by decide)
      have a3 : Sz 1000 x := hx.mono (by decide)
      have a4 : Sz 900000 r := hsr.mono (by decide)
      have a5 : Sz 1000000 r := hsr.mono (by decide)
      have a6 : Sz 1000000 ((r + x.fdiv r).fdiv 2) := hsn.mono (by decide)
      show Dw _ _ ⟨52, [(1, .p 1 0), (2, .p 2 0), (3, .v (.c (.i .i64 0))), (4, .p 4 0), (5, .p 5 0)], [(1, 24, cI x), (2, 24, ([.b false] ++ [.s 0 []])), (4, 24, cI r), (5, 24, cI 2)]⟩ _
      refine dw_block ?_
      refine dw_seq ?_
      -- region 7
      refine dw_region (by kernel_rfl) ?_
      refine dl_r (sem_load (us := cI x) ty24 rfl rfl rfl rfl rfl) ?_
      refine dl_r (sem_load (us := cI r) ty24 rfl rfl rfl rfl rfl) ?_
      refine dl_r (sem_call rfl rfl (nDivMod_ok (by assumption) (by assumption) (by assumption)) rfl) ?_
      refine dl_r (sem_move rfl rfl) ?_
      refine dl_r (sem_extract rfl rfl rfl) ?_
      refine dl_r (sem_extract rfl rfl rfl) ?_
      refine dl_r (sem_extract rfl rfl rfl) ?_
      refine dl_new (sem_alloc zc24 rfl) rfl ?_
      refine dl_new (sem_alloc zc24 rfl) rfl ?_
      refine dl_st (sem_store_a ty24 rfl rfl rfl rfl rfl rfl) ?_
      refine dl_st (sem_store_a ty24 rfl rfl rfl rfl rfl rfl) ?_
      refine dl_r (sem_assign rfl rfl) ?_
      refine dl_end ?_
      refine dw_seq ?_
      -- region 8
      refine dw_draw 14 [9, 10] follows_mixed (by kernel_rfl) rfl rfl ?_
      refine dq_r (sem_load (us := cI r) ty24 rfl rfl rfl rfl rfl) ?_
      refine dq_r (sem_load (us := cI (x.fdiv r)) ty24 rfl rfl rfl rfl rfl) ?_
      refine dq_r (sem_call rfl rfl (nAdd_ok (by assumption) (by assumption)) rfl) ?_
      refine dq_r (sem_load (us := cI 2) ty24 rfl rfl rfl rfl rfl) ?_
      refine dq_r (sem_call rfl rfl (nDivMod_ok (by assumption) (by assumption) (by assumption)) rfl) ?_
      refine dq_r (sem_move rfl rfl) ?_
      refine dq_r (sem_extract rfl rfl rfl) ?_
      refine dq_r (sem_extract rfl rfl rfl) ?_
      refine dq_r (sem_extract rfl rfl rfl) ?_
      refine dq_new (sem_alloc zc24 rfl) rfl ?_
      refine dq_new (sem_alloc zc24 rfl) rfl ?_
      refine dq_sn (sem_store_a ty24 rfl rfl rfl rfl rfl rfl) rfl rfl rfl ?_
      refine dq_sn (sem_store_a ty24 rfl rfl rfl rfl rfl rfl) rfl rfl rfl ?_
      refine dq_r (sem_assign rfl rfl) ?_
      refine dq_end ?_
      refine dl_start4 ?_
      refine dl_end ?_
      refine dw_seq ?_
      refine dw_seq ?_
      -- region 9
      refine dw_region (by kernel_rfl) ?_
      refine dl_r (sem_load (us := cI ((r + (x.fdiv r)).fdiv 2)) ty24 rfl rfl rfl rfl rfl) ?_
      refine dl_r (sem_load (us := cI r) ty24 rfl rfl rfl rfl rfl) ?_
      refine dl_r (sem_call rfl rfl (nCmp_ok (by assumption) (by assumption)) rfl) ?_
      refine dl_r (sem_cmp rfl rfl rfl rfl) ?_
      refine dl_end ?_
      refine dw_cond rfl (fun hc3 => ?_) (fun hc3 => ?_)
      · have hst := cmpI_ge hc3
        refine dw_seq ?_
        -- region 10
        refine dw_region (by kernel_rfl) ?_
        refine dl_r (sem_load (us := cI r) ty24 rfl rfl rfl rfl rfl) ?_
        refine dl_st (sem_store_a ty24 rfl rfl rfl rfl rfl rfl) ?_
        refine dl_r (sem_assign rfl rfl) ?_
        refine dl_end ?_
        refine dw_ret ?_
        -- path FFT
        rw [hg.done hx0 hst, if_neg (by omega)]
        exact ⟨.inr rfl, (resL_cell (us := cI r) ty24 rfl rfl rfl rfl (resL_tmp rfl resL_nil))⟩
      · have hlt := cmpI_lt hc3
        refine dw_skip ?_
        -- region 11
        refine dw_region (by kernel_rfl) ?_
        refine dl_r (sem_load (us := cI ((r + (x.fdiv r)).fdiv 2)) ty24 rfl rfl rfl rfl rfl) ?_
        refine dl_st (sem_store_a ty24 rfl rfl rfl rfl rfl rfl) ?_
        refine dl_end ?_
        exact ⟨⟨(r + x.fdiv r).fdiv 2, hg.next hx0 hlt⟩, sub_of ⟨rfl, rfl, rfl, rfl, rfl, trivial⟩ ⟨rfl, rfl, rfl, rfl, trivial⟩ rfl, by show ((r + x.fdiv r).fdiv 2).toNat < r.toNat; omega⟩
end Go.Proofs.YtcbjmiddangfoaaGreat
/- Package rational: the small functions. -/
namespace Go.Proofs.YtcbjmiddangfoaaGreat
open Go Go.RowKit
theorem unit_ok  : Ok Tryz.prog 97 [] [dI 1] := by
  refine Ok.of (by kernel_rfl) Tryz.func97 rfl rfl ?_
  rw [show Tryz.f97.ntmps = 2 from rfl, show Tryz.f97.results.toList = [.cell 0 24] from rfl]
  refine dw_seq ?_
  -- region 0
  refine dw_region (by kernel_rfl) ?_
  refine dl_new (sem_alloc zc24 rfl) rfl ?_
  refine dl_end ?_
  refine dw_seq ?_
  -- region 1
  refine dw_region (by kernel_rfl) ?_
  refine dl_r (sem_call rfl rfl (iFrom_ok (by omega) (by omega)) rfl) ?_
  refine dl_st (sem_store_a ty24 rfl rfl rfl rfl rfl rfl) ?_
  refine dl_end ?_
  refine dw_ret ?_
  -- path 
  exact ⟨.inr rfl, (resL_cell (us := cI 1) ty24 rfl rfl rfl rfl resL_nil)⟩
theorem rSign_ok {x : Rat} : Ok Tryz.prog 26 [dR x] [.c (.i .i64 (cmpI x.num 0))] := by
  refine Ok.of (by kernel_rfl) Tryz.func26 rfl rfl ?_
  rw [show Tryz.f26.ntmps = 6 from rfl, show Tryz.f26.results.toList = [.tmp 2] from rfl]
  refine dw_seq ?_
  -- region 0
  refine dw_region (by kernel_rfl) ?_
  refine dl_new (sem_box_a rfl rfl) rfl ?_
  refine dl_r (sem_assign rfl rfl) ?_
  refine dl_end ?_
  refine dw_seq ?_
  -- region 1
  refine dw_region (by kernel_rfl) ?_
  refine dl_r (sem_field fd26_0 rfl rfl) ?_
  refine dl_r (sem_load (us := cI x.num) ty24 rfl rfl rfl rfl rfl) ?_
  refine dl_r (sem_call rfl rfl (iSign_ok) rfl) ?_
  refine dl_r (sem_assign rfl rfl) ?_
  refine dl_end ?_
  refine dw_ret ?_
  -- path 
  exact ⟨.inr rfl, (resL_tmp rfl resL_nil)⟩
theorem isNaN_ok {m : Int} : Ok Tryz.prog 106 [.c (.i .i64 m)] [.c (.b false)] := by
  refine Ok.of (by kernel_rfl) Tryz.func106 rfl rfl ?_
  rw [show Tryz.f106.ntmps = 6 from rfl, show Tryz.f106.results.toList = [.tmp 2] from rfl]
  refine dw_seq ?_
  -- region 0
  refine dw_region (by kernel_rfl) ?_
  refine dl_r (sem_assign rfl rfl) ?_
  refine dl_end ?_
  refine dw_seq ?_
  -- region 1
  refine dw_region (by kernel_rfl) ?_
  refine dl_r (sem_move rfl rfl) ?_
  refine dl_r (sem_move rfl rfl) ?_
  refine dl_r (sem_cmp rfl rfl rfl rfl) ?_
  refine dl_r (sem_assign rfl rfl) ?_
  refine dl_end ?_
  refine dw_ret ?_
  -- path 
  exact ⟨.inr rfl, by simpa using (resL_tmp rfl resL_nil)⟩
end Go.Proofs.YtcbjmiddangfoaaGreat
/- cmp.Compare at int. -/
namespace Go.Proofs.YtcbjmiddangfoaaGreat
open Go Go.RowKit
theorem cmpInt_ok {m n : Int} : Ok Tryz.prog 71 [.c (.i .i64 m), .c (.i .i64 n)] [.c (.i .i64 (cmpI m n))] := by
  refine Ok.of (by kernel_rfl) Tryz.func71 rfl rfl ?_
  rw [show Tryz.f71.ntmps = 20 from rfl, show Tryz.f71.results.toList = [.tmp 4] from rfl]
  refine dw_seq ?_
  -- region 0
  refine dw_region (by kernel_rfl) ?_
  refine dl_r (sem_assign rfl rfl) ?_
  refine dl_end ?_
  refine dw_seq ?_
  -- region 1
  refine dw_region (by kernel_rfl) ?_
  refine dl_r (sem_move rfl rfl) ?_
  refine dl_r (sem_call rfl rfl (isNaN_ok) rfl) ?_
  refine dl_r (sem_assign rfl rfl) ?_
  refine dl_end ?_
  refine dw_seq ?_
  -- region 2
  refine dw_region (by kernel_rfl) ?_
  refine dl_r (sem_move rfl rfl) ?_
  refine dl_r (sem_call rfl rfl (isNaN_ok) rfl) ?_
  refine dl_r (sem_assign rfl rfl) ?_
  refine dl_end ?_
  refine dw_seq ?_
  refine dw_seq ?_
  -- region 3
  refine dw_region (by kernel_rfl) ?_
  refine dl_r (sem_move rfl rfl) ?_
  refine dl_end ?_
  refine dw_false rfl ?_
  refine dw_skip ?_
  refine dw_seq ?_
  refine dw_seq ?_
  -- region 7
  refine dw_region (by kernel_rfl) ?_
  refine dl_r (sem_move rfl rfl) ?_
  refine dl_end ?_
  refine dw_false rfl ?_
  refine dw_skip ?_
  refine dw_seq ?_
  refine dw_seq ?_
  -- region 9
  refine dw_region (by kernel_rfl) ?_
  refine dl_r (sem_move rfl rfl) ?_
  refine dl_r (sem_move rfl rfl) ?_
  refine dl_r (sem_cmp rfl rfl rfl rfl) ?_
  refine dl_end ?_
  refine dw_cond rfl (fun hc1 => ?_) (fun hc1 => ?_)
  · refine dw_seq ?_
    -- region 10
    refine dw_region (by kernel_rfl) ?_
    refine dl_r (sem_assign rfl rfl) ?_
    refine dl_end ?_
    refine dw_ret ?_
    -- path T
    rw [cmp_lt (by simpa using hc1)]
    exact ⟨.inr rfl, (resL_tmp rfl resL_nil)⟩
  · refine dw_skip ?_
    refine dw_seq ?_
    refine dw_seq ?_
    -- region 11
    refine dw_region (by kernel_rfl) ?_
    refine dl_r (sem_move rfl rfl) ?_
    refine dl_r (sem_move rfl rfl) ?_
    refine dl_r (sem_cmp rfl rfl rfl rfl) ?_
    refine dl_end ?_
    refine dw_cond rfl (fun hc2 => ?_) (fun hc2 => ?_)
    · refine dw_seq ?_
      -- region 12
      refine dw_region (by kernel_rfl) ?_
      refine dl_r (sem_assign rfl rfl) ?_
      refine dl_end ?_
      refine dw_ret ?_
      -- path FT
      rw [cmp_gt (by simpa using hc2)]
      exact ⟨.inr rfl, (resL_tmp rfl resL_nil)⟩
    · refine dw_skip ?_
      refine dw_seq ?_
      -- region 13
      refine dw_region (by kernel_rfl) ?_
      refine dl_r (sem_assign rfl rfl) ?_
      refine dl_end ?_
      refine dw_ret ?_
      -- path FF
      rw [cmp_eq (by have := hc1; have h2 := hc2; simp at this h2; omega)]
      exact ⟨.inr rfl, (resL_tmp rfl resL_nil)⟩
end Go.Proofs.YtcbjmiddangfoaaGreat
