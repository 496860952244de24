/- Few of 1: fractions of at most two limbs. -/
import Derived.Test.YtcbjmiddangfoaaGreatRaM
namespace Go.Proofs.YtcbjmiddangfoaaGreat
open Go Go.RowKit
theorem few1_0 {r0 : RN} (wr0 : r0.Wf) (hk : r0.s 2 = false) : Ok Tryz.prog 8 [.c (.s 1 (cN r0))] [.c (.b false)] := by
  refine Ok.of (by kernel_rfl) Tryz.func8 rfl rfl ?_
  rw [show Tryz.f8.ntmps = 36 from rfl, show Tryz.f8.results.toList = [.tmp 2] from rfl]
  refine dw_seq ?_
  -- region 0
  refine dw_region (by kernel_rfl) ?_
  refine dl_r (sem_assign rfl rfl) ?_
  refine dl_end ?_
  refine dw_seq ?_
  refine dw_seq ?_
  -- region 1
  refine dw_region (by kernel_rfl) ?_
  refine dl_r (sem_assign rfl rfl) ?_
  refine dl_end ?_
  refine dw_block ?_
  refine dw_loop (ι := Nat) (fun i => match i with | _ => ⟨36, [(0, .v (.c (.s 1 (cN r0)))), (2, .v (.c (.b false))), (3, .v (.c (.i .i64 0)))], []⟩) (fun i => 0 - i) 0 (sub_of ⟨rfl, rfl, rfl, trivial⟩ trivial rfl) ?_
  intro i
  match i with
  | _ =>
    show Dw _ _ ⟨36, [(0, .v (.c (.s 1 (cN r0)))), (2, .v (.c (.b false))), (3, .v (.c (.i .i64 0)))], []⟩ _
    refine dw_seq ?_
    refine dw_seq ?_
    -- region 2
    refine dw_region (by kernel_rfl) ?_
    refine dl_r (sem_move rfl rfl) ?_
    refine dl_r (sem_move rfl rfl) ?_
    refine dl_r (sem_len sl55 rfl rfl) ?_
    refine dl_r (sem_cmp rfl rfl rfl rfl) ?_
    refine dl_end ?_
    refine dw_true rfl ?_
    refine dw_skip ?_
    refine dw_seq ?_
    refine dw_block ?_
    refine dw_seq ?_
    -- region 4
    refine dw_region (by kernel_rfl) ?_
    refine dl_r (sem_move rfl rfl) ?_
    refine dl_r (sem_move rfl rfl) ?_
    refine dl_r (sem_index sl55 rfl rfl (by decide) rfl rfl rfl) ?_
    refine dl_r (sem_fieldq fd26_0 rfl rfl rfl) ?_
    refine dl_r (sem_fieldq fd24_1 rfl rfl rfl) ?_
    refine dl_r (sem_loadq1 ty22 rfl rfl rfl) ?_
    refine dl_r (sem_len sl22 rfl rfl) ?_
    refine dl_r (sem_cmp rfl rfl rfl rfl) ?_
    refine dl_rb (sem_move rfl rfl) (fun c1 hb1 => ?_)
    cases c1
    · refine dl_r (sem_move rfl rfl) ?_
      refine dl_r (sem_move rfl rfl) ?_
      refine dl_r (sem_index sl55 rfl rfl (by decide) rfl rfl rfl) ?_
      refine dl_r (sem_fieldq fd26_1 rfl rfl rfl) ?_
      refine dl_r (sem_fieldq fd24_1 rfl rfl rfl) ?_
      refine dl_r (sem_loadq1 ty22 rfl rfl rfl) ?_
      refine dl_r (sem_len sl22 rfl rfl) ?_
      refine dl_r (sem_cmp rfl rfl rfl rfl) ?_
      refine dl_r (sem_pick rfl rfl rfl rfl) ?_
      refine dl_rb (sem_move rfl rfl) (fun c2 hb2 => ?_)
      cases c2
      · have q1 := dec_f hb1
        have q2 := dec_f hb2
        refine dl_r (sem_move rfl rfl) ?_
        refine dl_r (sem_move rfl rfl) ?_
        refine dl_r (sem_index sl55 rfl rfl (by decide) rfl rfl rfl) ?_
        refine dl_r (sem_loadq (us := cN r0) ty26 rfl rfl rfl rfl) ?_
        refine dl_r (sem_call rfl rfl (sValid_ok (by assumption) (by omega) (by omega)) rfl) ?_
        refine dl_r (sem_not rfl rfl) ?_
        refine dl_r (sem_pick rfl rfl rfl rfl) ?_
        refine dl_end ?_
        refine dw_cond rfl (fun hc3 => ?_) (fun hc3 => ?_)
        · refine dw_seq ?_
          -- region 5
          refine dw_region (by kernel_rfl) ?_
          refine dl_r (sem_assign rfl rfl) ?_
          refine dl_end ?_
          refine dw_ret ?_
          -- path L0ffT
          exact ⟨.inr rfl, (resL_tmp rfl resL_nil)⟩
        · exact absurd hk (by unfold RN.s; rw [not_f hc3, decide_eq_true (show (r0.x1.length : Int) ≤ 2 by omega), decide_eq_true (show (r0.x2.length : Int) ≤ 2 by omega)]; decide)
      · refine dl_skip (sem_skip rfl) ?_
        refine dl_skip (sem_skip rfl) ?_
        refine dl_skip (sem_skip rfl) ?_
        refine dl_skip (sem_skip rfl) ?_
        refine dl_skip (sem_skip rfl) ?_
        refine dl_skip (sem_skip rfl) ?_
        refine dl_r (sem_pick rfl rfl rfl rfl) ?_
        refine dl_end ?_
        refine dw_true rfl ?_
        refine dw_seq ?_
        -- region 5
        refine dw_region (by kernel_rfl) ?_
        refine dl_r (sem_assign rfl rfl) ?_
        refine dl_end ?_
        refine dw_ret ?_
        -- path L0ft
        exact ⟨.inr rfl, (resL_tmp rfl resL_nil)⟩
    · refine dl_skip (sem_skip rfl) ?_
      refine dl_skip (sem_skip rfl) ?_
      refine dl_skip (sem_skip rfl) ?_
      refine dl_skip (sem_skip rfl) ?_
      refine dl_skip (sem_skip rfl) ?_
      refine dl_skip (sem_skip rfl) ?_
      refine dl_skip (sem_skip rfl) ?_
      refine dl_skip (sem_skip rfl) ?_
      refine dl_r (sem_pick rfl rfl rfl rfl) ?_
      refine dl_r (sem_move rfl rfl) ?_
      refine dl_skip (sem_skip rfl) ?_
      refine dl_skip (sem_skip rfl) ?_
      refine dl_skip (sem_skip rfl) ?_
      refine dl_skip (sem_skip rfl) ?_
      refine dl_skip (sem_skip rfl) ?_
      refine dl_skip (sem_skip rfl) ?_
      refine dl_r (sem_pick rfl rfl rfl rfl) ?_
      refine dl_end ?_
      refine dw_true rfl ?_
      refine dw_seq ?_
      -- region 5
      refine dw_region (by kernel_rfl) ?_
      refine dl_r (sem_assign rfl rfl) ?_
      refine dl_end ?_
      refine dw_ret ?_
      -- path L0t
      exact ⟨.inr rfl, (resL_tmp rfl resL_nil)⟩
theorem few1_all {f0 : Rat} (hf0 : Rz 2 f0)  : Ok Tryz.prog 8 [.c (.s 1 (cR f0))] [.c (.b true)] := by
  refine Ok.of (by kernel_rfl) Tryz.func8 rfl rfl ?_
  rw [show Tryz.f8.ntmps = 36 from rfl, show Tryz.f8.results.toList = [.tmp 2] from rfl]
  refine dw_seq ?_
  -- region 0
  refine dw_region (by kernel_rfl) ?_
  refine dl_r (sem_assign rfl rfl) ?_
  refine dl_end ?_
  refine dw_seq ?_
  refine dw_seq ?_
  -- region 1
  refine dw_region (by kernel_rfl) ?_
  refine dl_r (sem_assign rfl rfl) ?_
  refine dl_end ?_
  refine dw_block ?_
  refine dw_loop (ι := Nat) (fun i => match i with | 0 => ⟨36, [(0, .v (.c (.s 1 (cR f0)))), (2, .v (.c (.b false))), (3, .v (.c (.i .i64 0)))], []⟩ | _ + 1 => ⟨36, [(0, .v (.c (.s 1 (cR f0)))), (2, .v (.c (.b false))), (3, .v (.c (.i .i64 1)))], []⟩) (fun i => 1 - i) 0 (sub_of ⟨rfl, rfl, rfl, trivial⟩ trivial rfl) ?_
  intro i
  match i with
  | 0 =>
    show Dw _ _ ⟨36, [(0, .v (.c (.s 1 (cR f0)))), (2, .v (.c (.b false))), (3, .v (.c (.i .i64 0)))], []⟩ _
    refine dw_seq ?_
    refine dw_seq ?_
    -- region 2
    refine dw_region (by kernel_rfl) ?_
    refine dl_r (sem_move rfl rfl) ?_
    refine dl_r (sem_move rfl rfl) ?_
    refine dl_r (sem_len sl55 rfl rfl) ?_
    refine dl_r (sem_cmp rfl rfl rfl rfl) ?_
    refine dl_end ?_
    refine dw_true rfl ?_
    refine dw_skip ?_
    refine dw_seq ?_
    refine dw_block ?_
    refine dw_seq ?_
    -- region 4
    refine dw_region (by kernel_rfl) ?_
    refine dl_r (sem_move rfl rfl) ?_
    refine dl_r (sem_move rfl rfl) ?_
    refine dl_r (sem_index sl55 rfl rfl (by decide) rfl rfl rfl) ?_
    refine dl_r (sem_fieldq fd26_0 rfl rfl rfl) ?_
    refine dl_r (sem_fieldq fd24_1 rfl rfl rfl) ?_
    refine dl_r (sem_loadq1 ty22 rfl rfl rfl) ?_
    refine dl_r (sem_len sl22 rfl rfl) ?_
    refine dl_r (sem_castb (sem_cmp rfl rfl rfl rfl) (len2 hf0.n 2 (by decide))) ?_
    refine dl_r (sem_move rfl rfl) ?_
    refine dl_r (sem_move rfl rfl) ?_
    refine dl_r (sem_move rfl rfl) ?_
    refine dl_r (sem_index sl55 rfl rfl (by decide) rfl rfl rfl) ?_
    refine dl_r (sem_fieldq fd26_1 rfl rfl rfl) ?_
    refine dl_r (sem_fieldq fd24_1 rfl rfl rfl) ?_
    refine dl_r (sem_loadq1 ty22 rfl rfl rfl) ?_
    refine dl_r (sem_len sl22 rfl rfl) ?_
    refine dl_r (sem_castb (sem_cmp rfl rfl rfl rfl) (len2 hf0.d 2 (by decide))) ?_
    refine dl_r (sem_pick rfl rfl rfl rfl) ?_
    refine dl_r (sem_move rfl rfl) ?_
    refine dl_r (sem_move rfl rfl) ?_
    refine dl_r (sem_move rfl rfl) ?_
    refine dl_r (sem_index sl55 rfl rfl (by decide) rfl rfl rfl) ?_
    refine dl_r (sem_loadq (us := cR f0) ty26 rfl rfl rfl rfl) ?_
    refine dl_r (sem_call rfl rfl (sValid_R (hf0.mono (by decide))) rfl) ?_
    refine dl_r (sem_not rfl rfl) ?_
    refine dl_r (sem_pick rfl rfl rfl rfl) ?_
    refine dl_end ?_
    refine dw_false rfl ?_
    refine dw_skip ?_
    -- region 3
    refine dw_region (by kernel_rfl) ?_
    refine dl_r (sem_move rfl rfl) ?_
    refine dl_r (sem_ari (r := 1) rfl rfl rfl rfl) ?_
    refine dl_r (sem_assign rfl rfl) ?_
    refine dl_end ?_
    exact ⟨1, sub_of ⟨rfl, rfl, rfl, trivial⟩ trivial rfl, by show 1 - 1 < 1 - 0; decide⟩
  | z + 1 =>
    show Dw _ _ ⟨36, [(0, .v (.c (.s 1 (cR f0)))), (2, .v (.c (.b false))), (3, .v (.c (.i .i64 1)))], []⟩ _
    refine dw_seq ?_
    refine dw_seq ?_
    -- region 2
    refine dw_region (by kernel_rfl) ?_
    refine dl_r (sem_move rfl rfl) ?_
    refine dl_r (sem_move rfl rfl) ?_
    refine dl_r (sem_len sl55 rfl rfl) ?_
    refine dl_r (sem_cmp rfl rfl rfl rfl) ?_
    refine dl_end ?_
    refine dw_false rfl ?_
    refine dw_exit ?_
    refine dw_seq ?_
    -- region 6
    refine dw_region (by kernel_rfl) ?_
    refine dl_r (sem_assign rfl rfl) ?_
    refine dl_end ?_
    refine dw_ret ?_
    -- path L1
    exact ⟨.inr rfl, (resL_tmp rfl resL_nil)⟩
theorem few1 {r0 : RN} (wr0 : r0.Wf) : Ok Tryz.prog 8 [.c (.s 1 (cN r0))] [.c (.b false)] ∨ ∃ f0 : Rat, Rz 2 f0 ∧ cN r0 = cR f0 ∧ Ok Tryz.prog 8 [.c (.s 1 (cR f0))] [.c (.b true)] := by
  cases h0 : r0.s 2 with
  | false => exact .inl (by exact few1_0  wr0 h0)
  | true =>
  obtain ⟨f0, g0, e0⟩ := s2_of wr0 h0
  exact .inr ⟨f0, g0, e0, few1_all g0⟩
end Go.Proofs.YtcbjmiddangfoaaGreat
/- Plain: an array's elements; places and their points; the order of points is transitive. -/
namespace Go.Proofs.YtcbjmiddangfoaaGreat
open Go Go.RowKit
/-- an array's elements -/
def arB (P : Program) (U : TypeId) : Option (Nat × Nat) :=
  match P.underlying U with
  | some (.array n e) => (P.info? e).map fun i => (n, i.size)
  | _ => none
theorem sem_index_a {P : Program} {ops : Array Oper} {T : TF} {B : BF} {dst : Option Nat} {x i : Operand} {U : TypeId} {ty : TypeId} {pos : String} {af : Array Edge} {g : Option (Nat × Bool)} {n m k off : Nat} {kd : IntKind} {j : Int}
    (hU : arB P U = some (n, m)) (hx : opd T x = some (.p k off)) (hi : opd T i = some (.v (.c (.i kd j)))) (hj : 0 ≤ j ∧ j < n) (hg : gd ops ⟨dst, .indexAddr U x i, ty, pos, af, g⟩ T = some true) :
    Sem P ops ⟨dst, .indexAddr U x i, ty, pos, af, g⟩ T B (.r (.p k (off + j.toNat * m))) :=
  sem_pure hg (fun l e => opd_ptr (ops := ops) (o := ⟨dst, .indexAddr U x i, ty, pos, af, g⟩) (by simp [Op.operands]) hx e) (fun V β a w hs => by
    have h1 : a.eval x = .pointer (some ⟨β k, off, none⟩) := opd_reads hs (x := x) (by simp [Op.operands]) hx
    have h2 := RdC.int_eq (opd_reads hs (x := i) (by simp [Op.operands]) hi)
    unfold arB at hU
    split at hU
    case h_2 => cases hU
    rename_i n' el hul
    cases hinf : P.info? el with
    | none => rw [hinf] at hU; cases hU
    | some inf =>
      rw [hinf] at hU
      simp at hU
      obtain ⟨rfl, rfl⟩ := hU
      have hso : ∀ w, (sizeOf el).run P w = .ok inf.size w := fun w => by unfold sizeOf typeInfo; simp [program, Sem.run, hinf]
      refine ⟨.pointer (some ⟨β k, off + j.toNat * inf.size, none⟩), ?_, rfl⟩
      simp [execOp, Instr.indexAt, h1, h2, asIntOf, run_underlying hul, Instr.sureAddr, hj.1, hj.2, hso, addr_add])
theorem rt_int {C : Int} (h0 : 0 ≤ C) (hs : sqR (C : Rat) = true) : rt (C : Rat) = Rat.divInt (isqI C) 1 := by
  unfold rt
  rw [Rat.num_intCast, Rat.den_intCast]
  rw [show isqI ((1 : Nat) : Int) = 1 from isqI_unique (by decide) (by decide) (by decide) (by decide)]
theorem isq_small {C : Int} (h0 : 0 ≤ C) (h1 : C ≤ 65535) : 0 ≤ isqI C ∧ isqI C ≤ 255 := by
  have a := isqI_nonneg C
  have b := isqI_le h0
  refine ⟨a, ?_⟩
  apply Classical.byContradiction
  intro hn
  have : 256 * 256 ≤ isqI C * isqI C := Int.mul_le_mul (by omega) (by omega) (by decide) a
  omega
theorem sq_frac {A B n r : Int} (hn : 0 < n) : Rat.divInt A n + Rat.divInt B n * Rat.divInt r 1 = Rat.divInt (A + B * r) n := by
  rw [Rat.divInt_mul_divInt, Int.mul_one, Rat.divInt_eq_div, Rat.divInt_eq_div, Rat.divInt_eq_div, Rat.intCast_add]
  grind
/-- transitivity -/
theorem cmpPt_trans {a1 b1 a2 b2 c p1 q1 p2 q2 r x1 y1 x2 y2 z : Rat} (hc : 0 ≤ c) (hr : 0 ≤ r) (hz : 0 ≤ z) (h1 : cmpPt a1 b1 a2 b2 c p1 q1 p2 q2 r ≤ 0) (h2 : cmpPt p1 q1 p2 q2 r x1 y1 x2 y2 z ≤ 0) :
    cmpPt a1 b1 a2 b2 c x1 y1 x2 y2 z ≤ 0 ∧ (cmpPt a1 b1 a2 b2 c p1 q1 p2 q2 r < 0 ∨ cmpPt p1 q1 p2 q2 r x1 y1 x2 y2 z < 0 → cmpPt a1 b1 a2 b2 c x1 y1 x2 y2 z < 0) := by
  unfold cmpPt at *
  rw [cmpC_v hc hr, cmpC_v hc hr] at *
  rw [cmpC_v hr hz, cmpC_v hr hz] at *
  rw [cmpC_v hc hz, cmpC_v hc hz]
  generalize vco a1 b1 c = A at *
  generalize vco a2 b2 c = A' at *
  generalize vco p1 q1 r = B at *
  generalize vco p2 q2 r = B' at *
  generalize vco x1 y1 z = C at *
  generalize vco x2 y2 z = C' at *
  have key : ∀ X Y Z : Re, sgR (X - Y) ≤ 0 → sgR (Y - Z) ≤ 0 → sgR (X - Z) ≤ 0 ∧ (sgR (X - Y) < 0 ∨ sgR (Y - Z) < 0 → sgR (X - Z) < 0) := by
    intro X Y Z g1 g2
    have e : sgR (Z - X) = sgR ((Y - X) + (Z - Y)) := congrArg sgR (Re.ext fun k => by simp only [re_sub, re_add]; grind)
    have s1 := sgR_sw Y X
    have s2 := sgR_sw Z Y
    have s3 := sgR_sw Z X
    have n1 := sgR_nn (x := Y - X) (y := Z - Y) (by omega) (by omega)
    refine ⟨by omega, ?_⟩
    rintro (h | h)
    · have := sgR_pn (x := Y - X) (y := Z - Y) (by omega) (by omega)
      omega
    · have h4 := sgR_pn (x := Z - Y) (y := Y - X) (by omega) (by omega)
      rw [re_addc (Z - Y) (Y - X)] at h4
      omega
  have k1 := key A B C
  have k2 := key A' B' C'
  have i1 : ∀ (x y z : Int), x = 0 → (if x ≠ 0 then y else z) = z := fun x y z h => if_neg (by omega)
  have i2 : ∀ (x y z : Int), x ≠ 0 → (if x ≠ 0 then y else z) = y := fun x y z h => if_pos h
  by_cases e1 : sgR (A - B) = 0
  · rw [i1 _ _ _ e1] at h1 ⊢
    by_cases e2 : sgR (B - C) = 0
    · rw [i1 _ _ _ e2] at h2 ⊢
      have k3 := key C B A
      have s1 := sgR_sw B A
      have s2 := sgR_sw C B
      have s3 := sgR_sw C A
      have e3 : sgR (A - C) = 0 := by
        have := (k1 (by omega) (by omega)).1
        have := (k3 (by omega) (by omega)).1
        omega
      rw [i1 _ _ _ e3]
      exact k2 h1 h2
    · rw [i2 _ _ _ e2] at h2 ⊢
      have := (k1 (by omega) h2).2 (.inr (by omega))
      rw [i2 (sgR (A - C)) _ _ (by omega)]
      exact ⟨by omega, fun _ => this⟩
  · rw [i2 _ _ _ e1] at h1 ⊢
    have hB : sgR (B - C) ≤ 0 := by
      by_cases e2 : sgR (B - C) = 0
      · omega
      · rw [i2 _ _ _ e2] at h2; exact h2
    have := (k1 h1 hB).2 (.inl (by omega))
    rw [i2 (sgR (A - C)) _ _ (by omega)]
    exact ⟨by omega, fun _ => this⟩
/-- moved by a vector -/
theorem cmpPt_move {a1 b1 a2 b2 c p1 q1 p2 q2 r v w : Rat} (hc : 0 ≤ c) (hr : 0 ≤ r) : cmpPt (a1 + v) b1 (a2 + w) b2 c (p1 + v) q1 (p2 + w) q2 r = cmpPt a1 b1 a2 b2 c p1 q1 p2 q2 r := by
  have e : ∀ a p v : Rat, ∀ b q : Rat, vco (a + v) b c - vco (p + v) q r = vco a b c - vco p q r := by
    intro a p v b q
    rw [vco_eq, vco_eq, vco_eq, vco_eq]
    exact Re.ext fun k => by simp only [re_sub, re_add, re_mul, re_of]; grind
  unfold cmpPt
  rw [cmpC_v hc hr, cmpC_v hc hr, cmpC_v hc hr, cmpC_v hc hr, e, e]
theorem sub_mv (a p v : Rat) : a + v - (p + v) = a - p := by grind
end Go.Proofs.YtcbjmiddangfoaaGreat
/- Plain: the order of roots: moved, scaled, transitive; signs of products of square roots. -/
namespace Go.Proofs.YtcbjmiddangfoaaGreat
open Go Go.RowKit
section
variable {a b c d e f k : Rat}
theorem rd_mv : sgR (val3 (a + k) b c - val3 (d + k) e f) = sgR (val3 a b c - val3 d e f) := congrArg sgR (Re.ext fun j => by unfold val3; simp only [re_sub, re_add, re_mul, re_of]; grind)
theorem rd_sc : sgR (val3 (a * k) (b * k) c - val3 (d * k) (e * k) f) = sgR (val3 a b c - val3 d e f) * cmpR k 0 := by
  rw [← sgR_of, ← sgR_mul]
  exact congrArg sgR (Re.ext fun j => by unfold val3; simp only [re_sub, re_add, re_mul, re_of]; grind)
end
theorem rd_tr (X Y Z : Re) (g1 : 0 ≤ sgR (X - Y)) (g2 : 0 ≤ sgR (Y - Z)) : max (sgR (X - Y)) (sgR (Y - Z)) ≤ sgR (X - Z) := by
  have e : sgR (X - Z) = sgR ((X - Y) + (Y - Z)) := congrArg sgR (Re.ext fun k => by simp only [re_sub, re_add]; grind)
  have n1 := sgR_nn g1 g2
  have a1 := sgR_cases (X - Y)
  have a2 := sgR_cases (Y - Z)
  have a3 := sgR_cases (X - Z)
  by_cases h : 0 < sgR (X - Y)
  · have := sgR_pn h g2
    omega
  · by_cases h2 : 0 < sgR (Y - Z)
    · have h4 := sgR_pn h2 g1
      rw [re_addc (Y - Z) (X - Y)] at h4
      omega
    · omega
theorem rd_tr2 (X Y Z : Re) (g1 : sgR (X - Y) ≤ 0) (g2 : sgR (Y - Z) ≤ 0) : sgR (X - Z) ≤ min (sgR (X - Y)) (sgR (Y - Z)) := by
  have h := rd_tr Z Y X (by rw [sgR_sw]; omega) (by rw [sgR_sw]; omega)
  rw [sgR_sw X Z, sgR_sw Y Z, sgR_sw X Y] at h
  omega
theorem cmpR_mul0 (x y : Rat) : cmpR (x * y) 0 = cmpR x 0 * cmpR y 0 := by rw [← sgR_of, ← sgR_of, ← sgR_of, ← of_mul, sgR_mul]
theorem cmpR_neg0 (x : Rat) : cmpR (-x) 0 = -cmpR x 0 := by rw [← sgR_of, ← sgR_of, ← of_neg, sgR_neg]
theorem comb_z (t c : Int) : comb 0 t c = t := comb_s0 rfl
theorem comb_r (s c : Int) : comb s 0 c = s := comb_t0 rfl
theorem z_mul (a X Y : Rat) (hX : 0 ≤ X) (hY : 0 ≤ Y) : signQ 0 a 0 0 (X * Y) 0 = cmpR a 0 * (cmpR X 0 * cmpR Y 0) := by
  rw [signQ_p (by have := Rat.mul_nonneg hX hY; grind) (by decide +kernel), show cmpR 0 0 = 0 from by decide +kernel, Int.mul_zero, comb_r]
  unfold plainS
  rw [show cmpR 0 0 = 0 from by decide +kernel, comb_z, cmpR_mul0]
theorem z_both (a X Y : Rat) (hX : 0 ≤ X) (hY : 0 ≤ Y) : signQ 0 0 0 (-a) X Y = -(cmpR a 0 * (cmpR X 0 * cmpR Y 0)) := by
  rw [signQ_p (by grind) (by grind)]
  have e : plainS 0 0 X = 0 := by unfold plainS; rw [show cmpR 0 0 = 0 from by decide +kernel, Int.zero_mul, comb_r]
  have e2 : plainS 0 (-a) X = -cmpR a 0 * cmpR X 0 := by unfold plainS; rw [show cmpR 0 0 = 0 from by decide +kernel, comb_z, cmpR_neg0]
  rw [e, comb_z, e2]
  grind
theorem re_same {p q : Re} (hp : 0 ≤ sgR p) (hq : 0 ≤ sgR q) (h : sgR (q * q - p * p) = 0) : sgR (q - p) = 0 := by
  have h1 := sq_le_re hp hq (by omega)
  have h2 := sq_le_re hq hp (by rw [sgR_sw]; omega)
  unfold leR at h1 h2
  rw [sgR_sw q p] at h2
  omega
theorem z_double (a X : Rat) (hX : 0 ≤ X) : signQ 0 a (-2 * a) 0 (4 * X) X = 0 := by
  have h4 : 0 ≤ 4 * X := Rat.mul_nonneg (by decide +kernel) hX
  rw [signQ_sg h4 hX]
  have e : val6 0 a (-2 * a) 0 (4 * X) X = Re.of a * (Re.rt (4 * X) - Re.of 2 * Re.rt X) := Re.ext fun k => by
    unfold val6 val3; simp only [re_sub, re_add, re_mul, re_of]; grind
  have hq : 0 ≤ sgR (Re.of 2 * Re.rt X) := by
    have := rt_nn X
    rw [sgR_mul, sgR_of, show cmpR 2 0 = 1 from by decide +kernel]; omega
  have hs : sgR (Re.rt (4 * X) * Re.rt (4 * X) - Re.of 2 * Re.rt X * (Re.of 2 * Re.rt X)) = 0 := by
    have e1 : Re.rt (4 * X) * Re.rt (4 * X) - Re.of 2 * Re.rt X * (Re.of 2 * Re.rt X) = (Re.rt (4 * X) * Re.rt (4 * X) - Re.of (4 * X)) + -(Re.of 4 * (Re.rt X * Re.rt X - Re.of X)) := Re.ext fun k => by
      simp only [re_sub, re_add, re_mul, re_of, re_neg]; grind
    rw [e1, sgR_addz _ (by rw [sgR_neg, sgR_mul, rt_sq hX, Int.mul_zero]; rfl), rt_sq h4]
  rw [e, sgR_mul, re_same hq (rt_nn _) hs, Int.mul_zero]
end Go.Proofs.YtcbjmiddangfoaaGreat
/- RadicalZero: the law at all readings. -/
namespace Go.Proofs.YtcbjmiddangfoaaGreat
open Go Go.RowKit
theorem lwZ5_A {xm ym : Int} (l1 : 0 ≤ xm) (u1 : xm ≤ 65535) (l2 : 0 ≤ ym) (u2 : ym ≤ 65535) {v : RN} (oF : Ok Tryz.prog 8 [.c (.s 1 (cN v))] [.c (.b false)]) : Ok Tryz.prog 4 [.c (.i .u16 xm), .c (.i .u16 ym), .a (cN v)] [.c (.b true)] := by
  refine Ok.of (by kernel_rfl) Tryz.func4 rfl rfl ?_
  rw [show Tryz.f4.ntmps = 64 from rfl, show Tryz.f4.results.toList = [.tmp 6] from rfl]
  refine dw_seq ?_
  -- region 0
  refine dw_region (by kernel_rfl) ?_
  refine dl_new (sem_box_a rfl rfl) rfl ?_
  refine dl_r (sem_assign rfl rfl) ?_
  refine dl_end ?_
  refine dw_seq ?_
  refine dw_seq ?_
  -- region 1
  refine dw_region (by kernel_rfl) ?_
  refine dl_r (sem_call rfl rfl (awake5_ok) rfl) ?_
  refine dl_r (sem_not rfl rfl) ?_
  refine dl_r (sem_move rfl rfl) ?_
  refine dl_r (sem_load (us := cN v) ty26 rfl rfl rfl rfl rfl) ?_
  refine dl_r (sem_slit_D (n := 1) (us := cN v) el55 rfl rfl rfl (by decide) (by decide) rfl) ?_
  refine dl_r (sem_call rfl rfl (oF) rfl) ?_
  refine dl_r (sem_not rfl rfl) ?_
  refine dl_r (sem_pick rfl rfl rfl rfl) ?_
  refine dl_end ?_
  refine dw_true rfl ?_
  refine dw_seq ?_
  -- region 2
  refine dw_region (by kernel_rfl) ?_
  refine dl_r (sem_call rfl rfl (awake5_ok) rfl) ?_
  refine dl_r (sem_assign rfl rfl) ?_
  refine dl_end ?_
  refine dw_ret ?_
  -- path 
  exact ⟨.inr rfl, (resL_tmp rfl resL_nil)⟩
theorem lwZ5_B {xm ym : Int} (l1 : 0 ≤ xm) (u1 : xm ≤ 65535) (l2 : 0 ≤ ym) (u2 : ym ≤ 65535) {a : Rat} (ha : Rz 2 a) (oF : Ok Tryz.prog 8 [.c (.s 1 (cR a))] [.c (.b true)]) {n0 : Int} (l0 : -1 ≤ n0) (u0 : n0 ≤ 1) (e1 : signQ 0 a 0 0 (((xm : Int) : Rat) * ((ym : Int) : Rat)) 0 = n0) (e2 : signQ 0 0 0 (-a) ((xm : Int) : Rat) ((ym : Int) : Rat) = -n0) (e3 : signQ 0 a (-2 * a) 0 (4 * ((xm : Int) : Rat)) ((xm : Int) : Rat) = 0) : Ok Tryz.prog 4 [.c (.i .u16 xm), .c (.i .u16 ym), dR a] [.c (.b true)] := by
  have z8 : Rz 8 (0 : Rat) := Rz.zero (by decide)
  have ix : Rz 3 ((xm : Int) : Rat) := Rz.int (Sz.small (by decide) (by omega) (by omega)) (by decide)
  have iy : Rz 3 ((ym : Int) : Rat) := Rz.int (Sz.small (by decide) (by omega) (by omega)) (by decide)
  have jx : Rz 8 ((xm : Int) : Rat) := ix.mono (by decide)
  have jy : Rz 8 ((ym : Int) : Rat) := iy.mono (by decide)
  have kx : Rz 300 ((xm : Int) : Rat) := ix.mono (by decide)
  have ky : Rz 300 ((ym : Int) : Rat) := iy.mono (by decide)
  have pxy : Rz 8 (((xm : Int) : Rat) * ((ym : Int) : Rat)) := (ix.mul iy).mono (by decide)
  have ka : Rz 8 a := ha.mono (by decide)
  have k300a : Rz 300 a := ha.mono (by decide)
  have r2 : Rz 1 (-2 : Rat) := rz_l (by decide +kernel)
  have r4 : Rz 1 (4 : Rat) := rz_l (by decide +kernel)
  have m2 : Rz 300 (-2 : Rat) := r2.mono (by decide)
  have m4 : Rz 300 (4 : Rat) := r4.mono (by decide)
  have cA : Rz 8 (-2 * a) := (r2.mul ha).mono (by decide)
  have c4 : Rz 8 (4 * ((xm : Int) : Rat)) := (r4.mul ix).mono (by decide)
  refine Ok.of (by kernel_rfl) Tryz.func4 rfl rfl ?_
  rw [show Tryz.f4.ntmps = 64 from rfl, show Tryz.f4.results.toList = [.tmp 6] from rfl]
  refine dw_seq ?_
  -- region 0
  refine dw_region (by kernel_rfl) ?_
  refine dl_new (sem_box_a rfl rfl) rfl ?_
  refine dl_r (sem_assign rfl rfl) ?_
  refine dl_end ?_
  refine dw_seq ?_
  refine dw_seq ?_
  -- region 1
  refine dw_region (by kernel_rfl) ?_
  refine dl_r (sem_call rfl rfl (awake5_ok) rfl) ?_
  refine dl_r (sem_not rfl rfl) ?_
  refine dl_r (sem_move rfl rfl) ?_
  refine dl_r (sem_load (us := cR a) ty26 rfl rfl rfl rfl rfl) ?_
  refine dl_r (sem_slit_D (n := 1) (us := cR a) el55 rfl rfl rfl (by decide) (by decide) rfl) ?_
  refine dl_r (sem_call rfl rfl (oF) rfl) ?_
  refine dl_r (sem_not rfl rfl) ?_
  refine dl_r (sem_pick rfl rfl rfl rfl) ?_
  refine dl_end ?_
  refine dw_false rfl ?_
  refine dw_skip ?_
  refine dw_seq ?_
  -- region 3
  refine dw_region (by kernel_rfl) ?_
  refine dl_r (sem_move rfl rfl) ?_
  refine dl_r (sem_conv' (r := xm) und33 und2 rfl (nw64 (by omega) (by omega)) rfl) ?_
  refine dl_r (sem_call rfl rfl (lwNum_ok (by omega) (by omega)) rfl) ?_
  refine dl_r (sem_move rfl rfl) ?_
  refine dl_r (sem_conv' (r := ym) und33 und2 rfl (nw64 (by omega) (by omega)) rfl) ?_
  refine dl_r (sem_call rfl rfl (lwNum_ok (by omega) (by omega)) rfl) ?_
  refine dl_new (sem_alloc zc26 rfl) rfl ?_
  refine dl_new (sem_alloc zc26 rfl) rfl ?_
  refine dl_st (sem_store_a ty26 rfl rfl rfl rfl rfl rfl) ?_
  refine dl_st (sem_store_a ty26 rfl rfl rfl rfl rfl rfl) ?_
  refine dl_end ?_
  refine dw_seq ?_
  -- region 4
  refine dw_draw 10 [] follows_mixed (by kernel_rfl) rfl rfl ?_
  refine dq_r (sem_call rfl rfl (rcast1 (x' := 0) (lwNum_ok (by decide) (by decide)) (by decide +kernel)) rfl) ?_
  refine dq_r (sem_load (us := cR a) ty26 rfl rfl rfl rfl rfl) ?_
  refine dq_r (sem_call rfl rfl (rcast1 (x' := 0) (lwNum_ok (by decide) (by decide)) (by decide +kernel)) rfl) ?_
  refine dq_r (sem_call rfl rfl (rcast1 (x' := 0) (lwNum_ok (by decide) (by decide)) (by decide +kernel)) rfl) ?_
  refine dq_r (sem_load (us := cR (((xm : Int) : Rat))) ty26 rfl rfl rfl rfl rfl) ?_
  refine dq_r (sem_load (us := cR (((ym : Int) : Rat))) ty26 rfl rfl rfl rfl rfl) ?_
  refine dq_r (sem_call rfl rfl (sMul_ok kx ky) rfl) ?_
  refine dq_r (sem_call rfl rfl (rcast1 (x' := 0) (lwNum_ok (by decide) (by decide)) (by decide +kernel)) rfl) ?_
  refine dq_r (sem_build (us := (cR 0 ++ cR a ++ cR 0 ++ cR 0 ++ cR (((xm : Int) : Rat) * ((ym : Int) : Rat)) ++ cR 0)) fs28 zc28 rfl rfl rfl) ?_
  refine dq_new (sem_alloc zc28 rfl) rfl ?_
  refine dq_end ?_
  refine dl_start1 ?_
  refine dl_st (sem_store_a ty28 rfl rfl rfl rfl rfl rfl) ?_
  refine dl_end ?_
  refine dw_seq ?_
  -- region 5
  refine dw_draw 9 [] follows_mixed (by kernel_rfl) rfl rfl ?_
  refine dq_r (sem_call rfl rfl (rcast1 (x' := 0) (lwNum_ok (by decide) (by decide)) (by decide +kernel)) rfl) ?_
  refine dq_r (sem_call rfl rfl (rcast1 (x' := 0) (lwNum_ok (by decide) (by decide)) (by decide +kernel)) rfl) ?_
  refine dq_r (sem_call rfl rfl (rcast1 (x' := 0) (lwNum_ok (by decide) (by decide)) (by decide +kernel)) rfl) ?_
  refine dq_r (sem_load (us := cR a) ty26 rfl rfl rfl rfl rfl) ?_
  refine dq_r (sem_call rfl rfl (sNeg_ok k300a) rfl) ?_
  refine dq_r (sem_load (us := cR (((xm : Int) : Rat))) ty26 rfl rfl rfl rfl rfl) ?_
  refine dq_r (sem_load (us := cR (((ym : Int) : Rat))) ty26 rfl rfl rfl rfl rfl) ?_
  refine dq_r (sem_build (us := (cR 0 ++ cR 0 ++ cR 0 ++ cR (-a) ++ cR (((xm : Int) : Rat)) ++ cR (((ym : Int) : Rat)))) fs28 zc28 rfl rfl rfl) ?_
  refine dq_new (sem_alloc zc28 rfl) rfl ?_
  refine dq_end ?_
  refine dl_start1 ?_
  refine dl_st (sem_store_a ty28 rfl rfl rfl rfl rfl rfl) ?_
  refine dl_end ?_
  refine dw_seq ?_
  refine dw_seq ?_
  -- region 6
  refine dw_draw 6 [] follows_mixed (by kernel_rfl) rfl rfl ?_
  refine dq_r (sem_load (us := (cR 0 ++ cR a ++ cR 0 ++ cR 0 ++ cR (((xm : Int) : Rat) * ((ym : Int) : Rat)) ++ cR 0)) ty28 rfl rfl rfl rfl rfl) ?_
  refine dq_r (sem_call rfl rfl (rcasti (xSignQ_ok z8 ka z8 z8 pxy z8) e1) rfl) ?_
  refine dq_r (sem_load (us := (cR 0 ++ cR 0 ++ cR 0 ++ cR (-a) ++ cR (((xm : Int) : Rat)) ++ cR (((ym : Int) : Rat)))) ty28 rfl rfl rfl rfl rfl) ?_
  refine dq_r (sem_call rfl rfl (rcasti (xSignQ_ok z8 z8 z8 ka.neg jx jy) e2) rfl) ?_
  refine dq_r (sem_neg' (r := n0) rfl ((congrArg (IntKind.wrap .i64) (show 0 - -n0 = n0 by omega)).trans (nw64 (by omega) (by omega))) rfl) ?_
  refine dq_r (sem_castb (sem_cmp rfl rfl rfl rfl) (bne_self_eq_false n0)) ?_
  refine dq_end ?_
  refine dl_start0 ?_
  refine dl_end ?_
  refine dw_false rfl ?_
  refine dw_skip ?_
  refine dw_seq ?_
  -- region 8
  refine dw_draw 12 [] follows_mixed (by kernel_rfl) rfl rfl ?_
  refine dq_r (sem_call rfl rfl (rcast1 (x' := 0) (lwNum_ok (by decide) (by decide)) (by decide +kernel)) rfl) ?_
  refine dq_r (sem_load (us := cR a) ty26 rfl rfl rfl rfl rfl) ?_
  refine dq_r (sem_call rfl rfl (rcast1 (x' := -2) (lwNum_ok (by decide) (by decide)) (by decide +kernel)) rfl) ?_
  refine dq_r (sem_load (us := cR a) ty26 rfl rfl rfl rfl rfl) ?_
  refine dq_r (sem_call rfl rfl (sMul_ok m2 k300a) rfl) ?_
  refine dq_r (sem_call rfl rfl (rcast1 (x' := 0) (lwNum_ok (by decide) (by decide)) (by decide +kernel)) rfl) ?_
  refine dq_r (sem_call rfl rfl (rcast1 (x' := 4) (lwNum_ok (by decide) (by decide)) (by decide +kernel)) rfl) ?_
  refine dq_r (sem_load (us := cR (((xm : Int) : Rat))) ty26 rfl rfl rfl rfl rfl) ?_
  refine dq_r (sem_call rfl rfl (sMul_ok m4 kx) rfl) ?_
  refine dq_r (sem_load (us := cR (((xm : Int) : Rat))) ty26 rfl rfl rfl rfl rfl) ?_
  refine dq_r (sem_build (us := (cR 0 ++ cR a ++ cR (-2 * a) ++ cR 0 ++ cR (4 * ((xm : Int) : Rat)) ++ cR (((xm : Int) : Rat)))) fs28 zc28 rfl rfl rfl) ?_
  refine dq_new (sem_alloc zc28 rfl) rfl ?_
  refine dq_end ?_
  refine dl_start1 ?_
  refine dl_st (sem_store_a ty28 rfl rfl rfl rfl rfl rfl) ?_
  refine dl_end ?_
  refine dw_seq ?_
  -- region 9
  refine dw_region (by kernel_rfl) ?_
  refine dl_r (sem_load (us := (cR 0 ++ cR a ++ cR (-2 * a) ++ cR 0 ++ cR (4 * ((xm : Int) : Rat)) ++ cR (((xm : Int) : Rat)))) ty28 rfl rfl rfl rfl rfl) ?_
  refine dl_r (sem_call rfl rfl (rcasti (xSignQ_ok z8 ka cA z8 c4 jx) e3) rfl) ?_
  refine dl_r (sem_cmp rfl rfl rfl rfl) ?_
  refine dl_r (sem_assign rfl rfl) ?_
  refine dl_end ?_
  refine dw_ret ?_
  -- path 
  exact ⟨.inr rfl, (resL_tmp rfl resL_nil)⟩
end Go.Proofs.YtcbjmiddangfoaaGreat
/- RadicalZero: for every input the law returns true, and each argument reads behind the call as it read before. No condition. -/
namespace Go.Proofs.YtcbjmiddangfoaaGreat
open Go.ChangeShapes Go.WideShapes Go.ChangeAt Go.RowKit
theorem law_zero5 {xm ym : Int} (l1 : 0 ≤ xm) (u1 : xm ≤ 65535) (l2 : 0 ≤ ym) (u2 : ym ≤ 65535) {x1 : RN} (w1 : x1.Wf) :
    Ok Tryz.prog 4 [.c (.i .u16 xm), .c (.i .u16 ym), .a (cN x1)] [.c (.b true)] := by
  rcases few1 w1 with h | ⟨a, g1, e1, h⟩
  · exact lwZ5_A l1 u1 l2 u2 h
  · rw [e1]
    have hX : (0 : Rat) ≤ ((xm : Int) : Rat) := Rat.intCast_nonneg.2 l1
    have hY : (0 : Rat) ≤ ((ym : Int) : Rat) := Rat.intCast_nonneg.2 l2
    have b1 := prod_bd (cmpR_bd a 0) (prod_bd (cmpR_bd ((xm : Int) : Rat) 0) (cmpR_bd ((ym : Int) : Rat) 0))
    exact lwZ5_B l1 u1 l2 u2 g1 h b1.1 b1.2 (z_mul a _ _ hX hY) (z_both a _ _ hX hY) (z_double a _ hX)
set_option maxRecDepth 100000 in
theorem zero5_lifted (os : Os) (started : os.Started) (H : Type) (enc : TypeId × Value → H) :
    ReturnsInHanded {} Tryz.checked os 4 .any (Rows.radicalZeroSpec.pre6 enc Tryz.prog Tryz.f4 Rows.radicalZeroRow.domain false) (Rows.radicalZeroSpec.post enc Tryz.prog Tryz.f4 false true false false) := by
  refine returnsInHanded_of_change (C := Tryz.checked) own started (by kernel_rfl) Tryz.func4
    (ChangeSpec.witness6 (enc := enc) (C := Tryz.checked) false ⟨#[], #[.int .u16 0, .int .u16 0, .agg (Array.replicate 2 #[Value.bool false, .slice none 0 0]).flatten], []⟩ 8 (by kernel_rfl) (by kernel_rfl) (by kernel_rfl) (by kernel_rfl)) ?_
  intro W base args ds gs before hval0 hW hcnd _
  have hval : ∀ (j : Nat) t v, Tryz.f4.params[j]? = some t → args[j]? = some v → Value.okWide Tryz.prog W .any base t v := hval0
  have hW' := hW
  obtain ⟨p, q, hA0, hV, rfl, hfz, hnd⟩ := hW
  have hA : DataW.TrodAll enc Tryz.prog W 0 (fun _ => true) true Tryz.f4.params.toList args.toList ds p := hA0
  rw [Tryz.params4] at hA hval
  obtain ⟨v0, vs0, d0, ds0, p0, q0, hargs, rfl, rfl, h0, r0⟩ := trodAll_cons hA
  obtain ⟨v1, vs1, d1, ds1, p1, q1, rfl, rfl, rfl, h1, r1⟩ := trodAll_cons r0
  obtain ⟨v2, vs2, d2, ds2, p2, q2, rfl, rfl, rfl, h2, r2⟩ := trodAll_cons r1
  obtain ⟨rfl, rfl, rfl⟩ := trodAll_nil r2
  obtain rfl : args = #[v0, v1, v2] := by cases args; simp_all
  obtain ⟨rfl, rfl⟩ := trodVars_none hV
  obtain ⟨a0, rfl, rfl, rfl, w0⟩ := open_int Tryz.underlying33 (hval 0 33 v0 rfl rfl) h0
  obtain ⟨a1, rfl, rfl, rfl, w1⟩ := open_int Tryz.underlying33 (hval 1 33 v1 rfl rfl) h1
  obtain ⟨a2, rfl, _⟩ := okWide_struct Tryz.underlying26 (hval 2 26 v2 rfl rfl)
  have k2 := h2
  have lt2 : ∀ x ∈ p2, x.block < W.heap.size := by obtain ⟨m, hm⟩ := k2; exact DataW.trod_lt m _ _ _ hm
  have g0 : 0 ≤ a0 ∧ a0 ≤ 65535 := by have := w0; simp [Lit.wf, IntKind.min, IntKind.max, IntKind.signed, IntKind.bits] at this; omega
  have g1 : 0 ≤ a1 ∧ a1 ≤ 65535 := by have := w1; simp [Lit.wf, IntKind.min, IntKind.max, IntKind.signed, IntKind.bits] at this; omega
  obtain ⟨e20, w20, hr2⟩ := rat_of (show DataW.trod enc Tryz.prog W 0 _ _ h2.choose 26 a2.toList = some _ from h2.choose_spec)
  clear hA0 hval0
  refine (law_of (law_zero5 g0.1 g0.2 g1.1 g1.2 w20) (RdL.cons (.i _ _) (RdL.cons (.i _ _) (RdL.cons ⟨a2, rfl, hr2⟩ RdL.nil)))).mono fun e W' ⟨he, bel⟩ => ?_
  subst he
  exact ⟨_, rfl, _, _, _, [], _, [], hW', trodAll_mk1 (shut_bool Tryz.underlying4 _), (trodAll_cons_mk (shut_int Tryz.underlying33 w0) (trodAll_cons_mk (shut_int Tryz.underlying33 w1) (trodAll_cons_mk (Below.trod laidOut (by kernel_rfl) (of_decide_eq_true (by kernel_rfl)) k2 bel lt2) trodAll_mk0))), rfl, bel.frame _, fun h => by cases h⟩
theorem zero5_proved : Rows.RadicalZeroSaid :=
  OpenClaim.holds_of_wide 4 Tryz.f4 rfl rfl rfl rfl rfl rfl rfl ⟨rfl, rfl, rfl, rfl, rfl⟩ rfl rfl rfl rfl rfl (by kernel_rfl) Tryz.func4 (by kernel_rfl)
    (of_decide_eq_true (by kernel_rfl)) (by unfold Func.isWrapper; first | (rw [if_pos (by decide +kernel)]; kernel_rfl) | (rw [if_neg (by decide +kernel)]; exact ⟨rfl, rfl⟩))
    (fun os started H enc _ => zero5_lifted os started H enc)
end Go.Proofs.YtcbjmiddangfoaaGreat
