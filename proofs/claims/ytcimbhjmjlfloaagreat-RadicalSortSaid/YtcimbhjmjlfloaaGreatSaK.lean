/- Plain: radicands of roots and points in reduced form. -/
import Derived.Test.YtcimbhjmjlfloaaGreatSaJ
namespace Go.Proofs.YtcimbhjmjlfloaaGreat
open Go Go.RowKit
/-- the radicand of a coordinate ¦ of a point -/
def zc (b c : Rat) : Rat := if b = 0 then 0 else c
def zcp (b1 b2 c : Rat) : Rat := if b1 = 0 ∧ b2 = 0 then 0 else c
theorem zc_t {b c : Rat} (h : b = 0) : zc b c = 0 := by unfold zc; rw [if_pos h]
theorem zc_f {b c : Rat} (h : b ≠ 0) : zc b c = c := by unfold zc; rw [if_neg h]
theorem zcp_t {b1 b2 c : Rat} (h : b1 = 0) (h2 : b2 = 0) : zcp b1 b2 c = 0 := by unfold zcp; rw [if_pos ⟨h, h2⟩]
theorem zcp_f1 {b1 b2 c : Rat} (h : b1 ≠ 0) : zcp b1 b2 c = c := by unfold zcp; rw [if_neg (fun e => h e.1)]
theorem zcp_f2 {b1 b2 c : Rat} (h : b2 ≠ 0) : zcp b1 b2 c = c := by unfold zcp; rw [if_neg (fun e => h e.2)]
theorem r_eq {x : Rat} (h : (cmpR x 0 == 0) = true) : x = 0 := cmpR_t0 h
theorem r_ne {x : Rat} (h : (cmpR x 0 == 0) = false) : x ≠ 0 := fun e => by rw [cmpR_eq0.2 e] at h; cases h
theorem r_ne' {x y : Rat} (h : (cmpR x y != 0) = true) : x ≠ y := fun e => by rw [cmpR_eq0.2 e] at h; cases h
theorem r_eq' {x y : Rat} (h : (cmpR x y != 0) = false) : x = y := cmpR_eq0.1 (by simpa using h)
theorem z_int : (0 : Rat) = ((0 : Int) : Rat) := rfl
/-- two radicands that do not fit -/
def bad (b1 c1 b2 c2 : Rat) : Prop := b1 ≠ 0 ∧ b2 ≠ 0 ∧ c1 ≠ c2
/-- the common radicand -/
def cc (b1 c1 c2 : Rat) : Rat := if b1 = 0 then c2 else c1
theorem cc_t {b1 c1 c2 : Rat} (h : b1 = 0) : cc b1 c1 c2 = c2 := by unfold cc; rw [if_pos h]
theorem cc_f {b1 c1 c2 : Rat} (h : b1 ≠ 0) : cc b1 c1 c2 = c1 := by unfold cc; rw [if_neg h]
/-- roots ¦ points in reduced form -/
def vRoot (b c : Rat) : Bool := if b = 0 ∨ c = 0 then decide (b = 0 ∧ c = 0) else decide (0 < c) && !sqR c
def vPt (b1 b2 c : Rat) : Bool := if b1 = 0 ∧ b2 = 0 then decide (c = 0) else decide (0 < c) && !sqR c
theorem r_eqb {x : Rat} : (cmpR x 0 == 0) = decide (x = 0) := by rw [Bool.eq_iff_iff, beq_iff_eq, decide_eq_true_eq, cmpR_eq0]
theorem r_gtb {x : Rat} : decide (cmpR x 0 > 0) = decide (0 < x) := by rw [Bool.eq_iff_iff, decide_eq_true_eq, decide_eq_true_eq]; exact cmpR_gt0
def rsame (a b c d e f : Rat) : Bool := decide (a = d) && (decide (b = e) && decide (c = f))
def psame (a1 b1 a2 b2 c p1 q1 p2 q2 r : Rat) : Bool := decide (a1 = p1) && (decide (b1 = q1) && (decide (a2 = p2) && (decide (b2 = q2) && decide (c = r))))
def vsame (v w x y : Rat) : Bool := decide (v = x) && decide (w = y)
theorem rsame_iff {a b c d e f : Rat} : rsame a b c d e f = true ↔ a = d ∧ b = e ∧ c = f := by unfold rsame; simp
theorem psame_iff {a1 b1 a2 b2 c p1 q1 p2 q2 r : Rat} : psame a1 b1 a2 b2 c p1 q1 p2 q2 r = true ↔ a1 = p1 ∧ b1 = q1 ∧ a2 = p2 ∧ b2 = q2 ∧ c = r := by unfold psame; simp
theorem vsame_iff {v w x y : Rat} : vsame v w x y = true ↔ v = x ∧ w = y := by unfold vsame; simp
theorem r_f1 {x : Rat} (h : (cmpR x 0 != 0) = true) : decide (x = 0) = false := by rw [decide_eq_false_iff_not]; exact r_ne' h
theorem r_t1 {x : Rat} (h : (cmpR x 0 != 0) = false) : decide (x = 0) = true := by rw [decide_eq_true_eq]; exact r_eq' h
theorem vRoot_b {b c : Rat} (h : (cmpR b 0 == 0) = true) : vRoot b c = (cmpR c 0 == 0) := by
  have := r_eq h
  unfold vRoot; rw [if_pos (.inl this), r_eqb, Bool.eq_iff_iff, decide_eq_true_eq, decide_eq_true_eq]
  exact ⟨fun e => e.2, fun e => ⟨this, e⟩⟩
theorem vRoot_c {b c : Rat} (h : (cmpR b 0 == 0) = false) (h2 : (cmpR c 0 == 0) = true) : vRoot b c = false := by
  have := r_ne h
  unfold vRoot; rw [if_pos (.inr (r_eq h2)), decide_eq_false_iff_not]
  exact fun e => this e.1
theorem vRoot_n {b c : Rat} (h : (cmpR b 0 == 0) = false) (h2 : (cmpR c 0 == 0) = false) : vRoot b c = (decide (cmpR c 0 > 0) && !sqR c) := by
  unfold vRoot; rw [if_neg (fun e => e.elim (r_ne h) (r_ne h2)), r_gtb]
theorem vPt_z {b1 b2 c : Rat} (h : (cmpR b1 0 == 0) = true) (h2 : (cmpR b2 0 == 0) = true) : vPt b1 b2 c = (cmpR c 0 == 0) := by
  unfold vPt; rw [if_pos ⟨r_eq h, r_eq h2⟩, r_eqb]
theorem vPt_1 {b1 b2 c : Rat} (h : (cmpR b1 0 == 0) = false) : vPt b1 b2 c = (decide (cmpR c 0 > 0) && !sqR c) := by
  unfold vPt; rw [if_neg (fun e => r_ne h e.1), r_gtb]
theorem vPt_2 {b1 b2 c : Rat} (h : (cmpR b2 0 == 0) = false) : vPt b1 b2 c = (decide (cmpR c 0 > 0) && !sqR c) := by
  unfold vPt; rw [if_neg (fun e => r_ne h e.2), r_gtb]
def zV : List CellD := [.b false, .s 0 [], .b false, .s 0 [], .b false, .s 0 [], .b false, .s 0 []]
/-- the zero point, as it is left -/
def zP : List CellD := [.b false, .s 0 [], .b false, .s 0 [], .b false, .s 0 [], .b false, .s 0 [], .b false, .s 0 [], .b false, .s 0 [], .b false, .s 0 [], .b false, .s 0 [], .b false, .s 0 [], .b false, .s 0 []]
end Go.Proofs.YtcimbhjmjlfloaaGreat
/- Fractions in reduced form. -/
namespace Go.Proofs.YtcimbhjmjlfloaaGreat
open Go Go.RowKit
-- no function swarf/rational.Valid in this seat
-- no function swarf/rational.Valid in this seat
theorem sValidA {r : RN} (hr : r.Wf) (hv : r.vv = false) (h1 : r.x1.length ≤ 1000) (h2 : r.x2.length ≤ 1000) : Ok Tryz.prog 39 [.a (cN r)] [.c (.b false)] := by
  have u1 := hr.u1
  have u2 := hr.u2
  refine Ok.of (by kernel_rfl) Tryz.func39 rfl rfl ?_
  rw [show Tryz.f39.ntmps = 26 from rfl, show Tryz.f39.results.toList = [.tmp 2] from rfl]
  refine dw_seq ?_
  -- region 0
  refine dw_region (by kernel_rfl) ?_
  refine dl_new (sem_box_a rfl rfl) rfl ?_
  refine dl_r (sem_assign rfl rfl) ?_
  refine dl_end ?_
  refine dw_seq ?_
  refine dw_seq ?_
  -- region 1
  refine dw_region (by kernel_rfl) ?_
  refine dl_r (sem_field fd28_0 rfl rfl) ?_
  refine dl_r (sem_load (us := ([.b r.n1] ++ [cM r.x1])) ty26 rfl rfl rfl rfl rfl) ?_
  refine dl_r (sem_call rfl rfl (nValid_ok (by assumption) (by assumption)) rfl) ?_
  refine dl_r (sem_not rfl rfl) ?_
  refine dl_rb (sem_move rfl rfl) (fun c1 hb1 => ?_)
  cases c1
  · refine dl_r (sem_field fd28_1 rfl rfl) ?_
    refine dl_r (sem_load (us := ([.b r.n2] ++ [cM r.x2])) ty26 rfl rfl rfl rfl rfl) ?_
    refine dl_r (sem_call rfl rfl (nValid_ok (by assumption) (by assumption)) rfl) ?_
    refine dl_r (sem_not rfl rfl) ?_
    refine dl_r (sem_pick rfl rfl rfl rfl) ?_
    refine dl_rb (sem_move rfl rfl) (fun c2 hb2 => ?_)
    cases c2
    · exact absurd (vv_f1 hv hb1) (by rw [hb2]; decide)
    · refine dl_skip (sem_skip rfl) ?_
      refine dl_skip (sem_skip rfl) ?_
      refine dl_skip (sem_skip rfl) ?_
      refine dl_skip (sem_skip rfl) ?_
      refine dl_r (sem_pick rfl rfl rfl rfl) ?_
      refine dl_end ?_
      refine dw_true rfl ?_
      refine dw_seq ?_
      -- region 2
      refine dw_region (by kernel_rfl) ?_
      refine dl_r (sem_assign rfl rfl) ?_
      refine dl_end ?_
      refine dw_ret ?_
      -- path ft
      exact ⟨.inr rfl, (resL_tmp rfl resL_nil)⟩
  · refine dl_skip (sem_skip rfl) ?_
    refine dl_skip (sem_skip rfl) ?_
    refine dl_skip (sem_skip rfl) ?_
    refine dl_skip (sem_skip rfl) ?_
    refine dl_r (sem_pick rfl rfl rfl rfl) ?_
    refine dl_r (sem_move rfl rfl) ?_
    refine dl_skip (sem_skip rfl) ?_
    refine dl_skip (sem_skip rfl) ?_
    refine dl_skip (sem_skip rfl) ?_
    refine dl_skip (sem_skip rfl) ?_
    refine dl_r (sem_pick rfl rfl rfl rfl) ?_
    refine dl_end ?_
    refine dw_true rfl ?_
    refine dw_seq ?_
    -- region 2
    refine dw_region (by kernel_rfl) ?_
    refine dl_r (sem_assign rfl rfl) ?_
    refine dl_end ?_
    refine dw_ret ?_
    -- path t
    exact ⟨.inr rfl, (resL_tmp rfl resL_nil)⟩
theorem sValidB {x y : Int} (hx : Sz 999 x) (hy : Sz 999 y) : Ok Tryz.prog 39 [dQ x y] [.c (.b (vQ x y))] := by
  have hx1 : Sz 1000 x := hx.mono (by decide)
  have hy1 : Sz 1000 y := hy.mono (by decide)
  refine Ok.of (by kernel_rfl) Tryz.func39 rfl rfl ?_
  rw [show Tryz.f39.ntmps = 26 from rfl, show Tryz.f39.results.toList = [.tmp 2] from rfl]
  refine dw_seq ?_
  -- region 0
  refine dw_region (by kernel_rfl) ?_
  refine dl_new (sem_box_a rfl rfl) rfl ?_
  refine dl_r (sem_assign rfl rfl) ?_
  refine dl_end ?_
  refine dw_seq ?_
  refine dw_seq ?_
  -- region 1
  refine dw_region (by kernel_rfl) ?_
  refine dl_r (sem_field fd28_0 rfl rfl) ?_
  refine dl_r (sem_load (us := cI x) ty26 rfl rfl rfl rfl rfl) ?_
  refine dl_r (sem_call rfl rfl (nValid_I (by assumption)) rfl) ?_
  refine dl_r (sem_not rfl rfl) ?_
  refine dl_r (sem_move rfl rfl) ?_
  refine dl_r (sem_field fd28_1 rfl rfl) ?_
  refine dl_r (sem_load (us := cI y) ty26 rfl rfl rfl rfl rfl) ?_
  refine dl_r (sem_call rfl rfl (nValid_I (by assumption)) rfl) ?_
  refine dl_r (sem_not rfl rfl) ?_
  refine dl_r (sem_pick rfl rfl rfl rfl) ?_
  refine dl_r (sem_move rfl rfl) ?_
  refine dl_r (sem_field fd28_1 rfl rfl) ?_
  refine dl_r (sem_load (us := cI y) ty26 rfl rfl rfl rfl rfl) ?_
  refine dl_r (sem_call rfl rfl (nSign_ok) rfl) ?_
  refine dl_r (sem_cmp rfl rfl rfl rfl) ?_
  refine dl_r (sem_pick rfl rfl rfl rfl) ?_
  refine dl_end ?_
  refine dw_cond rfl (fun hc1 => ?_) (fun hc1 => ?_)
  · refine dw_seq ?_
    -- region 2
    refine dw_region (by kernel_rfl) ?_
    refine dl_r (sem_assign rfl rfl) ?_
    refine dl_end ?_
    refine dw_ret ?_
    -- path T
    rw [vQ_n1 hc1]
    exact ⟨.inr rfl, (resL_tmp rfl resL_nil)⟩
  · have hgc : Sz 1000000 ((Int.gcd x y : Nat) : Int) := (Sz.gcd (x := x) hy (n1_ne hc1)).mono (by decide)
    refine dw_skip ?_
    refine dw_seq ?_
    -- region 3
    refine dw_region (by kernel_rfl) ?_
    refine dl_r (sem_field fd28_0 rfl rfl) ?_
    refine dl_r (sem_load (us := cI x) ty26 rfl rfl rfl rfl rfl) ?_
    refine dl_r (sem_field fd28_1 rfl rfl) ?_
    refine dl_r (sem_load (us := cI y) ty26 rfl rfl rfl rfl rfl) ?_
    refine dl_r (sem_call rfl rfl (nGCD_ok (by first | assumption | exact Sz.mono hx (by decide)) (by first | assumption | exact Sz.mono hy (by decide))) rfl) ?_
    refine dl_r (sem_call rfl rfl (sUnit_ok) rfl) ?_
    refine dl_r (sem_call rfl rfl (nSame_ok (by first | assumption | exact Sz.mono (by assumption) (by decide)) (by first | assumption | exact Sz.mono (Sz.small (k := 3) (by decide) (by decide) (by decide)) (by decide))) rfl) ?_
    refine dl_r (sem_assign rfl rfl) ?_
    refine dl_end ?_
    refine dw_ret ?_
    -- path F
    rw [vQ_e1 hc1]
    exact ⟨.inr rfl, (resL_tmp rfl resL_nil)⟩
theorem sValid_ok {r : RN} (hr : r.Wf) (h1 : r.x1.length ≤ 999) (h2 : r.x2.length ≤ 999) : Ok Tryz.prog 39 [.a (cN r)] [.c (.b r.v)] := by
  cases hv : r.vv with
  | false =>
    have := sValidA hr hv (by omega) (by omega)
    rw [show r.v = false from by unfold RN.v; rw [hv]; rfl]
    exact this
  | true =>
    obtain ⟨e1, e2, e3⟩ := vv_data hr hv
    rw [e1, show r.v = vQ r.a r.b from by unfold RN.v; rw [hv]; rfl]
    exact sValidB (sz_of_len (by omega)) (sz_of_len (by omega))
theorem sValid_R {x : Rat} (hx : Rz 999 x) : Ok Tryz.prog 39 [dR x] [.c (.b true)] := by
  have := sValidB hx.n hx.d
  rw [vQ_of] at this; exact this
-- no function swarf/swarfref02.Small in this seat
end Go.Proofs.YtcimbhjmjlfloaaGreat
/- Points: the small functions, program and reference. -/
namespace Go.Proofs.YtcimbhjmjlfloaaGreat
open Go Go.RowKit
-- no function swarf/point.zero in this seat
-- no function swarf/point.coordinate in this seat
-- no function swarf/point.X in this seat
-- no function swarf/point.Y in this seat
-- no function swarf/point.reduced in this seat
-- no function swarf/point.At in this seat
-- no function swarf/point.Translate in this seat
-- no function swarf/swarfref07.zero in this seat
-- no function swarf/swarfref03.zero in this seat
-- no function swarf/swarfref03.FromRat in this seat
-- no function swarf/swarfref07.coordinate in this seat
-- no function swarf/swarfref07.X in this seat
-- no function swarf/swarfref07.Y in this seat
-- no function swarf/swarfref07.reduced in this seat
-- no function swarf/swarfref07.At in this seat
-- no function swarf/swarfref07.Translate in this seat
end Go.Proofs.YtcimbhjmjlfloaaGreat
/- Plain: intervals of machine integers. -/
namespace Go.Proofs.YtcimbhjmjlfloaaGreat
open Go Go.RowKit
/-- x fits 64 bits -/
def fitB (x : Int) : Bool := decide (-9223372036854775808 ≤ x) && decide (x ≤ 9223372036854775807)
theorem fit_lo {x : Int} (h : x < -9223372036854775808) : fitB x = false := by unfold fitB; rw [decide_eq_false (by omega)]; rfl
theorem fit_hi {x : Int} (h : 9223372036854775807 < x) : fitB x = false := by unfold fitB; rw [decide_eq_false (p := x ≤ 9223372036854775807) (by omega), Bool.and_false]
theorem fit_in {x : Int} (h : ¬ x < -9223372036854775808) (h2 : ¬ 9223372036854775807 < x) : fitB x = true := by unfold fitB; rw [decide_eq_true (by omega), decide_eq_true (by omega)]; rfl
theorem fit_iff {x : Int} : fitB x = true ↔ -9223372036854775808 ≤ x ∧ x ≤ 9223372036854775807 := by unfold fitB; simp
theorem w_neg1 {r : Int} (h0 : 1 ≤ r) (h1 : r ≤ 9223372036854775808) : IntKind.u64.wrap (0 - r) = 18446744073709551616 - r := by unfold IntKind.wrap; simp [IntKind.bits, IntKind.signed]; omega
theorem w_neg2 {r : Int} (h0 : 1 ≤ r) (h1 : r ≤ 9223372036854775808) : IntKind.i64.wrap (18446744073709551616 - r) = -r := by unfold IntKind.wrap; simp [IntKind.bits, IntKind.signed]; omega
/-- ends that are not too great -/
def okI (lo hi : Int) : Bool := decide (-2305843009213693952 ≤ lo) && decide (hi ≤ 2305843009213693952)
theorem ok_lo {lo hi : Int} (h : lo < -2305843009213693952) : okI lo hi = false := by unfold okI; rw [decide_eq_false (by omega)]; rfl
theorem ok_hi {lo hi : Int} (h : hi > 2305843009213693952) : okI lo hi = false := by unfold okI; rw [decide_eq_false (p := hi ≤ 2305843009213693952) (by omega), Bool.and_false]
theorem ok_in {lo hi : Int} (h : ¬ lo < -2305843009213693952) (h2 : ¬ hi > 2305843009213693952) : okI lo hi = true := by unfold okI; rw [decide_eq_true (by omega), decide_eq_true (by omega)]; rfl
/-- the least interval with a number in it -/
def frLo (a : Rat) : Int := (a * ((65536 : Int) : Rat)).num.fdiv ((a * ((65536 : Int) : Rat)).den : Int)
def frHi (a : Rat) : Int := -((-(a * ((65536 : Int) : Rat))).num.fdiv ((-(a * ((65536 : Int) : Rat))).den : Int))
def frOk (a : Rat) : Bool := fitB (frLo a) && (fitB (frHi a) && okI (frLo a) (frHi a))
theorem dec_t {p : Prop} [Decidable p] (h : decide p = true) : p := by simpa using h
theorem dec_f {p : Prop} [Decidable p] (h : decide p = false) : ¬ p := by simpa using h
theorem not_f {b : Bool} (h : (!b) = false) : b = true := by simpa using h
theorem not_t {b : Bool} (h : (!b) = true) : b = false := by simpa using h
theorem dec_t' {p : Prop} {i : Decidable p} (h : @decide p i = true) : p := of_decide_eq_true h
end Go.Proofs.YtcimbhjmjlfloaaGreat
/- Package filter: the small functions. -/
namespace Go.Proofs.YtcimbhjmjlfloaaGreat
open Go Go.RowKit
theorem iInt64_ok {x : Int} (hx : Sz 1000000 x) : Ok Tryz.prog 108 [dI x] [.c (.i .i64 (if fitB x then x else 0)), .c (.b (fitB x))] := by
  refine Ok.of (by kernel_rfl) Tryz.func108 rfl rfl ?_
  rw [show Tryz.f108.ntmps = 39 from rfl, show Tryz.f108.results.toList = [.tmp 2, .tmp 3] from rfl]
  refine dw_seq ?_
  -- region 0
  refine dw_region (by kernel_rfl) ?_
  refine dl_new (sem_box_a rfl rfl) rfl ?_
  refine dl_r (sem_assign rfl rfl) ?_
  refine dl_r (sem_assign rfl rfl) ?_
  refine dl_end ?_
  refine dw_seq ?_
  refine dw_seq ?_
  -- region 1
  refine dw_draw 10 [] follows_mixed (by kernel_rfl) rfl rfl ?_
  refine dq_r (sem_load (us := cI x) ty26 rfl rfl rfl rfl rfl) ?_
  refine dq_r (sem_call rfl rfl (iFrom_ok (by omega) (by omega)) rfl) ?_
  refine dq_r (sem_call rfl rfl (iCmp_ok) rfl) ?_
  refine dq_r (sem_cmp rfl rfl rfl rfl) ?_
  refine dq_rb (sem_move rfl rfl) (fun c1 hb1 => ?_)
  cases c1
  · refine dq_r (sem_load (us := cI x) ty26 rfl rfl rfl rfl rfl) ?_
    refine dq_r (sem_call rfl rfl (iFrom_ok (by omega) (by omega)) rfl) ?_
    refine dq_r (sem_call rfl rfl (iCmp_ok) rfl) ?_
    refine dq_r (sem_cmp rfl rfl rfl rfl) ?_
    refine dq_r (sem_pick rfl rfl rfl rfl) ?_
    refine dq_end ?_
    refine dl_start0 ?_
    refine dl_end ?_
    refine dw_cond rfl (fun hc2 => ?_) (fun hc2 => ?_)
    · refine dw_seq ?_
      -- region 2
      refine dw_region (by kernel_rfl) ?_
      refine dl_r (sem_assign rfl rfl) ?_
      refine dl_r (sem_assign rfl rfl) ?_
      refine dl_end ?_
      refine dw_ret ?_
      -- path fT
      rw [fit_hi (t_gt hc2), if_neg (by decide)]
      exact ⟨.inr rfl, (resL_tmp rfl (resL_tmp rfl resL_nil))⟩
    · have hlo := f_lt hb1
      have hhi := f_gt hc2
      have hln := lim_len hx
      refine dw_skip ?_
      refine dw_seq ?_
      -- region 3
      refine dw_region (by kernel_rfl) ?_
      refine dl_r (sem_assign rfl rfl) ?_
      refine dl_end ?_
      refine dw_seq ?_
      refine dw_seq ?_
      -- region 4
      refine dw_region (by kernel_rfl) ?_
      refine dl_r (sem_field fd26_1 rfl rfl) ?_
      refine dl_r (sem_load1 ty24 rfl rfl rfl rfl) ?_
      refine dl_r (sem_len sl24 rfl rfl) ?_
      refine dl_r (sem_ari (r := (((lim x.natAbs).length : Int)) - 1) rfl rfl (ari_i64_sub (by (first | omega | (simp; omega))) (by (first | omega | (simp; omega)))) rfl) ?_
      refine dl_r (sem_assign rfl rfl) ?_
      refine dl_end ?_
      refine dw_block ?_
      refine dw_loop (ι := {t : Nat × Int // ShInv (lim x.natAbs) t.1 t.2}) (fun i => ⟨39, [(1, .p 1 0), (4, .v (.c (.i .u64 i.1.2))), (5, .v (.c (.i .i64 ((i.1.1 : Int) - 1))))], [(1, 26, cI x)]⟩) (fun i => i.1.1) ⟨((lim x.natAbs).length, 0), ⟨Nat.le_refl _, Int.le_refl 0, by rw [List.take_length]; simp⟩⟩ (sub_of ⟨rfl, rfl, rfl, trivial⟩ ⟨rfl, trivial⟩ rfl) ?_
      rintro ⟨⟨j, r⟩, hI⟩
      replace hI : ShInv (lim x.natAbs) j r := hI
      have g5 := hI.le
      have g3 := hI.r0
      have g4 := hI.bound (lim_lim _)
      rw [val_lim] at g4
      show Dw _ _ ⟨39, [(1, .p 1 0), (4, .v (.c (.i .u64 r))), (5, .v (.c (.i .i64 ((j : Int) - 1))))], [(1, 26, cI x)]⟩ _
      refine dw_seq ?_
      refine dw_seq ?_
      -- region 5
      refine dw_region (by kernel_rfl) ?_
      refine dl_r (sem_move rfl rfl) ?_
      refine dl_r (sem_cmp rfl rfl rfl rfl) ?_
      refine dl_end ?_
      refine dw_cond rfl (fun hc3 => ?_) (fun hc3 => ?_)
      · obtain ⟨q, rfl⟩ : ∃ q, j = q + 1 := ⟨j - 1, by have := dec_t hc3; omega⟩
        have hS := hI.step (lim_lim _)
        have hB := hS.bound (lim_lim _)
        have g1 := lim_getD (lim_lim x.natAbs) q
        rw [val_lim] at hB
        refine Dw.weak (σ' := ⟨39, [(1, .p 1 0), (4, .v (.c (.i .u64 r))), (5, .v (.c (.i .i64 (q : Int))))], [(1, 26, cI x)]⟩) (sub_of ⟨rfl, rfl, by rw [show (q : Int) = ((q + 1 : Nat) : Int) - 1 from by omega]; rfl, trivial⟩ ⟨rfl, trivial⟩ rfl) ?_
        refine dw_skip ?_
        refine dw_seq ?_
        refine dw_block ?_
        -- region 7
        refine dw_region (by kernel_rfl) ?_
        refine dl_r (sem_move rfl rfl) ?_
        refine dl_r (sem_ari (r := r * 1000000000) rfl rfl (ari_u64_mul (by (first | omega | (simp; omega))) (by (first | omega | (simp; omega)))) rfl) ?_
        refine dl_r (sem_field fd26_1 rfl rfl) ?_
        refine dl_r (sem_load1 ty24 rfl rfl rfl rfl) ?_
        refine dl_r (sem_move rfl rfl) ?_
        refine dl_r (sem_index sl24 rfl rfl (by (first | omega | (simp; omega))) (M_len _) rfl rfl) ?_
        refine dl_r (sem_loadq1 ty119 rfl (M_get (i := q) (by (first | omega | (simp; omega)))) rfl) ?_
        refine dl_r (sem_conv' (r := (lim x.natAbs).getD q 0) und119 und90 rfl (nwu64 (by (first | omega | (simp; omega))) (by (first | omega | (simp; omega)))) rfl) ?_
        refine dl_r (sem_ari (r := (r * 1000000000) + ((lim x.natAbs).getD q 0)) rfl rfl (ari_u64_add (by (first | omega | (simp; omega))) (by (first | omega | (simp; omega)))) rfl) ?_
        refine dl_r (sem_assign rfl rfl) ?_
        refine dl_end ?_
        -- region 6
        refine dw_region (by kernel_rfl) ?_
        refine dl_r (sem_move rfl rfl) ?_
        refine dl_r (sem_ari (r := (q : Int) - 1) rfl rfl (ari_i64_sub (by (first | omega | (simp; omega))) (by (first | omega | (simp; omega)))) rfl) ?_
        refine dl_r (sem_assign rfl rfl) ?_
        refine dl_end ?_
        exact ⟨⟨(q, r * 1000000000 + (lim x.natAbs).getD q 0), hS⟩, sub_of ⟨rfl, rfl, rfl, trivial⟩ ⟨rfl, trivial⟩ rfl, by show q < q + 1; omega⟩
      · have hz : j = 0 := by have := dec_f hc3; omega
        have hfin : (x.natAbs : Int) = r := by subst hz; have := hI.v; rw [val_lim] at this; simp [val, pw_zero] at this; omega
        refine dw_exit ?_
        refine dw_seq ?_
        refine dw_seq ?_
        -- region 8
        refine dw_region (by kernel_rfl) ?_
        refine dl_r (sem_field fd26_0 rfl rfl) ?_
        refine dl_r (sem_load1 ty4 rfl rfl rfl rfl) ?_
        refine dl_end ?_
        refine dw_cond rfl (fun hc4 => ?_) (fun hc4 => ?_)
        · have hn := dec_t hc4
          -- region 9
          refine dw_region (by kernel_rfl) ?_
          refine dl_r (sem_move rfl rfl) ?_
          refine dl_r (sem_neg' (r := 18446744073709551616 - r) rfl (w_neg1 (by omega) (by omega)) rfl) ?_
          refine dl_r (sem_assign rfl rfl) ?_
          refine dl_end ?_
          refine dw_seq ?_
          -- region 10
          refine dw_region (by kernel_rfl) ?_
          refine dl_r (sem_move rfl rfl) ?_
          refine dl_r (sem_conv' (r := x) und90 und2 rfl (by rw [w_neg2 (by omega) (by omega)]; omega) rfl) ?_
          refine dl_r (sem_assign rfl rfl) ?_
          refine dl_r (sem_assign rfl rfl) ?_
          refine dl_end ?_
          refine dw_ret ?_
          -- path fFFT
          rw [fit_in hlo hhi, if_pos rfl]
          exact ⟨.inr rfl, (resL_tmp rfl (resL_tmp rfl resL_nil))⟩
        · have hn := dec_f hc4
          refine dw_skip ?_
          refine dw_seq ?_
          -- region 10
          refine dw_region (by kernel_rfl) ?_
          refine dl_r (sem_move rfl rfl) ?_
          refine dl_r (sem_conv' (r := x) und90 und2 rfl (by rw [← hfin]; rw [nw64 (by omega) (by omega)]; omega) rfl) ?_
          refine dl_r (sem_assign rfl rfl) ?_
          refine dl_r (sem_assign rfl rfl) ?_
          refine dl_end ?_
          refine dw_ret ?_
          -- path fFFF
          rw [fit_in hlo hhi, if_pos rfl]
          exact ⟨.inr rfl, (resL_tmp rfl (resL_tmp rfl resL_nil))⟩
  · refine dq_skip (sem_skip rfl) ?_
    refine dq_skip (sem_skip rfl) ?_
    refine dq_skip (sem_skip rfl) ?_
    refine dq_skip (sem_skip rfl) ?_
    refine dq_r (sem_pick rfl rfl rfl rfl) ?_
    refine dq_end ?_
    refine dl_start0 ?_
    refine dl_end ?_
    refine dw_true rfl ?_
    refine dw_seq ?_
    -- region 2
    refine dw_region (by kernel_rfl) ?_
    refine dl_r (sem_assign rfl rfl) ?_
    refine dl_r (sem_assign rfl rfl) ?_
    refine dl_end ?_
    refine dw_ret ?_
    -- path t
    rw [fit_lo (t_lt hb1), if_neg (by decide)]
    exact ⟨.inr rfl, (resL_tmp rfl (resL_tmp rfl resL_nil))⟩
theorem fProper_ok {x y : Int} : Ok Tryz.prog 107 [.c (.i .i64 x), .c (.i .i64 y)] [.a ([.i .i64 (if okI x y then x else 0)] ++ [.i .i64 (if okI x y then y else 0)]), .c (.b (okI x y))] := by
  refine Ok.of (by kernel_rfl) Tryz.func107 rfl rfl ?_
  rw [show Tryz.f107.ntmps = 16 from rfl, show Tryz.f107.results.toList = [.cell 4 95, .tmp 5] from rfl]
  refine dw_seq ?_
  -- region 0
  refine dw_region (by kernel_rfl) ?_
  refine dl_new (sem_alloc zc95 rfl) rfl ?_
  refine dl_r (sem_assign rfl rfl) ?_
  refine dl_end ?_
  refine dw_seq ?_
  refine dw_seq ?_
  -- region 1
  refine dw_region (by kernel_rfl) ?_
  refine dl_r (sem_move rfl rfl) ?_
  refine dl_r (sem_cmp rfl rfl rfl rfl) ?_
  refine dl_rb (sem_move rfl rfl) (fun c1 hb1 => ?_)
  cases c1
  · refine dl_r (sem_move rfl rfl) ?_
    refine dl_r (sem_cmp rfl rfl rfl rfl) ?_
    refine dl_r (sem_pick rfl rfl rfl rfl) ?_
    refine dl_end ?_
    refine dw_cond rfl (fun hc2 => ?_) (fun hc2 => ?_)
    · refine dw_seq ?_
      -- region 2
      refine dw_region (by kernel_rfl) ?_
      refine dl_r (sem_build (us := ([.i .i64 0] ++ [.i .i64 0])) fs95 zc95 rfl rfl rfl) ?_
      refine dl_st (sem_store_a ty95 rfl rfl rfl rfl rfl rfl) ?_
      refine dl_r (sem_assign rfl rfl) ?_
      refine dl_end ?_
      refine dw_ret ?_
      -- path fT
      rw [ok_hi (dec_t hc2), if_neg (by decide), if_neg (by decide)]
      exact ⟨.inr rfl, (resL_cell (us := ([.i .i64 0] ++ [.i .i64 0])) ty95 rfl rfl rfl rfl (resL_tmp rfl resL_nil))⟩
    · refine dw_skip ?_
      refine dw_seq ?_
      -- region 3
      refine dw_region (by kernel_rfl) ?_
      refine dl_r (sem_move rfl rfl) ?_
      refine dl_r (sem_move rfl rfl) ?_
      refine dl_r (sem_build (us := ([.i .i64 x] ++ [.i .i64 y])) fs95 zc95 rfl rfl rfl) ?_
      refine dl_st (sem_store_a ty95 rfl rfl rfl rfl rfl rfl) ?_
      refine dl_r (sem_assign rfl rfl) ?_
      refine dl_end ?_
      refine dw_ret ?_
      -- path fF
      rw [ok_in (dec_f hb1) (dec_f hc2), if_pos rfl, if_pos rfl]
      exact ⟨.inr rfl, (resL_cell (us := ([.i .i64 x] ++ [.i .i64 y])) ty95 rfl rfl rfl rfl (resL_tmp rfl resL_nil))⟩
  · refine dl_skip (sem_skip rfl) ?_
    refine dl_skip (sem_skip rfl) ?_
    refine dl_r (sem_pick rfl rfl rfl rfl) ?_
    refine dl_end ?_
    refine dw_true rfl ?_
    refine dw_seq ?_
    -- region 2
    refine dw_region (by kernel_rfl) ?_
    refine dl_r (sem_build (us := ([.i .i64 0] ++ [.i .i64 0])) fs95 zc95 rfl rfl rfl) ?_
    refine dl_st (sem_store_a ty95 rfl rfl rfl rfl rfl rfl) ?_
    refine dl_r (sem_assign rfl rfl) ?_
    refine dl_end ?_
    refine dw_ret ?_
    -- path t
    rw [ok_lo (dec_t hb1), if_neg (by decide), if_neg (by decide)]
    exact ⟨.inr rfl, (resL_cell (us := ([.i .i64 0] ++ [.i .i64 0])) ty95 rfl rfl rfl rfl (resL_tmp rfl resL_nil))⟩
end Go.Proofs.YtcimbhjmjlfloaaGreat
/- Plain: the signs of sums with one and with two square roots, as both programs compute them. -/
namespace Go.Proofs.YtcimbhjmjlfloaaGreat
open Go Go.RowKit
theorem ari_i64_mul {a b : Int} (h0 : -9223372036854775808 ≤ a * b) (h1 : a * b ≤ 9223372036854775807) : iari .mul .i64 a b = some (a * b) := congrArg some (nw64 h0 h1)
def comb (s t c : Int) : Int := if t = 0 ∨ s = t then s else if s = 0 then t else s * c
def plainS (a b m : Rat) : Int := comb (cmpR a 0) (cmpR b 0 * cmpR m 0) (cmpR (a * a) (b * b * m))
def quadA (A B C D M N : Rat) : Rat := A * A + B * B * M - N * (C * C + D * D * M)
def quadB (A B C D N : Rat) : Rat := A * B - N * (C * D)
def signQ (A B C D M N : Rat) : Int := if M < 0 ∨ N < 0 then 0 else comb (plainS A B M) (plainS C D M * cmpR N 0) (plainS (quadA A B C D M N) (quadB A B C D N + quadB A B C D N) M)
theorem comb_s0 {s t c : Int} (h : (s == 0) = true) : comb s t c = t := by
  have h : s = 0 := by simpa using h
  subst h
  unfold comb
  by_cases ht : t = 0
  · rw [if_pos (.inl ht), ht]
  · rw [if_neg (by omega), if_pos rfl]
theorem comb_t0 {s t c : Int} (h : (t == 0) = true) : comb s t c = s := by
  have h : t = 0 := by simpa using h
  unfold comb; rw [if_pos (.inl h)]
theorem comb_eq {s t c : Int} (h : (s == t) = true) : comb s t c = s := by
  have h : s = t := by simpa using h
  unfold comb; rw [if_pos (.inr h)]
theorem comb_ne {s t c : Int} (h1 : (s == 0) = false) (h2 : (t == 0) = false) (h3 : (s == t) = false) : comb s t c = s * c := by
  have h1 : s ≠ 0 := by simpa using h1
  have h2 : t ≠ 0 := by simpa using h2
  have h3 : s ≠ t := by simpa using h3
  unfold comb; rw [if_neg (by omega), if_neg h1]
theorem cmpR_bd (x y : Rat) : -1 ≤ cmpR x y ∧ cmpR x y ≤ 1 := by
  unfold cmpR
  split
  · omega
  · split <;> omega
theorem prod_bd {s t : Int} (h : -1 ≤ s ∧ s ≤ 1) (h' : -1 ≤ t ∧ t ≤ 1) : -1 ≤ s * t ∧ s * t ≤ 1 := by
  have hs : s = -1 ∨ s = 0 ∨ s = 1 := by omega
  rcases hs with rfl | rfl | rfl <;> omega
theorem comb_bd {s t c : Int} (h : -1 ≤ s ∧ s ≤ 1) (h' : -1 ≤ t ∧ t ≤ 1) (h2 : -1 ≤ c ∧ c ≤ 1) : -1 ≤ comb s t c ∧ comb s t c ≤ 1 := by
  unfold comb
  split
  · exact h
  · split
    · exact h'
    · exact prod_bd h h2
theorem plainS_bd (a b m : Rat) : -1 ≤ plainS a b m ∧ plainS a b m ≤ 1 := comb_bd (cmpR_bd _ _) (prod_bd (cmpR_bd _ _) (cmpR_bd _ _)) (cmpR_bd _ _)
theorem r_lt {x : Rat} (h : decide (cmpR x 0 < 0) = true) : x < 0 := cmpR_lt0.1 (by simpa using h)
theorem r_nlt {x : Rat} (h : decide (cmpR x 0 < 0) = false) : ¬ x < 0 := fun e => by have := cmpR_lt0.2 e; simp at h; omega
theorem signQ_n {A B C D M N : Rat} (h : M < 0 ∨ N < 0) : signQ A B C D M N = 0 := by unfold signQ; rw [if_pos h]
theorem signQ_p {A B C D M N : Rat} (h : ¬ M < 0) (h' : ¬ N < 0) : signQ A B C D M N = comb (plainS A B M) (plainS C D M * cmpR N 0) (plainS (quadA A B C D M N) (quadB A B C D N + quadB A B C D N) M) := by
  unfold signQ; rw [if_neg (fun e => e.elim h h')]
end Go.Proofs.YtcimbhjmjlfloaaGreat
/- Signs of a + b sqrt(m), program and reference. -/
namespace Go.Proofs.YtcimbhjmjlfloaaGreat
open Go Go.RowKit
theorem xPlain_ok {a b m : Rat} (ha : Rz 100 a) (hb : Rz 100 b) (hm : Rz 100 m) : Ok Tryz.prog 35 [dR a, dR b, dR m] [.c (.i .i64 (plainS a b m))] := by
  have ka : Rz 300 a := ha.mono (by decide)
  have kb : Rz 300 b := hb.mono (by decide)
  have hp := prod_bd (cmpR_bd b 0) (cmpR_bd m 0)
  have hp2 := prod_bd (cmpR_bd a 0) (cmpR_bd (a * a) (b * b * m))
  refine Ok.of (by kernel_rfl) Tryz.func35 rfl rfl ?_
  rw [show Tryz.f35.ntmps = 40 from rfl, show Tryz.f35.results.toList = [.tmp 6] from rfl]
  refine dw_seq ?_
  -- region 0
  refine dw_region (by kernel_rfl) ?_
  refine dl_new (sem_box_a rfl rfl) rfl ?_
  refine dl_new (sem_box_a rfl rfl) rfl ?_
  refine dl_new (sem_box_a rfl rfl) rfl ?_
  refine dl_r (sem_assign rfl rfl) ?_
  refine dl_end ?_
  refine dw_seq ?_
  -- region 1
  refine dw_draw 9 [] follows_mixed (by kernel_rfl) rfl rfl ?_
  refine dq_r (sem_load (us := cR a) ty28 rfl rfl rfl rfl rfl) ?_
  refine dq_r (sem_call rfl rfl (pSign_ok) rfl) ?_
  refine dq_r (sem_load (us := cR b) ty28 rfl rfl rfl rfl rfl) ?_
  refine dq_r (sem_call rfl rfl (pSign_ok) rfl) ?_
  refine dq_r (sem_load (us := cR m) ty28 rfl rfl rfl rfl rfl) ?_
  refine dq_r (sem_call rfl rfl (pSign_ok) rfl) ?_
  refine dq_r (sem_ari (r := (cmpR b 0) * (cmpR m 0)) rfl rfl (ari_i64_mul (by omega) (by omega)) rfl) ?_
  refine dq_r (sem_assign rfl rfl) ?_
  refine dq_r (sem_assign rfl rfl) ?_
  refine dq_end ?_
  refine dl_start0 ?_
  refine dl_end ?_
  refine dw_seq ?_
  refine dw_block ?_
  refine dw_seq ?_
  -- region 2
  refine dw_region (by kernel_rfl) ?_
  refine dl_r (sem_move rfl rfl) ?_
  refine dl_r (sem_cmp rfl rfl rfl rfl) ?_
  refine dl_rb (sem_move rfl rfl) (fun c1 hb1 => ?_)
  cases c1
  · refine dl_r (sem_move rfl rfl) ?_
    refine dl_r (sem_move rfl rfl) ?_
    refine dl_r (sem_cmp rfl rfl rfl rfl) ?_
    refine dl_r (sem_pick rfl rfl rfl rfl) ?_
    refine dl_r (sem_assign rfl rfl) ?_
    refine dl_end ?_
    refine dw_cond rfl (fun hc2 => ?_) (fun hc2 => ?_)
    · refine dw_seq ?_
      -- region 3
      refine dw_region (by kernel_rfl) ?_
      refine dl_r (sem_move rfl rfl) ?_
      refine dl_r (sem_assign rfl rfl) ?_
      refine dl_end ?_
      refine dw_ret ?_
      -- path fT
      unfold plainS
      rw [comb_eq hc2]
      exact ⟨.inr rfl, (resL_tmp rfl resL_nil)⟩
    · refine dw_seq ?_
      -- region 4
      refine dw_region (by kernel_rfl) ?_
      refine dl_r (sem_move rfl rfl) ?_
      refine dl_r (sem_cmp rfl rfl rfl rfl) ?_
      refine dl_r (sem_assign rfl rfl) ?_
      refine dl_end ?_
      refine dw_cond rfl (fun hc3 => ?_) (fun hc3 => ?_)
      · refine dw_seq ?_
        -- region 5
        refine dw_region (by kernel_rfl) ?_
        refine dl_r (sem_move rfl rfl) ?_
        refine dl_r (sem_assign rfl rfl) ?_
        refine dl_end ?_
        refine dw_ret ?_
        -- path fFT
        unfold plainS
        rw [comb_s0 hc3]
        exact ⟨.inr rfl, (resL_tmp rfl resL_nil)⟩
      · refine dw_skip ?_
        refine dw_seq ?_
        -- region 6
        refine dw_draw 12 [] follows_mixed (by kernel_rfl) rfl rfl ?_
        refine dq_r (sem_move rfl rfl) ?_
        refine dq_r (sem_load (us := cR a) ty28 rfl rfl rfl rfl rfl) ?_
        refine dq_r (sem_load (us := cR a) ty28 rfl rfl rfl rfl rfl) ?_
        refine dq_r (sem_call rfl rfl (pMul_ok (by first | assumption | exact Rz.mono ha (by decide)) (by first | assumption | exact Rz.mono ha (by decide))) rfl) ?_
        refine dq_r (sem_load (us := cR b) ty28 rfl rfl rfl rfl rfl) ?_
        refine dq_r (sem_load (us := cR b) ty28 rfl rfl rfl rfl rfl) ?_
        refine dq_r (sem_call rfl rfl (pMul_ok (by first | assumption | exact Rz.mono hb (by decide)) (by first | assumption | exact Rz.mono hb (by decide))) rfl) ?_
        refine dq_r (sem_load (us := cR m) ty28 rfl rfl rfl rfl rfl) ?_
        refine dq_r (sem_call rfl rfl (pMul_ok (by first | assumption | exact Rz.mono (Rz.mul hb hb) (by decide)) (by first | assumption | exact Rz.mono hm (by decide))) rfl) ?_
        refine dq_r (sem_call rfl rfl (pCmp_ok (by first | assumption | exact Rz.mono (Rz.mul ha ha) (by decide)) (by first | assumption | exact Rz.mono (Rz.mul (Rz.mul hb hb) hm) (by decide))) rfl) ?_
        refine dq_r (sem_ari (r := (cmpR a 0) * (cmpR (a * a) ((b * b) * m))) rfl rfl (ari_i64_mul (by omega) (by omega)) rfl) ?_
        refine dq_r (sem_assign rfl rfl) ?_
        refine dq_end ?_
        refine dl_start0 ?_
        refine dl_end ?_
        refine dw_ret ?_
        -- path fFF
        unfold plainS
        rw [comb_ne hc3 hb1 hc2]
        exact ⟨.inr rfl, (resL_tmp rfl resL_nil)⟩
  · refine dl_skip (sem_skip rfl) ?_
    refine dl_skip (sem_skip rfl) ?_
    refine dl_skip (sem_skip rfl) ?_
    refine dl_r (sem_pick rfl rfl rfl rfl) ?_
    refine dl_r (sem_assign rfl rfl) ?_
    refine dl_end ?_
    refine dw_true rfl ?_
    refine dw_seq ?_
    -- region 3
    refine dw_region (by kernel_rfl) ?_
    refine dl_r (sem_move rfl rfl) ?_
    refine dl_r (sem_assign rfl rfl) ?_
    refine dl_end ?_
    refine dw_ret ?_
    -- path t
    unfold plainS
    rw [comb_t0 hb1]
    exact ⟨.inr rfl, (resL_tmp rfl resL_nil)⟩
theorem yTwo_ok {a b m : Rat} (ha : Rz 100 a) (hb : Rz 100 b) (hm : Rz 100 m) : Ok Tryz.prog 83 [dR a, dR b, dR m] [.c (.i .i64 (plainS a b m))] := by
  have ka : Rz 300 a := ha.mono (by decide)
  have kb : Rz 300 b := hb.mono (by decide)
  have hp := prod_bd (cmpR_bd b 0) (cmpR_bd m 0)
  have hp2 := prod_bd (cmpR_bd a 0) (cmpR_bd (a * a) (b * b * m))
  refine Ok.of (by kernel_rfl) Tryz.func83 rfl rfl ?_
  rw [show Tryz.f83.ntmps = 42 from rfl, show Tryz.f83.results.toList = [.tmp 6] from rfl]
  refine dw_seq ?_
  -- region 0
  refine dw_region (by kernel_rfl) ?_
  refine dl_new (sem_box_a rfl rfl) rfl ?_
  refine dl_new (sem_box_a rfl rfl) rfl ?_
  refine dl_new (sem_box_a rfl rfl) rfl ?_
  refine dl_r (sem_assign rfl rfl) ?_
  refine dl_end ?_
  refine dw_seq ?_
  -- region 1
  refine dw_draw 9 [] follows_mixed (by kernel_rfl) rfl rfl ?_
  refine dq_r (sem_load (us := cR a) ty28 rfl rfl rfl rfl rfl) ?_
  refine dq_r (sem_call rfl rfl (sSign_ok) rfl) ?_
  refine dq_r (sem_load (us := cR b) ty28 rfl rfl rfl rfl rfl) ?_
  refine dq_r (sem_call rfl rfl (sSign_ok) rfl) ?_
  refine dq_r (sem_load (us := cR m) ty28 rfl rfl rfl rfl rfl) ?_
  refine dq_r (sem_call rfl rfl (sSign_ok) rfl) ?_
  refine dq_r (sem_ari (r := (cmpR b 0) * (cmpR m 0)) rfl rfl (ari_i64_mul (by omega) (by omega)) rfl) ?_
  refine dq_r (sem_assign rfl rfl) ?_
  refine dq_r (sem_assign rfl rfl) ?_
  refine dq_end ?_
  refine dl_start0 ?_
  refine dl_end ?_
  refine dw_seq ?_
  refine dw_seq ?_
  -- region 2
  refine dw_region (by kernel_rfl) ?_
  refine dl_r (sem_move rfl rfl) ?_
  refine dl_r (sem_cmp rfl rfl rfl rfl) ?_
  refine dl_rb (sem_move rfl rfl) (fun c1 hb1 => ?_)
  cases c1
  · refine dl_r (sem_move rfl rfl) ?_
    refine dl_r (sem_cmp rfl rfl rfl rfl) ?_
    refine dl_r (sem_pick rfl rfl rfl rfl) ?_
    refine dl_rb (sem_move rfl rfl) (fun c2 hb2 => ?_)
    cases c2
    · refine dl_r (sem_move rfl rfl) ?_
      refine dl_r (sem_move rfl rfl) ?_
      refine dl_r (sem_cmp rfl rfl rfl rfl) ?_
      refine dl_r (sem_pick rfl rfl rfl rfl) ?_
      refine dl_end ?_
      refine dw_cond rfl (fun hc3 => ?_) (fun hc3 => ?_)
      · refine dw_seq ?_
        refine dw_seq ?_
        -- region 3
        refine dw_region (by kernel_rfl) ?_
        refine dl_r (sem_move rfl rfl) ?_
        refine dl_r (sem_cmp rfl rfl rfl rfl) ?_
        refine dl_end ?_
        refine dw_cond rfl (fun hc4 => ?_) (fun hc4 => ?_)
        · exact absurd hc4 (by rw [hb1]; decide)
        · refine dw_skip ?_
          refine dw_seq ?_
          -- region 5
          refine dw_region (by kernel_rfl) ?_
          refine dl_r (sem_move rfl rfl) ?_
          refine dl_r (sem_assign rfl rfl) ?_
          refine dl_end ?_
          refine dw_ret ?_
          -- path ffTF
          unfold plainS
          rw [comb_eq hc3]
          exact ⟨.inr rfl, (resL_tmp rfl resL_nil)⟩
      · refine dw_skip ?_
        refine dw_seq ?_
        -- region 6
        refine dw_draw 12 [] follows_mixed (by kernel_rfl) rfl rfl ?_
        refine dq_r (sem_move rfl rfl) ?_
        refine dq_r (sem_load (us := cR a) ty28 rfl rfl rfl rfl rfl) ?_
        refine dq_r (sem_load (us := cR a) ty28 rfl rfl rfl rfl rfl) ?_
        refine dq_r (sem_call rfl rfl (sMul_ok (by first | assumption | exact Rz.mono ha (by decide)) (by first | assumption | exact Rz.mono ha (by decide))) rfl) ?_
        refine dq_r (sem_load (us := cR b) ty28 rfl rfl rfl rfl rfl) ?_
        refine dq_r (sem_load (us := cR b) ty28 rfl rfl rfl rfl rfl) ?_
        refine dq_r (sem_call rfl rfl (sMul_ok (by first | assumption | exact Rz.mono hb (by decide)) (by first | assumption | exact Rz.mono hb (by decide))) rfl) ?_
        refine dq_r (sem_load (us := cR m) ty28 rfl rfl rfl rfl rfl) ?_
        refine dq_r (sem_call rfl rfl (sMul_ok (by first | assumption | exact Rz.mono (Rz.mul hb hb) (by decide)) (by first | assumption | exact Rz.mono hm (by decide))) rfl) ?_
        refine dq_r (sem_call rfl rfl (sCmp_ok (by first | assumption | exact Rz.mono (Rz.mul ha ha) (by decide)) (by first | assumption | exact Rz.mono (Rz.mul (Rz.mul hb hb) hm) (by decide))) rfl) ?_
        refine dq_r (sem_ari (r := (cmpR a 0) * (cmpR (a * a) ((b * b) * m))) rfl rfl (ari_i64_mul (by omega) (by omega)) rfl) ?_
        refine dq_r (sem_assign rfl rfl) ?_
        refine dq_end ?_
        refine dl_start0 ?_
        refine dl_end ?_
        refine dw_ret ?_
        -- path ffF
        unfold plainS
        rw [comb_ne hb1 hb2 hc3]
        exact ⟨.inr rfl, (resL_tmp rfl resL_nil)⟩
    · refine dl_skip (sem_skip rfl) ?_
      refine dl_skip (sem_skip rfl) ?_
      refine dl_skip (sem_skip rfl) ?_
      refine dl_r (sem_pick rfl rfl rfl rfl) ?_
      refine dl_end ?_
      refine dw_true rfl ?_
      refine dw_seq ?_
      refine dw_seq ?_
      -- region 3
      refine dw_region (by kernel_rfl) ?_
      refine dl_r (sem_move rfl rfl) ?_
      refine dl_r (sem_cmp rfl rfl rfl rfl) ?_
      refine dl_end ?_
      refine dw_cond rfl (fun hc5 => ?_) (fun hc5 => ?_)
      · exact absurd hc5 (by rw [hb1]; decide)
      · refine dw_skip ?_
        refine dw_seq ?_
        -- region 5
        refine dw_region (by kernel_rfl) ?_
        refine dl_r (sem_move rfl rfl) ?_
        refine dl_r (sem_assign rfl rfl) ?_
        refine dl_end ?_
        refine dw_ret ?_
        -- path ftF
        unfold plainS
        rw [comb_t0 hb2]
        exact ⟨.inr rfl, (resL_tmp rfl resL_nil)⟩
  · refine dl_skip (sem_skip rfl) ?_
    refine dl_skip (sem_skip rfl) ?_
    refine dl_r (sem_pick rfl rfl rfl rfl) ?_
    refine dl_r (sem_move rfl rfl) ?_
    refine dl_skip (sem_skip rfl) ?_
    refine dl_skip (sem_skip rfl) ?_
    refine dl_skip (sem_skip rfl) ?_
    refine dl_r (sem_pick rfl rfl rfl rfl) ?_
    refine dl_end ?_
    refine dw_true rfl ?_
    refine dw_seq ?_
    refine dw_seq ?_
    -- region 3
    refine dw_region (by kernel_rfl) ?_
    refine dl_r (sem_move rfl rfl) ?_
    refine dl_r (sem_cmp rfl rfl rfl rfl) ?_
    refine dl_end ?_
    refine dw_cond rfl (fun hc6 => ?_) (fun hc6 => ?_)
    · refine dw_seq ?_
      -- region 4
      refine dw_region (by kernel_rfl) ?_
      refine dl_r (sem_move rfl rfl) ?_
      refine dl_r (sem_assign rfl rfl) ?_
      refine dl_end ?_
      refine dw_ret ?_
      -- path tT
      unfold plainS
      rw [comb_s0 hb1]
      exact ⟨.inr rfl, (resL_tmp rfl resL_nil)⟩
    · exact absurd hb1 (by rw [hc6]; decide)
end Go.Proofs.YtcimbhjmjlfloaaGreat
/- Signs of sums with two square roots: the reference; differences. -/
namespace Go.Proofs.YtcimbhjmjlfloaaGreat
open Go Go.RowKit
theorem ySign_ok {A B C D M N : Rat} (hA : Rz 8 A) (hB : Rz 8 B) (hC : Rz 8 C) (hD : Rz 8 D) (hM : Rz 8 M) (hN : Rz 8 N) : Ok Tryz.prog 46 [.a (cR A ++ cR B ++ cR C ++ cR D ++ cR M ++ cR N)] [.c (.i .i64 (signQ A B C D M N))] := by
  have z1 := prod_bd (plainS_bd C D M) (cmpR_bd N 0)
  have z2 := prod_bd (plainS_bd A B M) (plainS_bd (A * A + B * B * M - N * (C * C + D * D * M)) ((A * B - N * (C * D)) + (A * B - N * (C * D))) M)
  refine Ok.of (by kernel_rfl) Tryz.func46 rfl rfl ?_
  rw [show Tryz.f46.ntmps = 107 from rfl, show Tryz.f46.results.toList = [.tmp 2] from rfl]
  refine dw_seq ?_
  -- region 0
  refine dw_region (by kernel_rfl) ?_
  refine dl_new (sem_box_a rfl rfl) rfl ?_
  refine dl_r (sem_assign rfl rfl) ?_
  refine dl_end ?_
  refine dw_seq ?_
  refine dw_seq ?_
  -- region 1
  refine dw_region (by kernel_rfl) ?_
  refine dl_r (sem_field fd45_4 rfl rfl) ?_
  refine dl_r (sem_load (us := cR M) ty28 rfl rfl rfl rfl rfl) ?_
  refine dl_r (sem_call rfl rfl (sSign_ok) rfl) ?_
  refine dl_r (sem_cmp rfl rfl rfl rfl) ?_
  refine dl_rb (sem_move rfl rfl) (fun c1 hb1 => ?_)
  cases c1
  · have n1 := r_nlt hb1
    refine dl_r (sem_field fd45_5 rfl rfl) ?_
    refine dl_r (sem_load (us := cR N) ty28 rfl rfl rfl rfl rfl) ?_
    refine dl_r (sem_call rfl rfl (sSign_ok) rfl) ?_
    refine dl_r (sem_cmp rfl rfl rfl rfl) ?_
    refine dl_r (sem_pick rfl rfl rfl rfl) ?_
    refine dl_end ?_
    refine dw_cond rfl (fun hc2 => ?_) (fun hc2 => ?_)
    · refine dw_seq ?_
      -- region 2
      refine dw_region (by kernel_rfl) ?_
      refine dl_r (sem_assign rfl rfl) ?_
      refine dl_end ?_
      refine dw_ret ?_
      -- path fT
      rw [signQ_n (.inr (r_lt hc2))]
      exact ⟨.inr rfl, (resL_tmp rfl resL_nil)⟩
    · have n2 := r_nlt hc2
      refine dw_skip ?_
      refine dw_seq ?_
      -- region 3
      refine dw_draw 20 [] follows_mixed (by kernel_rfl) rfl rfl ?_
      refine dq_r (sem_field fd45_0 rfl rfl) ?_
      refine dq_r (sem_load (us := cR A) ty28 rfl rfl rfl rfl rfl) ?_
      refine dq_r (sem_field fd45_1 rfl rfl) ?_
      refine dq_r (sem_load (us := cR B) ty28 rfl rfl rfl rfl rfl) ?_
      refine dq_r (sem_field fd45_4 rfl rfl) ?_
      refine dq_r (sem_load (us := cR M) ty28 rfl rfl rfl rfl rfl) ?_
      refine dq_r (sem_call rfl rfl (yTwo_ok (by first | assumption | exact Rz.mono hA (by decide)) (by first | assumption | exact Rz.mono hB (by decide)) (by first | assumption | exact Rz.mono hM (by decide))) rfl) ?_
      refine dq_r (sem_field fd45_2 rfl rfl) ?_
      refine dq_r (sem_load (us := cR C) ty28 rfl rfl rfl rfl rfl) ?_
      refine dq_r (sem_field fd45_3 rfl rfl) ?_
      refine dq_r (sem_load (us := cR D) ty28 rfl rfl rfl rfl rfl) ?_
      refine dq_r (sem_field fd45_4 rfl rfl) ?_
      refine dq_r (sem_load (us := cR M) ty28 rfl rfl rfl rfl rfl) ?_
      refine dq_r (sem_call rfl rfl (yTwo_ok (by first | assumption | exact Rz.mono hC (by decide)) (by first | assumption | exact Rz.mono hD (by decide)) (by first | assumption | exact Rz.mono hM (by decide))) rfl) ?_
      refine dq_r (sem_field fd45_5 rfl rfl) ?_
      refine dq_r (sem_load (us := cR N) ty28 rfl rfl rfl rfl rfl) ?_
      refine dq_r (sem_call rfl rfl (sSign_ok) rfl) ?_
      refine dq_r (sem_ari (r := (plainS C D M) * (cmpR N 0)) rfl rfl (ari_i64_mul (by omega) (by omega)) rfl) ?_
      refine dq_r (sem_assign rfl rfl) ?_
      refine dq_r (sem_assign rfl rfl) ?_
      refine dq_end ?_
      refine dl_start0 ?_
      refine dl_end ?_
      refine dw_seq ?_
      refine dw_seq ?_
      -- region 4
      refine dw_region (by kernel_rfl) ?_
      refine dl_r (sem_move rfl rfl) ?_
      refine dl_r (sem_cmp rfl rfl rfl rfl) ?_
      refine dl_rb (sem_move rfl rfl) (fun c3 hb3 => ?_)
      cases c3
      · refine dl_r (sem_move rfl rfl) ?_
        refine dl_r (sem_cmp rfl rfl rfl rfl) ?_
        refine dl_r (sem_pick rfl rfl rfl rfl) ?_
        refine dl_rb (sem_move rfl rfl) (fun c4 hb4 => ?_)
        cases c4
        · refine dl_r (sem_move rfl rfl) ?_
          refine dl_r (sem_move rfl rfl) ?_
          refine dl_r (sem_cmp rfl rfl rfl rfl) ?_
          refine dl_r (sem_pick rfl rfl rfl rfl) ?_
          refine dl_end ?_
          refine dw_cond rfl (fun hc5 => ?_) (fun hc5 => ?_)
          · refine dw_seq ?_
            refine dw_seq ?_
            -- region 5
            refine dw_region (by kernel_rfl) ?_
            refine dl_r (sem_move rfl rfl) ?_
            refine dl_r (sem_cmp rfl rfl rfl rfl) ?_
            refine dl_end ?_
            refine dw_cond rfl (fun hc6 => ?_) (fun hc6 => ?_)
            · exact absurd hc6 (by rw [hb3]; decide)
            · refine dw_skip ?_
              refine dw_seq ?_
              -- region 7
              refine dw_region (by kernel_rfl) ?_
              refine dl_r (sem_move rfl rfl) ?_
              refine dl_r (sem_assign rfl rfl) ?_
              refine dl_end ?_
              refine dw_ret ?_
              -- path fFffTF
              rw [signQ_p n1 n2, comb_eq hc5]
              exact ⟨.inr rfl, (resL_tmp rfl resL_nil)⟩
          · refine dw_skip ?_
            refine dw_seq ?_
            -- region 8
            refine dw_draw 18 [] follows_mixed (by kernel_rfl) rfl rfl ?_
            refine dq_r (sem_field fd45_5 rfl rfl) ?_
            refine dq_r (sem_load (us := cR N) ty28 rfl rfl rfl rfl rfl) ?_
            refine dq_r (sem_field fd45_2 rfl rfl) ?_
            refine dq_r (sem_load (us := cR C) ty28 rfl rfl rfl rfl rfl) ?_
            refine dq_r (sem_field fd45_2 rfl rfl) ?_
            refine dq_r (sem_load (us := cR C) ty28 rfl rfl rfl rfl rfl) ?_
            refine dq_r (sem_call rfl rfl (sMul_ok (by first | assumption | exact Rz.mono hC (by decide)) (by first | assumption | exact Rz.mono hC (by decide))) rfl) ?_
            refine dq_r (sem_field fd45_3 rfl rfl) ?_
            refine dq_r (sem_load (us := cR D) ty28 rfl rfl rfl rfl rfl) ?_
            refine dq_r (sem_field fd45_3 rfl rfl) ?_
            refine dq_r (sem_load (us := cR D) ty28 rfl rfl rfl rfl rfl) ?_
            refine dq_r (sem_call rfl rfl (sMul_ok (by first | assumption | exact Rz.mono hD (by decide)) (by first | assumption | exact Rz.mono hD (by decide))) rfl) ?_
            refine dq_r (sem_field fd45_4 rfl rfl) ?_
            refine dq_r (sem_load (us := cR M) ty28 rfl rfl rfl rfl rfl) ?_
            refine dq_r (sem_call rfl rfl (sMul_ok (by first | assumption | exact Rz.mono (Rz.mul hD hD) (by decide)) (by first | assumption | exact Rz.mono hM (by decide))) rfl) ?_
            refine dq_r (sem_call rfl rfl (sAdd_ok (by first | assumption | exact Rz.mono (Rz.mul hC hC) (by decide)) (by first | assumption | exact Rz.mono (Rz.mul (Rz.mul hD hD) hM) (by decide))) rfl) ?_
            refine dq_r (sem_call rfl rfl (sMul_ok (by first | assumption | exact Rz.mono hN (by decide)) (by first | assumption | exact Rz.mono (Rz.add (Rz.mul hC hC) (Rz.mul (Rz.mul hD hD) hM)) (by decide))) rfl) ?_
            refine dq_new (sem_alloc zc28 rfl) rfl ?_
            refine dq_end ?_
            refine dl_start1 ?_
            refine dl_st (sem_store_a ty28 rfl rfl rfl rfl rfl rfl) ?_
            refine dl_end ?_
            refine dw_seq ?_
            -- region 9
            refine dw_draw 17 [] follows_mixed (by kernel_rfl) rfl rfl ?_
            refine dq_r (sem_field fd45_0 rfl rfl) ?_
            refine dq_r (sem_load (us := cR A) ty28 rfl rfl rfl rfl rfl) ?_
            refine dq_r (sem_field fd45_0 rfl rfl) ?_
            refine dq_r (sem_load (us := cR A) ty28 rfl rfl rfl rfl rfl) ?_
            refine dq_r (sem_call rfl rfl (sMul_ok (by first | assumption | exact Rz.mono hA (by decide)) (by first | assumption | exact Rz.mono hA (by decide))) rfl) ?_
            refine dq_r (sem_field fd45_1 rfl rfl) ?_
            refine dq_r (sem_load (us := cR B) ty28 rfl rfl rfl rfl rfl) ?_
            refine dq_r (sem_field fd45_1 rfl rfl) ?_
            refine dq_r (sem_load (us := cR B) ty28 rfl rfl rfl rfl rfl) ?_
            refine dq_r (sem_call rfl rfl (sMul_ok (by first | assumption | exact Rz.mono hB (by decide)) (by first | assumption | exact Rz.mono hB (by decide))) rfl) ?_
            refine dq_r (sem_field fd45_4 rfl rfl) ?_
            refine dq_r (sem_load (us := cR M) ty28 rfl rfl rfl rfl rfl) ?_
            refine dq_r (sem_call rfl rfl (sMul_ok (by first | assumption | exact Rz.mono (Rz.mul hB hB) (by decide)) (by first | assumption | exact Rz.mono hM (by decide))) rfl) ?_
            refine dq_r (sem_call rfl rfl (sAdd_ok (by first | assumption | exact Rz.mono (Rz.mul hA hA) (by decide)) (by first | assumption | exact Rz.mono (Rz.mul (Rz.mul hB hB) hM) (by decide))) rfl) ?_
            refine dq_r (sem_load (us := cR (N * ((C * C) + ((D * D) * M)))) ty28 rfl rfl rfl rfl rfl) ?_
            refine dq_r (sem_call rfl rfl (sSub_ok (by first | assumption | exact Rz.mono (Rz.add (Rz.mul hA hA) (Rz.mul (Rz.mul hB hB) hM)) (by decide)) (by first | assumption | exact Rz.mono (Rz.mul hN (Rz.add (Rz.mul hC hC) (Rz.mul (Rz.mul hD hD) hM))) (by decide))) rfl) ?_
            refine dq_new (sem_alloc zc28 rfl) rfl ?_
            refine dq_end ?_
            refine dl_start1 ?_
            refine dl_st (sem_store_a ty28 rfl rfl rfl rfl rfl rfl) ?_
            refine dl_end ?_
            refine dw_seq ?_
            -- region 10
            refine dw_draw 15 [] follows_mixed (by kernel_rfl) rfl rfl ?_
            refine dq_r (sem_field fd45_0 rfl rfl) ?_
            refine dq_r (sem_load (us := cR A) ty28 rfl rfl rfl rfl rfl) ?_
            refine dq_r (sem_field fd45_1 rfl rfl) ?_
            refine dq_r (sem_load (us := cR B) ty28 rfl rfl rfl rfl rfl) ?_
            refine dq_r (sem_call rfl rfl (sMul_ok (by first | assumption | exact Rz.mono hA (by decide)) (by first | assumption | exact Rz.mono hB (by decide))) rfl) ?_
            refine dq_r (sem_field fd45_5 rfl rfl) ?_
            refine dq_r (sem_load (us := cR N) ty28 rfl rfl rfl rfl rfl) ?_
            refine dq_r (sem_field fd45_2 rfl rfl) ?_
            refine dq_r (sem_load (us := cR C) ty28 rfl rfl rfl rfl rfl) ?_
            refine dq_r (sem_field fd45_3 rfl rfl) ?_
            refine dq_r (sem_load (us := cR D) ty28 rfl rfl rfl rfl rfl) ?_
            refine dq_r (sem_call rfl rfl (sMul_ok (by first | assumption | exact Rz.mono hC (by decide)) (by first | assumption | exact Rz.mono hD (by decide))) rfl) ?_
            refine dq_r (sem_call rfl rfl (sMul_ok (by first | assumption | exact Rz.mono hN (by decide)) (by first | assumption | exact Rz.mono (Rz.mul hC hD) (by decide))) rfl) ?_
            refine dq_r (sem_call rfl rfl (sSub_ok (by first | assumption | exact Rz.mono (Rz.mul hA hB) (by decide)) (by first | assumption | exact Rz.mono (Rz.mul hN (Rz.mul hC hD)) (by decide))) rfl) ?_
            refine dq_new (sem_alloc zc28 rfl) rfl ?_
            refine dq_end ?_
            refine dl_start1 ?_
            refine dl_st (sem_store_a ty28 rfl rfl rfl rfl rfl rfl) ?_
            refine dl_end ?_
            refine dw_seq ?_
            -- region 11
            refine dw_draw 10 [] follows_mixed (by kernel_rfl) rfl rfl ?_
            refine dq_r (sem_move rfl rfl) ?_
            refine dq_r (sem_load (us := cR (((A * A) + ((B * B) * M)) - (N * ((C * C) + ((D * D) * M))))) ty28 rfl rfl rfl rfl rfl) ?_
            refine dq_r (sem_load (us := cR ((A * B) - (N * (C * D)))) ty28 rfl rfl rfl rfl rfl) ?_
            refine dq_r (sem_load (us := cR ((A * B) - (N * (C * D)))) ty28 rfl rfl rfl rfl rfl) ?_
            refine dq_r (sem_call rfl rfl (sAdd_ok (by first | assumption | exact Rz.mono (Rz.sub (Rz.mul hA hB) (Rz.mul hN (Rz.mul hC hD))) (by decide)) (by first | assumption | exact Rz.mono (Rz.sub (Rz.mul hA hB) (Rz.mul hN (Rz.mul hC hD))) (by decide))) rfl) ?_
            refine dq_r (sem_field fd45_4 rfl rfl) ?_
            refine dq_r (sem_load (us := cR M) ty28 rfl rfl rfl rfl rfl) ?_
            refine dq_r (sem_call rfl rfl (yTwo_ok (by first | assumption | exact Rz.mono (Rz.sub (Rz.add (Rz.mul hA hA) (Rz.mul (Rz.mul hB hB) hM)) (Rz.mul hN (Rz.add (Rz.mul hC hC) (Rz.mul (Rz.mul hD hD) hM)))) (by decide)) (by first | assumption | exact Rz.mono (Rz.add (Rz.sub (Rz.mul hA hB) (Rz.mul hN (Rz.mul hC hD))) (Rz.sub (Rz.mul hA hB) (Rz.mul hN (Rz.mul hC hD)))) (by decide)) (by first | assumption | exact Rz.mono hM (by decide))) rfl) ?_
            refine dq_r (sem_ari (r := (plainS A B M) * (plainS (((A * A) + ((B * B) * M)) - (N * ((C * C) + ((D * D) * M)))) (((A * B) - (N * (C * D))) + ((A * B) - (N * (C * D)))) M)) rfl rfl (ari_i64_mul (by omega) (by omega)) rfl) ?_
            refine dq_r (sem_assign rfl rfl) ?_
            refine dq_end ?_
            refine dl_start0 ?_
            refine dl_end ?_
            refine dw_ret ?_
            -- path fFffF
            rw [signQ_p n1 n2, comb_ne hb3 hb4 hc5]
            exact ⟨.inr rfl, (resL_tmp rfl resL_nil)⟩
        · refine dl_skip (sem_skip rfl) ?_
          refine dl_skip (sem_skip rfl) ?_
          refine dl_skip (sem_skip rfl) ?_
          refine dl_r (sem_pick rfl rfl rfl rfl) ?_
          refine dl_end ?_
          refine dw_true rfl ?_
          refine dw_seq ?_
          refine dw_seq ?_
          -- region 5
          refine dw_region (by kernel_rfl) ?_
          refine dl_r (sem_move rfl rfl) ?_
          refine dl_r (sem_cmp rfl rfl rfl rfl) ?_
          refine dl_end ?_
          refine dw_cond rfl (fun hc7 => ?_) (fun hc7 => ?_)
          · exact absurd hc7 (by rw [hb3]; decide)
          · refine dw_skip ?_
            refine dw_seq ?_
            -- region 7
            refine dw_region (by kernel_rfl) ?_
            refine dl_r (sem_move rfl rfl) ?_
            refine dl_r (sem_assign rfl rfl) ?_
            refine dl_end ?_
            refine dw_ret ?_
            -- path fFftF
            rw [signQ_p n1 n2, comb_t0 hb4]
            exact ⟨.inr rfl, (resL_tmp rfl resL_nil)⟩
      · refine dl_skip (sem_skip rfl) ?_
        refine dl_skip (sem_skip rfl) ?_
        refine dl_r (sem_pick rfl rfl rfl rfl) ?_
        refine dl_r (sem_move rfl rfl) ?_
        refine dl_skip (sem_skip rfl) ?_
        refine dl_skip (sem_skip rfl) ?_
        refine dl_skip (sem_skip rfl) ?_
        refine dl_r (sem_pick rfl rfl rfl rfl) ?_
        refine dl_end ?_
        refine dw_true rfl ?_
        refine dw_seq ?_
        refine dw_seq ?_
        -- region 5
        refine dw_region (by kernel_rfl) ?_
        refine dl_r (sem_move rfl rfl) ?_
        refine dl_r (sem_cmp rfl rfl rfl rfl) ?_
        refine dl_end ?_
        refine dw_cond rfl (fun hc8 => ?_) (fun hc8 => ?_)
        · refine dw_seq ?_
          -- region 6
          refine dw_region (by kernel_rfl) ?_
          refine dl_r (sem_move rfl rfl) ?_
          refine dl_r (sem_assign rfl rfl) ?_
          refine dl_end ?_
          refine dw_ret ?_
          -- path fFtT
          rw [signQ_p n1 n2, comb_s0 hb3]
          exact ⟨.inr rfl, (resL_tmp rfl resL_nil)⟩
        · exact absurd hb3 (by rw [hc8]; decide)
  · refine dl_skip (sem_skip rfl) ?_
    refine dl_skip (sem_skip rfl) ?_
    refine dl_skip (sem_skip rfl) ?_
    refine dl_skip (sem_skip rfl) ?_
    refine dl_r (sem_pick rfl rfl rfl rfl) ?_
    refine dl_end ?_
    refine dw_true rfl ?_
    refine dw_seq ?_
    -- region 2
    refine dw_region (by kernel_rfl) ?_
    refine dl_r (sem_assign rfl rfl) ?_
    refine dl_end ?_
    refine dw_ret ?_
    -- path t
    rw [signQ_n (.inl (r_lt hb1))]
    exact ⟨.inr rfl, (resL_tmp rfl resL_nil)⟩
theorem ySub_ok {a b c d e f : Rat} (ha : Rz 300 a) (_hb : Rz 300 b) (hd : Rz 300 d) (he : Rz 300 e) : Ok Tryz.prog 47 [.a (cR a ++ cR b ++ cR c), .a (cR d ++ cR e ++ cR f)] [.a (cR (a - d) ++ cR b ++ cR (-e) ++ cR 0 ++ cR c ++ cR f)] := by
  refine Ok.of (by kernel_rfl) Tryz.func47 rfl rfl ?_
  rw [show Tryz.f47.ntmps = 21 from rfl, show Tryz.f47.results.toList = [.cell 4 45] from rfl]
  refine dw_seq ?_
  -- region 0
  refine dw_region (by kernel_rfl) ?_
  refine dl_new (sem_box_a rfl rfl) rfl ?_
  refine dl_new (sem_box_a rfl rfl) rfl ?_
  refine dl_new (sem_alloc zc45 rfl) rfl ?_
  refine dl_end ?_
  refine dw_seq ?_
  -- region 1
  refine dw_draw 16 [] follows_mixed (by kernel_rfl) rfl rfl ?_
  refine dq_r (sem_field fd30_0 rfl rfl) ?_
  refine dq_r (sem_load (us := cR a) ty28 rfl rfl rfl rfl rfl) ?_
  refine dq_r (sem_field fd30_0 rfl rfl) ?_
  refine dq_r (sem_load (us := cR d) ty28 rfl rfl rfl rfl rfl) ?_
  refine dq_r (sem_call rfl rfl (sSub_ok (by first | assumption | exact Rz.mono ha (by decide)) (by first | assumption | exact Rz.mono hd (by decide))) rfl) ?_
  refine dq_r (sem_field fd30_1 rfl rfl) ?_
  refine dq_r (sem_load (us := cR b) ty28 rfl rfl rfl rfl rfl) ?_
  refine dq_r (sem_field fd30_1 rfl rfl) ?_
  refine dq_r (sem_load (us := cR e) ty28 rfl rfl rfl rfl rfl) ?_
  refine dq_r (sem_call rfl rfl (sNeg_ok (by first | assumption | exact Rz.mono he (by decide))) rfl) ?_
  refine dq_r (sem_call rfl rfl ((show Ok Tryz.prog 27 [.c (.i .i64 0)] [dR 0] from sFrom_ok (by omega) (by omega))) rfl) ?_
  refine dq_r (sem_field fd30_2 rfl rfl) ?_
  refine dq_r (sem_load (us := cR c) ty28 rfl rfl rfl rfl rfl) ?_
  refine dq_r (sem_field fd30_2 rfl rfl) ?_
  refine dq_r (sem_load (us := cR f) ty28 rfl rfl rfl rfl rfl) ?_
  refine dq_r (sem_build (us := (cR (a - d) ++ cR b ++ cR (-e) ++ cR 0 ++ cR c ++ cR f)) fs45 zc45 rfl rfl rfl) ?_
  refine dq_end ?_
  refine dl_start0 ?_
  refine dl_st (sem_store_a ty45 rfl rfl rfl rfl rfl rfl) ?_
  refine dl_end ?_
  refine dw_ret ?_
  -- path 
  exact ⟨.inr rfl, (resL_cell (us := (cR (a - d) ++ cR b ++ cR (-e) ++ cR 0 ++ cR c ++ cR f)) ty45 rfl rfl rfl rfl resL_nil)⟩
theorem yCmp_ok {a b c d e f : Rat} (ha : Rz 3 a) (hb : Rz 3 b) (hc : Rz 3 c) (hd : Rz 3 d) (he : Rz 3 e) (hf : Rz 3 f) : Ok Tryz.prog 22 [.a (cR a ++ cR b ++ cR c), .a (cR d ++ cR e ++ cR f)] [.c (.i .i64 (signQ (a - d) b (-e) 0 c f))] := by
  have ka : Rz 300 a := ha.mono (by decide)
  have ma : Rz 8 a := ha.mono (by decide)
  have kb : Rz 300 b := hb.mono (by decide)
  have mb : Rz 8 b := hb.mono (by decide)
  have kc : Rz 300 c := hc.mono (by decide)
  have mc : Rz 8 c := hc.mono (by decide)
  have kd : Rz 300 d := hd.mono (by decide)
  have md : Rz 8 d := hd.mono (by decide)
  have ke : Rz 300 e := he.mono (by decide)
  have me : Rz 8 e := he.mono (by decide)
  have kf : Rz 300 f := hf.mono (by decide)
  have mf : Rz 8 f := hf.mono (by decide)
  have m1 : Rz 8 (a - d) := (ha.sub hd).mono (by decide)
  have m2 : Rz 8 (-e) := me.neg
  have m0 : Rz 8 (0 : Rat) := Rz.int (n := 0) (Sz.small (by decide) (by decide) (by decide)) (by decide)
  refine Ok.of (by kernel_rfl) Tryz.func22 rfl rfl ?_
  rw [show Tryz.f22.ntmps = 9 from rfl, show Tryz.f22.results.toList = [.tmp 4] from rfl]
  refine dw_seq ?_
  -- region 0
  refine dw_region (by kernel_rfl) ?_
  refine dl_new (sem_box_a rfl rfl) rfl ?_
  refine dl_new (sem_box_a rfl rfl) rfl ?_
  refine dl_r (sem_assign rfl rfl) ?_
  refine dl_end ?_
  refine dw_seq ?_
  -- region 1
  refine dw_region (by kernel_rfl) ?_
  refine dl_r (sem_load (us := (cR a ++ cR b ++ cR c)) ty30 rfl rfl rfl rfl rfl) ?_
  refine dl_r (sem_load (us := (cR d ++ cR e ++ cR f)) ty30 rfl rfl rfl rfl rfl) ?_
  refine dl_r (sem_call rfl rfl (ySub_ok (by assumption) (by assumption) (by assumption) (by assumption)) rfl) ?_
  refine dl_r (sem_call rfl rfl (ySign_ok (by assumption) (by assumption) (by assumption) (by assumption) (by assumption) (by assumption)) rfl) ?_
  refine dl_r (sem_assign rfl rfl) ?_
  refine dl_end ?_
  refine dw_ret ?_
  -- path 
  exact ⟨.inr rfl, (resL_tmp rfl resL_nil)⟩
theorem xCopied_ok {a : Rat} (ha : Rz 300 a) : Ok Tryz.prog 82 [dR a] [dR a] := by
  refine Ok.of (by kernel_rfl) Tryz.func82 rfl rfl ?_
  rw [show Tryz.f82.ntmps = 6 from rfl, show Tryz.f82.results.toList = [.cell 2 28] from rfl]
  refine dw_seq ?_
  -- region 0
  refine dw_region (by kernel_rfl) ?_
  refine dl_new (sem_box_a rfl rfl) rfl ?_
  refine dl_new (sem_alloc zc28 rfl) rfl ?_
  refine dl_end ?_
  refine dw_seq ?_
  -- region 1
  refine dw_region (by kernel_rfl) ?_
  refine dl_r (sem_load (us := cR a) ty28 rfl rfl rfl rfl rfl) ?_
  refine dl_r (sem_call rfl rfl (pNeg_ok (by first | assumption | exact Rz.mono ha (by decide))) rfl) ?_
  refine dl_r (sem_call rfl rfl (pNeg_ok (by first | assumption | exact Rz.mono (Rz.neg ha) (by decide))) rfl) ?_
  refine dl_st (sem_store_a ty28 rfl rfl rfl rfl rfl rfl) ?_
  refine dl_end ?_
  refine dw_ret ?_
  -- path 
  have hfin : dR a = dR (-(-a)) := by rw [Rat.neg_neg]
  rw [hfin]
  exact ⟨.inr rfl, (resL_cell (us := cR (-(-a))) ty28 rfl rfl rfl rfl resL_nil)⟩
theorem xSub_ok {a b c d e f : Rat} (ha : Rz 300 a) (hb : Rz 300 b) (hc : Rz 300 c) (hd : Rz 300 d) (he : Rz 300 e) (hf : Rz 300 f) : Ok Tryz.prog 45 [.a (cR a ++ cR b ++ cR c), .a (cR d ++ cR e ++ cR f)] [.a (cR (a - d) ++ cR b ++ cR (-e) ++ cR 0 ++ cR c ++ cR f)] := by
  refine Ok.of (by kernel_rfl) Tryz.func45 rfl rfl ?_
  rw [show Tryz.f45.ntmps = 24 from rfl, show Tryz.f45.results.toList = [.cell 4 45] from rfl]
  refine dw_seq ?_
  -- region 0
  refine dw_region (by kernel_rfl) ?_
  refine dl_new (sem_box_a rfl rfl) rfl ?_
  refine dl_new (sem_box_a rfl rfl) rfl ?_
  refine dl_new (sem_alloc zc45 rfl) rfl ?_
  refine dl_end ?_
  refine dw_seq ?_
  -- region 1
  refine dw_draw 19 [] follows_mixed (by kernel_rfl) rfl rfl ?_
  refine dq_r (sem_field fd30_0 rfl rfl) ?_
  refine dq_r (sem_load (us := cR a) ty28 rfl rfl rfl rfl rfl) ?_
  refine dq_r (sem_field fd30_0 rfl rfl) ?_
  refine dq_r (sem_load (us := cR d) ty28 rfl rfl rfl rfl rfl) ?_
  refine dq_r (sem_call rfl rfl (pSub_ok (by first | assumption | exact Rz.mono ha (by decide)) (by first | assumption | exact Rz.mono hd (by decide))) rfl) ?_
  refine dq_r (sem_field fd30_1 rfl rfl) ?_
  refine dq_r (sem_load (us := cR b) ty28 rfl rfl rfl rfl rfl) ?_
  refine dq_r (sem_call rfl rfl (xCopied_ok (by first | assumption | exact Rz.mono hb (by decide))) rfl) ?_
  refine dq_r (sem_field fd30_1 rfl rfl) ?_
  refine dq_r (sem_load (us := cR e) ty28 rfl rfl rfl rfl rfl) ?_
  refine dq_r (sem_call rfl rfl (pNeg_ok (by first | assumption | exact Rz.mono he (by decide))) rfl) ?_
  refine dq_r (sem_call rfl rfl ((show Ok Tryz.prog 26 [.c (.i .i64 0)] [dR 0] from pFrom_ok (by omega) (by omega))) rfl) ?_
  refine dq_r (sem_field fd30_2 rfl rfl) ?_
  refine dq_r (sem_load (us := cR c) ty28 rfl rfl rfl rfl rfl) ?_
  refine dq_r (sem_call rfl rfl (xCopied_ok (by first | assumption | exact Rz.mono hc (by decide))) rfl) ?_
  refine dq_r (sem_field fd30_2 rfl rfl) ?_
  refine dq_r (sem_load (us := cR f) ty28 rfl rfl rfl rfl rfl) ?_
  refine dq_r (sem_call rfl rfl (xCopied_ok (by first | assumption | exact Rz.mono hf (by decide))) rfl) ?_
  refine dq_r (sem_build (us := (cR (a - d) ++ cR b ++ cR (-e) ++ cR 0 ++ cR c ++ cR f)) fs45 zc45 rfl rfl rfl) ?_
  refine dq_end ?_
  refine dl_start0 ?_
  refine dl_st (sem_store_a ty45 rfl rfl rfl rfl rfl rfl) ?_
  refine dl_end ?_
  refine dw_ret ?_
  -- path 
  exact ⟨.inr rfl, (resL_cell (us := (cR (a - d) ++ cR b ++ cR (-e) ++ cR 0 ++ cR c ++ cR f)) ty45 rfl rfl rfl rfl resL_nil)⟩
end Go.Proofs.YtcimbhjmjlfloaaGreat
/- Plain: roots as the reference computes with them. -/
namespace Go.Proofs.YtcimbhjmjlfloaaGreat
open Go Go.RowKit
def rB (b c : Rat) : Rat := if b = 0 ∨ c = 0 then 0 else b
def rC (b c : Rat) : Rat := if b = 0 ∨ c = 0 then 0 else c
theorem rB_z {b c : Rat} (h : b = 0 ∨ c = 0) : rB b c = 0 := by unfold rB; rw [if_pos h]
theorem rC_z {b c : Rat} (h : b = 0 ∨ c = 0) : rC b c = 0 := by unfold rC; rw [if_pos h]
theorem rB_n {b c : Rat} (h : b ≠ 0) (h' : c ≠ 0) : rB b c = b := by unfold rB; rw [if_neg (fun e => e.elim h h')]
theorem rC_n {b c : Rat} (h : b ≠ 0) (h' : c ≠ 0) : rC b c = c := by unfold rC; rw [if_neg (fun e => e.elim h h')]
/-- the sign of a + b sqrt(c), as the reference takes it -/
def s3 (a b c : Rat) : Int := if cmpR a 0 = cmpR b 0 ∨ cmpR b 0 = 0 then cmpR a 0 else if cmpR a 0 = 0 then cmpR b 0 else if 0 < a * a - b * b * c then cmpR a 0 else cmpR b 0
theorem s3_1 {a b c : Rat} (h : (cmpR a 0 == cmpR b 0) = true) : s3 a b c = cmpR a 0 := by unfold s3; rw [if_pos (.inl (by simpa using h))]
theorem s3_2 {a b c : Rat} (h : (cmpR b 0 == 0) = true) : s3 a b c = cmpR a 0 := by unfold s3; rw [if_pos (.inr (by simpa using h))]
theorem s3_n {a b c : Rat} (h : (cmpR a 0 == cmpR b 0) = false) (h2 : (cmpR b 0 == 0) = false) : s3 a b c = if cmpR a 0 = 0 then cmpR b 0 else if 0 < a * a - b * b * c then cmpR a 0 else cmpR b 0 := by
  unfold s3; rw [if_neg (fun e => e.elim (by simpa using h) (by simpa using h2))]
theorem r_gt {x : Rat} (h : decide (cmpR x 0 > 0) = true) : 0 < x := cmpR_gt0.1 (by simpa using h)
theorem r_ngt {x : Rat} (h : decide (cmpR x 0 > 0) = false) : ¬ 0 < x := fun e => by have := cmpR_gt0.2 e; simp at h; omega
theorem i_eq {s t : Int} (h : (s == t) = true) : s = t := by simpa using h
theorem i_ne {s t : Int} (h : (s == t) = false) : s ≠ t := by simpa using h
theorem fit_eq {b c e f : Rat} (hf : ¬ bad b c e f) (h1 : b ≠ 0) (h2 : e ≠ 0) : (cmpR c f == 0) = true := by
  rw [r_eqb']
  exact Classical.byContradiction fun h => hf ⟨h1, h2, h⟩
where
  r_eqb' {x y : Rat} : ((cmpR x y == 0) = true) = (x = y) := by rw [beq_iff_eq]; exact propext cmpR_eq0
end Go.Proofs.YtcimbhjmjlfloaaGreat
/- Package swarfref03: signs, sums, products. -/
namespace Go.Proofs.YtcimbhjmjlfloaaGreat
open Go Go.RowKit
-- no function swarf/swarfref03.square in this seat
-- no function swarf/swarfref03.norm in this seat
-- no function swarf/swarfref03.Sign in this seat
-- no function swarf/swarfref03.reduced in this seat
-- no function swarf/swarfref03.common in this seat
-- no function swarf/swarfref03.Add in this seat
-- no function swarf/swarfref03.Mul in this seat
-- no function swarf/swarfref03.AddRat in this seat
end Go.Proofs.YtcimbhjmjlfloaaGreat
/- Points: Same, vectors, grids. -/
namespace Go.Proofs.YtcimbhjmjlfloaaGreat
open Go Go.RowKit
-- no function swarf/swarfref03.Same in this seat
-- no function swarf/swarfref07.Same in this seat
-- no function swarf/swarfref07.SameVec in this seat
-- no function swarf/swarfref07.Back in this seat
-- no function swarf/swarfref07.Vec in this seat
-- no function swarf/point.OfGrid in this seat
-- no function swarf/point.Rational in this seat
-- no function swarf/point.Rational in this seat
-- no function swarf/swarfref07.OfGrid in this seat
-- no function swarf/swarfref07.Rational in this seat
-- no function swarf/swarfref07.Rational in this seat
end Go.Proofs.YtcimbhjmjlfloaaGreat
/- Roots and points in reduced form: the reference. -/
namespace Go.Proofs.YtcimbhjmjlfloaaGreat
open Go Go.RowKit
-- no function swarf/swarfref03.Valid in this seat
-- no function swarf/swarfref03.Small in this seat
-- no function swarf/swarfref03.Small in this seat
-- no function swarf/swarfref07.Valid in this seat
-- no function swarf/swarfref07.Small in this seat
-- no function swarf/swarfref07.Small in this seat
end Go.Proofs.YtcimbhjmjlfloaaGreat
/- Plain: the order of points; perfect squares of fractions. -/
namespace Go.Proofs.YtcimbhjmjlfloaaGreat
open Go Go.RowKit
def cmpC (a b c p q r : Rat) : Int := signQ (a - p) b (-q) 0 (zc b c) (zc q r)
def cmpPt (a1 b1 a2 b2 c p1 q1 p2 q2 r : Rat) : Int := if cmpC a1 b1 c p1 q1 r ≠ 0 then cmpC a1 b1 c p1 q1 r else cmpC a2 b2 c p2 q2 r
theorem cmpPt_t {a1 b1 a2 b2 c p1 q1 p2 q2 r : Rat} (h : (cmpC a1 b1 c p1 q1 r != 0) = true) : cmpPt a1 b1 a2 b2 c p1 q1 p2 q2 r = cmpC a1 b1 c p1 q1 r := by unfold cmpPt; rw [if_pos (by simpa using h)]
theorem cmpPt_f {a1 b1 a2 b2 c p1 q1 p2 q2 r : Rat} (h : (cmpC a1 b1 c p1 q1 r != 0) = false) : cmpPt a1 b1 a2 b2 c p1 q1 p2 q2 r = cmpC a2 b2 c p2 q2 r := by unfold cmpPt; rw [if_neg (by simpa using h)]
theorem Rz.zero {k : Nat} (hk : 1 ≤ k) : Rz k (0 : Rat) := ⟨⟨by have := pw_pos k; rw [Rat.zero_num]; omega, by have := pw_pos k; rw [Rat.zero_num]; omega⟩, by rw [Rat.zero_den]; exact Sz.one hk⟩
theorem Rz.zc {k : Nat} {b c : Rat} (h : Rz k c) (hk : 1 ≤ k) : Rz k (zc b c) := by
  unfold Go.Proofs.YtcimbhjmjlfloaaGreat.zc
  split
  · exact Rz.zero hk
  · exact h
/-- the root of a fraction that is a square -/
def rt (c : Rat) : Rat := Rat.divInt (isqI c.num) (isqI (c.den : Int))
theorem rt_data {c : Rat} (h : sqR c = true) : dQ (if sqR c then isqI c.num else 0) (if sqR c then isqI (c.den : Int) else 0) = dR (rt c) := by
  rw [if_pos h, if_pos h]
  unfold sqR sqI at h
  simp only [Bool.and_eq_true, beq_iff_eq] at h
  obtain ⟨h1, h2⟩ := h
  have n0 := isqI_nonneg c.num
  have d0 := isqI_nonneg (c.den : Int)
  have dp := den_pos c
  have hd : 0 < isqI (c.den : Int) := by
    rcases Int.lt_trichotomy 0 (isqI (c.den : Int)) with e | e | e
    · exact e
    · rw [← e] at h2; simp at h2; omega
    · omega
  have hg : Int.gcd (isqI c.num) (isqI (c.den : Int)) = 1 := by
    have hr : Int.gcd c.num (c.den : Int) = 1 := c.reduced
    have d1 : Int.gcd (isqI c.num) (isqI (c.den : Int)) ∣ Int.gcd c.num (c.den : Int) := by
      refine Int.dvd_gcd ?_ ?_
      · have t : ((Int.gcd (isqI c.num) (isqI (c.den : Int)) : Nat) : Int) ∣ isqI c.num * isqI c.num := Int.dvd_mul_of_dvd_left (Int.gcd_dvd_left ..)
        rw [h1] at t; exact t
      · have t : ((Int.gcd (isqI c.num) (isqI (c.den : Int)) : Nat) : Int) ∣ isqI (c.den : Int) * isqI (c.den : Int) := Int.dvd_mul_of_dvd_left (Int.gcd_dvd_right ..)
        rw [h2] at t; exact t
    rw [hr] at d1
    exact Nat.dvd_one.1 d1
  unfold rt
  exact (dR_red1 hd (by rw [hg]; rfl)).symm
end Go.Proofs.YtcimbhjmjlfloaaGreat
/- Plain: numbers as sequences of fractions; their signs; square roots. No program in sight. -/
namespace Go.Proofs.YtcimbhjmjlfloaaGreat
open Go Go.RowKit
def Cau (x : Nat → Rat) : Prop := ∀ e : Rat, 0 < e → ∃ K : Nat, ∀ i j, K ≤ i → K ≤ j → x i - x j ≤ e
def Psv (x : Nat → Rat) : Prop := ∃ e : Rat, 0 < e ∧ ∃ K : Nat, ∀ k, K ≤ k → e ≤ x k
def Nul (x : Nat → Rat) : Prop := ∀ e : Rat, 0 < e → ∃ K : Nat, ∀ k, K ≤ k → -e ≤ x k ∧ x k ≤ e
structure Re where
  s : Nat → Rat
  c : Cau s
theorem Re.ext {x y : Re} (h : ∀ k, x.s k = y.s k) : x = y := by
  cases x; cases y
  have : _ = _ := funext h
  subst this; rfl
theorem q_half {e : Rat} (h : 0 < e) : 0 < e / 2 := by grind
theorem q_div {e B : Rat} (h : 0 < e) (h2 : 0 < B) : 0 < e / B ∧ B * (e / B) = e := by
  refine ⟨?_, by grind⟩
  rw [Rat.div_def]
  exact Rat.mul_pos h (Rat.inv_pos.2 h2)
/-- A bound. -/
theorem Re.bnd (x : Re) : ∃ B : Rat, 0 < B ∧ ∃ K : Nat, ∀ k, K ≤ k → -B ≤ x.s k ∧ x.s k ≤ B := by
  obtain ⟨K, h⟩ := x.c 1 (by decide)
  by_cases hs : 0 ≤ x.s K
  · exact ⟨x.s K + 1, by grind, K, fun k hk => by have h1 := h k K hk (Nat.le_refl _); have h2 := h K k (Nat.le_refl _) hk; constructor <;> grind⟩
  · exact ⟨1 - x.s K, by grind, K, fun k hk => by have h1 := h k K hk (Nat.le_refl _); have h2 := h K k (Nat.le_refl _) hk; constructor <;> grind⟩
theorem cau_const (q : Rat) : Cau (fun _ => q) := fun e he => ⟨0, fun i j _ _ => by grind⟩
theorem cau_add {x y : Nat → Rat} (hx : Cau x) (hy : Cau y) : Cau (fun k => x k + y k) := fun e he => by
  obtain ⟨K, h⟩ := hx (e / 2) (q_half he)
  obtain ⟨L, g⟩ := hy (e / 2) (q_half he)
  exact ⟨max K L, fun i j hi hj => by have h1 := h i j (by omega) (by omega); have h2 := g i j (by omega) (by omega); grind⟩
theorem cau_neg {x : Nat → Rat} (hx : Cau x) : Cau (fun k => -x k) := fun e he => by
  obtain ⟨K, h⟩ := hx e he
  exact ⟨K, fun i j hi hj => by have h1 := h j i hj hi; grind⟩
theorem q_prod {a b e f : Rat} (h1 : -e ≤ a) (h2 : a ≤ e) (h3 : -f ≤ b) (h4 : b ≤ f) : a * b ≤ e * f ∧ -(e * f) ≤ a * b := by
  have p1 : 0 ≤ (e - a) * (f + b) := Rat.mul_nonneg (by grind) (by grind)
  have p2 : 0 ≤ (e + a) * (f - b) := Rat.mul_nonneg (by grind) (by grind)
  have p3 : 0 ≤ (e - a) * (f - b) := Rat.mul_nonneg (by grind) (by grind)
  have p4 : 0 ≤ (e + a) * (f + b) := Rat.mul_nonneg (by grind) (by grind)
  constructor <;> grind
theorem cau_mul (x y : Re) : Cau (fun k => x.s k * y.s k) := fun e he => by
  obtain ⟨B, hB, K, hb⟩ := x.bnd
  obtain ⟨D, hD, L, hd⟩ := y.bnd
  obtain ⟨d1, e1⟩ := q_div (q_half he) hB
  obtain ⟨d2, e2⟩ := q_div (q_half he) hD
  obtain ⟨K', h⟩ := x.c _ d2
  obtain ⟨L', g⟩ := y.c _ d1
  refine ⟨max (max K L) (max K' L'), fun i j hi hj => ?_⟩
  have b1 := hb i (by omega)
  have b2 := hd j (by omega)
  have h1 := h i j (by omega) (by omega)
  have h2 := h j i (by omega) (by omega)
  have g1 := g i j (by omega) (by omega)
  have g2 := g j i (by omega) (by omega)
  have p1 := (q_prod b1.1 b1.2 (a := x.s i) (b := y.s i - y.s j) (f := e / 2 / B) (by grind) (by grind)).1
  have p2 := (q_prod b2.1 b2.2 (a := y.s j) (b := x.s i - x.s j) (f := e / 2 / D) (by grind) (by grind)).1
  rw [e1] at p1
  rw [e2] at p2
  grind
def Re.of (q : Rat) : Re := ⟨fun _ => q, cau_const q⟩
instance : Add Re := ⟨fun x y => ⟨fun k => x.s k + y.s k, cau_add x.c y.c⟩⟩
instance : Neg Re := ⟨fun x => ⟨fun k => -x.s k, cau_neg x.c⟩⟩
instance : _root_.Sub Re := ⟨fun x y => x + -y⟩
instance : Mul Re := ⟨fun x y => ⟨fun k => x.s k * y.s k, cau_mul x y⟩⟩
theorem re_add (x y : Re) (k : Nat) : (x + y).s k = x.s k + y.s k := rfl
theorem re_neg (x : Re) (k : Nat) : (-x).s k = -x.s k := rfl
theorem re_sub (x y : Re) (k : Nat) : (x - y).s k = x.s k + -y.s k := rfl
theorem re_mul (x y : Re) (k : Nat) : (x * y).s k = x.s k * y.s k := rfl
theorem re_of (q : Rat) (k : Nat) : (Re.of q).s k = q := rfl
theorem psv_nul_psv (x : Re) : Psv x.s ∨ Nul x.s ∨ Psv (-x).s := by
  by_cases hn : Nul x.s
  · exact .inr (.inl hn)
  · unfold Nul at hn
    obtain ⟨e, hn⟩ := Classical.not_forall.1 hn
    obtain ⟨he, hn⟩ := Classical.not_imp.1 hn
    obtain ⟨K, h⟩ := x.c (e / 2) (q_half he)
    have hn2 := not_exists.1 hn K
    obtain ⟨k, hn3⟩ := Classical.not_forall.1 hn2
    obtain ⟨hk, hn4⟩ := Classical.not_imp.1 hn3
    by_cases h1 : e < x.s k
    · exact .inl ⟨e / 2, q_half he, K, fun j hj => by have := h k j hk hj; grind⟩
    · have h2 : x.s k < -e := by
        apply Classical.byContradiction
        intro h3
        exact hn4 ⟨by grind, by grind⟩
      exact .inr (.inr ⟨e / 2, q_half he, K, fun j hj => by rw [re_neg]; have := h j k hj hk; grind⟩)
section
variable {x y z : Re}
theorem psv_not (h : Psv x.s) : ¬ Psv (-x).s := fun g => by
  obtain ⟨e, he, K, h⟩ := h
  obtain ⟨f, hf, L, g⟩ := g
  have h1 := h (max K L) (by omega)
  have h2 := g (max K L) (by omega)
  rw [re_neg] at h2
  grind
theorem psv_not_nul (h : Psv x.s) : ¬ Nul x.s := fun g => by
  obtain ⟨e, he, K, h⟩ := h
  obtain ⟨L, g⟩ := g (e / 2) (q_half he)
  have h1 := h (max K L) (by omega)
  have h2 := g (max K L) (by omega)
  grind
theorem nul_neg (h : Nul x.s) : Nul (-x).s := fun e he => by
  obtain ⟨K, h⟩ := h e he
  exact ⟨K, fun k hk => by rw [re_neg]; have := h k hk; constructor <;> grind⟩
theorem nul_add (h : Nul x.s) (g : Nul y.s) : Nul (x + y).s := fun e he => by
  obtain ⟨K, h⟩ := h (e / 2) (q_half he)
  obtain ⟨L, g⟩ := g (e / 2) (q_half he)
  exact ⟨max K L, fun k hk => by rw [re_add]; have := h k (by omega); have := g k (by omega); constructor <;> grind⟩
theorem psv_add_nul (h : Psv x.s) (g : Nul y.s) : Psv (x + y).s := by
  obtain ⟨e, he, K, h⟩ := h
  obtain ⟨L, g⟩ := g (e / 2) (q_half he)
  exact ⟨e / 2, q_half he, max K L, fun k hk => by rw [re_add]; have := h k (by omega); have := g k (by omega); grind⟩
theorem psv_add (h : Psv x.s) (g : Psv y.s) : Psv (x + y).s := by
  obtain ⟨e, he, K, h⟩ := h
  obtain ⟨f, hf, L, g⟩ := g
  exact ⟨e, he, max K L, fun k hk => by rw [re_add]; have := h k (by omega); have := g k (by omega); grind⟩
theorem psv_mul (h : Psv x.s) (g : Psv y.s) : Psv (x * y).s := by
  obtain ⟨e, he, K, h⟩ := h
  obtain ⟨f, hf, L, g⟩ := g
  refine ⟨e * f, Rat.mul_pos he hf, max K L, fun k hk => ?_⟩
  rw [re_mul]
  have h1 := h k (by omega)
  have h2 := g k (by omega)
  have p1 : 0 ≤ (x.s k - e) * f := Rat.mul_nonneg (by grind) (by grind)
  have p2 : 0 ≤ x.s k * (y.s k - f) := Rat.mul_nonneg (by grind) (by grind)
  grind
theorem nul_mul (x : Re) (g : Nul y.s) : Nul (x * y).s := fun e he => by
  obtain ⟨B, hB, K, hb⟩ := x.bnd
  obtain ⟨d1, e1⟩ := q_div he hB
  obtain ⟨L, g⟩ := g _ d1
  refine ⟨max K L, fun k hk => ?_⟩
  rw [re_mul]
  have h1 := hb k (by omega)
  have h2 := g k (by omega)
  have p := q_prod h1.1 h1.2 h2.1 h2.2
  rw [e1] at p
  exact ⟨p.2, p.1⟩
theorem re_negneg (x : Re) : - -x = x := Re.ext fun k => by rw [re_neg, re_neg]; grind
theorem re_mulc (x y : Re) : x * y = y * x := Re.ext fun k => by rw [re_mul, re_mul]; grind
theorem re_negmul (x y : Re) : -(x * y) = -x * y := Re.ext fun k => by rw [re_neg, re_mul, re_mul, re_neg]; grind
theorem re_mulneg (x y : Re) : -(x * y) = x * -y := Re.ext fun k => by rw [re_neg, re_mul, re_mul, re_neg]; grind
theorem re_negadd (x y : Re) : -(x + y) = -x + -y := Re.ext fun k => by rw [re_neg, re_add, re_add, re_neg, re_neg]; grind
/-- the sign -/
noncomputable def sgR (x : Re) : Int := open Classical in if Psv x.s then 1 else if Psv (-x).s then -1 else 0
theorem sgR_p : sgR x = 1 ↔ Psv x.s := by
  unfold sgR
  split
  · rename_i h; simp [h]
  · rename_i h; split <;> simp [h]
theorem sgR_n : sgR x = -1 ↔ Psv (-x).s := by
  unfold sgR
  split
  · rename_i h; simp [psv_not h]
  · rename_i h
    split
    · rename_i h2; simp [h2]
    · rename_i h2; simp [h2]
theorem sgR_z : sgR x = 0 ↔ Nul x.s := by
  unfold sgR
  split
  · rename_i h; simp [psv_not_nul h]
  · rename_i h
    split
    · rename_i h2
      have h3 := psv_not_nul h2
      simp
      exact fun g => h3 (nul_neg g)
    · rename_i h2
      simp
      exact ((psv_nul_psv x).resolve_left h).resolve_right h2
theorem sgR_cases (x : Re) : sgR x = 1 ∨ sgR x = 0 ∨ sgR x = -1 := by
  rcases psv_nul_psv x with h | h | h
  · exact .inl (sgR_p.2 h)
  · exact .inr (.inl (sgR_z.2 h))
  · exact .inr (.inr (sgR_n.2 h))
theorem sgR_neg (x : Re) : sgR (-x) = -sgR x := by
  rcases psv_nul_psv x with h | h | h
  · rw [sgR_p.2 h, sgR_n, re_negneg]; exact h
  · rw [sgR_z.2 h, sgR_z.2 (nul_neg h)]; rfl
  · rw [sgR_n.2 h, sgR_p.2 h]; rfl
theorem sgR_mul (x y : Re) : sgR (x * y) = sgR x * sgR y := by
  rcases psv_nul_psv x with h | h | h <;> rcases psv_nul_psv y with g | g | g
  · rw [sgR_p.2 h, sgR_p.2 g, sgR_p.2 (psv_mul h g)]; rfl
  · rw [sgR_p.2 h, sgR_z.2 g, sgR_z.2 (nul_mul x g)]; rfl
  · rw [sgR_p.2 h, sgR_n.2 g, Int.one_mul, sgR_n, re_mulneg]; exact psv_mul h g
  · rw [sgR_z.2 h, Int.zero_mul, sgR_z, re_mulc]; exact nul_mul y h
  · rw [sgR_z.2 h, Int.zero_mul, sgR_z, re_mulc]; exact nul_mul y h
  · rw [sgR_z.2 h, Int.zero_mul, sgR_z, re_mulc]; exact nul_mul y h
  · rw [sgR_n.2 h, sgR_p.2 g, Int.mul_one, sgR_n, re_negmul]; exact psv_mul h g
  · rw [sgR_n.2 h, sgR_z.2 g, sgR_z.2 (nul_mul x g)]; rfl
  · rw [sgR_n.2 h, sgR_n.2 g]
    have e : x * y = -x * -y := Re.ext fun k => by rw [re_mul, re_mul, re_neg, re_neg]; grind
    rw [e, sgR_p.2 (psv_mul h g)]; rfl
theorem sgR_addz (x : Re) (h : sgR y = 0) : sgR (x + y) = sgR x := by
  have g := sgR_z.1 h
  rcases psv_nul_psv x with h | h | h
  · rw [sgR_p.2 h, sgR_p.2 (psv_add_nul h g)]
  · rw [sgR_z.2 h, sgR_z.2 (nul_add h g)]
  · rw [sgR_n.2 h, sgR_n, re_negadd]; exact psv_add_nul h (nul_neg g)
theorem re_addc (x y : Re) : x + y = y + x := Re.ext fun k => by rw [re_add, re_add]; grind
theorem sgR_zadd (h : sgR x = 0) (y : Re) : sgR (x + y) = sgR y := by rw [re_addc]; exact sgR_addz y h
theorem sgR_adds (h : sgR x = sgR y) : sgR (x + y) = sgR x := by
  rcases sgR_cases x with g | g | g
  · rw [g, sgR_p]; exact psv_add (sgR_p.1 g) (sgR_p.1 (h.symm.trans g))
  · rw [sgR_addz x (h.symm.trans g)]
  · rw [g, sgR_n, re_negadd]; exact psv_add (sgR_n.1 g) (sgR_n.1 (h.symm.trans g))
/-- sums of what is not negative -/
theorem sgR_nn (h : 0 ≤ sgR x) (g : 0 ≤ sgR y) : 0 ≤ sgR (x + y) := by
  rcases sgR_cases x with a | a | a
  · rcases sgR_cases y with b | b | b
    · rw [sgR_adds (a.trans b.symm)]; exact h
    · rw [sgR_addz x b]; exact h
    · omega
  · rw [sgR_zadd a]; exact g
  · omega
theorem sgR_pn (h : 0 < sgR x) (g : 0 ≤ sgR y) : 0 < sgR (x + y) := by
  rcases sgR_cases y with b | b | b
  · rcases sgR_cases x with a | a | a
    · rw [sgR_adds (a.trans b.symm)]; exact h
    · omega
    · omega
  · rw [sgR_addz x b]; exact h
  · omega
/-- what differs by nothing has the same sign -/
theorem sgR_same (h : sgR (x - y) = 0) : sgR x = sgR y := by
  have e : x = (x - y) + y := Re.ext fun k => by rw [re_add, re_sub]; grind
  rw [e]
  exact sgR_zadd h y
theorem sgR_of (q : Rat) : sgR (Re.of q) = cmpR q 0 := by
  unfold cmpR
  split
  · rename_i h
    exact sgR_n.2 ⟨-q, by grind, 0, fun k _ => by rw [re_neg, re_of]; grind⟩
  · split
    · rename_i h; exact sgR_p.2 ⟨q, h, 0, fun k _ => by rw [re_of]; grind⟩
    · exact sgR_z.2 fun e he => ⟨0, fun k _ => by rw [re_of]; constructor <;> grind⟩
end
/-- THE SIGN OF X + Y r, where r is the root of n. -/
theorem sgR_comb {X Y r n : Re} (hr : 0 ≤ sgR r) (hn : sgR (r * r - n) = 0) : sgR (X + Y * r) = comb (sgR X) (sgR Y * sgR n) (sgR (X * X - Y * Y * n)) := by
  have hrn : sgR r = sgR n := by
    have h1 := sgR_same hn
    rw [sgR_mul] at h1
    rcases sgR_cases r with h | h | h
    · rw [← h1, h]; rfl
    · rw [← h1, h]; rfl
    · omega
  have ht : sgR (Y * r) = sgR Y * sgR n := by rw [sgR_mul, hrn]
  rw [← ht]
  unfold comb
  split
  · rename_i h
    rcases h with h | h
    · exact sgR_addz X h
    · exact sgR_adds h
  · rename_i h
    split
    · rename_i h2; exact sgR_zadd h2 _
    · rename_i h2
      have hopp : sgR (Y * r) = -sgR X := by
        have a := sgR_cases X
        have b := sgR_cases (Y * r)
        omega
      have hm : sgR (X + -(Y * r)) = sgR X := sgR_adds (by rw [sgR_neg, hopp]; omega)
      have e1 : sgR ((X + Y * r) * (X + -(Y * r))) = sgR (X * X - Y * Y * n) := by
        refine sgR_same ?_
        have e : (X + Y * r) * (X + -(Y * r)) - (X * X - Y * Y * n) = -(Y * Y) * (r * r - n) := Re.ext fun k => by
          simp only [re_sub, re_mul, re_add, re_neg]; grind
        rw [e, sgR_mul, hn, Int.mul_zero]
      rw [sgR_mul, hm] at e1
      rw [← e1]
      have a := sgR_cases X
      have b := sgR_cases (X + Y * r)
      rcases a with a | a | a <;> rcases b with b | b | b <;> simp [a, b] at * <;> omega
end Go.Proofs.YtcimbhjmjlfloaaGreat
/- Plain: square roots of fractions as sequences; what both programs compute is the sign of the sum. -/
namespace Go.Proofs.YtcimbhjmjlfloaaGreat
open Go Go.RowKit
def rtD (m : Rat) (k : Nat) : Rat := (((m.den : Int) * ((k : Int) + 1) : Int) : Rat)
def rtI (m : Rat) (k : Nat) : Int := isqI (m.num * (m.den : Int) * (((k : Int) + 1) * ((k : Int) + 1)))
def rtS (m : Rat) (k : Nat) : Rat := ((rtI m k : Int) : Rat) / rtD m k
theorem q_cancel {x y d : Rat} (hd : 0 < d) (h : x * d ≤ y * d) : x ≤ y := by
  apply Classical.byContradiction
  intro hn
  have h1 : 0 < (x - y) * d := Rat.mul_pos (by grind) hd
  grind
theorem r_num (m : Rat) : m * ((m.den : Int) : Rat) = ((m.num : Int) : Rat) := by
  have h := Rat.num_divInt_den m
  rw [Rat.divInt_eq_div] at h
  have hd : (0 : Rat) < ((m.den : Int) : Rat) := Rat.intCast_pos.2 (by have := m.den_pos; omega)
  generalize ((m.den : Int) : Rat) = q at *
  generalize ((m.num : Int) : Rat) = p at *
  grind
theorem rtD_pos (m : Rat) (k : Nat) : 0 < rtD m k := by
  unfold rtD
  have h1 := den_pos m
  have h2 : (0 : Int) < (m.den : Int) * ((k : Int) + 1) := Int.mul_pos h1 (by omega)
  exact Rat.intCast_pos.2 h2
theorem rtS_mul (m : Rat) (k : Nat) : rtS m k * rtD m k = ((rtI m k : Int) : Rat) := by
  have := rtD_pos m k
  unfold rtS; grind
theorem rtD_sq (m : Rat) (k : Nat) : m * (rtD m k * rtD m k) = ((m.num * (m.den : Int) * (((k : Int) + 1) * ((k : Int) + 1)) : Int) : Rat) := by
  have h := r_num m
  unfold rtD
  simp only [Rat.intCast_mul, Rat.intCast_add, Rat.intCast_one, Rat.intCast_natCast] at *
  grind
theorem rtI_nn (m : Rat) (k : Nat) : 0 ≤ rtI m k := isqI_nonneg _
theorem num_nn {m : Rat} (h : 0 ≤ m) (k : Nat) : 0 ≤ m.num * (m.den : Int) * (((k : Int) + 1) * ((k : Int) + 1)) :=
  Int.mul_nonneg (Int.mul_nonneg (Rat.num_nonneg.2 h) (by have := den_pos m; omega)) (Int.mul_nonneg (by omega) (by omega))
theorem rtS_nn (m : Rat) (k : Nat) : 0 ≤ rtS m k := by
  refine q_cancel (rtD_pos m k) ?_
  rw [rtS_mul]
  have : (0 : Rat) ≤ ((rtI m k : Int) : Rat) := Rat.intCast_nonneg.2 (rtI_nn m k)
  grind
theorem rtS_le {m : Rat} (h : 0 ≤ m) (k : Nat) : rtS m k * rtS m k ≤ m := by
  have hd := rtD_pos m k
  refine q_cancel (Rat.mul_pos hd hd) ?_
  rw [rtD_sq]
  have e : rtS m k * rtS m k * (rtD m k * rtD m k) = ((rtI m k * rtI m k : Int) : Rat) := by
    rw [Rat.intCast_mul, ← rtS_mul]; grind
  rw [e]
  exact Rat.intCast_le_intCast.2 (isqI_le (num_nn h k))
theorem rtS_lt {m : Rat} (h : 0 ≤ m) (k : Nat) : m < (rtS m k + 1 / rtD m k) * (rtS m k + 1 / rtD m k) := by
  have hd := rtD_pos m k
  have e : (rtS m k + 1 / rtD m k) * (rtS m k + 1 / rtD m k) * (rtD m k * rtD m k) = (((rtI m k + 1) * (rtI m k + 1) : Int) : Rat) := by
    rw [Rat.intCast_mul, Rat.intCast_add, ← rtS_mul]
    have : 1 / rtD m k * rtD m k = 1 := by grind
    grind
  have h1 := Rat.intCast_lt_intCast.2 (isqI_lt (num_nn h k))
  rw [← rtD_sq] at h1
  have h2 : m * (rtD m k * rtD m k) < (rtS m k + 1 / rtD m k) * (rtS m k + 1 / rtD m k) * (rtD m k * rtD m k) := by rw [e]; exact h1
  apply Classical.byContradiction
  intro hn
  have h3 : 0 ≤ (m - (rtS m k + 1 / rtD m k) * (rtS m k + 1 / rtD m k)) * (rtD m k * rtD m k) := Rat.mul_nonneg (by grind) (by have := Rat.mul_pos hd hd; grind)
  grind
/-- The steps get small. -/
theorem rtD_small (m : Rat) {e : Rat} (he : 0 < e) {k : Nat} (hk : e.den ≤ k) : 0 < 1 / rtD m k ∧ 1 / rtD m k ≤ e := by
  have hd := rtD_pos m k
  have hc : 1 / rtD m k * rtD m k = 1 := by grind
  refine ⟨?_, ?_⟩
  · have := (q_div (e := 1) (by decide) hd).1; exact this
  · refine q_cancel hd ?_
    rw [hc]
    have h1 := r_num e
    have h2 : 0 < e.num := Rat.intCast_pos.1 (by rw [← h1]; exact Rat.mul_pos he (Rat.intCast_pos.2 (by have := e.den_pos; omega)))
    have h3 : (1 : Rat) ≤ ((e.num : Int) : Rat) := by
      have : ((1 : Int) : Rat) ≤ ((e.num : Int) : Rat) := Rat.intCast_le_intCast.2 (by omega)
      simpa using this
    have h4 : ((e.den : Int) : Rat) ≤ rtD m k := by
      unfold rtD
      refine Rat.intCast_le_intCast.2 ?_
      have := den_pos m
      have h5 : 1 * ((k : Int) + 1) ≤ (m.den : Int) * ((k : Int) + 1) := Int.mul_le_mul_of_nonneg_right (by omega) (by omega)
      omega
    have h6 : 0 ≤ e * (rtD m k - ((e.den : Int) : Rat)) := Rat.mul_nonneg (by grind) (by grind)
    simp only [Rat.intCast_natCast] at *
    grind
theorem cau_rt {m : Rat} (h : 0 ≤ m) : Cau (rtS m) := fun e he => by
  refine ⟨e.den, fun i j _ hj => ?_⟩
  obtain ⟨hp, hs⟩ := rtD_small m he hj
  have h1 := rtS_le h i
  have h2 := rtS_lt h j
  have h3 := rtS_nn m i
  have h4 := rtS_nn m j
  apply Classical.byContradiction
  intro hn
  have h5 : 0 ≤ (rtS m i - (rtS m j + 1 / rtD m j)) * (rtS m i + (rtS m j + 1 / rtD m j)) := Rat.mul_nonneg (by grind) (by grind)
  grind
def Re.rt (m : Rat) : Re := ⟨fun k => if 0 ≤ m then rtS m k else 0, by
  by_cases h : 0 ≤ m
  · simp only [h, if_true]; exact cau_rt h
  · simp only [h, if_false]; exact cau_const 0⟩
theorem sgR_pt {x : Re} (h : ∀ k, 0 ≤ x.s k) : 0 ≤ sgR x := by
  rcases sgR_cases x with a | a | a
  · omega
  · omega
  · obtain ⟨e, he, K, g⟩ := sgR_n.1 a
    have h1 := g K (Nat.le_refl _)
    rw [re_neg] at h1
    have h2 := h K
    exfalso; grind
theorem rt_nn (m : Rat) : 0 ≤ sgR (Re.rt m) := sgR_pt fun k => by
  show 0 ≤ (if 0 ≤ m then rtS m k else 0)
  split
  · exact rtS_nn m k
  · exact Rat.le_refl
theorem rt_sq {m : Rat} (h : 0 ≤ m) : sgR (Re.rt m * Re.rt m - Re.of m) = 0 := sgR_z.2 fun e he => by
  obtain ⟨d1, d2⟩ := q_div he (show 0 < 2 * m + 3 by grind)
  refine ⟨(e / (2 * m + 3)).den, fun k hk => ?_⟩
  rw [re_sub, re_mul, re_of]
  show -e ≤ (if 0 ≤ m then rtS m k else 0) * (if 0 ≤ m then rtS m k else 0) + -m ∧ (if 0 ≤ m then rtS m k else 0) * (if 0 ≤ m then rtS m k else 0) + -m ≤ e
  rw [if_pos h]
  obtain ⟨hp, hs⟩ := rtD_small m d1 hk
  obtain ⟨hp1, hs1⟩ := rtD_small m (e := 1) (by decide) (k := k) (by
    have : (1 : Rat).den = 1 := rfl
    rw [this]
    have := (e / (2 * m + 3)).den_pos
    omega)
  have h1 := rtS_le h k
  have h2 := rtS_lt h k
  have h3 := rtS_nn m k
  refine ⟨?_, by grind⟩
  -- r ≤ m + 1
  have h4 : rtS m k ≤ m + 1 := by
    apply Classical.byContradiction
    intro hn
    have h5 : 0 ≤ (rtS m k - (m + 1)) * (rtS m k + (m + 1)) := Rat.mul_nonneg (by grind) (by grind)
    have h6 : 0 ≤ m * m := Rat.mul_nonneg h h
    grind
  generalize 1 / rtD m k = d at *
  have h7 : 0 ≤ d * ((m + 1) - rtS m k) := Rat.mul_nonneg (by grind) (by grind)
  have h8 : 0 ≤ d * (1 - d) := Rat.mul_nonneg (by grind) (by grind)
  have h9 : 0 ≤ (2 * m + 3) * (e / (2 * m + 3) - d) := Rat.mul_nonneg (by grind) (by grind)
  grind
theorem cmpR_sub (x y : Rat) : cmpR (x - y) 0 = cmpR x y := by
  unfold cmpR
  have e1 : (x - y < 0) = (x < y) := by apply propext; constructor <;> intro h <;> grind
  have e2 : (0 < x - y) = (y < x) := by apply propext; constructor <;> intro h <;> grind
  simp only [e1, e2]
theorem of_mul (x y : Rat) : Re.of x * Re.of y = Re.of (x * y) := rfl
theorem of_neg (x : Rat) : -Re.of x = Re.of (-x) := rfl
theorem of_add (x y : Rat) : Re.of x + Re.of y = Re.of (x + y) := rfl
theorem of_sub (x y : Rat) : Re.of x - Re.of y = Re.of (x - y) := Re.ext fun k => by rw [re_sub, re_of, re_of, re_of]; grind
/-- a + b √m -/
def val3 (a b m : Rat) : Re := Re.of a + Re.of b * Re.rt m
theorem plainS_sg {a b m : Rat} (h : 0 ≤ m) : plainS a b m = sgR (val3 a b m) := by
  unfold val3
  rw [sgR_comb (n := Re.of m) (rt_nn m) (rt_sq h), sgR_of, sgR_of, sgR_of, of_mul, of_mul, of_mul, of_sub, sgR_of, cmpR_sub]
  rfl
/-- A + B √M + (C + D √M) √N -/
def val6 (A B C D M N : Rat) : Re := val3 A B M + val3 C D M * Re.rt N
theorem signQ_sg {A B C D M N : Rat} (hM : 0 ≤ M) (hN : 0 ≤ N) : signQ A B C D M N = sgR (val6 A B C D M N) := by
  unfold val6
  rw [sgR_comb (n := Re.of N) (rt_nn N) (rt_sq hN), ← plainS_sg hM, ← plainS_sg hM, sgR_of, signQ_p (by grind) (by grind)]
  have e : sgR (val3 A B M * val3 A B M - val3 C D M * val3 C D M * Re.of N) = sgR (val3 (quadA A B C D M N) (quadB A B C D N + quadB A B C D N) M) := by
    refine sgR_same ?_
    have e : (val3 A B M * val3 A B M - val3 C D M * val3 C D M * Re.of N) - val3 (quadA A B C D M N) (quadB A B C D N + quadB A B C D N) M = (Re.of (B * B - D * D * N)) * (Re.rt M * Re.rt M - Re.of M) := Re.ext fun k => by
      unfold val3 quadA quadB
      simp only [re_sub, re_mul, re_add, re_of]; grind
    rw [e, sgR_mul, rt_sq hM, Int.mul_zero]
  rw [e, ← plainS_sg hM]
/-- the difference of two roots -/
theorem signQ_val {a b c d e f : Rat} (hc : 0 ≤ c) (hf : 0 ≤ f) : signQ (a - d) b (-e) 0 c f = sgR (val3 a b c - val3 d e f) := by
  rw [signQ_sg hc hf]
  refine congrArg sgR (Re.ext fun k => ?_)
  unfold val6 val3
  simp only [re_sub, re_mul, re_add, re_of]; grind
end Go.Proofs.YtcimbhjmjlfloaaGreat
/- Steps: the greater and the lesser of two numbers; shifts by a constant. -/
namespace Go.Proofs.YtcimbhjmjlfloaaGreat
open Go Go.RowKit
section
variable {P : Program} {ops : Array Oper} {T : TF} {B : BF}
theorem sem_shr {dst : Option Nat} {xt yt : TypeId} {x y : Operand} {ty : TypeId} {pos : String} {af : Array Edge} {g : Option (Nat × Bool)} {k yk : IntKind} {m n r : Int}
    (hx : opd T x = some (.v (.c (.i k m)))) (hy : opd T y = some (.v (.c (.i yk n)))) (h0 : ¬ n < 0) (hr : m.fdiv (2 ^ (min n.toNat k.bits)) = r) (hg : gd ops ⟨dst, .binOp .shr xt x y yt, ty, pos, af, g⟩ T = some true) :
    Sem P ops ⟨dst, .binOp .shr xt x y yt, ty, pos, af, g⟩ T B (.r (.v (.c (.i k r)))) :=
  sem_pure hg (nop rfl) (fun V β a w hs => by
      have e1 : a.eval x = .int k m := RdC.int_eq (opd_reads hs (x := x) (by simp [Op.operands]) hx)
      have e2 : a.eval y = .int yk n := RdC.int_eq (opd_reads hs (x := y) (by simp [Op.operands]) hy)
      subst hr
      exact ⟨.int k (m.fdiv (2 ^ (min n.toNat k.bits))), by simp [execOp, e1, e2, eqGuard, binOp, Op.shift, h0], .i _ _⟩)
theorem sem_shl {dst : Option Nat} {xt yt : TypeId} {x y : Operand} {ty : TypeId} {pos : String} {af : Array Edge} {g : Option (Nat × Bool)} {k yk : IntKind} {m n r : Int}
    (hx : opd T x = some (.v (.c (.i k m)))) (hy : opd T y = some (.v (.c (.i yk n)))) (h0 : ¬ n < 0) (hr : k.wrap (m * 2 ^ (min n.toNat k.bits)) = r) (hg : gd ops ⟨dst, .binOp .shl xt x y yt, ty, pos, af, g⟩ T = some true) :
    Sem P ops ⟨dst, .binOp .shl xt x y yt, ty, pos, af, g⟩ T B (.r (.v (.c (.i k r)))) :=
  sem_pure hg (nop rfl) (fun V β a w hs => by
      have e1 : a.eval x = .int k m := RdC.int_eq (opd_reads hs (x := x) (by simp [Op.operands]) hx)
      have e2 : a.eval y = .int yk n := RdC.int_eq (opd_reads hs (x := y) (by simp [Op.operands]) hy)
      subst hr
      exact ⟨.int k (k.wrap (m * 2 ^ (min n.toNat k.bits))), by simp [execOp, e1, e2, eqGuard, binOp, Op.shift, h0], .i _ _⟩)
theorem sem_max {dst : Option Nat} {x y : Operand} {t1 t2 : TypeId} {ty : TypeId} {pos : String} {af : Array Edge} {g : Option (Nat × Bool)} {k : IntKind} {m n : Int}
    (hx : opd T x = some (.v (.c (.i k m)))) (hy : opd T y = some (.v (.c (.i k n)))) (hg : gd ops ⟨dst, .call ⟨.builtin .max, #[x, y], #[t1, t2]⟩, ty, pos, af, g⟩ T = some true) :
    Sem P ops ⟨dst, .call ⟨.builtin .max, #[x, y], #[t1, t2]⟩, ty, pos, af, g⟩ T B (.r (.v (.c (.i k (max m n))))) :=
  sem_pure hg (nop rfl) (fun V β a w hs => by
    have e1 : a.eval x = .int k m := RdC.int_eq (opd_reads hs (x := x) (by simp [Op.operands, Call.operands]) hx)
    have e2 : a.eval y = .int k n := RdC.int_eq (opd_reads hs (x := y) (by simp [Op.operands, Call.operands]) hy)
    refine ⟨.int k (max m n), ?_, .i _ _⟩
    simp [execOp, resolve, invoke, builtin, Builtin.max_, Builtin.max2, e1, e2]
    split <;> omega)
theorem sem_min {dst : Option Nat} {x y : Operand} {t1 t2 : TypeId} {ty : TypeId} {pos : String} {af : Array Edge} {g : Option (Nat × Bool)} {k : IntKind} {m n : Int}
    (hx : opd T x = some (.v (.c (.i k m)))) (hy : opd T y = some (.v (.c (.i k n)))) (hg : gd ops ⟨dst, .call ⟨.builtin .min, #[x, y], #[t1, t2]⟩, ty, pos, af, g⟩ T = some true) :
    Sem P ops ⟨dst, .call ⟨.builtin .min, #[x, y], #[t1, t2]⟩, ty, pos, af, g⟩ T B (.r (.v (.c (.i k (min m n))))) :=
  sem_pure hg (nop rfl) (fun V β a w hs => by
    have e1 : a.eval x = .int k m := RdC.int_eq (opd_reads hs (x := x) (by simp [Op.operands, Call.operands]) hx)
    have e2 : a.eval y = .int k n := RdC.int_eq (opd_reads hs (x := y) (by simp [Op.operands, Call.operands]) hy)
    refine ⟨.int k (min m n), ?_, .i _ _⟩
    simp [execOp, resolve, invoke, builtin, Builtin.min_, Builtin.min2, e1, e2]
    split <;> omega)
end
/-- the ends of the root of an interval -/
def sqLo (x : Int) : Int := isqI (max x 0 * 65536)
def sqHi (y : Int) : Int := if sqI (y * 65536) then isqI (y * 65536) else isqI (y * 65536) + 1
theorem isq_bd {n : Int} (h0 : 0 ≤ n) (h1 : n ≤ 2305843009213693952) : 0 ≤ isqI (n * 65536) ∧ isqI (n * 65536) ≤ 549755813888 := by
  refine ⟨isqI_nonneg _, ?_⟩
  have h2 := isqI_le (x := n * 65536) (by omega)
  by_cases h : isqI (n * 65536) ≤ 549755813888
  · exact h
  · have := sq_le (a := 549755813889) (b := isqI (n * 65536)) (by decide) (by omega)
    omega
theorem fit_small {x : Int} (h0 : -4611686018427387904 ≤ x) (h1 : x ≤ 4611686018427387904) : fitB x = true := fit_iff.2 ⟨by omega, by omega⟩
theorem ok_small {lo hi : Int} (h0 : -2305843009213693952 ≤ lo) (h1 : hi ≤ 2305843009213693952) : okI lo hi = true := ok_in (by omega) (by omega)
end Go.Proofs.YtcimbhjmjlfloaaGreat
/- Package filter: FromRat. -/
namespace Go.Proofs.YtcimbhjmjlfloaaGreat
open Go Go.RowKit
theorem fFromRat_ok {a : Rat} (ha : Rz 200 a) : Ok Tryz.prog 68 [dR a] [.a ([.i .i64 (if frOk a then frLo a else 0)] ++ [.i .i64 (if frOk a then frHi a else 0)]), .c (.b (frOk a))] := by
  have hz : Rz 300 (a * ((65536 : Int) : Rat)) := (Rz.mul ha (Rz.int (Sz.small (k := 3) (by decide) (by decide) (by decide)) (by decide))).mono (by decide)
  have ha3 : Rz 300 a := ha.mono (by decide)
  have h65 : Rz 300 ((65536 : Int) : Rat) := (Rz.int (Sz.small (k := 3) (by decide) (by decide) (by decide)) (by decide)).mono (by decide)
  have hzn : Rz 300 (-(a * ((65536 : Int) : Rat))) := hz.neg
  have hs1 : Sz 1000000 (frLo a) := (Sz.fdiv hz.n).mono (by decide)
  have hs2 : Sz 1000000 ((-(a * ((65536 : Int) : Rat))).num.fdiv ((-(a * ((65536 : Int) : Rat))).den : Int)) := (Sz.fdiv hzn.n).mono (by decide)
  have hs3 : Sz 1000000 (frHi a) := hs2.neg
  have hf1 : Ok Tryz.prog 95 [dR (a * ((65536 : Int) : Rat))] [dI (frLo a)] := pFloor_ok hz
  have hf3 : Ok Tryz.prog 55 [dI ((-(a * ((65536 : Int) : Rat))).num.fdiv ((-(a * ((65536 : Int) : Rat))).den : Int))] [dI (frHi a)] := iNeg_ok hs2
  refine Ok.of (by kernel_rfl) Tryz.func68 rfl rfl ?_
  rw [show Tryz.f68.ntmps = 38 from rfl, show Tryz.f68.results.toList = [.cell 2 95, .tmp 3] from rfl]
  refine dw_seq ?_
  -- region 0
  refine dw_region (by kernel_rfl) ?_
  refine dl_new (sem_box_a rfl rfl) rfl ?_
  refine dl_new (sem_alloc zc95 rfl) rfl ?_
  refine dl_r (sem_assign rfl rfl) ?_
  refine dl_end ?_
  refine dw_seq ?_
  -- region 1
  refine dw_draw 4 [] follows_mixed (by kernel_rfl) rfl rfl ?_
  refine dq_r (sem_load (us := cR a) ty28 rfl rfl rfl rfl rfl) ?_
  refine dq_r (sem_call rfl rfl (pFrom_ok (by omega) (by omega)) rfl) ?_
  refine dq_r (sem_call rfl rfl (pMul_ok (by first | assumption | exact Rz.mono (by assumption) (by decide)) (by first | assumption | exact Rz.mono (Rz.int (Sz.small (k := 3) (by decide) (by decide) (by decide)) (by decide)) (by decide))) rfl) ?_
  refine dq_new (sem_alloc zc28 rfl) rfl ?_
  refine dq_end ?_
  refine dl_start1 ?_
  refine dl_st (sem_store_a ty28 rfl rfl rfl rfl rfl rfl) ?_
  refine dl_end ?_
  refine dw_seq ?_
  -- region 2
  refine dw_region (by kernel_rfl) ?_
  refine dl_r (sem_load (us := cR (a * (((65536 : Int) : Rat)))) ty28 rfl rfl rfl rfl rfl) ?_
  refine dl_r (sem_call rfl rfl (hf1) rfl) ?_
  refine dl_r (sem_call rfl rfl (iInt64_ok (by first | assumption | exact Sz.mono (by assumption) (by decide))) rfl) ?_
  refine dl_r (sem_move rfl rfl) ?_
  refine dl_r (sem_extract rfl rfl rfl) ?_
  refine dl_r (sem_extract rfl rfl rfl) ?_
  refine dl_r (sem_assign rfl rfl) ?_
  refine dl_r (sem_assign rfl rfl) ?_
  refine dl_end ?_
  refine dw_seq ?_
  -- region 3
  refine dw_region (by kernel_rfl) ?_
  refine dl_r (sem_load (us := cR (a * (((65536 : Int) : Rat)))) ty28 rfl rfl rfl rfl rfl) ?_
  refine dl_r (sem_call rfl rfl (pNeg_ok (by first | assumption | exact Rz.mono (Rz.mul (by assumption) (Rz.int (Sz.small (k := 3) (by decide) (by decide) (by decide)) (by decide))) (by decide))) rfl) ?_
  refine dl_r (sem_call rfl rfl (pFloor_ok hzn) rfl) ?_
  refine dl_r (sem_call rfl rfl (hf3) rfl) ?_
  refine dl_r (sem_call rfl rfl (iInt64_ok (by first | assumption | exact Sz.mono (by assumption) (by decide))) rfl) ?_
  refine dl_r (sem_move rfl rfl) ?_
  refine dl_r (sem_extract rfl rfl rfl) ?_
  refine dl_r (sem_extract rfl rfl rfl) ?_
  refine dl_r (sem_assign rfl rfl) ?_
  refine dl_r (sem_assign rfl rfl) ?_
  refine dl_end ?_
  refine dw_seq ?_
  refine dw_seq ?_
  -- region 4
  refine dw_region (by kernel_rfl) ?_
  refine dl_r (sem_move rfl rfl) ?_
  refine dl_r (sem_not rfl rfl) ?_
  refine dl_rb (sem_move rfl rfl) (fun c1 hb1 => ?_)
  cases c1
  · refine dl_r (sem_move rfl rfl) ?_
    refine dl_r (sem_not rfl rfl) ?_
    refine dl_r (sem_pick rfl rfl rfl rfl) ?_
    refine dl_end ?_
    refine dw_cond rfl (fun hc2 => ?_) (fun hc2 => ?_)
    · refine dw_seq ?_
      -- region 5
      refine dw_region (by kernel_rfl) ?_
      refine dl_r (sem_build (us := ([.i .i64 0] ++ [.i .i64 0])) fs95 zc95 rfl rfl rfl) ?_
      refine dl_st (sem_store_a ty95 rfl rfl rfl rfl rfl rfl) ?_
      refine dl_r (sem_assign rfl rfl) ?_
      refine dl_end ?_
      refine dw_ret ?_
      -- path fT
      rw [show frOk a = false from by unfold frOk; rw [not_t hc2, Bool.false_and, Bool.and_false], if_neg (by decide), if_neg (by decide)]
      exact ⟨.inr rfl, (resL_cell (us := ([.i .i64 0] ++ [.i .i64 0])) ty95 rfl rfl rfl rfl (resL_tmp rfl resL_nil))⟩
    · have e1 := not_f hb1
      have e2 := not_f hc2
      refine Dw.weak (σ' := ⟨38, [(2, .p 2 0), (5, .v (.c (.i .i64 (frLo a)))), (7, .v (.c (.i .i64 (frHi a))))], [(2, 95, ([.i .i64 0] ++ [.i .i64 0]))]⟩) (sub_of ⟨rfl, by rw [if_pos e1]; rfl, by rw [if_pos e2]; rfl, trivial⟩ ⟨rfl, trivial⟩ rfl) ?_
      refine dw_skip ?_
      refine dw_seq ?_
      -- region 6
      refine dw_region (by kernel_rfl) ?_
      refine dl_r (sem_move rfl rfl) ?_
      refine dl_r (sem_move rfl rfl) ?_
      refine dl_r (sem_call rfl rfl (fProper_ok) rfl) ?_
      refine dl_r (sem_extract rfl rfl rfl) ?_
      refine dl_r (sem_extract rfl rfl rfl) ?_
      refine dl_st (sem_store_a ty95 rfl rfl rfl rfl rfl rfl) ?_
      refine dl_r (sem_assign rfl rfl) ?_
      refine dl_end ?_
      refine dw_ret ?_
      -- path fF
      rw [show frOk a = okI (frLo a) (frHi a) from by unfold frOk; rw [e1, e2]; rfl]
      exact ⟨.inr rfl, (resL_cell (us := ([.i .i64 (if okI (frLo a) (frHi a) then (frLo a) else 0)] ++ [.i .i64 (if okI (frLo a) (frHi a) then (frHi a) else 0)])) ty95 rfl rfl rfl rfl (resL_tmp rfl resL_nil))⟩
  · refine dl_skip (sem_skip rfl) ?_
    refine dl_skip (sem_skip rfl) ?_
    refine dl_r (sem_pick rfl rfl rfl rfl) ?_
    refine dl_end ?_
    refine dw_true rfl ?_
    refine dw_seq ?_
    -- region 5
    refine dw_region (by kernel_rfl) ?_
    refine dl_r (sem_build (us := ([.i .i64 0] ++ [.i .i64 0])) fs95 zc95 rfl rfl rfl) ?_
    refine dl_st (sem_store_a ty95 rfl rfl rfl rfl rfl rfl) ?_
    refine dl_r (sem_assign rfl rfl) ?_
    refine dl_end ?_
    refine dw_ret ?_
    -- path t
    rw [show frOk a = false from by unfold frOk; rw [not_t hb1]; rfl, if_neg (by decide), if_neg (by decide)]
    exact ⟨.inr rfl, (resL_cell (us := ([.i .i64 0] ++ [.i .i64 0])) ty95 rfl rfl rfl rfl (resL_tmp rfl resL_nil))⟩
end Go.Proofs.YtcimbhjmjlfloaaGreat
