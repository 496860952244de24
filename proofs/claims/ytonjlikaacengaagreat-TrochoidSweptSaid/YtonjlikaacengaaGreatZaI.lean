/- Data: the greater and the lesser of two numbers, casts, structs of integers compared. -/
import Derived.Test.YtonjlikaacengaaGreatZaH
import Derived.Laws.StructEq
namespace Go.Proofs.YtonjlikaacengaaGreat
open Go Go.RowKit
section
variable {P : Program} {ops : Array Oper} {T : TF} {B : BF}
theorem sem_max {dst : Option Nat} {x y : Operand} {t1 t2 : TypeId} {ty : TypeId} {pos : String} {af : Array Edge} {g : Option (Nat × Bool)} {k : IntKind} {m n : Int}
    (hx : opd T x = some (.v (.c (.i k m)))) (hy : opd T y = some (.v (.c (.i k n)))) (hg : gd ops ⟨dst, .call ⟨.builtin .max, #[x, y], #[t1, t2]⟩, ty, pos, af, g⟩ T = some true) :
    Sem P ops ⟨dst, .call ⟨.builtin .max, #[x, y], #[t1, t2]⟩, ty, pos, af, g⟩ T B (.r (.v (.c (.i k (max m n))))) :=
  sem_pure hg (nop rfl) (fun V β a w hs => by
    have e1 : a.eval x = .int k m := RdC.int_eq (opd_reads hs (x := x) (by simp [Op.operands, Call.operands]) hx)
    have e2 : a.eval y = .int k n := RdC.int_eq (opd_reads hs (x := y) (by simp [Op.operands, Call.operands]) hy)
    refine ⟨.int k (max m n), ?_, .i _ _⟩
    simp [execOp, resolve, invoke, builtin, Builtin.max_, Builtin.max2, e1, e2]
    split <;> omega)
theorem sem_min {dst : Option Nat} {x y : Operand} {t1 t2 : TypeId} {ty : TypeId} {pos : String} {af : Array Edge} {g : Option (Nat × Bool)} {k : IntKind} {m n : Int}
    (hx : opd T x = some (.v (.c (.i k m)))) (hy : opd T y = some (.v (.c (.i k n)))) (hg : gd ops ⟨dst, .call ⟨.builtin .min, #[x, y], #[t1, t2]⟩, ty, pos, af, g⟩ T = some true) :
    Sem P ops ⟨dst, .call ⟨.builtin .min, #[x, y], #[t1, t2]⟩, ty, pos, af, g⟩ T B (.r (.v (.c (.i k (min m n))))) :=
  sem_pure hg (nop rfl) (fun V β a w hs => by
    have e1 : a.eval x = .int k m := RdC.int_eq (opd_reads hs (x := x) (by simp [Op.operands, Call.operands]) hx)
    have e2 : a.eval y = .int k n := RdC.int_eq (opd_reads hs (x := y) (by simp [Op.operands, Call.operands]) hy)
    refine ⟨.int k (min m n), ?_, .i _ _⟩
    simp [execOp, resolve, invoke, builtin, Builtin.min_, Builtin.min2, e1, e2]
    split <;> omega)
theorem sem_castb {o : Oper} {b c : Bool} (h : Sem P ops o T B (.r (.v (.c (.b b))))) (e : b = c) : Sem P ops o T B (.r (.v (.c (.b c)))) := by subst e; exact h
/-- The value of an integer cell. -/
def vI : CellD → Value
  | .i k m => .int k m
  | _ => undef
def isI : CellD → Bool
  | .i _ _ => true
  | _ => false
theorem ints_of {V : Nat → Prop} {w : World} : ∀ {vs : List Value} {us : List CellD}, us.all isI = true → RdCs V w vs us → vs = us.map vI
  | [], [], _, _ => rfl
  | [], _ :: _, _, h => by have := h.1; simp at this
  | _ :: _, [], _, h => by have := h.1; simp at this
  | v :: vs, u :: us, ha, h => by
    simp only [List.all_cons, Bool.and_eq_true] at ha
    obtain ⟨h1, h2⟩ := h.uncons
    rw [ints_of ha.2 h2, List.map_cons]
    congr 1
    cases u with
    | i k m => exact h1.int_eq
    | _ => cases ha.1
theorem agg_of {V : Nat → Prop} {w : World} {v : Value} {us : List CellD} (hi : us.all isI = true) (h : RdV V w v (.a us)) : v = .agg (us.map vI).toArray := by
  obtain ⟨cs, rfl, hr⟩ := h
  rw [← ints_of hi hr]
theorem sem_seq {dst : Option Nat} {xt yt : TypeId} {x y : Operand} {ty : TypeId} {pos : String} {af : Array Edge} {g : Option (Nat × Bool)} {us ws : List CellD} {r : Bool}
    (hx : opd T x = some (.v (.a us))) (hy : opd T y = some (.v (.a ws))) (hi : us.all isI = true) (hj : ws.all isI = true) (hq : P.eqGuardType P.depth xt = false)
    (he : ∀ w, (Op.equalIn 10000 xt (.agg (us.map vI).toArray) (.agg (ws.map vI).toArray)).run P w = .ok r w) (hg : gd ops ⟨dst, .binOp .eql xt x y yt, ty, pos, af, g⟩ T = some true) :
    Sem P ops ⟨dst, .binOp .eql xt x y yt, ty, pos, af, g⟩ T B (.r (.v (.c (.b r)))) :=
  sem_pure hg (nop rfl) (fun V β a w hs => by
      have e1 := agg_of hi (opd_reads hs (x := x) (by simp [Op.operands]) hx)
      have e2 := agg_of hj (opd_reads hs (x := y) (by simp [Op.operands]) hy)
      refine ⟨.bool r, ?_, .b _⟩
      simp only [execOp, e1, e2, Sem.run_bind, run_eqGuard_agg w .eql xt x y _ _ hq, Result.andThen_ok, run_eql_struct, he]
      rfl)
theorem sem_sne {dst : Option Nat} {xt yt : TypeId} {x y : Operand} {ty : TypeId} {pos : String} {af : Array Edge} {g : Option (Nat × Bool)} {us ws : List CellD} {r : Bool}
    (hx : opd T x = some (.v (.a us))) (hy : opd T y = some (.v (.a ws))) (hi : us.all isI = true) (hj : ws.all isI = true) (hq : P.eqGuardType P.depth xt = false)
    (he : ∀ w, (Op.equalIn 10000 xt (.agg (us.map vI).toArray) (.agg (ws.map vI).toArray)).run P w = .ok r w) (hg : gd ops ⟨dst, .binOp .neq xt x y yt, ty, pos, af, g⟩ T = some true) :
    Sem P ops ⟨dst, .binOp .neq xt x y yt, ty, pos, af, g⟩ T B (.r (.v (.c (.b (!r))))) :=
  sem_pure hg (nop rfl) (fun V β a w hs => by
      have e1 := agg_of hi (opd_reads hs (x := x) (by simp [Op.operands]) hx)
      have e2 := agg_of hj (opd_reads hs (x := y) (by simp [Op.operands]) hy)
      refine ⟨.bool (!r), ?_, .b _⟩
      simp only [execOp, e1, e2, Sem.run_bind, run_eqGuard_agg w .neq xt x y _ _ hq, Result.andThen_ok, run_neq_struct, he]
      rfl)
theorem eqf_step {d : Nat} {xs ys : Array Value} {f : Field} {fs : List Field} {x y : Value} {w : World} {r : Bool} (hn : f.name ≠ "_") (hx : (part f.type xs f.offset).run P w = .ok x w) (hy : (part f.type ys f.offset).run P w = .ok y w)
    (he : (Op.equalIn d f.type x y).run P w = .ok r w) : (Op.eqFields d xs ys (f :: fs)).run P w = if r then (Op.eqFields d xs ys fs).run P w else .ok false w := by
  simp only [Op.eqFields, if_pos hn, Sem.run_bind, hx, Result.andThen_ok, hy, he]
  cases r <;> simp
end
section
variable {P : Program} {f : FuncId} {ds rs : List D0}
theorem rcastb {b c : Bool} (h : Ok P f ds [.c (.b b)]) (e : b = c) : Ok P f ds [.c (.b c)] := by subst e; exact h
theorem rcasti {b c : Int} (h : Ok P f ds [.c (.i .i64 b)]) (e : b = c) : Ok P f ds [.c (.i .i64 c)] := by subst e; exact h
theorem icast2 {x y x' y' : Int} (h : Ok P f ds (.a ([.i .i64 x] ++ [.i .i64 y]) :: rs)) (e1 : x = x') (e2 : y = y') : Ok P f ds (.a ([.i .i64 x'] ++ [.i .i64 y']) :: rs) := by subst e1 e2; exact h
theorem icast2b {x y x' y' : Int} {b c : Bool} (h : Ok P f ds [.a ([.i .i64 x] ++ [.i .i64 y]), .c (.b b)]) (e1 : x = x') (e2 : y = y') (e3 : b = c) : Ok P f ds [.a ([.i .i64 x'] ++ [.i .i64 y']), .c (.b c)] := by subst e1 e2 e3; exact h
end
/-- A slice made of values, given out at once. -/
theorem sem_slit_D {P : Program} {ops : Array Oper} {T : TF} {B : BF} {dst : Option Nat} {U e : TypeId} {ps : Array (Nat × Operand)} {ty : TypeId} {pos : String} {af : Array Edge} {g : Option (Nat × Bool)} {n m by_ : Nat} {zs us : List CellD} {dps : List (Nat × D0)}
    (hU : elB P U = some (e, m, by_, zs)) (hp : partsD T ps.toList = some dps) (hf : fillD (fun i => some (i * m, m)) (List.replicate n zs).flatten dps = some us) (hl : us.length = n * m) (hn : n * m ≤ 16777216) (hm : 0 < n * m)
    (hg : gd ops ⟨dst, .buildSlice U n ps, ty, pos, af, g⟩ T = some true) : Sem P ops ⟨dst, .buildSlice U n ps, ty, pos, af, g⟩ T B (.r (.v (.c (.s n us)))) := by
  have h := sem_slit (B := B) hU hp hf hn hm hg
  refine ⟨nop rfl, fun V β a w hs => ?_⟩
  obtain ⟨hw, hg⟩ := h V β a w hs
  refine ⟨hw, hg.mono ?_⟩
  rintro v w' ⟨vs, rfl, rfl, hr⟩
  refine ⟨?_, (Below.refl _ w).alloc (Nat.le_refl _) _⟩
  have hkeep := Keep.below (av := V) ((Below.refl w.heap.size w).alloc (Nat.le_refl _) (.cells vs e))
  have hr2 := hr.keep hkeep
  have hvl : vs.size = n * m := by have := hr.1; rw [hl] at this; simpa using this
  have hn0 : 0 < n := by
    rcases Nat.eq_zero_or_pos n with h0 | h0
    · rw [h0, Nat.zero_mul] at hm; omega
    · exact h0
  have hm0 : 0 < m := by
    rcases Nat.eq_zero_or_pos m with h0 | h0
    · rw [h0, Nat.mul_zero] at hm; omega
    · exact h0
  have hnm : n ≤ n * m := Nat.le_mul_of_pos_right n hm0
  refine .s w.heap.size 0 n m n _ (fun j => vs.getD j undef) hn0 (Nat.le_refl _) (by omega) hl (by simp) (fun h => by have := hs.av _ h; omega) (fun j hj => ?_) (fun j u hj => ?_)
  · rw [Nat.zero_add, cells_of_box (heap_alloc_new w (.cells vs e))]
    have : j < vs.size := by omega
    simp [Array.getD, this]
  · have hlt : j < n * m := by have := (List.getElem?_eq_some_iff.1 hj).1; omega
    refine hr2.2 j _ u ?_ hj
    rw [Array.getElem?_toList]
    have : j < vs.size := by omega
    simp [Array.getD, this]
theorem ari_i64_mul {a b : Int} (h0 : -9223372036854775808 ≤ a * b) (h1 : a * b ≤ 9223372036854775807) : iari .mul .i64 a b = some (a * b) := congrArg some (nw64 h0 h1)
theorem eq_g2 (a b c e : Int) (w : World) : (Op.equalIn 10000 34 (.agg #[.int .i64 a, .int .i64 b]) (.agg #[.int .i64 c, .int .i64 e])).run Tryz.prog w = .ok (a == c && b == e) w := by
  rw [show (10000 : Nat) = 9998 + 1 + 1 from rfl, run_equalIn_agg w _ _ _ _ (by kernel_rfl) (by kernel_rfl),
    show (Tryz.prog.fieldsOf 34).toList = [(Tryz.prog.fieldsOf 34)[0]!, (Tryz.prog.fieldsOf 34)[1]!] from by kernel_rfl,
    eqf_step (x := .int .i64 a) (y := .int .i64 c) (r := a == c) (of_decide_eq_true (by kernel_rfl)) (by kernel_rfl) (by kernel_rfl) (run_equalIn_int w _ _ .i64 .i64 a c (by kernel_rfl)),
    eqf_step (x := .int .i64 b) (y := .int .i64 e) (r := b == e) (of_decide_eq_true (by kernel_rfl)) (by kernel_rfl) (by kernel_rfl) (run_equalIn_int w _ _ .i64 .i64 b e (by kernel_rfl))]
  cases a == c <;> cases b == e <;> rfl
theorem eq_pos (a b c : Int) (d : Nat) (w : World) : (Op.equalIn (d + 1 + 1) 62 (.agg #[.int .i64 a, .int .i64 b, .int .i64 c]) (.agg #[.int .i64 a, .int .i64 b, .int .i64 c])).run Tryz.prog w = .ok true w := by
  rw [run_equalIn_agg w _ _ _ _ (by kernel_rfl) (by kernel_rfl),
    show (Tryz.prog.fieldsOf 62).toList = [(Tryz.prog.fieldsOf 62)[0]!, (Tryz.prog.fieldsOf 62)[1]!, (Tryz.prog.fieldsOf 62)[2]!] from by kernel_rfl,
    eqf_step (x := .int .i64 a) (y := .int .i64 a) (r := true) (of_decide_eq_true (by kernel_rfl)) (by kernel_rfl) (by kernel_rfl) ((run_equalIn_int w _ _ .i64 .i64 a a (by kernel_rfl)).trans (by rw [beq_self_eq_true])),
    eqf_step (x := .int .i64 b) (y := .int .i64 b) (r := true) (of_decide_eq_true (by kernel_rfl)) (by kernel_rfl) (by kernel_rfl) ((run_equalIn_int w _ _ .i64 .i64 b b (by kernel_rfl)).trans (by rw [beq_self_eq_true])),
    eqf_step (x := .int .i64 c) (y := .int .i64 c) (r := true) (of_decide_eq_true (by kernel_rfl)) (by kernel_rfl) (by kernel_rfl) ((run_equalIn_int w _ _ .i64 .i64 c c (by kernel_rfl)).trans (by rw [beq_self_eq_true]))]
  rfl
end Go.Proofs.YtonjlikaacengaaGreat
/- Plain: ways in one direction, their centers; the range of coordinates. -/
namespace Go.Proofs.YtonjlikaacengaaGreat
open Go Go.RowKit
def dsg (a b : Int) : Int := if a < b then 1 else if a > b then -1 else 0
theorem dsg_p {a b : Int} (h : decide (a < b) = true) : dsg a b = 1 := if_pos (of_decide_eq_true h)
theorem dsg_m {a b : Int} (h : decide (a > b) = true) : dsg a b = -1 := by
  have := of_decide_eq_true h
  unfold dsg; rw [if_neg (by omega), if_pos this]
theorem dsg_z {a b : Int} (h : decide (a < b) = false) (h2 : decide (a > b) = false) : dsg a b = 0 := by
  unfold dsg; rw [if_neg (of_decide_eq_false h), if_neg (of_decide_eq_false h2)]
theorem dsg_bd (a b : Int) : -1 ≤ dsg a b ∧ dsg a b ≤ 1 := by unfold dsg; split <;> (try split) <;> omega
def dok (a1 a2 b1 b2 : Int) : Bool := !((dsg a1 b1 == 0) == (dsg a2 b2 == 0))
def far (x : Int) : Bool := if decide (x > 10000000) then true else decide (x < -10000000)
theorem far_t {x : Int} (h : decide (x > 10000000) = true) : far x = true := by unfold far; rw [h]; rfl
theorem far_f {x : Int} (h : decide (x > 10000000) = false) : far x = decide (x < -10000000) := by unfold far; rw [h]; rfl
theorem far_n {x : Int} (h : far x = false) : -10000000 ≤ x ∧ x ≤ 10000000 := by
  unfold far at h
  split at h
  · cases h
  · rename_i g; simp at h g; omega
theorem far_i {x : Int} (h1 : -10000000 ≤ x) (h2 : x ≤ 10000000) : far x = false := by
  unfold far
  rw [if_neg (by simp; omega)]
  simp; omega
def outb (x y r : Int) : Bool := (far x || (far y || far r)) || (far (x + r) || (far (x - r) || (far (y + r) || far (y - r))))
def rnd (x y r : Int) : Bool := (!(far x || far y) && decide (r ≤ 20000000)) && !(far (x - r) || (far (x + r) || (far (y - r) || far (y + r))))
theorem far_iff (x : Int) : far x = false ↔ (-10000000 ≤ x ∧ x ≤ 10000000) := ⟨far_n, fun h => far_i h.1 h.2⟩
theorem outb_iff (x y r : Int) : outb x y r = false ↔ ((-10000000 ≤ x ∧ x ≤ 10000000) ∧ (-10000000 ≤ y ∧ y ≤ 10000000) ∧ (-10000000 ≤ r ∧ r ≤ 10000000) ∧ (-10000000 ≤ x + r ∧ x + r ≤ 10000000) ∧ (-10000000 ≤ x - r ∧ x - r ≤ 10000000) ∧ (-10000000 ≤ y + r ∧ y + r ≤ 10000000) ∧ (-10000000 ≤ y - r ∧ y - r ≤ 10000000)) := by
  unfold outb
  simp only [Bool.or_eq_false_iff, far_iff]
  omega
theorem rnd_iff (x y r : Int) : rnd x y r = true ↔ ((-10000000 ≤ x ∧ x ≤ 10000000) ∧ (-10000000 ≤ y ∧ y ≤ 10000000) ∧ r ≤ 20000000 ∧ (-10000000 ≤ x + r ∧ x + r ≤ 10000000) ∧ (-10000000 ≤ x - r ∧ x - r ≤ 10000000) ∧ (-10000000 ≤ y + r ∧ y + r ≤ 10000000) ∧ (-10000000 ≤ y - r ∧ y - r ≤ 10000000)) := by
  unfold rnd
  simp only [Bool.and_eq_true, Bool.not_eq_true', Bool.or_eq_false_iff, far_iff, decide_eq_true_eq]
  omega
theorem rnd_out {x y r : Int} (h : 0 ≤ r) : rnd x y r = !outb x y r := by
  cases h1 : outb x y r with
  | false => rw [outb_iff] at h1; rw [Bool.not_false, rnd_iff]; omega
  | true =>
    rw [Bool.not_true]
    cases h2 : rnd x y r with
    | false => rfl
    | true =>
      rw [rnd_iff] at h2
      have : outb x y r = false := by rw [outb_iff]; omega
      rw [this] at h1; cases h1
/-- The four directions. -/
def Dir (dx dy : Int) : Prop := (dx = 1 ∧ dy = 0) ∨ (dx = -1 ∧ dy = 0) ∨ (dx = 0 ∧ dy = 1) ∨ (dx = 0 ∧ dy = -1)
theorem dir_of {a1 a2 b1 b2 : Int} (h : dok a1 a2 b1 b2 = true) : ∃ L dx dy, 1 ≤ L ∧ Dir dx dy ∧ b1 = a1 + L * dx ∧ b2 = a2 + L * dy := by
  by_cases h1 : a1 < b1
  · have e1 : dsg a1 b1 = 1 := by unfold dsg; rw [if_pos h1]
    by_cases h2 : a2 = b2
    · exact ⟨b1 - a1, 1, 0, by omega, .inl ⟨rfl, rfl⟩, by omega, by omega⟩
    · exfalso
      have e2 : dsg a2 b2 ≠ 0 := by unfold dsg; split <;> (try split) <;> omega
      unfold dok at h; rw [e1] at h; simp [e2] at h
  · by_cases h2 : a1 > b1
    · have e1 : dsg a1 b1 = -1 := by unfold dsg; rw [if_neg h1, if_pos h2]
      by_cases h2 : a2 = b2
      · exact ⟨a1 - b1, -1, 0, by omega, .inr (.inl ⟨rfl, rfl⟩), by omega, by omega⟩
      · exfalso
        have e2 : dsg a2 b2 ≠ 0 := by unfold dsg; split <;> (try split) <;> omega
        unfold dok at h; rw [e1] at h; simp [e2] at h
    · have e1 : dsg a1 b1 = 0 := by unfold dsg; rw [if_neg h1, if_neg h2]
      by_cases h3 : a2 < b2
      · exact ⟨b2 - a2, 0, 1, by omega, .inr (.inr (.inl ⟨rfl, rfl⟩)), by omega, by omega⟩
      · by_cases h4 : a2 > b2
        · exact ⟨a2 - b2, 0, -1, by omega, .inr (.inr (.inr ⟨rfl, rfl⟩)), by omega, by omega⟩
        · exfalso
          have e2 : dsg a2 b2 = 0 := by unfold dsg; rw [if_neg h3, if_neg h4]
          unfold dok at h; rw [e1, e2] at h; simp at h
section
variable {a L d dx dy : Int}
theorem dsg_dir (hL : 1 ≤ L) (hd : d = 1 ∨ d = -1 ∨ d = 0) : dsg a (a + L * d) = d := by
  rcases hd with h | h | h <;> subst h <;> unfold dsg
  · rw [if_pos (by omega)]
  · rw [if_neg (by omega), if_pos (by omega)]
  · rw [if_neg (by omega), if_neg (by omega)]
theorem Dir.x (h : Dir dx dy) : dx = 1 ∨ dx = -1 ∨ dx = 0 := by unfold Dir at h; omega
theorem Dir.y (h : Dir dx dy) : dy = 1 ∨ dy = -1 ∨ dy = 0 := by unfold Dir at h; omega
theorem dok_dir {a1 a2 : Int} (hL : 1 ≤ L) (h : Dir dx dy) : dok a1 a2 (a1 + L * dx) (a2 + L * dy) = true := by
  unfold dok
  rw [dsg_dir hL h.x, dsg_dir hL h.y]
  rcases h with ⟨rfl, rfl⟩ | ⟨rfl, rfl⟩ | ⟨rfl, rfl⟩ | ⟨rfl, rfl⟩ <;> rfl
end
/-- The first i + 1 centers. -/
def ctr (a1 a2 dx dy s : Int) : Nat → List CellD
  | 0 => [.i .i64 a1] ++ [.i .i64 a2]
  | i + 1 => ctr a1 a2 dx dy s i ++ ([.i .i64 (a1 + dx * (((i + 1 : Nat) : Int) * s))] ++ [.i .i64 (a2 + dy * (((i + 1 : Nat) : Int) * s))])
theorem ctr_len {a1 a2 dx dy s : Int} : ∀ i, (ctr a1 a2 dx dy s i).length = (i + 1) * 2
  | 0 => rfl
  | i + 1 => by
    show (ctr a1 a2 dx dy s i ++ _).length = _
    rw [List.length_append, ctr_len i, Nat.succ_mul (i + 1)]; rfl
theorem ctr_all {a1 a2 dx dy s : Int} : ∀ i, (ctr a1 a2 dx dy s i).all isI = true
  | 0 => rfl
  | i + 1 => by
    show (ctr a1 a2 dx dy s i ++ _).all isI = true
    rw [List.all_append, ctr_all i]; rfl
theorem ct_iff {L s : Int} {k : Nat} (hs : 1 ≤ s) (hk : (k : Int) = (L - 1) / s) (i : Nat) : ((i + 1 : Nat) : Int) * s < L ↔ i < k := by
  have h := Int.le_ediv_iff_mul_le (a := ((i + 1 : Nat) : Int)) (b := L - 1) (c := s) (by omega)
  constructor
  · intro h1; have := h.2 (by omega); omega
  · intro h1; have := h.1 (by omega); omega
theorem ct_nn {s : Int} (hs : 1 ≤ s) (i : Nat) : 0 ≤ (i : Int) * s := Int.mul_nonneg (by omega) (by omega)
theorem ct_ge {s : Int} (hs : 1 ≤ s) (i : Nat) : s ≤ ((i + 1 : Nat) : Int) * s := by
  have := Int.mul_le_mul_of_nonneg_right (show (1 : Int) ≤ ((i + 1 : Nat) : Int) by omega) (show 0 ≤ s by omega)
  omega
theorem ct_nx {s : Int} (i : Nat) : ((i + 1 : Nat) : Int) * s = (i : Int) * s + s := by
  rw [Int.natCast_add, Int.add_mul]; simp
theorem q_bd {L s : Int} (hL : 1 ≤ L) (hs : 1 ≤ s) : 0 ≤ (L - 1) / s ∧ (L - 1) / s ≤ L - 1 :=
  ⟨Int.ediv_nonneg (by omega) (by omega), Int.ediv_le_self _ (by omega)⟩
theorem cl_q {L s : Int} (hL : 1 ≤ L) (hL2 : L ≤ 20000000) (hs : 1 ≤ s) : IntKind.i64.wrap ((L + s - 1).tdiv s) = (L - 1) / s + 1 := by
  have hq := q_bd hL hs
  rw [Int.tdiv_eq_ediv_of_nonneg (by omega), show L + s - 1 = L - 1 + 1 * s by omega, Int.add_mul_ediv_right _ _ (by omega)]
  exact nw64 (by omega) (by omega)
theorem min_q {L s : Int} (hL : 1 ≤ L) (_hs : 1 ≤ s) : (L - 1) / min s L = (L - 1) / s := by
  by_cases h : s ≤ L
  · rw [Int.min_eq_left h]
  · rw [Int.min_eq_right (by omega), Int.ediv_eq_zero_of_lt (by omega) (by omega), Int.ediv_eq_zero_of_lt (by omega) (by omega)]
theorem min_ctr {a1 a2 dx dy L s : Int} {k : Nat} (hL : 1 ≤ L) (_hs : 1 ≤ s) (hk : (k : Int) = (L - 1) / s) : ctr a1 a2 dx dy (min s L) k = ctr a1 a2 dx dy s k := by
  by_cases h : s ≤ L
  · rw [Int.min_eq_left h]
  · rw [Int.ediv_eq_zero_of_lt (by omega) (by omega)] at hk
    obtain rfl : k = 0 := by omega
    rfl
theorem dir_L {a1 a2 L dx dy : Int} (_hL : 1 ≤ L) (hd : Dir dx dy) (r1 : -10000000 ≤ a1 ∧ a1 ≤ 10000000) (r2 : -10000000 ≤ a2 ∧ a2 ≤ 10000000) (r3 : -10000000 ≤ a1 + L * dx ∧ a1 + L * dx ≤ 10000000) (r4 : -10000000 ≤ a2 + L * dy ∧ a2 + L * dy ≤ 10000000) : L ≤ 20000000 := by
  rcases hd with ⟨rfl, rfl⟩ | ⟨rfl, rfl⟩ | ⟨rfl, rfl⟩ | ⟨rfl, rfl⟩ <;> omega
end Go.Proofs.YtonjlikaacengaaGreat
/- Ways: directions, ranges. -/
namespace Go.Proofs.YtonjlikaacengaaGreat
open Go Go.RowKit
theorem tCmp_ok {a b : Int} : Ok Tryz.prog 68 [.c (.i .i64 a), .c (.i .i64 b)] [.c (.i .i64 (dsg b a))] := by
  refine Ok.of (by kernel_rfl) Tryz.func68 rfl rfl ?_
  rw [show Tryz.f68.ntmps = 13 from rfl, show Tryz.f68.results.toList = [.tmp 4] from rfl]
  refine dw_seq ?_
  -- region 0
  refine dw_region (by kernel_rfl) ?_
  refine dl_r (sem_assign rfl rfl) ?_
  refine dl_end ?_
  refine dw_seq ?_
  refine dw_block ?_
  refine dw_seq ?_
  -- region 1
  refine dw_region (by kernel_rfl) ?_
  refine dl_r (sem_move rfl rfl) ?_
  refine dl_r (sem_move rfl rfl) ?_
  refine dl_r (sem_cmp rfl rfl rfl rfl) ?_
  refine dl_r (sem_assign rfl rfl) ?_
  refine dl_end ?_
  refine dw_cond rfl (fun hc1 => ?_) (fun hc1 => ?_)
  · refine dw_seq ?_
    -- region 2
    refine dw_region (by kernel_rfl) ?_
    refine dl_r (sem_assign rfl rfl) ?_
    refine dl_end ?_
    refine dw_ret ?_
    -- path T
    rw [dsg_p (show decide (b < a) = true from hc1)]
    exact ⟨.inr rfl, (resL_tmp rfl resL_nil)⟩
  · refine dw_seq ?_
    -- region 3
    refine dw_region (by kernel_rfl) ?_
    refine dl_r (sem_move rfl rfl) ?_
    refine dl_r (sem_move rfl rfl) ?_
    refine dl_r (sem_cmp rfl rfl rfl rfl) ?_
    refine dl_r (sem_assign rfl rfl) ?_
    refine dl_end ?_
    refine dw_cond rfl (fun hc2 => ?_) (fun hc2 => ?_)
    · refine dw_seq ?_
      -- region 4
      refine dw_region (by kernel_rfl) ?_
      refine dl_r (sem_assign rfl rfl) ?_
      refine dl_end ?_
      refine dw_ret ?_
      -- path FT
      rw [dsg_m (show decide (b > a) = true from hc2)]
      exact ⟨.inr rfl, (resL_tmp rfl resL_nil)⟩
    · refine dw_skip ?_
      refine dw_seq ?_
      -- region 5
      refine dw_region (by kernel_rfl) ?_
      refine dl_r (sem_assign rfl rfl) ?_
      refine dl_end ?_
      refine dw_ret ?_
      -- path FF
      rw [dsg_z (show decide (b < a) = false from hc1) (show decide (b > a) = false from hc2)]
      exact ⟨.inr rfl, (resL_tmp rfl resL_nil)⟩
theorem tSign_ok {n : Int} (h0 : -1 ≤ n) (h1 : n ≤ 1) : Ok Tryz.prog 67 [.c (.i .i64 n)] [.c (.i .i64 n)] := by
  refine Ok.of (by kernel_rfl) Tryz.func67 rfl rfl ?_
  rw [show Tryz.f67.ntmps = 6 from rfl, show Tryz.f67.results.toList = [.tmp 2] from rfl]
  refine dw_seq ?_
  -- region 0
  refine dw_region (by kernel_rfl) ?_
  refine dl_r (sem_assign rfl rfl) ?_
  refine dl_end ?_
  refine dw_seq ?_
  -- region 1
  refine dw_region (by kernel_rfl) ?_
  refine dl_r (sem_move rfl rfl) ?_
  refine dl_r (sem_max rfl rfl rfl) ?_
  refine dl_r (sem_casti (c := n) (sem_min rfl rfl rfl) (by omega)) ?_
  refine dl_r (sem_assign rfl rfl) ?_
  refine dl_end ?_
  refine dw_ret ?_
  -- path 
  exact ⟨.inr rfl, (resL_tmp rfl resL_nil)⟩
theorem tDir_ok {a1 a2 b1 b2 : Int} : Ok Tryz.prog 30 [.a ([.i .i64 a1] ++ [.i .i64 a2]), .a ([.i .i64 b1] ++ [.i .i64 b2])] [.a ([.i .i64 (dsg a1 b1)] ++ [.i .i64 (dsg a2 b2)]), .c (.b (dok a1 a2 b1 b2))] := by
  refine Ok.of (by kernel_rfl) Tryz.func30 rfl rfl ?_
  rw [show Tryz.f30.ntmps = 28 from rfl, show Tryz.f30.results.toList = [.cell 4 34, .tmp 5] from rfl]
  refine dw_seq ?_
  -- region 0
  refine dw_region (by kernel_rfl) ?_
  refine dl_new (sem_box_a rfl rfl) rfl ?_
  refine dl_new (sem_box_a rfl rfl) rfl ?_
  refine dl_new (sem_alloc zc34 rfl) rfl ?_
  refine dl_r (sem_assign rfl rfl) ?_
  refine dl_end ?_
  refine dw_seq ?_
  -- region 1
  refine dw_draw 14 [] follows_mixed (by kernel_rfl) rfl rfl ?_
  refine dq_r (sem_field fd34_0 rfl rfl) ?_
  refine dq_r (sem_load1 ty2 rfl rfl rfl rfl) ?_
  refine dq_r (sem_field fd34_0 rfl rfl) ?_
  refine dq_r (sem_load1 ty2 rfl rfl rfl rfl) ?_
  refine dq_r (sem_call rfl rfl (tCmp_ok) rfl) ?_
  refine dq_r (sem_call rfl rfl (tSign_ok (dsg_bd _ _).1 (dsg_bd _ _).2) rfl) ?_
  refine dq_r (sem_field fd34_1 rfl rfl) ?_
  refine dq_r (sem_load1 ty2 rfl rfl rfl rfl) ?_
  refine dq_r (sem_field fd34_1 rfl rfl) ?_
  refine dq_r (sem_load1 ty2 rfl rfl rfl rfl) ?_
  refine dq_r (sem_call rfl rfl (tCmp_ok) rfl) ?_
  refine dq_r (sem_call rfl rfl (tSign_ok (dsg_bd _ _).1 (dsg_bd _ _).2) rfl) ?_
  refine dq_r (sem_build (us := ([.i .i64 (dsg a1 b1)] ++ [.i .i64 (dsg a2 b2)])) fs34 zc34 rfl rfl rfl) ?_
  refine dq_new (sem_alloc zc34 rfl) rfl ?_
  refine dq_end ?_
  refine dl_start1 ?_
  refine dl_st (sem_store_a ty34 rfl rfl rfl rfl rfl rfl) ?_
  refine dl_end ?_
  refine dw_seq ?_
  -- region 2
  refine dw_draw 10 [4] follows_mixed (by kernel_rfl) rfl rfl ?_
  refine dq_r (sem_load (us := ([.i .i64 (dsg a1 b1)] ++ [.i .i64 (dsg a2 b2)])) ty34 rfl rfl rfl rfl rfl) ?_
  refine dq_r (sem_field fd34_0 rfl rfl) ?_
  refine dq_r (sem_load1 ty2 rfl rfl rfl rfl) ?_
  refine dq_r (sem_cmp rfl rfl rfl rfl) ?_
  refine dq_r (sem_field fd34_1 rfl rfl) ?_
  refine dq_r (sem_load1 ty2 rfl rfl rfl rfl) ?_
  refine dq_r (sem_cmp rfl rfl rfl rfl) ?_
  refine dq_r (sem_bneq rfl rfl ty_bool rfl) ?_
  refine dq_st (sem_store_a ty34 rfl rfl rfl rfl rfl rfl) rfl rfl rfl ?_
  refine dq_r (sem_assign rfl rfl) ?_
  refine dq_end ?_
  refine dl_start1 ?_
  refine dl_end ?_
  refine dw_ret ?_
  -- path 
  exact ⟨.inr rfl, (resL_cell (us := ([.i .i64 (dsg a1 b1)] ++ [.i .i64 (dsg a2 b2)])) ty34 rfl rfl rfl rfl (resL_tmp rfl resL_nil))⟩
theorem rSide_ok {a b : Int} : Ok Tryz.prog 44 [.c (.i .i64 a), .c (.i .i64 b)] [.c (.i .i64 (dsg a b))] := by
  refine Ok.of (by kernel_rfl) Tryz.func44 rfl rfl ?_
  rw [show Tryz.f44.ntmps = 11 from rfl, show Tryz.f44.results.toList = [.tmp 4] from rfl]
  refine dw_seq ?_
  -- region 0
  refine dw_region (by kernel_rfl) ?_
  refine dl_r (sem_assign rfl rfl) ?_
  refine dl_end ?_
  refine dw_seq ?_
  refine dw_seq ?_
  -- region 1
  refine dw_region (by kernel_rfl) ?_
  refine dl_r (sem_move rfl rfl) ?_
  refine dl_r (sem_move rfl rfl) ?_
  refine dl_r (sem_cmp rfl rfl rfl rfl) ?_
  refine dl_end ?_
  refine dw_cond rfl (fun hc1 => ?_) (fun hc1 => ?_)
  · refine dw_seq ?_
    -- region 2
    refine dw_region (by kernel_rfl) ?_
    refine dl_r (sem_assign rfl rfl) ?_
    refine dl_end ?_
    refine dw_ret ?_
    -- path T
    rw [dsg_p hc1]
    exact ⟨.inr rfl, (resL_tmp rfl resL_nil)⟩
  · refine dw_skip ?_
    refine dw_seq ?_
    refine dw_seq ?_
    -- region 3
    refine dw_region (by kernel_rfl) ?_
    refine dl_r (sem_move rfl rfl) ?_
    refine dl_r (sem_move rfl rfl) ?_
    refine dl_r (sem_cmp rfl rfl rfl rfl) ?_
    refine dl_end ?_
    refine dw_cond rfl (fun hc2 => ?_) (fun hc2 => ?_)
    · refine dw_seq ?_
      -- region 4
      refine dw_region (by kernel_rfl) ?_
      refine dl_r (sem_assign rfl rfl) ?_
      refine dl_end ?_
      refine dw_ret ?_
      -- path FT
      rw [dsg_m hc2]
      exact ⟨.inr rfl, (resL_tmp rfl resL_nil)⟩
    · refine dw_skip ?_
      refine dw_seq ?_
      -- region 5
      refine dw_region (by kernel_rfl) ?_
      refine dl_r (sem_assign rfl rfl) ?_
      refine dl_end ?_
      refine dw_ret ?_
      -- path FF
      rw [dsg_z hc1 hc2]
      exact ⟨.inr rfl, (resL_tmp rfl resL_nil)⟩
theorem rDir_ok {a1 a2 b1 b2 : Int} : Ok Tryz.prog 14 [.a ([.i .i64 a1] ++ [.i .i64 a2]), .a ([.i .i64 b1] ++ [.i .i64 b2])] [.a ([.i .i64 (dsg a1 b1)] ++ [.i .i64 (dsg a2 b2)]), .c (.b (dok a1 a2 b1 b2))] := by
  refine Ok.of (by kernel_rfl) Tryz.func14 rfl rfl ?_
  rw [show Tryz.f14.ntmps = 26 from rfl, show Tryz.f14.results.toList = [.cell 4 34, .tmp 5] from rfl]
  refine dw_seq ?_
  -- region 0
  refine dw_region (by kernel_rfl) ?_
  refine dl_new (sem_box_a rfl rfl) rfl ?_
  refine dl_new (sem_box_a rfl rfl) rfl ?_
  refine dl_new (sem_alloc zc34 rfl) rfl ?_
  refine dl_r (sem_assign rfl rfl) ?_
  refine dl_end ?_
  refine dw_seq ?_
  -- region 1
  refine dw_draw 12 [] follows_mixed (by kernel_rfl) rfl rfl ?_
  refine dq_r (sem_field fd34_0 rfl rfl) ?_
  refine dq_r (sem_load1 ty2 rfl rfl rfl rfl) ?_
  refine dq_r (sem_field fd34_0 rfl rfl) ?_
  refine dq_r (sem_load1 ty2 rfl rfl rfl rfl) ?_
  refine dq_r (sem_call rfl rfl (rSide_ok) rfl) ?_
  refine dq_r (sem_field fd34_1 rfl rfl) ?_
  refine dq_r (sem_load1 ty2 rfl rfl rfl rfl) ?_
  refine dq_r (sem_field fd34_1 rfl rfl) ?_
  refine dq_r (sem_load1 ty2 rfl rfl rfl rfl) ?_
  refine dq_r (sem_call rfl rfl (rSide_ok) rfl) ?_
  refine dq_r (sem_build (us := ([.i .i64 (dsg a1 b1)] ++ [.i .i64 (dsg a2 b2)])) fs34 zc34 rfl rfl rfl) ?_
  refine dq_new (sem_alloc zc34 rfl) rfl ?_
  refine dq_end ?_
  refine dl_start1 ?_
  refine dl_st (sem_store_a ty34 rfl rfl rfl rfl rfl rfl) ?_
  refine dl_end ?_
  refine dw_seq ?_
  -- region 2
  refine dw_draw 10 [4] follows_mixed (by kernel_rfl) rfl rfl ?_
  refine dq_r (sem_load (us := ([.i .i64 (dsg a1 b1)] ++ [.i .i64 (dsg a2 b2)])) ty34 rfl rfl rfl rfl rfl) ?_
  refine dq_r (sem_field fd34_0 rfl rfl) ?_
  refine dq_r (sem_load1 ty2 rfl rfl rfl rfl) ?_
  refine dq_r (sem_cmp rfl rfl rfl rfl) ?_
  refine dq_r (sem_field fd34_1 rfl rfl) ?_
  refine dq_r (sem_load1 ty2 rfl rfl rfl rfl) ?_
  refine dq_r (sem_cmp rfl rfl rfl rfl) ?_
  refine dq_r (sem_bneq rfl rfl ty_bool rfl) ?_
  refine dq_st (sem_store_a ty34 rfl rfl rfl rfl rfl rfl) rfl rfl rfl ?_
  refine dq_r (sem_assign rfl rfl) ?_
  refine dq_end ?_
  refine dl_start1 ?_
  refine dl_end ?_
  refine dw_ret ?_
  -- path 
  exact ⟨.inr rfl, (resL_cell (us := ([.i .i64 (dsg a1 b1)] ++ [.i .i64 (dsg a2 b2)])) ty34 rfl rfl rfl rfl (resL_tmp rfl resL_nil))⟩
theorem rFar_ok {x : Int} : Ok Tryz.prog 71 [.c (.i .i64 x)] [.c (.b (far x))] := by
  refine Ok.of (by kernel_rfl) Tryz.func71 rfl rfl ?_
  rw [show Tryz.f71.ntmps = 9 from rfl, show Tryz.f71.results.toList = [.tmp 2] from rfl]
  refine dw_seq ?_
  -- region 0
  refine dw_region (by kernel_rfl) ?_
  refine dl_r (sem_assign rfl rfl) ?_
  refine dl_end ?_
  refine dw_seq ?_
  -- region 1
  refine dw_region (by kernel_rfl) ?_
  refine dl_r (sem_move rfl rfl) ?_
  refine dl_r (sem_cmp rfl rfl rfl rfl) ?_
  refine dl_rb (sem_move rfl rfl) (fun c1 hb1 => ?_)
  cases c1
  · refine dl_r (sem_move rfl rfl) ?_
    refine dl_r (sem_cmp rfl rfl rfl rfl) ?_
    refine dl_r (sem_pick rfl rfl rfl rfl) ?_
    refine dl_r (sem_assign rfl rfl) ?_
    refine dl_end ?_
    refine dw_ret ?_
    -- path f
    rw [far_f hb1]
    exact ⟨.inr rfl, (resL_tmp rfl resL_nil)⟩
  · refine dl_skip (sem_skip rfl) ?_
    refine dl_skip (sem_skip rfl) ?_
    refine dl_r (sem_pick rfl rfl rfl rfl) ?_
    refine dl_r (sem_assign rfl rfl) ?_
    refine dl_end ?_
    refine dw_ret ?_
    -- path t
    rw [far_t hb1]
    exact ⟨.inr rfl, (resL_tmp rfl resL_nil)⟩
theorem tFar_ok {x : Int} : Ok Tryz.prog 70 [.c (.i .i64 x)] [.c (.b (far x))] := by
  refine Ok.of (by kernel_rfl) Tryz.func70 rfl rfl ?_
  rw [show Tryz.f70.ntmps = 9 from rfl, show Tryz.f70.results.toList = [.tmp 2] from rfl]
  refine dw_seq ?_
  -- region 0
  refine dw_region (by kernel_rfl) ?_
  refine dl_r (sem_assign rfl rfl) ?_
  refine dl_end ?_
  refine dw_seq ?_
  -- region 1
  refine dw_region (by kernel_rfl) ?_
  refine dl_r (sem_move rfl rfl) ?_
  refine dl_r (sem_cmp rfl rfl rfl rfl) ?_
  refine dl_rb (sem_move rfl rfl) (fun c1 hb1 => ?_)
  cases c1
  · refine dl_r (sem_move rfl rfl) ?_
    refine dl_r (sem_cmp rfl rfl rfl rfl) ?_
    refine dl_r (sem_pick rfl rfl rfl rfl) ?_
    refine dl_r (sem_assign rfl rfl) ?_
    refine dl_end ?_
    refine dw_ret ?_
    -- path f
    rw [far_f hb1]
    exact ⟨.inr rfl, (resL_tmp rfl resL_nil)⟩
  · refine dl_skip (sem_skip rfl) ?_
    refine dl_skip (sem_skip rfl) ?_
    refine dl_r (sem_pick rfl rfl rfl rfl) ?_
    refine dl_r (sem_assign rfl rfl) ?_
    refine dl_end ?_
    refine dw_ret ?_
    -- path t
    rw [far_t hb1]
    exact ⟨.inr rfl, (resL_tmp rfl resL_nil)⟩
theorem tIdx1_0 {x0 : Int} (z0 : far x0 = true) : Ok Tryz.prog 98 [.c (.s 1 ([.i .i64 x0])), .c (.f 70)] [.c (.i .i64 0)] := by
  refine Ok.of (by kernel_rfl) Tryz.func98 rfl rfl ?_
  rw [show Tryz.f98.ntmps = 19 from rfl, show Tryz.f98.results.toList = [.tmp 4] from rfl]
  refine dw_seq ?_
  -- region 0
  refine dw_region (by kernel_rfl) ?_
  refine dl_r (sem_assign rfl rfl) ?_
  refine dl_end ?_
  refine dw_seq ?_
  refine dw_seq ?_
  -- region 1
  refine dw_region (by kernel_rfl) ?_
  refine dl_r (sem_move rfl rfl) ?_
  refine dl_r (sem_len sl95 rfl rfl) ?_
  refine dl_r (sem_move rfl rfl) ?_
  refine dl_end ?_
  refine dw_block ?_
  refine dw_loop (ι := Nat) (fun i => match i with | _ => ⟨19, [(0, .v (.c (.s 1 ([.i .i64 x0])))), (1, .v (.c (.f 70))), (7, .v (.c (.i .i64 1))), (8, .v (.c (.i .i64 0))), (4, .v (.c (.i .i64 0)))], []⟩) (fun i => 0 - i) 0 (sub_of ⟨rfl, rfl, rfl, rfl, rfl, trivial⟩ trivial rfl) ?_
  intro i
  match i with
  | _ =>
    show Dw _ _ ⟨19, [(0, .v (.c (.s 1 ([.i .i64 x0])))), (1, .v (.c (.f 70))), (7, .v (.c (.i .i64 1))), (8, .v (.c (.i .i64 0))), (4, .v (.c (.i .i64 0)))], []⟩ _
    refine dw_seq ?_
    -- region 2
    refine dw_region (by kernel_rfl) ?_
    refine dl_r (sem_cmp rfl rfl rfl rfl) ?_
    refine dl_end ?_
    refine dw_seq ?_
    refine dw_true rfl ?_
    refine dw_skip ?_
    refine dw_seq ?_
    refine dw_block ?_
    refine dw_seq ?_
    -- region 3
    refine dw_region (by kernel_rfl) ?_
    refine dl_r (sem_move rfl rfl) ?_
    refine dl_r (sem_assign rfl rfl) ?_
    refine dl_end ?_
    refine dw_seq ?_
    -- region 4
    refine dw_region (by kernel_rfl) ?_
    refine dl_r (sem_move rfl rfl) ?_
    refine dl_r (sem_move rfl rfl) ?_
    refine dl_r (sem_move rfl rfl) ?_
    refine dl_r (sem_index sl95 rfl rfl (by decide) rfl rfl rfl) ?_
    refine dl_r (sem_loadq1 ty2 rfl rfl rfl) ?_
    refine dl_r (sem_call rfl rfl (rcastb tFar_ok z0) rfl) ?_
    refine dl_end ?_
    refine dw_true rfl ?_
    refine dw_seq ?_
    -- region 5
    refine dw_region (by kernel_rfl) ?_
    refine dl_r (sem_move rfl rfl) ?_
    refine dl_r (sem_assign rfl rfl) ?_
    refine dl_end ?_
    refine dw_ret ?_
    -- path L0
    exact ⟨.inr rfl, (resL_tmp rfl resL_nil)⟩
theorem tCnt1_0 {x0 : Int} (z0 : far x0 = true) : Ok Tryz.prog 69 [.c (.s 1 ([.i .i64 x0])), .c (.f 70)] [.c (.b true)] := by
  refine Ok.of (by kernel_rfl) Tryz.func69 rfl rfl ?_
  rw [show Tryz.f69.ntmps = 9 from rfl, show Tryz.f69.results.toList = [.tmp 4] from rfl]
  refine dw_seq ?_
  -- region 0
  refine dw_region (by kernel_rfl) ?_
  refine dl_r (sem_assign rfl rfl) ?_
  refine dl_end ?_
  refine dw_seq ?_
  -- region 1
  refine dw_region (by kernel_rfl) ?_
  refine dl_r (sem_move rfl rfl) ?_
  refine dl_r (sem_move rfl rfl) ?_
  refine dl_r (sem_call rfl rfl (tIdx1_0 z0) rfl) ?_
  refine dl_r (sem_cmp rfl rfl rfl rfl) ?_
  refine dl_r (sem_assign rfl rfl) ?_
  refine dl_end ?_
  refine dw_ret ?_
  -- path 
  exact ⟨.inr rfl, (resL_tmp rfl resL_nil)⟩
theorem tGrid1_0 {x0 : Int} (z0 : far x0 = true) : Ok Tryz.prog 31 [.c (.s 1 ([.i .i64 x0]))] [.c (.b false)] := by
  refine Ok.of (by kernel_rfl) Tryz.func31 rfl rfl ?_
  rw [show Tryz.f31.ntmps = 6 from rfl, show Tryz.f31.results.toList = [.tmp 2] from rfl]
  refine dw_seq ?_
  -- region 0
  refine dw_region (by kernel_rfl) ?_
  refine dl_r (sem_assign rfl rfl) ?_
  refine dl_end ?_
  refine dw_seq ?_
  -- region 1
  refine dw_region (by kernel_rfl) ?_
  refine dl_r (sem_move rfl rfl) ?_
  refine dl_r (sem_call rfl rfl (tCnt1_0 z0) rfl) ?_
  refine dl_r (sem_not rfl rfl) ?_
  refine dl_r (sem_assign rfl rfl) ?_
  refine dl_end ?_
  refine dw_ret ?_
  -- path 
  exact ⟨.inr rfl, (resL_tmp rfl resL_nil)⟩
theorem tIdx1_1 {x0 : Int} (z0 : far x0 = false) : Ok Tryz.prog 98 [.c (.s 1 ([.i .i64 x0])), .c (.f 70)] [.c (.i .i64 (-1))] := by
  refine Ok.of (by kernel_rfl) Tryz.func98 rfl rfl ?_
  rw [show Tryz.f98.ntmps = 19 from rfl, show Tryz.f98.results.toList = [.tmp 4] from rfl]
  refine dw_seq ?_
  -- region 0
  refine dw_region (by kernel_rfl) ?_
  refine dl_r (sem_assign rfl rfl) ?_
  refine dl_end ?_
  refine dw_seq ?_
  refine dw_seq ?_
  -- region 1
  refine dw_region (by kernel_rfl) ?_
  refine dl_r (sem_move rfl rfl) ?_
  refine dl_r (sem_len sl95 rfl rfl) ?_
  refine dl_r (sem_move rfl rfl) ?_
  refine dl_end ?_
  refine dw_block ?_
  refine dw_loop (ι := Nat) (fun i => match i with | 0 => ⟨19, [(0, .v (.c (.s 1 ([.i .i64 x0])))), (1, .v (.c (.f 70))), (7, .v (.c (.i .i64 1))), (8, .v (.c (.i .i64 0))), (4, .v (.c (.i .i64 0)))], []⟩ | _ + 1 => ⟨19, [(0, .v (.c (.s 1 ([.i .i64 x0])))), (1, .v (.c (.f 70))), (7, .v (.c (.i .i64 1))), (8, .v (.c (.i .i64 1))), (4, .v (.c (.i .i64 0)))], []⟩) (fun i => 1 - i) 0 (sub_of ⟨rfl, rfl, rfl, rfl, rfl, trivial⟩ trivial rfl) ?_
  intro i
  match i with
  | 0 =>
    show Dw _ _ ⟨19, [(0, .v (.c (.s 1 ([.i .i64 x0])))), (1, .v (.c (.f 70))), (7, .v (.c (.i .i64 1))), (8, .v (.c (.i .i64 0))), (4, .v (.c (.i .i64 0)))], []⟩ _
    refine dw_seq ?_
    -- region 2
    refine dw_region (by kernel_rfl) ?_
    refine dl_r (sem_cmp rfl rfl rfl rfl) ?_
    refine dl_end ?_
    refine dw_seq ?_
    refine dw_true rfl ?_
    refine dw_skip ?_
    refine dw_seq ?_
    refine dw_block ?_
    refine dw_seq ?_
    -- region 3
    refine dw_region (by kernel_rfl) ?_
    refine dl_r (sem_move rfl rfl) ?_
    refine dl_r (sem_assign rfl rfl) ?_
    refine dl_end ?_
    refine dw_seq ?_
    -- region 4
    refine dw_region (by kernel_rfl) ?_
    refine dl_r (sem_move rfl rfl) ?_
    refine dl_r (sem_move rfl rfl) ?_
    refine dl_r (sem_move rfl rfl) ?_
    refine dl_r (sem_index sl95 rfl rfl (by decide) rfl rfl rfl) ?_
    refine dl_r (sem_loadq1 ty2 rfl rfl rfl) ?_
    refine dl_r (sem_call rfl rfl (rcastb tFar_ok z0) rfl) ?_
    refine dl_end ?_
    refine dw_false rfl ?_
    refine dw_skip ?_
    -- region 6
    refine dw_region (by kernel_rfl) ?_
    refine dl_r (sem_ari (r := 1) rfl rfl rfl rfl) ?_
    refine dl_r (sem_move rfl rfl) ?_
    refine dl_end ?_
    exact ⟨1, sub_of ⟨rfl, rfl, rfl, rfl, rfl, trivial⟩ trivial rfl, by show 1 - 1 < 1 - 0; decide⟩
  | z + 1 =>
    show Dw _ _ ⟨19, [(0, .v (.c (.s 1 ([.i .i64 x0])))), (1, .v (.c (.f 70))), (7, .v (.c (.i .i64 1))), (8, .v (.c (.i .i64 1))), (4, .v (.c (.i .i64 0)))], []⟩ _
    refine dw_seq ?_
    -- region 2
    refine dw_region (by kernel_rfl) ?_
    refine dl_r (sem_cmp rfl rfl rfl rfl) ?_
    refine dl_end ?_
    refine dw_seq ?_
    refine dw_false rfl ?_
    refine dw_exit ?_
    refine dw_seq ?_
    -- region 7
    refine dw_region (by kernel_rfl) ?_
    refine dl_r (sem_assign rfl rfl) ?_
    refine dl_end ?_
    refine dw_ret ?_
    -- path L1
    exact ⟨.inr rfl, (resL_tmp rfl resL_nil)⟩
theorem tCnt1_1 {x0 : Int} (z0 : far x0 = false) : Ok Tryz.prog 69 [.c (.s 1 ([.i .i64 x0])), .c (.f 70)] [.c (.b false)] := by
  refine Ok.of (by kernel_rfl) Tryz.func69 rfl rfl ?_
  rw [show Tryz.f69.ntmps = 9 from rfl, show Tryz.f69.results.toList = [.tmp 4] from rfl]
  refine dw_seq ?_
  -- region 0
  refine dw_region (by kernel_rfl) ?_
  refine dl_r (sem_assign rfl rfl) ?_
  refine dl_end ?_
  refine dw_seq ?_
  -- region 1
  refine dw_region (by kernel_rfl) ?_
  refine dl_r (sem_move rfl rfl) ?_
  refine dl_r (sem_move rfl rfl) ?_
  refine dl_r (sem_call rfl rfl (tIdx1_1 z0) rfl) ?_
  refine dl_r (sem_cmp rfl rfl rfl rfl) ?_
  refine dl_r (sem_assign rfl rfl) ?_
  refine dl_end ?_
  refine dw_ret ?_
  -- path 
  exact ⟨.inr rfl, (resL_tmp rfl resL_nil)⟩
theorem tGrid1_1 {x0 : Int} (z0 : far x0 = false) : Ok Tryz.prog 31 [.c (.s 1 ([.i .i64 x0]))] [.c (.b true)] := by
  refine Ok.of (by kernel_rfl) Tryz.func31 rfl rfl ?_
  rw [show Tryz.f31.ntmps = 6 from rfl, show Tryz.f31.results.toList = [.tmp 2] from rfl]
  refine dw_seq ?_
  -- region 0
  refine dw_region (by kernel_rfl) ?_
  refine dl_r (sem_assign rfl rfl) ?_
  refine dl_end ?_
  refine dw_seq ?_
  -- region 1
  refine dw_region (by kernel_rfl) ?_
  refine dl_r (sem_move rfl rfl) ?_
  refine dl_r (sem_call rfl rfl (tCnt1_1 z0) rfl) ?_
  refine dl_r (sem_not rfl rfl) ?_
  refine dl_r (sem_assign rfl rfl) ?_
  refine dl_end ?_
  refine dw_ret ?_
  -- path 
  exact ⟨.inr rfl, (resL_tmp rfl resL_nil)⟩
theorem tGrid1 {x0 : Int} : Ok Tryz.prog 31 [.c (.s 1 ([.i .i64 x0]))] [.c (.b (!far x0))] := by
  cases z0 : far x0 with
  | true => exact rcastb (tGrid1_0 z0) (by simp)
  | false =>
  exact rcastb (tGrid1_1 z0) (by simp)
theorem tIdx2_0 {x0 x1 : Int} (z0 : far x0 = true) : Ok Tryz.prog 98 [.c (.s 2 ([.i .i64 x0] ++ [.i .i64 x1])), .c (.f 70)] [.c (.i .i64 0)] := by
  refine Ok.of (by kernel_rfl) Tryz.func98 rfl rfl ?_
  rw [show Tryz.f98.ntmps = 19 from rfl, show Tryz.f98.results.toList = [.tmp 4] from rfl]
  refine dw_seq ?_
  -- region 0
  refine dw_region (by kernel_rfl) ?_
  refine dl_r (sem_assign rfl rfl) ?_
  refine dl_end ?_
  refine dw_seq ?_
  refine dw_seq ?_
  -- region 1
  refine dw_region (by kernel_rfl) ?_
  refine dl_r (sem_move rfl rfl) ?_
  refine dl_r (sem_len sl95 rfl rfl) ?_
  refine dl_r (sem_move rfl rfl) ?_
  refine dl_end ?_
  refine dw_block ?_
  refine dw_loop (ι := Nat) (fun i => match i with | _ => ⟨19, [(0, .v (.c (.s 2 ([.i .i64 x0] ++ [.i .i64 x1])))), (1, .v (.c (.f 70))), (7, .v (.c (.i .i64 2))), (8, .v (.c (.i .i64 0))), (4, .v (.c (.i .i64 0)))], []⟩) (fun i => 0 - i) 0 (sub_of ⟨rfl, rfl, rfl, rfl, rfl, trivial⟩ trivial rfl) ?_
  intro i
  match i with
  | _ =>
    show Dw _ _ ⟨19, [(0, .v (.c (.s 2 ([.i .i64 x0] ++ [.i .i64 x1])))), (1, .v (.c (.f 70))), (7, .v (.c (.i .i64 2))), (8, .v (.c (.i .i64 0))), (4, .v (.c (.i .i64 0)))], []⟩ _
    refine dw_seq ?_
    -- region 2
    refine dw_region (by kernel_rfl) ?_
    refine dl_r (sem_cmp rfl rfl rfl rfl) ?_
    refine dl_end ?_
    refine dw_seq ?_
    refine dw_true rfl ?_
    refine dw_skip ?_
    refine dw_seq ?_
    refine dw_block ?_
    refine dw_seq ?_
    -- region 3
    refine dw_region (by kernel_rfl) ?_
    refine dl_r (sem_move rfl rfl) ?_
    refine dl_r (sem_assign rfl rfl) ?_
    refine dl_end ?_
    refine dw_seq ?_
    -- region 4
    refine dw_region (by kernel_rfl) ?_
    refine dl_r (sem_move rfl rfl) ?_
    refine dl_r (sem_move rfl rfl) ?_
    refine dl_r (sem_move rfl rfl) ?_
    refine dl_r (sem_index sl95 rfl rfl (by decide) rfl rfl rfl) ?_
    refine dl_r (sem_loadq1 ty2 rfl rfl rfl) ?_
    refine dl_r (sem_call rfl rfl (rcastb tFar_ok z0) rfl) ?_
    refine dl_end ?_
    refine dw_true rfl ?_
    refine dw_seq ?_
    -- region 5
    refine dw_region (by kernel_rfl) ?_
    refine dl_r (sem_move rfl rfl) ?_
    refine dl_r (sem_assign rfl rfl) ?_
    refine dl_end ?_
    refine dw_ret ?_
    -- path L0
    exact ⟨.inr rfl, (resL_tmp rfl resL_nil)⟩
theorem tCnt2_0 {x0 x1 : Int} (z0 : far x0 = true) : Ok Tryz.prog 69 [.c (.s 2 ([.i .i64 x0] ++ [.i .i64 x1])), .c (.f 70)] [.c (.b true)] := by
  refine Ok.of (by kernel_rfl) Tryz.func69 rfl rfl ?_
  rw [show Tryz.f69.ntmps = 9 from rfl, show Tryz.f69.results.toList = [.tmp 4] from rfl]
  refine dw_seq ?_
  -- region 0
  refine dw_region (by kernel_rfl) ?_
  refine dl_r (sem_assign rfl rfl) ?_
  refine dl_end ?_
  refine dw_seq ?_
  -- region 1
  refine dw_region (by kernel_rfl) ?_
  refine dl_r (sem_move rfl rfl) ?_
  refine dl_r (sem_move rfl rfl) ?_
  refine dl_r (sem_call rfl rfl (tIdx2_0 z0) rfl) ?_
  refine dl_r (sem_cmp rfl rfl rfl rfl) ?_
  refine dl_r (sem_assign rfl rfl) ?_
  refine dl_end ?_
  refine dw_ret ?_
  -- path 
  exact ⟨.inr rfl, (resL_tmp rfl resL_nil)⟩
theorem tGrid2_0 {x0 x1 : Int} (z0 : far x0 = true) : Ok Tryz.prog 31 [.c (.s 2 ([.i .i64 x0] ++ [.i .i64 x1]))] [.c (.b false)] := by
  refine Ok.of (by kernel_rfl) Tryz.func31 rfl rfl ?_
  rw [show Tryz.f31.ntmps = 6 from rfl, show Tryz.f31.results.toList = [.tmp 2] from rfl]
  refine dw_seq ?_
  -- region 0
  refine dw_region (by kernel_rfl) ?_
  refine dl_r (sem_assign rfl rfl) ?_
  refine dl_end ?_
  refine dw_seq ?_
  -- region 1
  refine dw_region (by kernel_rfl) ?_
  refine dl_r (sem_move rfl rfl) ?_
  refine dl_r (sem_call rfl rfl (tCnt2_0 z0) rfl) ?_
  refine dl_r (sem_not rfl rfl) ?_
  refine dl_r (sem_assign rfl rfl) ?_
  refine dl_end ?_
  refine dw_ret ?_
  -- path 
  exact ⟨.inr rfl, (resL_tmp rfl resL_nil)⟩
theorem tIdx2_1 {x0 x1 : Int} (z0 : far x0 = false) (z1 : far x1 = true) : Ok Tryz.prog 98 [.c (.s 2 ([.i .i64 x0] ++ [.i .i64 x1])), .c (.f 70)] [.c (.i .i64 1)] := by
  refine Ok.of (by kernel_rfl) Tryz.func98 rfl rfl ?_
  rw [show Tryz.f98.ntmps = 19 from rfl, show Tryz.f98.results.toList = [.tmp 4] from rfl]
  refine dw_seq ?_
  -- region 0
  refine dw_region (by kernel_rfl) ?_
  refine dl_r (sem_assign rfl rfl) ?_
  refine dl_end ?_
  refine dw_seq ?_
  refine dw_seq ?_
  -- region 1
  refine dw_region (by kernel_rfl) ?_
  refine dl_r (sem_move rfl rfl) ?_
  refine dl_r (sem_len sl95 rfl rfl) ?_
  refine dl_r (sem_move rfl rfl) ?_
  refine dl_end ?_
  refine dw_block ?_
  refine dw_loop (ι := Nat) (fun i => match i with | 0 => ⟨19, [(0, .v (.c (.s 2 ([.i .i64 x0] ++ [.i .i64 x1])))), (1, .v (.c (.f 70))), (7, .v (.c (.i .i64 2))), (8, .v (.c (.i .i64 0))), (4, .v (.c (.i .i64 0)))], []⟩ | _ + 1 => ⟨19, [(0, .v (.c (.s 2 ([.i .i64 x0] ++ [.i .i64 x1])))), (1, .v (.c (.f 70))), (7, .v (.c (.i .i64 2))), (8, .v (.c (.i .i64 1))), (4, .v (.c (.i .i64 0)))], []⟩) (fun i => 1 - i) 0 (sub_of ⟨rfl, rfl, rfl, rfl, rfl, trivial⟩ trivial rfl) ?_
  intro i
  match i with
  | 0 =>
    show Dw _ _ ⟨19, [(0, .v (.c (.s 2 ([.i .i64 x0] ++ [.i .i64 x1])))), (1, .v (.c (.f 70))), (7, .v (.c (.i .i64 2))), (8, .v (.c (.i .i64 0))), (4, .v (.c (.i .i64 0)))], []⟩ _
    refine dw_seq ?_
    -- region 2
    refine dw_region (by kernel_rfl) ?_
    refine dl_r (sem_cmp rfl rfl rfl rfl) ?_
    refine dl_end ?_
    refine dw_seq ?_
    refine dw_true rfl ?_
    refine dw_skip ?_
    refine dw_seq ?_
    refine dw_block ?_
    refine dw_seq ?_
    -- region 3
    refine dw_region (by kernel_rfl) ?_
    refine dl_r (sem_move rfl rfl) ?_
    refine dl_r (sem_assign rfl rfl) ?_
    refine dl_end ?_
    refine dw_seq ?_
    -- region 4
    refine dw_region (by kernel_rfl) ?_
    refine dl_r (sem_move rfl rfl) ?_
    refine dl_r (sem_move rfl rfl) ?_
    refine dl_r (sem_move rfl rfl) ?_
    refine dl_r (sem_index sl95 rfl rfl (by decide) rfl rfl rfl) ?_
    refine dl_r (sem_loadq1 ty2 rfl rfl rfl) ?_
    refine dl_r (sem_call rfl rfl (rcastb tFar_ok z0) rfl) ?_
    refine dl_end ?_
    refine dw_false rfl ?_
    refine dw_skip ?_
    -- region 6
    refine dw_region (by kernel_rfl) ?_
    refine dl_r (sem_ari (r := 1) rfl rfl rfl rfl) ?_
    refine dl_r (sem_move rfl rfl) ?_
    refine dl_end ?_
    exact ⟨1, sub_of ⟨rfl, rfl, rfl, rfl, rfl, trivial⟩ trivial rfl, by show 1 - 1 < 1 - 0; decide⟩
  | z + 1 =>
    show Dw _ _ ⟨19, [(0, .v (.c (.s 2 ([.i .i64 x0] ++ [.i .i64 x1])))), (1, .v (.c (.f 70))), (7, .v (.c (.i .i64 2))), (8, .v (.c (.i .i64 1))), (4, .v (.c (.i .i64 0)))], []⟩ _
    refine dw_seq ?_
    -- region 2
    refine dw_region (by kernel_rfl) ?_
    refine dl_r (sem_cmp rfl rfl rfl rfl) ?_
    refine dl_end ?_
    refine dw_seq ?_
    refine dw_true rfl ?_
    refine dw_skip ?_
    refine dw_seq ?_
    refine dw_block ?_
    refine dw_seq ?_
    -- region 3
    refine dw_region (by kernel_rfl) ?_
    refine dl_r (sem_move rfl rfl) ?_
    refine dl_r (sem_assign rfl rfl) ?_
    refine dl_end ?_
    refine dw_seq ?_
    -- region 4
    refine dw_region (by kernel_rfl) ?_
    refine dl_r (sem_move rfl rfl) ?_
    refine dl_r (sem_move rfl rfl) ?_
    refine dl_r (sem_move rfl rfl) ?_
    refine dl_r (sem_index sl95 rfl rfl (by decide) rfl rfl rfl) ?_
    refine dl_r (sem_loadq1 ty2 rfl rfl rfl) ?_
    refine dl_r (sem_call rfl rfl (rcastb tFar_ok z1) rfl) ?_
    refine dl_end ?_
    refine dw_true rfl ?_
    refine dw_seq ?_
    -- region 5
    refine dw_region (by kernel_rfl) ?_
    refine dl_r (sem_move rfl rfl) ?_
    refine dl_r (sem_assign rfl rfl) ?_
    refine dl_end ?_
    refine dw_ret ?_
    -- path L1
    exact ⟨.inr rfl, (resL_tmp rfl resL_nil)⟩
theorem tCnt2_1 {x0 x1 : Int} (z0 : far x0 = false) (z1 : far x1 = true) : Ok Tryz.prog 69 [.c (.s 2 ([.i .i64 x0] ++ [.i .i64 x1])), .c (.f 70)] [.c (.b true)] := by
  refine Ok.of (by kernel_rfl) Tryz.func69 rfl rfl ?_
  rw [show Tryz.f69.ntmps = 9 from rfl, show Tryz.f69.results.toList = [.tmp 4] from rfl]
  refine dw_seq ?_
  -- region 0
  refine dw_region (by kernel_rfl) ?_
  refine dl_r (sem_assign rfl rfl) ?_
  refine dl_end ?_
  refine dw_seq ?_
  -- region 1
  refine dw_region (by kernel_rfl) ?_
  refine dl_r (sem_move rfl rfl) ?_
  refine dl_r (sem_move rfl rfl) ?_
  refine dl_r (sem_call rfl rfl (tIdx2_1 z0 z1) rfl) ?_
  refine dl_r (sem_cmp rfl rfl rfl rfl) ?_
  refine dl_r (sem_assign rfl rfl) ?_
  refine dl_end ?_
  refine dw_ret ?_
  -- path 
  exact ⟨.inr rfl, (resL_tmp rfl resL_nil)⟩
theorem tGrid2_1 {x0 x1 : Int} (z0 : far x0 = false) (z1 : far x1 = true) : Ok Tryz.prog 31 [.c (.s 2 ([.i .i64 x0] ++ [.i .i64 x1]))] [.c (.b false)] := by
  refine Ok.of (by kernel_rfl) Tryz.func31 rfl rfl ?_
  rw [show Tryz.f31.ntmps = 6 from rfl, show Tryz.f31.results.toList = [.tmp 2] from rfl]
  refine dw_seq ?_
  -- region 0
  refine dw_region (by kernel_rfl) ?_
  refine dl_r (sem_assign rfl rfl) ?_
  refine dl_end ?_
  refine dw_seq ?_
  -- region 1
  refine dw_region (by kernel_rfl) ?_
  refine dl_r (sem_move rfl rfl) ?_
  refine dl_r (sem_call rfl rfl (tCnt2_1 z0 z1) rfl) ?_
  refine dl_r (sem_not rfl rfl) ?_
  refine dl_r (sem_assign rfl rfl) ?_
  refine dl_end ?_
  refine dw_ret ?_
  -- path 
  exact ⟨.inr rfl, (resL_tmp rfl resL_nil)⟩
theorem tIdx2_2 {x0 x1 : Int} (z0 : far x0 = false) (z1 : far x1 = false) : Ok Tryz.prog 98 [.c (.s 2 ([.i .i64 x0] ++ [.i .i64 x1])), .c (.f 70)] [.c (.i .i64 (-1))] := by
  refine Ok.of (by kernel_rfl) Tryz.func98 rfl rfl ?_
  rw [show Tryz.f98.ntmps = 19 from rfl, show Tryz.f98.results.toList = [.tmp 4] from rfl]
  refine dw_seq ?_
  -- region 0
  refine dw_region (by kernel_rfl) ?_
  refine dl_r (sem_assign rfl rfl) ?_
  refine dl_end ?_
  refine dw_seq ?_
  refine dw_seq ?_
  -- region 1
  refine dw_region (by kernel_rfl) ?_
  refine dl_r (sem_move rfl rfl) ?_
  refine dl_r (sem_len sl95 rfl rfl) ?_
  refine dl_r (sem_move rfl rfl) ?_
  refine dl_end ?_
  refine dw_block ?_
  refine dw_loop (ι := Nat) (fun i => match i with | 0 => ⟨19, [(0, .v (.c (.s 2 ([.i .i64 x0] ++ [.i .i64 x1])))), (1, .v (.c (.f 70))), (7, .v (.c (.i .i64 2))), (8, .v (.c (.i .i64 0))), (4, .v (.c (.i .i64 0)))], []⟩ | 1 => ⟨19, [(0, .v (.c (.s 2 ([.i .i64 x0] ++ [.i .i64 x1])))), (1, .v (.c (.f 70))), (7, .v (.c (.i .i64 2))), (8, .v (.c (.i .i64 1))), (4, .v (.c (.i .i64 0)))], []⟩ | _ + 2 => ⟨19, [(0, .v (.c (.s 2 ([.i .i64 x0] ++ [.i .i64 x1])))), (1, .v (.c (.f 70))), (7, .v (.c (.i .i64 2))), (8, .v (.c (.i .i64 2))), (4, .v (.c (.i .i64 0)))], []⟩) (fun i => 2 - i) 0 (sub_of ⟨rfl, rfl, rfl, rfl, rfl, trivial⟩ trivial rfl) ?_
  intro i
  match i with
  | 0 =>
    show Dw _ _ ⟨19, [(0, .v (.c (.s 2 ([.i .i64 x0] ++ [.i .i64 x1])))), (1, .v (.c (.f 70))), (7, .v (.c (.i .i64 2))), (8, .v (.c (.i .i64 0))), (4, .v (.c (.i .i64 0)))], []⟩ _
    refine dw_seq ?_
    -- region 2
    refine dw_region (by kernel_rfl) ?_
    refine dl_r (sem_cmp rfl rfl rfl rfl) ?_
    refine dl_end ?_
    refine dw_seq ?_
    refine dw_true rfl ?_
    refine dw_skip ?_
    refine dw_seq ?_
    refine dw_block ?_
    refine dw_seq ?_
    -- region 3
    refine dw_region (by kernel_rfl) ?_
    refine dl_r (sem_move rfl rfl) ?_
    refine dl_r (sem_assign rfl rfl) ?_
    refine dl_end ?_
    refine dw_seq ?_
    -- region 4
    refine dw_region (by kernel_rfl) ?_
    refine dl_r (sem_move rfl rfl) ?_
    refine dl_r (sem_move rfl rfl) ?_
    refine dl_r (sem_move rfl rfl) ?_
    refine dl_r (sem_index sl95 rfl rfl (by decide) rfl rfl rfl) ?_
    refine dl_r (sem_loadq1 ty2 rfl rfl rfl) ?_
    refine dl_r (sem_call rfl rfl (rcastb tFar_ok z0) rfl) ?_
    refine dl_end ?_
    refine dw_false rfl ?_
    refine dw_skip ?_
    -- region 6
    refine dw_region (by kernel_rfl) ?_
    refine dl_r (sem_ari (r := 1) rfl rfl rfl rfl) ?_
    refine dl_r (sem_move rfl rfl) ?_
    refine dl_end ?_
    exact ⟨1, sub_of ⟨rfl, rfl, rfl, rfl, rfl, trivial⟩ trivial rfl, by show 2 - 1 < 2 - 0; decide⟩
  | 1 =>
    show Dw _ _ ⟨19, [(0, .v (.c (.s 2 ([.i .i64 x0] ++ [.i .i64 x1])))), (1, .v (.c (.f 70))), (7, .v (.c (.i .i64 2))), (8, .v (.c (.i .i64 1))), (4, .v (.c (.i .i64 0)))], []⟩ _
    refine dw_seq ?_
    -- region 2
    refine dw_region (by kernel_rfl) ?_
    refine dl_r (sem_cmp rfl rfl rfl rfl) ?_
    refine dl_end ?_
    refine dw_seq ?_
    refine dw_true rfl ?_
    refine dw_skip ?_
    refine dw_seq ?_
    refine dw_block ?_
    refine dw_seq ?_
    -- region 3
    refine dw_region (by kernel_rfl) ?_
    refine dl_r (sem_move rfl rfl) ?_
    refine dl_r (sem_assign rfl rfl) ?_
    refine dl_end ?_
    refine dw_seq ?_
    -- region 4
    refine dw_region (by kernel_rfl) ?_
    refine dl_r (sem_move rfl rfl) ?_
    refine dl_r (sem_move rfl rfl) ?_
    refine dl_r (sem_move rfl rfl) ?_
    refine dl_r (sem_index sl95 rfl rfl (by decide) rfl rfl rfl) ?_
    refine dl_r (sem_loadq1 ty2 rfl rfl rfl) ?_
    refine dl_r (sem_call rfl rfl (rcastb tFar_ok z1) rfl) ?_
    refine dl_end ?_
    refine dw_false rfl ?_
    refine dw_skip ?_
    -- region 6
    refine dw_region (by kernel_rfl) ?_
    refine dl_r (sem_ari (r := 2) rfl rfl rfl rfl) ?_
    refine dl_r (sem_move rfl rfl) ?_
    refine dl_end ?_
    exact ⟨2, sub_of ⟨rfl, rfl, rfl, rfl, rfl, trivial⟩ trivial rfl, by show 2 - 2 < 2 - 1; decide⟩
  | z + 2 =>
    show Dw _ _ ⟨19, [(0, .v (.c (.s 2 ([.i .i64 x0] ++ [.i .i64 x1])))), (1, .v (.c (.f 70))), (7, .v (.c (.i .i64 2))), (8, .v (.c (.i .i64 2))), (4, .v (.c (.i .i64 0)))], []⟩ _
    refine dw_seq ?_
    -- region 2
    refine dw_region (by kernel_rfl) ?_
    refine dl_r (sem_cmp rfl rfl rfl rfl) ?_
    refine dl_end ?_
    refine dw_seq ?_
    refine dw_false rfl ?_
    refine dw_exit ?_
    refine dw_seq ?_
    -- region 7
    refine dw_region (by kernel_rfl) ?_
    refine dl_r (sem_assign rfl rfl) ?_
    refine dl_end ?_
    refine dw_ret ?_
    -- path L2
    exact ⟨.inr rfl, (resL_tmp rfl resL_nil)⟩
theorem tCnt2_2 {x0 x1 : Int} (z0 : far x0 = false) (z1 : far x1 = false) : Ok Tryz.prog 69 [.c (.s 2 ([.i .i64 x0] ++ [.i .i64 x1])), .c (.f 70)] [.c (.b false)] := by
  refine Ok.of (by kernel_rfl) Tryz.func69 rfl rfl ?_
  rw [show Tryz.f69.ntmps = 9 from rfl, show Tryz.f69.results.toList = [.tmp 4] from rfl]
  refine dw_seq ?_
  -- region 0
  refine dw_region (by kernel_rfl) ?_
  refine dl_r (sem_assign rfl rfl) ?_
  refine dl_end ?_
  refine dw_seq ?_
  -- region 1
  refine dw_region (by kernel_rfl) ?_
  refine dl_r (sem_move rfl rfl) ?_
  refine dl_r (sem_move rfl rfl) ?_
  refine dl_r (sem_call rfl rfl (tIdx2_2 z0 z1) rfl) ?_
  refine dl_r (sem_cmp rfl rfl rfl rfl) ?_
  refine dl_r (sem_assign rfl rfl) ?_
  refine dl_end ?_
  refine dw_ret ?_
  -- path 
  exact ⟨.inr rfl, (resL_tmp rfl resL_nil)⟩
theorem tGrid2_2 {x0 x1 : Int} (z0 : far x0 = false) (z1 : far x1 = false) : Ok Tryz.prog 31 [.c (.s 2 ([.i .i64 x0] ++ [.i .i64 x1]))] [.c (.b true)] := by
  refine Ok.of (by kernel_rfl) Tryz.func31 rfl rfl ?_
  rw [show Tryz.f31.ntmps = 6 from rfl, show Tryz.f31.results.toList = [.tmp 2] from rfl]
  refine dw_seq ?_
  -- region 0
  refine dw_region (by kernel_rfl) ?_
  refine dl_r (sem_assign rfl rfl) ?_
  refine dl_end ?_
  refine dw_seq ?_
  -- region 1
  refine dw_region (by kernel_rfl) ?_
  refine dl_r (sem_move rfl rfl) ?_
  refine dl_r (sem_call rfl rfl (tCnt2_2 z0 z1) rfl) ?_
  refine dl_r (sem_not rfl rfl) ?_
  refine dl_r (sem_assign rfl rfl) ?_
  refine dl_end ?_
  refine dw_ret ?_
  -- path 
  exact ⟨.inr rfl, (resL_tmp rfl resL_nil)⟩
theorem tGrid2 {x0 x1 : Int} : Ok Tryz.prog 31 [.c (.s 2 ([.i .i64 x0] ++ [.i .i64 x1]))] [.c (.b (!(far x0 || far x1)))] := by
  cases z0 : far x0 with
  | true => exact rcastb (tGrid2_0 z0) (by simp)
  | false =>
  cases z1 : far x1 with
  | true => exact rcastb (tGrid2_1 z0 z1) (by simp)
  | false =>
  exact rcastb (tGrid2_2 z0 z1) (by simp)
theorem tIdx4_0 {x0 x1 x2 x3 : Int} (z0 : far x0 = true) : Ok Tryz.prog 98 [.c (.s 4 ([.i .i64 x0] ++ [.i .i64 x1] ++ [.i .i64 x2] ++ [.i .i64 x3])), .c (.f 70)] [.c (.i .i64 0)] := by
  refine Ok.of (by kernel_rfl) Tryz.func98 rfl rfl ?_
  rw [show Tryz.f98.ntmps = 19 from rfl, show Tryz.f98.results.toList = [.tmp 4] from rfl]
  refine dw_seq ?_
  -- region 0
  refine dw_region (by kernel_rfl) ?_
  refine dl_r (sem_assign rfl rfl) ?_
  refine dl_end ?_
  refine dw_seq ?_
  refine dw_seq ?_
  -- region 1
  refine dw_region (by kernel_rfl) ?_
  refine dl_r (sem_move rfl rfl) ?_
  refine dl_r (sem_len sl95 rfl rfl) ?_
  refine dl_r (sem_move rfl rfl) ?_
  refine dl_end ?_
  refine dw_block ?_
  refine dw_loop (ι := Nat) (fun i => match i with | _ => ⟨19, [(0, .v (.c (.s 4 ([.i .i64 x0] ++ [.i .i64 x1] ++ [.i .i64 x2] ++ [.i .i64 x3])))), (1, .v (.c (.f 70))), (7, .v (.c (.i .i64 4))), (8, .v (.c (.i .i64 0))), (4, .v (.c (.i .i64 0)))], []⟩) (fun i => 0 - i) 0 (sub_of ⟨rfl, rfl, rfl, rfl, rfl, trivial⟩ trivial rfl) ?_
  intro i
  match i with
  | _ =>
    show Dw _ _ ⟨19, [(0, .v (.c (.s 4 ([.i .i64 x0] ++ [.i .i64 x1] ++ [.i .i64 x2] ++ [.i .i64 x3])))), (1, .v (.c (.f 70))), (7, .v (.c (.i .i64 4))), (8, .v (.c (.i .i64 0))), (4, .v (.c (.i .i64 0)))], []⟩ _
    refine dw_seq ?_
    -- region 2
    refine dw_region (by kernel_rfl) ?_
    refine dl_r (sem_cmp rfl rfl rfl rfl) ?_
    refine dl_end ?_
    refine dw_seq ?_
    refine dw_true rfl ?_
    refine dw_skip ?_
    refine dw_seq ?_
    refine dw_block ?_
    refine dw_seq ?_
    -- region 3
    refine dw_region (by kernel_rfl) ?_
    refine dl_r (sem_move rfl rfl) ?_
    refine dl_r (sem_assign rfl rfl) ?_
    refine dl_end ?_
    refine dw_seq ?_
    -- region 4
    refine dw_region (by kernel_rfl) ?_
    refine dl_r (sem_move rfl rfl) ?_
    refine dl_r (sem_move rfl rfl) ?_
    refine dl_r (sem_move rfl rfl) ?_
    refine dl_r (sem_index sl95 rfl rfl (by decide) rfl rfl rfl) ?_
    refine dl_r (sem_loadq1 ty2 rfl rfl rfl) ?_
    refine dl_r (sem_call rfl rfl (rcastb tFar_ok z0) rfl) ?_
    refine dl_end ?_
    refine dw_true rfl ?_
    refine dw_seq ?_
    -- region 5
    refine dw_region (by kernel_rfl) ?_
    refine dl_r (sem_move rfl rfl) ?_
    refine dl_r (sem_assign rfl rfl) ?_
    refine dl_end ?_
    refine dw_ret ?_
    -- path L0
    exact ⟨.inr rfl, (resL_tmp rfl resL_nil)⟩
theorem tCnt4_0 {x0 x1 x2 x3 : Int} (z0 : far x0 = true) : Ok Tryz.prog 69 [.c (.s 4 ([.i .i64 x0] ++ [.i .i64 x1] ++ [.i .i64 x2] ++ [.i .i64 x3])), .c (.f 70)] [.c (.b true)] := by
  refine Ok.of (by kernel_rfl) Tryz.func69 rfl rfl ?_
  rw [show Tryz.f69.ntmps = 9 from rfl, show Tryz.f69.results.toList = [.tmp 4] from rfl]
  refine dw_seq ?_
  -- region 0
  refine dw_region (by kernel_rfl) ?_
  refine dl_r (sem_assign rfl rfl) ?_
  refine dl_end ?_
  refine dw_seq ?_
  -- region 1
  refine dw_region (by kernel_rfl) ?_
  refine dl_r (sem_move rfl rfl) ?_
  refine dl_r (sem_move rfl rfl) ?_
  refine dl_r (sem_call rfl rfl (tIdx4_0 z0) rfl) ?_
  refine dl_r (sem_cmp rfl rfl rfl rfl) ?_
  refine dl_r (sem_assign rfl rfl) ?_
  refine dl_end ?_
  refine dw_ret ?_
  -- path 
  exact ⟨.inr rfl, (resL_tmp rfl resL_nil)⟩
theorem tGrid4_0 {x0 x1 x2 x3 : Int} (z0 : far x0 = true) : Ok Tryz.prog 31 [.c (.s 4 ([.i .i64 x0] ++ [.i .i64 x1] ++ [.i .i64 x2] ++ [.i .i64 x3]))] [.c (.b false)] := by
  refine Ok.of (by kernel_rfl) Tryz.func31 rfl rfl ?_
  rw [show Tryz.f31.ntmps = 6 from rfl, show Tryz.f31.results.toList = [.tmp 2] from rfl]
  refine dw_seq ?_
  -- region 0
  refine dw_region (by kernel_rfl) ?_
  refine dl_r (sem_assign rfl rfl) ?_
  refine dl_end ?_
  refine dw_seq ?_
  -- region 1
  refine dw_region (by kernel_rfl) ?_
  refine dl_r (sem_move rfl rfl) ?_
  refine dl_r (sem_call rfl rfl (tCnt4_0 z0) rfl) ?_
  refine dl_r (sem_not rfl rfl) ?_
  refine dl_r (sem_assign rfl rfl) ?_
  refine dl_end ?_
  refine dw_ret ?_
  -- path 
  exact ⟨.inr rfl, (resL_tmp rfl resL_nil)⟩
theorem tIdx4_1 {x0 x1 x2 x3 : Int} (z0 : far x0 = false) (z1 : far x1 = true) : Ok Tryz.prog 98 [.c (.s 4 ([.i .i64 x0] ++ [.i .i64 x1] ++ [.i .i64 x2] ++ [.i .i64 x3])), .c (.f 70)] [.c (.i .i64 1)] := by
  refine Ok.of (by kernel_rfl) Tryz.func98 rfl rfl ?_
  rw [show Tryz.f98.ntmps = 19 from rfl, show Tryz.f98.results.toList = [.tmp 4] from rfl]
  refine dw_seq ?_
  -- region 0
  refine dw_region (by kernel_rfl) ?_
  refine dl_r (sem_assign rfl rfl) ?_
  refine dl_end ?_
  refine dw_seq ?_
  refine dw_seq ?_
  -- region 1
  refine dw_region (by kernel_rfl) ?_
  refine dl_r (sem_move rfl rfl) ?_
  refine dl_r (sem_len sl95 rfl rfl) ?_
  refine dl_r (sem_move rfl rfl) ?_
  refine dl_end ?_
  refine dw_block ?_
  refine dw_loop (ι := Nat) (fun i => match i with | 0 => ⟨19, [(0, .v (.c (.s 4 ([.i .i64 x0] ++ [.i .i64 x1] ++ [.i .i64 x2] ++ [.i .i64 x3])))), (1, .v (.c (.f 70))), (7, .v (.c (.i .i64 4))), (8, .v (.c (.i .i64 0))), (4, .v (.c (.i .i64 0)))], []⟩ | _ + 1 => ⟨19, [(0, .v (.c (.s 4 ([.i .i64 x0] ++ [.i .i64 x1] ++ [.i .i64 x2] ++ [.i .i64 x3])))), (1, .v (.c (.f 70))), (7, .v (.c (.i .i64 4))), (8, .v (.c (.i .i64 1))), (4, .v (.c (.i .i64 0)))], []⟩) (fun i => 1 - i) 0 (sub_of ⟨rfl, rfl, rfl, rfl, rfl, trivial⟩ trivial rfl) ?_
  intro i
  match i with
  | 0 =>
    show Dw _ _ ⟨19, [(0, .v (.c (.s 4 ([.i .i64 x0] ++ [.i .i64 x1] ++ [.i .i64 x2] ++ [.i .i64 x3])))), (1, .v (.c (.f 70))), (7, .v (.c (.i .i64 4))), (8, .v (.c (.i .i64 0))), (4, .v (.c (.i .i64 0)))], []⟩ _
    refine dw_seq ?_
    -- region 2
    refine dw_region (by kernel_rfl) ?_
    refine dl_r (sem_cmp rfl rfl rfl rfl) ?_
    refine dl_end ?_
    refine dw_seq ?_
    refine dw_true rfl ?_
    refine dw_skip ?_
    refine dw_seq ?_
    refine dw_block ?_
    refine dw_seq ?_
    -- region 3
    refine dw_region (by kernel_rfl) ?_
    refine dl_r (sem_move rfl rfl) ?_
    refine dl_r (sem_assign rfl rfl) ?_
    refine dl_end ?_
    refine dw_seq ?_
    -- region 4
    refine dw_region (by kernel_rfl) ?_
    refine dl_r (sem_move rfl rfl) ?_
    refine dl_r (sem_move rfl rfl) ?_
    refine dl_r (sem_move rfl rfl) ?_
    refine dl_r (sem_index sl95 rfl rfl (by decide) rfl rfl rfl) ?_
    refine dl_r (sem_loadq1 ty2 rfl rfl rfl) ?_
    refine dl_r (sem_call rfl rfl (rcastb tFar_ok z0) rfl) ?_
    refine dl_end ?_
    refine dw_false rfl ?_
    refine dw_skip ?_
    -- region 6
    refine dw_region (by kernel_rfl) ?_
    refine dl_r (sem_ari (r := 1) rfl rfl rfl rfl) ?_
    refine dl_r (sem_move rfl rfl) ?_
    refine dl_end ?_
    exact ⟨1, sub_of ⟨rfl, rfl, rfl, rfl, rfl, trivial⟩ trivial rfl, by show 1 - 1 < 1 - 0; decide⟩
  | z + 1 =>
    show Dw _ _ ⟨19, [(0, .v (.c (.s 4 ([.i .i64 x0] ++ [.i .i64 x1] ++ [.i .i64 x2] ++ [.i .i64 x3])))), (1, .v (.c (.f 70))), (7, .v (.c (.i .i64 4))), (8, .v (.c (.i .i64 1))), (4, .v (.c (.i .i64 0)))], []⟩ _
    refine dw_seq ?_
    -- region 2
    refine dw_region (by kernel_rfl) ?_
    refine dl_r (sem_cmp rfl rfl rfl rfl) ?_
    refine dl_end ?_
    refine dw_seq ?_
    refine dw_true rfl ?_
    refine dw_skip ?_
    refine dw_seq ?_
    refine dw_block ?_
    refine dw_seq ?_
    -- region 3
    refine dw_region (by kernel_rfl) ?_
    refine dl_r (sem_move rfl rfl) ?_
    refine dl_r (sem_assign rfl rfl) ?_
    refine dl_end ?_
    refine dw_seq ?_
    -- region 4
    refine dw_region (by kernel_rfl) ?_
    refine dl_r (sem_move rfl rfl) ?_
    refine dl_r (sem_move rfl rfl) ?_
    refine dl_r (sem_move rfl rfl) ?_
    refine dl_r (sem_index sl95 rfl rfl (by decide) rfl rfl rfl) ?_
    refine dl_r (sem_loadq1 ty2 rfl rfl rfl) ?_
    refine dl_r (sem_call rfl rfl (rcastb tFar_ok z1) rfl) ?_
    refine dl_end ?_
    refine dw_true rfl ?_
    refine dw_seq ?_
    -- region 5
    refine dw_region (by kernel_rfl) ?_
    refine dl_r (sem_move rfl rfl) ?_
    refine dl_r (sem_assign rfl rfl) ?_
    refine dl_end ?_
    refine dw_ret ?_
    -- path L1
    exact ⟨.inr rfl, (resL_tmp rfl resL_nil)⟩
theorem tCnt4_1 {x0 x1 x2 x3 : Int} (z0 : far x0 = false) (z1 : far x1 = true) : Ok Tryz.prog 69 [.c (.s 4 ([.i .i64 x0] ++ [.i .i64 x1] ++ [.i .i64 x2] ++ [.i .i64 x3])), .c (.f 70)] [.c (.b true)] := by
  refine Ok.of (by kernel_rfl) Tryz.func69 rfl rfl ?_
  rw [show Tryz.f69.ntmps = 9 from rfl, show Tryz.f69.results.toList = [.tmp 4] from rfl]
  refine dw_seq ?_
  -- region 0
  refine dw_region (by kernel_rfl) ?_
  refine dl_r (sem_assign rfl rfl) ?_
  refine dl_end ?_
  refine dw_seq ?_
  -- region 1
  refine dw_region (by kernel_rfl) ?_
  refine dl_r (sem_move rfl rfl) ?_
  refine dl_r (sem_move rfl rfl) ?_
  refine dl_r (sem_call rfl rfl (tIdx4_1 z0 z1) rfl) ?_
  refine dl_r (sem_cmp rfl rfl rfl rfl) ?_
  refine dl_r (sem_assign rfl rfl) ?_
  refine dl_end ?_
  refine dw_ret ?_
  -- path 
  exact ⟨.inr rfl, (resL_tmp rfl resL_nil)⟩
theorem tGrid4_1 {x0 x1 x2 x3 : Int} (z0 : far x0 = false) (z1 : far x1 = true) : Ok Tryz.prog 31 [.c (.s 4 ([.i .i64 x0] ++ [.i .i64 x1] ++ [.i .i64 x2] ++ [.i .i64 x3]))] [.c (.b false)] := by
  refine Ok.of (by kernel_rfl) Tryz.func31 rfl rfl ?_
  rw [show Tryz.f31.ntmps = 6 from rfl, show Tryz.f31.results.toList = [.tmp 2] from rfl]
  refine dw_seq ?_
  -- region 0
  refine dw_region (by kernel_rfl) ?_
  refine dl_r (sem_assign rfl rfl) ?_
  refine dl_end ?_
  refine dw_seq ?_
  -- region 1
  refine dw_region (by kernel_rfl) ?_
  refine dl_r (sem_move rfl rfl) ?_
  refine dl_r (sem_call rfl rfl (tCnt4_1 z0 z1) rfl) ?_
  refine dl_r (sem_not rfl rfl) ?_
  refine dl_r (sem_assign rfl rfl) ?_
  refine dl_end ?_
  refine dw_ret ?_
  -- path 
  exact ⟨.inr rfl, (resL_tmp rfl resL_nil)⟩
theorem tIdx4_2 {x0 x1 x2 x3 : Int} (z0 : far x0 = false) (z1 : far x1 = false) (z2 : far x2 = true) : Ok Tryz.prog 98 [.c (.s 4 ([.i .i64 x0] ++ [.i .i64 x1] ++ [.i .i64 x2] ++ [.i .i64 x3])), .c (.f 70)] [.c (.i .i64 2)] := by
  refine Ok.of (by kernel_rfl) Tryz.func98 rfl rfl ?_
  rw [show Tryz.f98.ntmps = 19 from rfl, show Tryz.f98.results.toList = [.tmp 4] from rfl]
  refine dw_seq ?_
  -- region 0
  refine dw_region (by kernel_rfl) ?_
  refine dl_r (sem_assign rfl rfl) ?_
  refine dl_end ?_
  refine dw_seq ?_
  refine dw_seq ?_
  -- region 1
  refine dw_region (by kernel_rfl) ?_
  refine dl_r (sem_move rfl rfl) ?_
  refine dl_r (sem_len sl95 rfl rfl) ?_
  refine dl_r (sem_move rfl rfl) ?_
  refine dl_end ?_
  refine dw_block ?_
  refine dw_loop (ι := Nat) (fun i => match i with | 0 => ⟨19, [(0, .v (.c (.s 4 ([.i .i64 x0] ++ [.i .i64 x1] ++ [.i .i64 x2] ++ [.i .i64 x3])))), (1, .v (.c (.f 70))), (7, .v (.c (.i .i64 4))), (8, .v (.c (.i .i64 0))), (4, .v (.c (.i .i64 0)))], []⟩ | 1 => ⟨19, [(0, .v (.c (.s 4 ([.i .i64 x0] ++ [.i .i64 x1] ++ [.i .i64 x2] ++ [.i .i64 x3])))), (1, .v (.c (.f 70))), (7, .v (.c (.i .i64 4))), (8, .v (.c (.i .i64 1))), (4, .v (.c (.i .i64 0)))], []⟩ | _ + 2 => ⟨19, [(0, .v (.c (.s 4 ([.i .i64 x0] ++ [.i .i64 x1] ++ [.i .i64 x2] ++ [.i .i64 x3])))), (1, .v (.c (.f 70))), (7, .v (.c (.i .i64 4))), (8, .v (.c (.i .i64 2))), (4, .v (.c (.i .i64 0)))], []⟩) (fun i => 2 - i) 0 (sub_of ⟨rfl, rfl, rfl, rfl, rfl, trivial⟩ trivial rfl) ?_
  intro i
  match i with
  | 0 =>
    show Dw _ _ ⟨19, [(0, .v (.c (.s 4 ([.i .i64 x0] ++ [.i .i64 x1] ++ [.i .i64 x2] ++ [.i .i64 x3])))), (1, .v (.c (.f 70))), (7, .v (.c (.i .i64 4))), (8, .v (.c (.i .i64 0))), (4, .v (.c (.i .i64 0)))], []⟩ _
    refine dw_seq ?_
    -- region 2
    refine dw_region (by kernel_rfl) ?_
    refine dl_r (sem_cmp rfl rfl rfl rfl) ?_
    refine dl_end ?_
    refine dw_seq ?_
    refine dw_true rfl ?_
    refine dw_skip ?_
    refine dw_seq ?_
    refine dw_block ?_
    refine dw_seq ?_
    -- region 3
    refine dw_region (by kernel_rfl) ?_
    refine dl_r (sem_move rfl rfl) ?_
    refine dl_r (sem_assign rfl rfl) ?_
    refine dl_end ?_
    refine dw_seq ?_
    -- region 4
    refine dw_region (by kernel_rfl) ?_
    refine dl_r (sem_move rfl rfl) ?_
    refine dl_r (sem_move rfl rfl) ?_
    refine dl_r (sem_move rfl rfl) ?_
    refine dl_r (sem_index sl95 rfl rfl (by decide) rfl rfl rfl) ?_
    refine dl_r (sem_loadq1 ty2 rfl rfl rfl) ?_
    refine dl_r (sem_call rfl rfl (rcastb tFar_ok z0) rfl) ?_
    refine dl_end ?_
    refine dw_false rfl ?_
    refine dw_skip ?_
    -- region 6
    refine dw_region (by kernel_rfl) ?_
    refine dl_r (sem_ari (r := 1) rfl rfl rfl rfl) ?_
    refine dl_r (sem_move rfl rfl) ?_
    refine dl_end ?_
    exact ⟨1, sub_of ⟨rfl, rfl, rfl, rfl, rfl, trivial⟩ trivial rfl, by show 2 - 1 < 2 - 0; decide⟩
  | 1 =>
    show Dw _ _ ⟨19, [(0, .v (.c (.s 4 ([.i .i64 x0] ++ [.i .i64 x1] ++ [.i .i64 x2] ++ [.i .i64 x3])))), (1, .v (.c (.f 70))), (7, .v (.c (.i .i64 4))), (8, .v (.c (.i .i64 1))), (4, .v (.c (.i .i64 0)))], []⟩ _
    refine dw_seq ?_
    -- region 2
    refine dw_region (by kernel_rfl) ?_
    refine dl_r (sem_cmp rfl rfl rfl rfl) ?_
    refine dl_end ?_
    refine dw_seq ?_
    refine dw_true rfl ?_
    refine dw_skip ?_
    refine dw_seq ?_
    refine dw_block ?_
    refine dw_seq ?_
    -- region 3
    refine dw_region (by kernel_rfl) ?_
    refine dl_r (sem_move rfl rfl) ?_
    refine dl_r (sem_assign rfl rfl) ?_
    refine dl_end ?_
    refine dw_seq ?_
    -- region 4
    refine dw_region (by kernel_rfl) ?_
    refine dl_r (sem_move rfl rfl) ?_
    refine dl_r (sem_move rfl rfl) ?_
    refine dl_r (sem_move rfl rfl) ?_
    refine dl_r (sem_index sl95 rfl rfl (by decide) rfl rfl rfl) ?_
    refine dl_r (sem_loadq1 ty2 rfl rfl rfl) ?_
    refine dl_r (sem_call rfl rfl (rcastb tFar_ok z1) rfl) ?_
    refine dl_end ?_
    refine dw_false rfl ?_
    refine dw_skip ?_
    -- region 6
    refine dw_region (by kernel_rfl) ?_
    refine dl_r (sem_ari (r := 2) rfl rfl rfl rfl) ?_
    refine dl_r (sem_move rfl rfl) ?_
    refine dl_end ?_
    exact ⟨2, sub_of ⟨rfl, rfl, rfl, rfl, rfl, trivial⟩ trivial rfl, by show 2 - 2 < 2 - 1; decide⟩
  | z + 2 =>
    show Dw _ _ ⟨19, [(0, .v (.c (.s 4 ([.i .i64 x0] ++ [.i .i64 x1] ++ [.i .i64 x2] ++ [.i .i64 x3])))), (1, .v (.c (.f 70))), (7, .v (.c (.i .i64 4))), (8, .v (.c (.i .i64 2))), (4, .v (.c (.i .i64 0)))], []⟩ _
    refine dw_seq ?_
    -- region 2
    refine dw_region (by kernel_rfl) ?_
    refine dl_r (sem_cmp rfl rfl rfl rfl) ?_
    refine dl_end ?_
    refine dw_seq ?_
    refine dw_true rfl ?_
    refine dw_skip ?_
    refine dw_seq ?_
    refine dw_block ?_
    refine dw_seq ?_
    -- region 3
    refine dw_region (by kernel_rfl) ?_
    refine dl_r (sem_move rfl rfl) ?_
    refine dl_r (sem_assign rfl rfl) ?_
    refine dl_end ?_
    refine dw_seq ?_
    -- region 4
    refine dw_region (by kernel_rfl) ?_
    refine dl_r (sem_move rfl rfl) ?_
    refine dl_r (sem_move rfl rfl) ?_
    refine dl_r (sem_move rfl rfl) ?_
    refine dl_r (sem_index sl95 rfl rfl (by decide) rfl rfl rfl) ?_
    refine dl_r (sem_loadq1 ty2 rfl rfl rfl) ?_
    refine dl_r (sem_call rfl rfl (rcastb tFar_ok z2) rfl) ?_
    refine dl_end ?_
    refine dw_true rfl ?_
    refine dw_seq ?_
    -- region 5
    refine dw_region (by kernel_rfl) ?_
    refine dl_r (sem_move rfl rfl) ?_
    refine dl_r (sem_assign rfl rfl) ?_
    refine dl_end ?_
    refine dw_ret ?_
    -- path L2
    exact ⟨.inr rfl, (resL_tmp rfl resL_nil)⟩
theorem tCnt4_2 {x0 x1 x2 x3 : Int} (z0 : far x0 = false) (z1 : far x1 = false) (z2 : far x2 = true) : Ok Tryz.prog 69 [.c (.s 4 ([.i .i64 x0] ++ [.i .i64 x1] ++ [.i .i64 x2] ++ [.i .i64 x3])), .c (.f 70)] [.c (.b true)] := by
  refine Ok.of (by kernel_rfl) Tryz.func69 rfl rfl ?_
  rw [show Tryz.f69.ntmps = 9 from rfl, show Tryz.f69.results.toList = [.tmp 4] from rfl]
  refine dw_seq ?_
  -- region 0
  refine dw_region (by kernel_rfl) ?_
  refine dl_r (sem_assign rfl rfl) ?_
  refine dl_end ?_
  refine dw_seq ?_
  -- region 1
  refine dw_region (by kernel_rfl) ?_
  refine dl_r (sem_move rfl rfl) ?_
  refine dl_r (sem_move rfl rfl) ?_
  refine dl_r (sem_call rfl rfl (tIdx4_2 z0 z1 z2) rfl) ?_
  refine dl_r (sem_cmp rfl rfl rfl rfl) ?_
  refine dl_r (sem_assign rfl rfl) ?_
  refine dl_end ?_
  refine dw_ret ?_
  -- path 
  exact ⟨.inr rfl, (resL_tmp rfl resL_nil)⟩
theorem tGrid4_2 {x0 x1 x2 x3 : Int} (z0 : far x0 = false) (z1 : far x1 = false) (z2 : far x2 = true) : Ok Tryz.prog 31 [.c (.s 4 ([.i .i64 x0] ++ [.i .i64 x1] ++ [.i .i64 x2] ++ [.i .i64 x3]))] [.c (.b false)] := by
  refine Ok.of (by kernel_rfl) Tryz.func31 rfl rfl ?_
  rw [show Tryz.f31.ntmps = 6 from rfl, show Tryz.f31.results.toList = [.tmp 2] from rfl]
  refine dw_seq ?_
  -- region 0
  refine dw_region (by kernel_rfl) ?_
  refine dl_r (sem_assign rfl rfl) ?_
  refine dl_end ?_
  refine dw_seq ?_
  -- region 1
  refine dw_region (by kernel_rfl) ?_
  refine dl_r (sem_move rfl rfl) ?_
  refine dl_r (sem_call rfl rfl (tCnt4_2 z0 z1 z2) rfl) ?_
  refine dl_r (sem_not rfl rfl) ?_
  refine dl_r (sem_assign rfl rfl) ?_
  refine dl_end ?_
  refine dw_ret ?_
  -- path 
  exact ⟨.inr rfl, (resL_tmp rfl resL_nil)⟩
theorem tIdx4_3 {x0 x1 x2 x3 : Int} (z0 : far x0 = false) (z1 : far x1 = false) (z2 : far x2 = false) (z3 : far x3 = true) : Ok Tryz.prog 98 [.c (.s 4 ([.i .i64 x0] ++ [.i .i64 x1] ++ [.i .i64 x2] ++ [.i .i64 x3])), .c (.f 70)] [.c (.i .i64 3)] := by
  refine Ok.of (by kernel_rfl) Tryz.func98 rfl rfl ?_
  rw [show Tryz.f98.ntmps = 19 from rfl, show Tryz.f98.results.toList = [.tmp 4] from rfl]
  refine dw_seq ?_
  -- region 0
  refine dw_region (by kernel_rfl) ?_
  refine dl_r (sem_assign rfl rfl) ?_
  refine dl_end ?_
  refine dw_seq ?_
  refine dw_seq ?_
  -- region 1
  refine dw_region (by kernel_rfl) ?_
  refine dl_r (sem_move rfl rfl) ?_
  refine dl_r (sem_len sl95 rfl rfl) ?_
  refine dl_r (sem_move rfl rfl) ?_
  refine dl_end ?_
  refine dw_block ?_
  refine dw_loop (ι := Nat) (fun i => match i with | 0 => ⟨19, [(0, .v (.c (.s 4 ([.i .i64 x0] ++ [.i .i64 x1] ++ [.i .i64 x2] ++ [.i .i64 x3])))), (1, .v (.c (.f 70))), (7, .v (.c (.i .i64 4))), (8, .v (.c (.i .i64 0))), (4, .v (.c (.i .i64 0)))], []⟩ | 1 => ⟨19, [(0, .v (.c (.s 4 ([.i .i64 x0] ++ [.i .i64 x1] ++ [.i .i64 x2] ++ [.i .i64 x3])))), (1, .v (.c (.f 70))), (7, .v (.c (.i .i64 4))), (8, .v (.c (.i .i64 1))), (4, .v (.c (.i .i64 0)))], []⟩ | 2 => ⟨19, [(0, .v (.c (.s 4 ([.i .i64 x0] ++ [.i .i64 x1] ++ [.i .i64 x2] ++ [.i .i64 x3])))), (1, .v (.c (.f 70))), (7, .v (.c (.i .i64 4))), (8, .v (.c (.i .i64 2))), (4, .v (.c (.i .i64 0)))], []⟩ | _ + 3 => ⟨19, [(0, .v (.c (.s 4 ([.i .i64 x0] ++ [.i .i64 x1] ++ [.i .i64 x2] ++ [.i .i64 x3])))), (1, .v (.c (.f 70))), (7, .v (.c (.i .i64 4))), (8, .v (.c (.i .i64 3))), (4, .v (.c (.i .i64 0)))], []⟩) (fun i => 3 - i) 0 (sub_of ⟨rfl, rfl, rfl, rfl, rfl, trivial⟩ trivial rfl) ?_
  intro i
  match i with
  | 0 =>
    show Dw _ _ ⟨19, [(0, .v (.c (.s 4 ([.i .i64 x0] ++ [.i .i64 x1] ++ [.i .i64 x2] ++ [.i .i64 x3])))), (1, .v (.c (.f 70))), (7, .v (.c (.i .i64 4))), (8, .v (.c (.i .i64 0))), (4, .v (.c (.i .i64 0)))], []⟩ _
    refine dw_seq ?_
    -- region 2
    refine dw_region (by kernel_rfl) ?_
    refine dl_r (sem_cmp rfl rfl rfl rfl) ?_
    refine dl_end ?_
    refine dw_seq ?_
    refine dw_true rfl ?_
    refine dw_skip ?_
    refine dw_seq ?_
    refine dw_block ?_
    refine dw_seq ?_
    -- region 3
    refine dw_region (by kernel_rfl) ?_
    refine dl_r (sem_move rfl rfl) ?_
    refine dl_r (sem_assign rfl rfl) ?_
    refine dl_end ?_
    refine dw_seq ?_
    -- region 4
    refine dw_region (by kernel_rfl) ?_
    refine dl_r (sem_move rfl rfl) ?_
    refine dl_r (sem_move rfl rfl) ?_
    refine dl_r (sem_move rfl rfl) ?_
    refine dl_r (sem_index sl95 rfl rfl (by decide) rfl rfl rfl) ?_
    refine dl_r (sem_loadq1 ty2 rfl rfl rfl) ?_
    refine dl_r (sem_call rfl rfl (rcastb tFar_ok z0) rfl) ?_
    refine dl_end ?_
    refine dw_false rfl ?_
    refine dw_skip ?_
    -- region 6
    refine dw_region (by kernel_rfl) ?_
    refine dl_r (sem_ari (r := 1) rfl rfl rfl rfl) ?_
    refine dl_r (sem_move rfl rfl) ?_
    refine dl_end ?_
    exact ⟨1, sub_of ⟨rfl, rfl, rfl, rfl, rfl, trivial⟩ trivial rfl, by show 3 - 1 < 3 - 0; decide⟩
  | 1 =>
    show Dw _ _ ⟨19, [(0, .v (.c (.s 4 ([.i .i64 x0] ++ [.i .i64 x1] ++ [.i .i64 x2] ++ [.i .i64 x3])))), (1, .v (.c (.f 70))), (7, .v (.c (.i .i64 4))), (8, .v (.c (.i .i64 1))), (4, .v (.c (.i .i64 0)))], []⟩ _
    refine dw_seq ?_
    -- region 2
    refine dw_region (by kernel_rfl) ?_
    refine dl_r (sem_cmp rfl rfl rfl rfl) ?_
    refine dl_end ?_
    refine dw_seq ?_
    refine dw_true rfl ?_
    refine dw_skip ?_
    refine dw_seq ?_
    refine dw_block ?_
    refine dw_seq ?_
    -- region 3
    refine dw_region (by kernel_rfl) ?_
    refine dl_r (sem_move rfl rfl) ?_
    refine dl_r (sem_assign rfl rfl) ?_
    refine dl_end ?_
    refine dw_seq ?_
    -- region 4
    refine dw_region (by kernel_rfl) ?_
    refine dl_r (sem_move rfl rfl) ?_
    refine dl_r (sem_move rfl rfl) ?_
    refine dl_r (sem_move rfl rfl) ?_
    refine dl_r (sem_index sl95 rfl rfl (by decide) rfl rfl rfl) ?_
    refine dl_r (sem_loadq1 ty2 rfl rfl rfl) ?_
    refine dl_r (sem_call rfl rfl (rcastb tFar_ok z1) rfl) ?_
    refine dl_end ?_
    refine dw_false rfl ?_
    refine dw_skip ?_
    -- region 6
    refine dw_region (by kernel_rfl) ?_
    refine dl_r (sem_ari (r := 2) rfl rfl rfl rfl) ?_
    refine dl_r (sem_move rfl rfl) ?_
    refine dl_end ?_
    exact ⟨2, sub_of ⟨rfl, rfl, rfl, rfl, rfl, trivial⟩ trivial rfl, by show 3 - 2 < 3 - 1; decide⟩
  | 2 =>
    show Dw _ _ ⟨19, [(0, .v (.c (.s 4 ([.i .i64 x0] ++ [.i .i64 x1] ++ [.i .i64 x2] ++ [.i .i64 x3])))), (1, .v (.c (.f 70))), (7, .v (.c (.i .i64 4))), (8, .v (.c (.i .i64 2))), (4, .v (.c (.i .i64 0)))], []⟩ _
    refine dw_seq ?_
    -- region 2
    refine dw_region (by kernel_rfl) ?_
    refine dl_r (sem_cmp rfl rfl rfl rfl) ?_
    refine dl_end ?_
    refine dw_seq ?_
    refine dw_true rfl ?_
    refine dw_skip ?_
    refine dw_seq ?_
    refine dw_block ?_
    refine dw_seq ?_
    -- region 3
    refine dw_region (by kernel_rfl) ?_
    refine dl_r (sem_move rfl rfl) ?_
    refine dl_r (sem_assign rfl rfl) ?_
    refine dl_end ?_
    refine dw_seq ?_
    -- region 4
    refine dw_region (by kernel_rfl) ?_
    refine dl_r (sem_move rfl rfl) ?_
    refine dl_r (sem_move rfl rfl) ?_
    refine dl_r (sem_move rfl rfl) ?_
    refine dl_r (sem_index sl95 rfl rfl (by decide) rfl rfl rfl) ?_
    refine dl_r (sem_loadq1 ty2 rfl rfl rfl) ?_
    refine dl_r (sem_call rfl rfl (rcastb tFar_ok z2) rfl) ?_
    refine dl_end ?_
    refine dw_false rfl ?_
    refine dw_skip ?_
    -- region 6
    refine dw_region (by kernel_rfl) ?_
    refine dl_r (sem_ari (r := 3) rfl rfl rfl rfl) ?_
    refine dl_r (sem_move rfl rfl) ?_
    refine dl_end ?_
    exact ⟨3, sub_of ⟨rfl, rfl, rfl, rfl, rfl, trivial⟩ trivial rfl, by show 3 - 3 < 3 - 2; decide⟩
  | z + 3 =>
    show Dw _ _ ⟨19, [(0, .v (.c (.s 4 ([.i .i64 x0] ++ [.i .i64 x1] ++ [.i .i64 x2] ++ [.i .i64 x3])))), (1, .v (.c (.f 70))), (7, .v (.c (.i .i64 4))), (8, .v (.c (.i .i64 3))), (4, .v (.c (.i .i64 0)))], []⟩ _
    refine dw_seq ?_
    -- region 2
    refine dw_region (by kernel_rfl) ?_
    refine dl_r (sem_cmp rfl rfl rfl rfl) ?_
    refine dl_end ?_
    refine dw_seq ?_
    refine dw_true rfl ?_
    refine dw_skip ?_
    refine dw_seq ?_
    refine dw_block ?_
    refine dw_seq ?_
    -- region 3
    refine dw_region (by kernel_rfl) ?_
    refine dl_r (sem_move rfl rfl) ?_
    refine dl_r (sem_assign rfl rfl) ?_
    refine dl_end ?_
    refine dw_seq ?_
    -- region 4
    refine dw_region (by kernel_rfl) ?_
    refine dl_r (sem_move rfl rfl) ?_
    refine dl_r (sem_move rfl rfl) ?_
    refine dl_r (sem_move rfl rfl) ?_
    refine dl_r (sem_index sl95 rfl rfl (by decide) rfl rfl rfl) ?_
    refine dl_r (sem_loadq1 ty2 rfl rfl rfl) ?_
    refine dl_r (sem_call rfl rfl (rcastb tFar_ok z3) rfl) ?_
    refine dl_end ?_
    refine dw_true rfl ?_
    refine dw_seq ?_
    -- region 5
    refine dw_region (by kernel_rfl) ?_
    refine dl_r (sem_move rfl rfl) ?_
    refine dl_r (sem_assign rfl rfl) ?_
    refine dl_end ?_
    refine dw_ret ?_
    -- path L3
    exact ⟨.inr rfl, (resL_tmp rfl resL_nil)⟩
theorem tCnt4_3 {x0 x1 x2 x3 : Int} (z0 : far x0 = false) (z1 : far x1 = false) (z2 : far x2 = false) (z3 : far x3 = true) : Ok Tryz.prog 69 [.c (.s 4 ([.i .i64 x0] ++ [.i .i64 x1] ++ [.i .i64 x2] ++ [.i .i64 x3])), .c (.f 70)] [.c (.b true)] := by
  refine Ok.of (by kernel_rfl) Tryz.func69 rfl rfl ?_
  rw [show Tryz.f69.ntmps = 9 from rfl, show Tryz.f69.results.toList = [.tmp 4] from rfl]
  refine dw_seq ?_
  -- region 0
  refine dw_region (by kernel_rfl) ?_
  refine dl_r (sem_assign rfl rfl) ?_
  refine dl_end ?_
  refine dw_seq ?_
  -- region 1
  refine dw_region (by kernel_rfl) ?_
  refine dl_r (sem_move rfl rfl) ?_
  refine dl_r (sem_move rfl rfl) ?_
  refine dl_r (sem_call rfl rfl (tIdx4_3 z0 z1 z2 z3) rfl) ?_
  refine dl_r (sem_cmp rfl rfl rfl rfl) ?_
  refine dl_r (sem_assign rfl rfl) ?_
  refine dl_end ?_
  refine dw_ret ?_
  -- path 
  exact ⟨.inr rfl, (resL_tmp rfl resL_nil)⟩
theorem tGrid4_3 {x0 x1 x2 x3 : Int} (z0 : far x0 = false) (z1 : far x1 = false) (z2 : far x2 = false) (z3 : far x3 = true) : Ok Tryz.prog 31 [.c (.s 4 ([.i .i64 x0] ++ [.i .i64 x1] ++ [.i .i64 x2] ++ [.i .i64 x3]))] [.c (.b false)] := by
  refine Ok.of (by kernel_rfl) Tryz.func31 rfl rfl ?_
  rw [show Tryz.f31.ntmps = 6 from rfl, show Tryz.f31.results.toList = [.tmp 2] from rfl]
  refine dw_seq ?_
  -- region 0
  refine dw_region (by kernel_rfl) ?_
  refine dl_r (sem_assign rfl rfl) ?_
  refine dl_end ?_
  refine dw_seq ?_
  -- region 1
  refine dw_region (by kernel_rfl) ?_
  refine dl_r (sem_move rfl rfl) ?_
  refine dl_r (sem_call rfl rfl (tCnt4_3 z0 z1 z2 z3) rfl) ?_
  refine dl_r (sem_not rfl rfl) ?_
  refine dl_r (sem_assign rfl rfl) ?_
  refine dl_end ?_
  refine dw_ret ?_
  -- path 
  exact ⟨.inr rfl, (resL_tmp rfl resL_nil)⟩
theorem tIdx4_4 {x0 x1 x2 x3 : Int} (z0 : far x0 = false) (z1 : far x1 = false) (z2 : far x2 = false) (z3 : far x3 = false) : Ok Tryz.prog 98 [.c (.s 4 ([.i .i64 x0] ++ [.i .i64 x1] ++ [.i .i64 x2] ++ [.i .i64 x3])), .c (.f 70)] [.c (.i .i64 (-1))] := by
  refine Ok.of (by kernel_rfl) Tryz.func98 rfl rfl ?_
  rw [show Tryz.f98.ntmps = 19 from rfl, show Tryz.f98.results.toList = [.tmp 4] from rfl]
  refine dw_seq ?_
  -- region 0
  refine dw_region (by kernel_rfl) ?_
  refine dl_r (sem_assign rfl rfl) ?_
  refine dl_end ?_
  refine dw_seq ?_
  refine dw_seq ?_
  -- region 1
  refine dw_region (by kernel_rfl) ?_
  refine dl_r (sem_move rfl rfl) ?_
  refine dl_r (sem_len sl95 rfl rfl) ?_
  refine dl_r (sem_move rfl rfl) ?_
  refine dl_end ?_
  refine dw_block ?_
  refine dw_loop (ι := Nat) (fun i => match i with | 0 => ⟨19, [(0, .v (.c (.s 4 ([.i .i64 x0] ++ [.i .i64 x1] ++ [.i .i64 x2] ++ [.i .i64 x3])))), (1, .v (.c (.f 70))), (7, .v (.c (.i .i64 4))), (8, .v (.c (.i .i64 0))), (4, .v (.c (.i .i64 0)))], []⟩ | 1 => ⟨19, [(0, .v (.c (.s 4 ([.i .i64 x0] ++ [.i .i64 x1] ++ [.i .i64 x2] ++ [.i .i64 x3])))), (1, .v (.c (.f 70))), (7, .v (.c (.i .i64 4))), (8, .v (.c (.i .i64 1))), (4, .v (.c (.i .i64 0)))], []⟩ | 2 => ⟨19, [(0, .v (.c (.s 4 ([.i .i64 x0] ++ [.i .i64 x1] ++ [.i .i64 x2] ++ [.i .i64 x3])))), (1, .v (.c (.f 70))), (7, .v (.c (.i .i64 4))), (8, .v (.c (.i .i64 2))), (4, .v (.c (.i .i64 0)))], []⟩ | 3 => ⟨19, [(0, .v (.c (.s 4 ([.i .i64 x0] ++ [.i .i64 x1] ++ [.i .i64 x2] ++ [.i .i64 x3])))), (1, .v (.c (.f 70))), (7, .v (.c (.i .i64 4))), (8, .v (.c (.i .i64 3))), (4, .v (.c (.i .i64 0)))], []⟩ | _ + 4 => ⟨19, [(0, .v (.c (.s 4 ([.i .i64 x0] ++ [.i .i64 x1] ++ [.i .i64 x2] ++ [.i .i64 x3])))), (1, .v (.c (.f 70))), (7, .v (.c (.i .i64 4))), (8, .v (.c (.i .i64 4))), (4, .v (.c (.i .i64 0)))], []⟩) (fun i => 4 - i) 0 (sub_of ⟨rfl, rfl, rfl, rfl, rfl, trivial⟩ trivial rfl) ?_
  intro i
  match i with
  | 0 =>
    show Dw _ _ ⟨19, [(0, .v (.c (.s 4 ([.i .i64 x0] ++ [.i .i64 x1] ++ [.i .i64 x2] ++ [.i .i64 x3])))), (1, .v (.c (.f 70))), (7, .v (.c (.i .i64 4))), (8, .v (.c (.i .i64 0))), (4, .v (.c (.i .i64 0)))], []⟩ _
    refine dw_seq ?_
    -- region 2
    refine dw_region (by kernel_rfl) ?_
    refine dl_r (sem_cmp rfl rfl rfl rfl) ?_
    refine dl_end ?_
    refine dw_seq ?_
    refine dw_true rfl ?_
    refine dw_skip ?_
    refine dw_seq ?_
    refine dw_block ?_
    refine dw_seq ?_
    -- region 3
    refine dw_region (by kernel_rfl) ?_
    refine dl_r (sem_move rfl rfl) ?_
    refine dl_r (sem_assign rfl rfl) ?_
    refine dl_end ?_
    refine dw_seq ?_
    -- region 4
    refine dw_region (by kernel_rfl) ?_
    refine dl_r (sem_move rfl rfl) ?_
    refine dl_r (sem_move rfl rfl) ?_
    refine dl_r (sem_move rfl rfl) ?_
    refine dl_r (sem_index sl95 rfl rfl (by decide) rfl rfl rfl) ?_
    refine dl_r (sem_loadq1 ty2 rfl rfl rfl) ?_
    refine dl_r (sem_call rfl rfl (rcastb tFar_ok z0) rfl) ?_
    refine dl_end ?_
    refine dw_false rfl ?_
    refine dw_skip ?_
    -- region 6
    refine dw_region (by kernel_rfl) ?_
    refine dl_r (sem_ari (r := 1) rfl rfl rfl rfl) ?_
    refine dl_r (sem_move rfl rfl) ?_
    refine dl_end ?_
    exact ⟨1, sub_of ⟨rfl, rfl, rfl, rfl, rfl, trivial⟩ trivial rfl, by show 4 - 1 < 4 - 0; decide⟩
  | 1 =>
    show Dw _ _ ⟨19, [(0, .v (.c (.s 4 ([.i .i64 x0] ++ [.i .i64 x1] ++ [.i .i64 x2] ++ [.i .i64 x3])))), (1, .v (.c (.f 70))), (7, .v (.c (.i .i64 4))), (8, .v (.c (.i .i64 1))), (4, .v (.c (.i .i64 0)))], []⟩ _
    refine dw_seq ?_
    -- region 2
    refine dw_region (by kernel_rfl) ?_
    refine dl_r (sem_cmp rfl rfl rfl rfl) ?_
    refine dl_end ?_
    refine dw_seq ?_
    refine dw_true rfl ?_
    refine dw_skip ?_
    refine dw_seq ?_
    refine dw_block ?_
    refine dw_seq ?_
    -- region 3
    refine dw_region (by kernel_rfl) ?_
    refine dl_r (sem_move rfl rfl) ?_
    refine dl_r (sem_assign rfl rfl) ?_
    refine dl_end ?_
    refine dw_seq ?_
    -- region 4
    refine dw_region (by kernel_rfl) ?_
    refine dl_r (sem_move rfl rfl) ?_
    refine dl_r (sem_move rfl rfl) ?_
    refine dl_r (sem_move rfl rfl) ?_
    refine dl_r (sem_index sl95 rfl rfl (by decide) rfl rfl rfl) ?_
    refine dl_r (sem_loadq1 ty2 rfl rfl rfl) ?_
    refine dl_r (sem_call rfl rfl (rcastb tFar_ok z1) rfl) ?_
    refine dl_end ?_
    refine dw_false rfl ?_
    refine dw_skip ?_
    -- region 6
    refine dw_region (by kernel_rfl) ?_
    refine dl_r (sem_ari (r := 2) rfl rfl rfl rfl) ?_
    refine dl_r (sem_move rfl rfl) ?_
    refine dl_end ?_
    exact ⟨2, sub_of ⟨rfl, rfl, rfl, rfl, rfl, trivial⟩ trivial rfl, by show 4 - 2 < 4 - 1; decide⟩
  | 2 =>
    show Dw _ _ ⟨19, [(0, .v (.c (.s 4 ([.i .i64 x0] ++ [.i .i64 x1] ++ [.i .i64 x2] ++ [.i .i64 x3])))), (1, .v (.c (.f 70))), (7, .v (.c (.i .i64 4))), (8, .v (.c (.i .i64 2))), (4, .v (.c (.i .i64 0)))], []⟩ _
    refine dw_seq ?_
    -- region 2
    refine dw_region (by kernel_rfl) ?_
    refine dl_r (sem_cmp rfl rfl rfl rfl) ?_
    refine dl_end ?_
    refine dw_seq ?_
    refine dw_true rfl ?_
    refine dw_skip ?_
    refine dw_seq ?_
    refine dw_block ?_
    refine dw_seq ?_
    -- region 3
    refine dw_region (by kernel_rfl) ?_
    refine dl_r (sem_move rfl rfl) ?_
    refine dl_r (sem_assign rfl rfl) ?_
    refine dl_end ?_
    refine dw_seq ?_
    -- region 4
    refine dw_region (by kernel_rfl) ?_
    refine dl_r (sem_move rfl rfl) ?_
    refine dl_r (sem_move rfl rfl) ?_
    refine dl_r (sem_move rfl rfl) ?_
    refine dl_r (sem_index sl95 rfl rfl (by decide) rfl rfl rfl) ?_
    refine dl_r (sem_loadq1 ty2 rfl rfl rfl) ?_
    refine dl_r (sem_call rfl rfl (rcastb tFar_ok z2) rfl) ?_
    refine dl_end ?_
    refine dw_false rfl ?_
    refine dw_skip ?_
    -- region 6
    refine dw_region (by kernel_rfl) ?_
    refine dl_r (sem_ari (r := 3) rfl rfl rfl rfl) ?_
    refine dl_r (sem_move rfl rfl) ?_
    refine dl_end ?_
    exact ⟨3, sub_of ⟨rfl, rfl, rfl, rfl, rfl, trivial⟩ trivial rfl, by show 4 - 3 < 4 - 2; decide⟩
  | 3 =>
    show Dw _ _ ⟨19, [(0, .v (.c (.s 4 ([.i .i64 x0] ++ [.i .i64 x1] ++ [.i .i64 x2] ++ [.i .i64 x3])))), (1, .v (.c (.f 70))), (7, .v (.c (.i .i64 4))), (8, .v (.c (.i .i64 3))), (4, .v (.c (.i .i64 0)))], []⟩ _
    refine dw_seq ?_
    -- region 2
    refine dw_region (by kernel_rfl) ?_
    refine dl_r (sem_cmp rfl rfl rfl rfl) ?_
    refine dl_end ?_
    refine dw_seq ?_
    refine dw_true rfl ?_
    refine dw_skip ?_
    refine dw_seq ?_
    refine dw_block ?_
    refine dw_seq ?_
    -- region 3
    refine dw_region (by kernel_rfl) ?_
    refine dl_r (sem_move rfl rfl) ?_
    refine dl_r (sem_assign rfl rfl) ?_
    refine dl_end ?_
    refine dw_seq ?_
    -- region 4
    refine dw_region (by kernel_rfl) ?_
    refine dl_r (sem_move rfl rfl) ?_
    refine dl_r (sem_move rfl rfl) ?_
    refine dl_r (sem_move rfl rfl) ?_
    refine dl_r (sem_index sl95 rfl rfl (by decide) rfl rfl rfl) ?_
    refine dl_r (sem_loadq1 ty2 rfl rfl rfl) ?_
    refine dl_r (sem_call rfl rfl (rcastb tFar_ok z3) rfl) ?_
    refine dl_end ?_
    refine dw_false rfl ?_
    refine dw_skip ?_
    -- region 6
    refine dw_region (by kernel_rfl) ?_
    refine dl_r (sem_ari (r := 4) rfl rfl rfl rfl) ?_
    refine dl_r (sem_move rfl rfl) ?_
    refine dl_end ?_
    exact ⟨4, sub_of ⟨rfl, rfl, rfl, rfl, rfl, trivial⟩ trivial rfl, by show 4 - 4 < 4 - 3; decide⟩
  | z + 4 =>
    show Dw _ _ ⟨19, [(0, .v (.c (.s 4 ([.i .i64 x0] ++ [.i .i64 x1] ++ [.i .i64 x2] ++ [.i .i64 x3])))), (1, .v (.c (.f 70))), (7, .v (.c (.i .i64 4))), (8, .v (.c (.i .i64 4))), (4, .v (.c (.i .i64 0)))], []⟩ _
    refine dw_seq ?_
    -- region 2
    refine dw_region (by kernel_rfl) ?_
    refine dl_r (sem_cmp rfl rfl rfl rfl) ?_
    refine dl_end ?_
    refine dw_seq ?_
    refine dw_false rfl ?_
    refine dw_exit ?_
    refine dw_seq ?_
    -- region 7
    refine dw_region (by kernel_rfl) ?_
    refine dl_r (sem_assign rfl rfl) ?_
    refine dl_end ?_
    refine dw_ret ?_
    -- path L4
    exact ⟨.inr rfl, (resL_tmp rfl resL_nil)⟩
theorem tCnt4_4 {x0 x1 x2 x3 : Int} (z0 : far x0 = false) (z1 : far x1 = false) (z2 : far x2 = false) (z3 : far x3 = false) : Ok Tryz.prog 69 [.c (.s 4 ([.i .i64 x0] ++ [.i .i64 x1] ++ [.i .i64 x2] ++ [.i .i64 x3])), .c (.f 70)] [.c (.b false)] := by
  refine Ok.of (by kernel_rfl) Tryz.func69 rfl rfl ?_
  rw [show Tryz.f69.ntmps = 9 from rfl, show Tryz.f69.results.toList = [.tmp 4] from rfl]
  refine dw_seq ?_
  -- region 0
  refine dw_region (by kernel_rfl) ?_
  refine dl_r (sem_assign rfl rfl) ?_
  refine dl_end ?_
  refine dw_seq ?_
  -- region 1
  refine dw_region (by kernel_rfl) ?_
  refine dl_r (sem_move rfl rfl) ?_
  refine dl_r (sem_move rfl rfl) ?_
  refine dl_r (sem_call rfl rfl (tIdx4_4 z0 z1 z2 z3) rfl) ?_
  refine dl_r (sem_cmp rfl rfl rfl rfl) ?_
  refine dl_r (sem_assign rfl rfl) ?_
  refine dl_end ?_
  refine dw_ret ?_
  -- path 
  exact ⟨.inr rfl, (resL_tmp rfl resL_nil)⟩
theorem tGrid4_4 {x0 x1 x2 x3 : Int} (z0 : far x0 = false) (z1 : far x1 = false) (z2 : far x2 = false) (z3 : far x3 = false) : Ok Tryz.prog 31 [.c (.s 4 ([.i .i64 x0] ++ [.i .i64 x1] ++ [.i .i64 x2] ++ [.i .i64 x3]))] [.c (.b true)] := by
  refine Ok.of (by kernel_rfl) Tryz.func31 rfl rfl ?_
  rw [show Tryz.f31.ntmps = 6 from rfl, show Tryz.f31.results.toList = [.tmp 2] from rfl]
  refine dw_seq ?_
  -- region 0
  refine dw_region (by kernel_rfl) ?_
  refine dl_r (sem_assign rfl rfl) ?_
  refine dl_end ?_
  refine dw_seq ?_
  -- region 1
  refine dw_region (by kernel_rfl) ?_
  refine dl_r (sem_move rfl rfl) ?_
  refine dl_r (sem_call rfl rfl (tCnt4_4 z0 z1 z2 z3) rfl) ?_
  refine dl_r (sem_not rfl rfl) ?_
  refine dl_r (sem_assign rfl rfl) ?_
  refine dl_end ?_
  refine dw_ret ?_
  -- path 
  exact ⟨.inr rfl, (resL_tmp rfl resL_nil)⟩
theorem tGrid4 {x0 x1 x2 x3 : Int} : Ok Tryz.prog 31 [.c (.s 4 ([.i .i64 x0] ++ [.i .i64 x1] ++ [.i .i64 x2] ++ [.i .i64 x3]))] [.c (.b (!(far x0 || (far x1 || (far x2 || far x3)))))] := by
  cases z0 : far x0 with
  | true => exact rcastb (tGrid4_0 z0) (by simp)
  | false =>
  cases z1 : far x1 with
  | true => exact rcastb (tGrid4_1 z0 z1) (by simp)
  | false =>
  cases z2 : far x2 with
  | true => exact rcastb (tGrid4_2 z0 z1 z2) (by simp)
  | false =>
  cases z3 : far x3 with
  | true => exact rcastb (tGrid4_3 z0 z1 z2 z3) (by simp)
  | false =>
  exact rcastb (tGrid4_4 z0 z1 z2 z3) (by simp)
theorem tRound_ok {x y r : Int} (hr : 0 ≤ r) : Ok Tryz.prog 40 [.a ([.i .i64 x] ++ [.i .i64 y]), .c (.i .i64 r)] [.c (.b (rnd x y r))] := by
  refine Ok.of (by kernel_rfl) Tryz.func40 rfl rfl ?_
  rw [show Tryz.f40.ntmps = 35 from rfl, show Tryz.f40.results.toList = [.tmp 4] from rfl]
  refine dw_seq ?_
  -- region 0
  refine dw_region (by kernel_rfl) ?_
  refine dl_new (sem_box_a rfl rfl) rfl ?_
  refine dl_r (sem_assign rfl rfl) ?_
  refine dl_end ?_
  refine dw_seq ?_
  -- region 1
  refine dw_region (by kernel_rfl) ?_
  refine dl_r (sem_field fd34_0 rfl rfl) ?_
  refine dl_r (sem_load1 ty2 rfl rfl rfl rfl) ?_
  refine dl_r (sem_field fd34_1 rfl rfl) ?_
  refine dl_r (sem_load1 ty2 rfl rfl rfl rfl) ?_
  refine dl_r (sem_slit_D (n := 2) (us := [.i .i64 x] ++ [.i .i64 y]) el95 rfl rfl rfl (by decide) (by decide) rfl) ?_
  refine dl_r (sem_call rfl rfl (tGrid2) rfl) ?_
  refine dl_rb (sem_move rfl rfl) (fun c1 hb1 => ?_)
  cases c1
  · refine dl_skip (sem_skip rfl) ?_
    refine dl_skip (sem_skip rfl) ?_
    refine dl_r (sem_pick rfl rfl rfl rfl) ?_
    refine dl_r (sem_move rfl rfl) ?_
    refine dl_skip (sem_skip rfl) ?_
    refine dl_skip (sem_skip rfl) ?_
    refine dl_skip (sem_skip rfl) ?_
    refine dl_skip (sem_skip rfl) ?_
    refine dl_skip (sem_skip rfl) ?_
    refine dl_skip (sem_skip rfl) ?_
    refine dl_skip (sem_skip rfl) ?_
    refine dl_skip (sem_skip rfl) ?_
    refine dl_skip (sem_skip rfl) ?_
    refine dl_skip (sem_skip rfl) ?_
    refine dl_skip (sem_skip rfl) ?_
    refine dl_skip (sem_skip rfl) ?_
    refine dl_skip (sem_skip rfl) ?_
    refine dl_skip (sem_skip rfl) ?_
    refine dl_skip (sem_skip rfl) ?_
    refine dl_skip (sem_skip rfl) ?_
    refine dl_skip (sem_skip rfl) ?_
    refine dl_skip (sem_skip rfl) ?_
    refine dl_r (sem_pick rfl rfl rfl rfl) ?_
    refine dl_r (sem_assign rfl rfl) ?_
    refine dl_end ?_
    refine dw_ret ?_
    -- path f
    unfold rnd
    rw [hb1]
    exact ⟨.inr rfl, (resL_tmp rfl resL_nil)⟩
  · have g1 : far x = false ∧ far y = false := by simpa using hb1
    have g2 := far_n g1.1
    have g3 := far_n g1.2
    refine dl_r (sem_move rfl rfl) ?_
    refine dl_r (sem_cmp rfl rfl rfl rfl) ?_
    refine dl_r (sem_pick rfl rfl rfl rfl) ?_
    refine dl_rb (sem_move rfl rfl) (fun c2 hb2 => ?_)
    cases c2
    · refine dl_skip (sem_skip rfl) ?_
      refine dl_skip (sem_skip rfl) ?_
      refine dl_skip (sem_skip rfl) ?_
      refine dl_skip (sem_skip rfl) ?_
      refine dl_skip (sem_skip rfl) ?_
      refine dl_skip (sem_skip rfl) ?_
      refine dl_skip (sem_skip rfl) ?_
      refine dl_skip (sem_skip rfl) ?_
      refine dl_skip (sem_skip rfl) ?_
      refine dl_skip (sem_skip rfl) ?_
      refine dl_skip (sem_skip rfl) ?_
      refine dl_skip (sem_skip rfl) ?_
      refine dl_skip (sem_skip rfl) ?_
      refine dl_skip (sem_skip rfl) ?_
      refine dl_skip (sem_skip rfl) ?_
      refine dl_skip (sem_skip rfl) ?_
      refine dl_skip (sem_skip rfl) ?_
      refine dl_skip (sem_skip rfl) ?_
      refine dl_r (sem_pick rfl rfl rfl rfl) ?_
      refine dl_r (sem_assign rfl rfl) ?_
      refine dl_end ?_
      refine dw_ret ?_
      -- path tf
      unfold rnd
      rw [hb1, hb2]
      exact ⟨.inr rfl, (resL_tmp rfl resL_nil)⟩
    · have g4 := of_decide_eq_true hb2
      refine dl_r (sem_field fd34_0 rfl rfl) ?_
      refine dl_r (sem_load1 ty2 rfl rfl rfl rfl) ?_
      refine dl_r (sem_move rfl rfl) ?_
      refine dl_r (sem_ari (r := x - r) rfl rfl (ari_i64_sub (by omega) (by omega)) rfl) ?_
      refine dl_r (sem_field fd34_0 rfl rfl) ?_
      refine dl_r (sem_load1 ty2 rfl rfl rfl rfl) ?_
      refine dl_r (sem_move rfl rfl) ?_
      refine dl_r (sem_ari (r := x + r) rfl rfl (ari_i64_add (by omega) (by omega)) rfl) ?_
      refine dl_r (sem_field fd34_1 rfl rfl) ?_
      refine dl_r (sem_load1 ty2 rfl rfl rfl rfl) ?_
      refine dl_r (sem_move rfl rfl) ?_
      refine dl_r (sem_ari (r := y - r) rfl rfl (ari_i64_sub (by omega) (by omega)) rfl) ?_
      refine dl_r (sem_field fd34_1 rfl rfl) ?_
      refine dl_r (sem_load1 ty2 rfl rfl rfl rfl) ?_
      refine dl_r (sem_move rfl rfl) ?_
      refine dl_r (sem_ari (r := y + r) rfl rfl (ari_i64_add (by omega) (by omega)) rfl) ?_
      refine dl_r (sem_slit_D (n := 4) (us := [.i .i64 (x - r)] ++ [.i .i64 (x + r)] ++ [.i .i64 (y - r)] ++ [.i .i64 (y + r)]) el95 rfl rfl rfl (by decide) (by decide) rfl) ?_
      refine dl_r (sem_call rfl rfl (tGrid4) rfl) ?_
      refine dl_r (sem_pick rfl rfl rfl rfl) ?_
      refine dl_r (sem_assign rfl rfl) ?_
      refine dl_end ?_
      refine dw_ret ?_
      -- path tt
      unfold rnd
      rw [hb1, hb2]
      exact ⟨.inr rfl, (resL_tmp rfl resL_nil)⟩
theorem rOut_ok {x y r : Int} : Ok Tryz.prog 35 [.a ([.i .i64 x] ++ [.i .i64 y]), .c (.i .i64 r)] [.c (.b (outb x y r))] := by
  refine Ok.of (by kernel_rfl) Tryz.func35 rfl rfl ?_
  rw [show Tryz.f35.ntmps = 43 from rfl, show Tryz.f35.results.toList = [.tmp 4] from rfl]
  refine dw_seq ?_
  -- region 0
  refine dw_region (by kernel_rfl) ?_
  refine dl_new (sem_box_a rfl rfl) rfl ?_
  refine dl_r (sem_assign rfl rfl) ?_
  refine dl_end ?_
  refine dw_seq ?_
  refine dw_seq ?_
  -- region 1
  refine dw_region (by kernel_rfl) ?_
  refine dl_r (sem_field fd34_0 rfl rfl) ?_
  refine dl_r (sem_load1 ty2 rfl rfl rfl rfl) ?_
  refine dl_r (sem_call rfl rfl (rFar_ok) rfl) ?_
  refine dl_rb (sem_move rfl rfl) (fun c1 hb1 => ?_)
  cases c1
  · refine dl_r (sem_field fd34_1 rfl rfl) ?_
    refine dl_r (sem_load1 ty2 rfl rfl rfl rfl) ?_
    refine dl_r (sem_call rfl rfl (rFar_ok) rfl) ?_
    refine dl_r (sem_pick rfl rfl rfl rfl) ?_
    refine dl_rb (sem_move rfl rfl) (fun c2 hb2 => ?_)
    cases c2
    · refine dl_r (sem_move rfl rfl) ?_
      refine dl_r (sem_call rfl rfl (rFar_ok) rfl) ?_
      refine dl_r (sem_pick rfl rfl rfl rfl) ?_
      refine dl_end ?_
      refine dw_cond rfl (fun hc3 => ?_) (fun hc3 => ?_)
      · refine dw_seq ?_
        -- region 2
        refine dw_region (by kernel_rfl) ?_
        refine dl_r (sem_assign rfl rfl) ?_
        refine dl_end ?_
        refine dw_ret ?_
        -- path ffT
        rw [show outb x y r = true from by unfold outb; simp [hb1, hb2, hc3]]
        exact ⟨.inr rfl, (resL_tmp rfl resL_nil)⟩
      · have g1 := far_n hb1
        have g2 := far_n hb2
        have g3 := far_n hc3
        refine dw_skip ?_
        refine dw_seq ?_
        -- region 3
        refine dw_region (by kernel_rfl) ?_
        refine dl_r (sem_field fd34_0 rfl rfl) ?_
        refine dl_r (sem_load1 ty2 rfl rfl rfl rfl) ?_
        refine dl_r (sem_move rfl rfl) ?_
        refine dl_r (sem_ari (r := x + r) rfl rfl (ari_i64_add (by omega) (by omega)) rfl) ?_
        refine dl_r (sem_call rfl rfl (rFar_ok) rfl) ?_
        refine dl_rb (sem_move rfl rfl) (fun c4 hb4 => ?_)
        cases c4
        · refine dl_r (sem_field fd34_0 rfl rfl) ?_
          refine dl_r (sem_load1 ty2 rfl rfl rfl rfl) ?_
          refine dl_r (sem_move rfl rfl) ?_
          refine dl_r (sem_ari (r := x - r) rfl rfl (ari_i64_sub (by omega) (by omega)) rfl) ?_
          refine dl_r (sem_call rfl rfl (rFar_ok) rfl) ?_
          refine dl_r (sem_pick rfl rfl rfl rfl) ?_
          refine dl_rb (sem_move rfl rfl) (fun c5 hb5 => ?_)
          cases c5
          · refine dl_r (sem_field fd34_1 rfl rfl) ?_
            refine dl_r (sem_load1 ty2 rfl rfl rfl rfl) ?_
            refine dl_r (sem_move rfl rfl) ?_
            refine dl_r (sem_ari (r := y + r) rfl rfl (ari_i64_add (by omega) (by omega)) rfl) ?_
            refine dl_r (sem_call rfl rfl (rFar_ok) rfl) ?_
            refine dl_r (sem_pick rfl rfl rfl rfl) ?_
            refine dl_rb (sem_move rfl rfl) (fun c6 hb6 => ?_)
            cases c6
            · refine dl_r (sem_field fd34_1 rfl rfl) ?_
              refine dl_r (sem_load1 ty2 rfl rfl rfl rfl) ?_
              refine dl_r (sem_move rfl rfl) ?_
              refine dl_r (sem_ari (r := y - r) rfl rfl (ari_i64_sub (by omega) (by omega)) rfl) ?_
              refine dl_r (sem_call rfl rfl (rFar_ok) rfl) ?_
              refine dl_r (sem_pick rfl rfl rfl rfl) ?_
              refine dl_r (sem_assign rfl rfl) ?_
              refine dl_end ?_
              refine dw_ret ?_
              -- path ffFfff
              rw [show outb x y r = far (y - r) from by unfold outb; simp [hb1, hb2, hc3, hb4, hb5, hb6]]
              exact ⟨.inr rfl, (resL_tmp rfl resL_nil)⟩
            · refine dl_skip (sem_skip rfl) ?_
              refine dl_skip (sem_skip rfl) ?_
              refine dl_skip (sem_skip rfl) ?_
              refine dl_skip (sem_skip rfl) ?_
              refine dl_skip (sem_skip rfl) ?_
              refine dl_r (sem_pick rfl rfl rfl rfl) ?_
              refine dl_r (sem_assign rfl rfl) ?_
              refine dl_end ?_
              refine dw_ret ?_
              -- path ffFfft
              rw [show outb x y r = true from by unfold outb; simp [hb1, hb2, hc3, hb4, hb5, hb6]]
              exact ⟨.inr rfl, (resL_tmp rfl resL_nil)⟩
          · refine dl_skip (sem_skip rfl) ?_
            refine dl_skip (sem_skip rfl) ?_
            refine dl_skip (sem_skip rfl) ?_
            refine dl_skip (sem_skip rfl) ?_
            refine dl_skip (sem_skip rfl) ?_
            refine dl_r (sem_pick rfl rfl rfl rfl) ?_
            refine dl_r (sem_move rfl rfl) ?_
            refine dl_skip (sem_skip rfl) ?_
            refine dl_skip (sem_skip rfl) ?_
            refine dl_skip (sem_skip rfl) ?_
            refine dl_skip (sem_skip rfl) ?_
            refine dl_skip (sem_skip rfl) ?_
            refine dl_r (sem_pick rfl rfl rfl rfl) ?_
            refine dl_r (sem_assign rfl rfl) ?_
            refine dl_end ?_
            refine dw_ret ?_
            -- path ffFft
            rw [show outb x y r = true from by unfold outb; simp [hb1, hb2, hc3, hb4, hb5]]
            exact ⟨.inr rfl, (resL_tmp rfl resL_nil)⟩
        · refine dl_skip (sem_skip rfl) ?_
          refine dl_skip (sem_skip rfl) ?_
          refine dl_skip (sem_skip rfl) ?_
          refine dl_skip (sem_skip rfl) ?_
          refine dl_skip (sem_skip rfl) ?_
          refine dl_r (sem_pick rfl rfl rfl rfl) ?_
          refine dl_r (sem_move rfl rfl) ?_
          refine dl_skip (sem_skip rfl) ?_
          refine dl_skip (sem_skip rfl) ?_
          refine dl_skip (sem_skip rfl) ?_
          refine dl_skip (sem_skip rfl) ?_
          refine dl_skip (sem_skip rfl) ?_
          refine dl_r (sem_pick rfl rfl rfl rfl) ?_
          refine dl_r (sem_move rfl rfl) ?_
          refine dl_skip (sem_skip rfl) ?_
          refine dl_skip (sem_skip rfl) ?_
          refine dl_skip (sem_skip rfl) ?_
          refine dl_skip (sem_skip rfl) ?_
          refine dl_skip (sem_skip rfl) ?_
          refine dl_r (sem_pick rfl rfl rfl rfl) ?_
          refine dl_r (sem_assign rfl rfl) ?_
          refine dl_end ?_
          refine dw_ret ?_
          -- path ffFt
          rw [show outb x y r = true from by unfold outb; simp [hb1, hb2, hc3, hb4]]
          exact ⟨.inr rfl, (resL_tmp rfl resL_nil)⟩
    · refine dl_skip (sem_skip rfl) ?_
      refine dl_skip (sem_skip rfl) ?_
      refine dl_r (sem_pick rfl rfl rfl rfl) ?_
      refine dl_end ?_
      refine dw_true rfl ?_
      refine dw_seq ?_
      -- region 2
      refine dw_region (by kernel_rfl) ?_
      refine dl_r (sem_assign rfl rfl) ?_
      refine dl_end ?_
      refine dw_ret ?_
      -- path ft
      rw [show outb x y r = true from by unfold outb; simp [hb1, hb2]]
      exact ⟨.inr rfl, (resL_tmp rfl resL_nil)⟩
  · refine dl_skip (sem_skip rfl) ?_
    refine dl_skip (sem_skip rfl) ?_
    refine dl_skip (sem_skip rfl) ?_
    refine dl_r (sem_pick rfl rfl rfl rfl) ?_
    refine dl_r (sem_move rfl rfl) ?_
    refine dl_skip (sem_skip rfl) ?_
    refine dl_skip (sem_skip rfl) ?_
    refine dl_r (sem_pick rfl rfl rfl rfl) ?_
    refine dl_end ?_
    refine dw_true rfl ?_
    refine dw_seq ?_
    -- region 2
    refine dw_region (by kernel_rfl) ?_
    refine dl_r (sem_assign rfl rfl) ?_
    refine dl_end ?_
    refine dw_ret ?_
    -- path t
    rw [show outb x y r = true from by unfold outb; simp [hb1]]
    exact ⟨.inr rfl, (resL_tmp rfl resL_nil)⟩
end Go.Proofs.YtonjlikaacengaaGreat
