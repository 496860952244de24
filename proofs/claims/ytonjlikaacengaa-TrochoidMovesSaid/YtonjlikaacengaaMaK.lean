/- Data: function values that hold pointers, and pointers to memory that stays. -/
import Derived.Test.YtonjlikaacengaaMaJ
namespace Go.Proofs.Ytonjlikaacengaa
open Go Go.RowKit
theorem RdC.clo_eq {V : Nat → Prop} {w : World} {v : Value} {g : FuncId} {xs : List CellD} (h : RdC V w v (.k g xs)) : ∃ cs : Array Value, v = .func (.func g) #[] cs ∧ RdCs V w cs.toList xs := by
  cases h with
  | k _ cs _ h1 h2 => exact ⟨cs, rfl, by simpa using h1, fun j v u hv hu => h2 j v u (by simpa using hv) hu⟩
theorem RdC.ptr_eq {V : Nat → Prop} {w : World} {v : Value} {us : List CellD} (h : RdC V w v (.p us)) :
    ∃ b off, ∃ vs : List Value, v = .pointer (some ⟨b, off, none⟩) ∧ b < w.heap.size ∧ ¬ V b ∧ RdCs V w vs us ∧ ∀ (j : Nat) (u : Value), vs[j]? = some u → w.cell? ⟨b, off + j, none⟩ = some u := by
  cases h with
  | p b off _ cv h1 h2 h3 h4 =>
    refine ⟨b, off, (List.range us.length).map cv, rfl, h1, h2, ⟨by simp, fun j v u hv hu => ?_⟩, fun j u hu => ?_⟩
    · rw [List.getElem?_map] at hv
      have hlt : j < us.length := (List.getElem?_eq_some_iff.1 hu).1
      rw [List.getElem?_range hlt] at hv
      injection hv with hv; subst hv
      exact h4 j u hu
    · have hlt : j < us.length := by
        have := (List.getElem?_eq_some_iff.1 hu).1; simpa using this
      rw [List.getElem?_map, List.getElem?_range hlt] at hu
      injection hu with hu; subst hu
      exact h3 j hlt
section
variable {P : Program} {ops : Array Oper} {T : TF} {B : BF}
theorem sem_loadP {dst : Option Nat} {U : TypeId} {x : Operand} {ty : TypeId} {pos : String} {af : Array Edge} {g : Option (Nat × Bool)} {n : Nat} {cs us : List CellD}
    (hU : tyB P U = some (true, n)) (hx : opd T x = some (.v (.c (.p cs)))) (hu : cs.take n = us) (hn : us.length = n) (hg : gd ops ⟨dst, .load U x, ty, pos, af, g⟩ T = some true) :
    Sem P ops ⟨dst, .load U x, ty, pos, af, g⟩ T B (.r (.v (.a us))) :=
  sem_pure hg (nop rfl) (fun V β a w hs => by
    obtain ⟨b, off, vs, hp, _, _, hr, hc⟩ := RdC.ptr_eq (opd_reads hs (by simp [Op.operands]) hx)
    have hr2 := hr.take n
    rw [hu] at hr2
    have hrun := run_loadVar_agg (w := w) hU (b := b) (off := off) (vs := vs.take n) (by rw [hr2.1, hn]) (fun j v hv => by
      rw [List.getElem?_take] at hv
      split at hv
      · exact hc j v hv
      · cases hv)
    refine ⟨_, ?_, _, rfl, by simpa using hr2⟩
    simp only [execOp, Instr.loadAt, hp, Instr.sureAddr, Sem.run_bind, Sem.run_pure, Result.andThen_ok, hrun])
theorem sem_loadP1 {dst : Option Nat} {U : TypeId} {x : Operand} {ty : TypeId} {pos : String} {af : Array Edge} {g : Option (Nat × Bool)} {n : Nat} {cs : List CellD} {u : CellD}
    (hU : tyB P U = some (false, n)) (hx : opd T x = some (.v (.c (.p cs)))) (hu : cs[0]? = some u) (hg : gd ops ⟨dst, .load U x, ty, pos, af, g⟩ T = some true) :
    Sem P ops ⟨dst, .load U x, ty, pos, af, g⟩ T B (.r (.v (.c u))) :=
  sem_pure hg (nop rfl) (fun V β a w hs => by
    obtain ⟨b, off, vs, hp, _, _, hr, hc⟩ := RdC.ptr_eq (opd_reads hs (by simp [Op.operands]) hx)
    have hlt : 0 < cs.length := (List.getElem?_eq_some_iff.1 hu).1
    have hv : vs[0]? = some (vs[0]'(by rw [hr.1]; exact hlt)) := List.getElem?_eq_getElem _
    have hrun := run_loadVar_one (P := P) (w := w) hU (b := b) (off := off) (by have := hc 0 _ hv; simpa using this)
    refine ⟨_, ?_, hr.2 0 _ _ hv hu⟩
    simp only [execOp, Instr.loadAt, hp, Instr.sureAddr, Sem.run_bind, Sem.run_pure, Result.andThen_ok, hrun])

theorem sem_shrC {dst : Option Nat} {xt yt : TypeId} {x y : Operand} {ty : TypeId} {pos : String} {af : Array Edge} {g : Option (Nat × Bool)} {k yk : IntKind} {m n r : Int}
    (hx : opd T x = some (.v (.c (.i k m)))) (hy : opd T y = some (.v (.c (.i yk n)))) (h0 : ¬ n < 0) (hr : m.fdiv (2 ^ (min n.toNat k.bits)) = r) (hg : gd ops ⟨dst, .binOp .shr xt x y yt, ty, pos, af, g⟩ T = some true) :
    Sem P ops ⟨dst, .binOp .shr xt x y yt, ty, pos, af, g⟩ T B (.r (.v (.c (.i k r)))) :=
  sem_pure hg (nop rfl) (fun V β a w hs => by
      have e1 : a.eval x = .int k m := RdC.int_eq (opd_reads hs (x := x) (by simp [Op.operands]) hx)
      have e2 : a.eval y = .int yk n := RdC.int_eq (opd_reads hs (x := y) (by simp [Op.operands]) hy)
      subst hr
      exact ⟨.int k (m.fdiv (2 ^ (min n.toNat k.bits))), by simp [execOp, e1, e2, eqGuard, binOp, Op.shift, h0], .i _ _⟩)
/-- The operands read as cells. -/
def argsC (T : TF) : List Operand → Option (List CellD)
  | [] => some []
  | x :: xs => match opd T x, argsC T xs with
    | some (.v (.c u)), some us => some (u :: us)
    | _, _ => none
theorem argsC_reads {o : Oper} {V : Nat → Prop} {β : Nat → Nat} {a : Act} {w : World} (hs : Sees V (Looks ops o) T B β a w) : ∀ (xs : List Operand) (us : List CellD), (∀ x ∈ xs, x ∈ o.op.operands) → argsC T xs = some us → RdCs V w (xs.map a.eval) us
  | [], us, _, h => by injection h with h; subst h; exact RdCs.nil
  | x :: xs, us, hx, h => by
    unfold argsC at h
    split at h
    · rename_i u us' hu hus
      injection h with h
      subst h
      exact RdCs.cons (opd_reads hs (hx x (by simp)) hu) (argsC_reads hs xs us' (fun y hy => hx y (by simp [hy])) hus)
    · cases h
/-- A function value. -/
theorem sem_mkfn {dst : Option Nat} {f : FuncId} {cap : Array Operand} {ty : TypeId} {pos : String} {af : Array Edge} {g : Option (Nat × Bool)} {us : List CellD}
    (ha : argsC T cap.toList = some us) (hg : gd ops ⟨dst, .makeFunc (.func f) #[] cap, ty, pos, af, g⟩ T = some true) :
    Sem P ops ⟨dst, .makeFunc (.func f) #[] cap, ty, pos, af, g⟩ T B (.r (.v (.c (.k f us)))) :=
  sem_pure hg (nop rfl) (fun V β a w hs => by
    have h2 := argsC_reads hs cap.toList us (fun x hx => by have hx2 := Array.mem_toList_iff.1 hx; simp [Op.operands, hx2]) ha
    refine ⟨.func (.func f) #[] (cap.map a.eval), by simp [execOp, Instr.makeFunc], .k f _ us (by have := h2.1; simpa using this) (fun j v u hv hu => h2.2 j v u ?_ hu)⟩
    rw [← Array.toList_map, Array.getElem?_toList]; exact hv)
theorem RdL.append {V : Nat → Prop} {w : World} : ∀ {vs vs' : List Value} {ds ds' : List D0}, RdL V w vs ds → RdL V w vs' ds' → RdL V w (vs ++ vs') (ds ++ ds')
  | [], vs', [], ds', _, h' => h'
  | [], _, _ :: _, _, h, _ => by have := h.1; simp at this
  | _ :: _, _, [], _, h, _ => by have := h.1; simp at this
  | v :: vs, vs', d :: ds, ds', h, h' => by
    obtain ⟨h1, h2⟩ := h.uncons
    exact RdL.cons h1 (RdL.append h2 h')
theorem RdCs.toL {V : Nat → Prop} {w : World} {vs : List Value} {us : List CellD} (h : RdCs V w vs us) : RdL V w vs (us.map .c) := by
  refine ⟨by simp [h.1], fun j v d hv hd => ?_⟩
  rw [List.getElem?_map] at hd
  cases hu : us[j]? with
  | none => rw [hu] at hd; cases hd
  | some u => rw [hu] at hd; injection hd with hd; subst hd; exact h.2 j v u hv hu
/-- A call of a function value that holds something. -/
theorem sem_callk {dst : Option Nat} {fo : Operand} {args : Array Operand} {at_ : Array TypeId} {ty : TypeId} {pos : String} {af : Array Edge} {g : Option (Nat × Bool)} {f : FuncId} {ds rs : List D0} {us : List CellD}
    (hf : opd T fo = some (.v (.c (.k f us)))) (ha : argsD T args.toList = some ds) (hok : Ok P f (ds ++ us.map .c) rs) (hg : gd ops ⟨dst, .call ⟨.value fo, args, at_⟩, ty, pos, af, g⟩ T = some true) :
    Sem P ops ⟨dst, .call ⟨.value fo, args, at_⟩, ty, pos, af, g⟩ T B (.r (resD rs)) := by
  refine ⟨nop (by unfold resD; split <;> rfl), fun V β a w hs => ⟨gd_want hs hg, ?_⟩⟩
  obtain ⟨cs, h1, h1r⟩ := RdC.clo_eq (opd_reads hs (x := fo) (by simp [Op.operands, Call.operands]) hf)
  have h2 := argsD_reads hs args.toList ds (fun x hx => by have hx2 := Array.mem_toList_iff.1 hx; simp [Op.operands, Call.operands, hx2]) ha
  have hc := hok.cal
  unfold callable at hc
  cases hfn : P.funcs[f]? with
  | none => rw [hfn] at hc; cases hc
  | some fn =>
    rw [hfn] at hc
    simp only [Bool.and_eq_true, bne_iff_ne, ne_eq, Bool.not_eq_true'] at hc
    have hrun : (execOp a.eval ⟨dst, .call ⟨.value fo, args, at_⟩, ty, pos, af, g⟩).run P w = .ok (.enter f (args.map a.eval ++ cs)) w := by
      have hb2 : fn.body ≠ none := by have := hc.2; cases hbb : fn.body with
        | none => rw [hbb] at this; cases this
        | some c => simp
      simp [execOp, resolve, h1, Deferred.ofValue, invoke, callFunc, program, Sem.run, hfn, hc.1, hb2]
    unfold Gives
    rw [hrun]
    refine (hok.run V (args.map a.eval ++ cs) w hs.av (by rw [Array.toList_append, Array.toList_map]; exact h2.append h1r.toL)).mono ?_
    rintro e w' ⟨v, rfl, hr, hb⟩
    refine ⟨v, rfl, ?_, hb⟩
    unfold RdR at hr
    split at hr
    · exact hr
    · rename_i hne
      have e2 : resD rs = .t rs := by
        unfold resD
        split
        · rename_i d; exact absurd rfl (hne d)
        · rfl
      rw [e2]; exact hr
end
section
variable {P : Program} {σ : St} {Q : Exit → St → Prop}
/-- A box that no one will write any more: its pointer is a datum. -/
theorem dw_freeze {c : Code} {N t k : Nat} {tm : List (Nat × DV)} {bx : List (Nat × TypeId × List CellD)} {U : TypeId} {cs : List CellD}
    (ht : look t tm = some (.p k 0)) (hb : look k bx = some (U, cs))
    (h : Dw P c ⟨N, (t, .v (.c (.p cs))) :: killL k tm, dropL k bx⟩ Q) : Dw P c ⟨N, tm, bx⟩ Q := fun av w0 β a w hr => by
  obtain ⟨v, hv, hx⟩ := hr.sees.tmp t _ trivial ht
  have hx : v = .pointer (some ⟨β k, 0, none⟩) := hx
  subst hx
  obtain ⟨hvk, vs, ev, hrd⟩ := hr.sees.box k U cs hb
  have hk0 : (St.B ⟨N, tm, bx⟩) k ≠ none := by rw [show (St.B ⟨N, tm, bx⟩) k = some (U, cs) from hb]; simp
  have e := drop_av hr hk0
  have hkeep : Keep (fun b => av b ∨ ∃ l, (St.B ⟨N, tm, bx⟩) l ≠ none ∧ β l = b) (fun b => (av b ∨ ∃ l, (St.B ⟨N, tm, bx⟩) l ≠ none ∧ β l = b) ∧ b ≠ β k) w w := ⟨Nat.le_refl _, fun _ _ _ => rfl, fun _ _ h => h.1⟩
  have hread : RdC (fun b => (av b ∨ ∃ l, (St.B ⟨N, tm, bx⟩) l ≠ none ∧ β l = b) ∧ b ≠ β k) w (.pointer (some ⟨β k, 0, none⟩)) (.p cs) := by
    have hr2 := hrd.keep hkeep
    refine .p (β k) 0 cs (fun j => vs.getD j undef) (hr.sees.av _ hvk) (fun h => h.2 rfl) (fun j hj => ?_) (fun j u hj => ?_)
    · rw [Nat.zero_add, cells_of_box ev]
      have : j < vs.size := by have := hrd.1; simp at this; omega
      simp [Array.getD, this]
    · have hlt : j < cs.length := (List.getElem?_eq_some_iff.1 hj).1
      refine hr2.2 j _ u ?_ hj
      rw [Array.getElem?_toList]
      have : j < vs.size := by have := hrd.1; simp at this; omega
      simp [Array.getD, this]
  have h2 := (hr.drop k).upd (t := t) (x := .v (.c (.p cs))) hv (by rw [e]; exact hread) rfl
  refine h av w0 β a w (h2.congr (fun s => ?_) (fun l => ?_))
  · show look s ((t, .v (.c (.p cs))) :: killL k tm) = _
    rw [look_cons]
    split
    · rfl
    · rw [killL_look]
      show _ = killF k (fun s => look s tm) s
      unfold killF
      try (dsimp only)
      try (generalize look s tm = q; cases q <;> rfl)
  · exact dropL_look k l bx
end
end Go.Proofs.Ytonjlikaacengaa
/- Plain: the cosine of half the engagement beside a disc; it falls with the distance. -/
namespace Go.Proofs.Ytonjlikaacengaa
open Go Go.RowKit
theorem rcast1 {P : Program} {f : FuncId} {ds : List D0} {x x' : Rat} (h : Ok P f ds [dR x]) (e : x = x') : Ok P f ds [dR x'] := by subst e; exact h
theorem cmpR_le {x y : Rat} : cmpR x y ≤ 0 ↔ x ≤ y := by
  unfold cmpR
  split
  · rename_i h; exact ⟨fun _ => by grind, fun _ => by omega⟩
  · split
    · rename_i h; exact ⟨fun h2 => by omega, fun h2 => by grind⟩
    · rename_i h1 h2; exact ⟨fun _ => by grind, fun _ => by omega⟩
theorem cmpR_ge {x y : Rat} : cmpR x y ≥ 0 ↔ y ≤ x := by
  unfold cmpR
  split
  · rename_i h; exact ⟨fun _ => by omega, fun _ => by grind⟩
  · split
    · rename_i h; exact ⟨fun h2 => by grind, fun h2 => by omega⟩
    · rename_i h1 h2; exact ⟨fun _ => by grind, fun _ => by omega⟩
/-- A number that is a cosine. -/
def cosB (c : Rat) : Bool := decide (c ≤ 1) && decide (-1 ≤ c)
theorem cosB_t {c : Rat} (h : decide (cmpR c ((1 : Int) : Rat) ≤ 0) = true) : cosB c = decide (cmpR (-c) ((1 : Int) : Rat) ≤ 0) := by
  have h1 := cmpR_le.1 (of_decide_eq_true h)
  unfold cosB
  rw [decide_eq_true (show c ≤ 1 from h1), Bool.true_and]
  apply decide_eq_decide.2
  rw [cmpR_le]
  constructor <;> intro h <;> grind
theorem cosB_f {c : Rat} (h : decide (cmpR c ((1 : Int) : Rat) ≤ 0) = false) : cosB c = false := by
  have h1 := mt cmpR_le.2 (of_decide_eq_false h)
  unfold cosB
  rw [decide_eq_false (show ¬ c ≤ 1 from h1), Bool.false_and]
theorem cosB_t2 {c : Rat} (h : decide (cmpR c ((1 : Int) : Rat) ≤ 0) = true) : cosB c = decide (cmpR c (-((1 : Int) : Rat)) ≥ 0) := by
  have h1 := cmpR_le.1 (of_decide_eq_true h)
  unfold cosB
  rw [decide_eq_true (show c ≤ 1 from h1), Bool.true_and]
  apply decide_eq_decide.2
  rw [cmpR_ge]
  constructor <;> intro h <;> grind
/-- The cosine: cleared radius R, tool r, distance e. -/
def hfQ (R r e : Rat) : Rat := (R * R - e * e - r * r) / (((2 : Int) : Rat) * (e * r))
/-- For a circle a, a tool t, a step s. -/
def cq (a t s : Int) : Rat := hfQ (((a + t : Int)) : Rat) ((t : Int) : Rat) (((a + s : Int)) : Rat)
def alw (a t s : Int) (c : Rat) : Bool := decide (cmpR (cq a t s) 0 ≥ 0) && decide (cmpR (cq a t s * cq a t s + cq a t s * cq a t s - ((1 : Int) : Rat)) c ≥ 0)
theorem rpos {n : Int} (h : 1 ≤ n) : 0 < (n : Rat) := by
  have := Rat.intCast_lt_intCast.2 (show 0 < n by omega)
  exact this
theorem et_pos {a t s : Int} (ha : 1 ≤ a) (ht : 1 ≤ t) (hs : 0 ≤ s) : 0 < (((a + s : Int)) : Rat) * ((t : Int) : Rat) := Rat.mul_pos (rpos (by omega)) (rpos ht)
theorem cq_eq {a t s : Int} (ha : 1 ≤ a) (ht : 1 ≤ t) (hs : 0 ≤ s) : cq a t s * (((2 : Int) : Rat) * ((((a + s : Int)) : Rat) * ((t : Int) : Rat))) = (((a + t) * (a + t) - (a + s) * (a + s) - t * t : Int) : Rat) := by
  have h := et_pos ha ht hs
  unfold cq hfQ
  rw [Rat.div_mul_cancel (by have : (0 : Rat) < ((2 : Int) : Rat) * ((((a + s : Int)) : Rat) * ((t : Int) : Rat)) := Rat.mul_pos (by decide) h; grind)]
  simp only [Rat.intCast_sub, Rat.intCast_mul]
theorem cq_lt {a t s : Int} (ha : 1 ≤ a) (ht : 1 ≤ t) (hs : 1 ≤ s) : cq a t s < 1 := by
  have h := cq_eq ha ht (show 0 ≤ s by omega)
  have hp : (0 : Rat) < ((2 : Int) : Rat) * ((((a + s : Int)) : Rat) * ((t : Int) : Rat)) := Rat.mul_pos (by decide) (et_pos ha ht (by omega))
  apply Classical.byContradiction
  intro hn
  have h1 : (1 : Rat) ≤ cq a t s := by grind
  have h2 := Rat.mul_le_mul_of_nonneg_right h1 (show 0 ≤ ((2 : Int) : Rat) * ((((a + s : Int)) : Rat) * ((t : Int) : Rat)) by grind)
  rw [h, Rat.one_mul] at h2
  have h3 : (((2 * ((a + s) * t) : Int)) : Rat) ≤ (((a + t) * (a + t) - (a + s) * (a + s) - t * t : Int) : Rat) := by
    rw [Rat.intCast_mul, Rat.intCast_mul]; exact h2
  have h4 := Rat.intCast_le_intCast.1 h3
  have h5 : (a + t) * (a + t) ≤ (a + s + t) * (a + t) := Int.mul_le_mul_of_nonneg_right (by omega) (by omega)
  have h6 : (a + s + t) * (a + t) < (a + s + t) * (a + s + t) := Int.mul_lt_mul_of_pos_left (by omega) (by omega)
  grind
/-- A greater step: a greater engagement. -/
theorem cq_mono {a t s u : Int} (ha : 1 ≤ a) (ht : 1 ≤ t) (hs : 0 ≤ s) (hu : s ≤ u) (h0 : 0 ≤ cq a t u) : cq a t u ≤ cq a t s := by
  have e1 := cq_eq ha ht hs
  have e2 := cq_eq ha ht (show 0 ≤ u by omega)
  have p1 := et_pos ha ht hs
  have p2 := et_pos ha ht (show 0 ≤ u by omega)
  apply Classical.byContradiction
  intro hn
  have hlt : cq a t s < cq a t u := by grind
  have q1 : (0 : Rat) < ((2 : Int) : Rat) * ((((a + s : Int)) : Rat) * ((t : Int) : Rat)) := Rat.mul_pos (by decide) p1
  have h1 := Rat.mul_lt_mul_of_pos_right hlt q1
  have hle : ((2 : Int) : Rat) * ((((a + s : Int)) : Rat) * ((t : Int) : Rat)) ≤ ((2 : Int) : Rat) * ((((a + u : Int)) : Rat) * ((t : Int) : Rat)) := by
    have h3 : (2 * ((a + s) * t)) ≤ 2 * ((a + u) * t) := by
      have := Int.mul_le_mul_of_nonneg_right (show a + s ≤ a + u by omega) (show 0 ≤ t by omega)
      omega
    have h4 := Rat.intCast_le_intCast.2 h3
    rw [Rat.intCast_mul, Rat.intCast_mul, Rat.intCast_mul, Rat.intCast_mul] at h4
    exact h4
  have h2 := Rat.mul_le_mul_of_nonneg_left hle h0
  rw [e2] at h2
  rw [e1] at h1
  have h5 : (((a + t) * (a + t) - (a + s) * (a + s) - t * t : Int) : Rat) < (((a + t) * (a + t) - (a + u) * (a + u) - t * t : Int) : Rat) := by grind
  have h6 := Rat.intCast_lt_intCast.1 h5
  have h7 : (a + s) * (a + s) ≤ (a + u) * (a + u) := Int.mul_le_mul (by omega) (by omega) (by omega) (by omega)
  omega
theorem alw_iff {a t s : Int} {c : Rat} : alw a t s c = true ↔ 0 ≤ cq a t s ∧ c ≤ cq a t s * cq a t s + cq a t s * cq a t s - 1 := by
  unfold alw
  rw [Bool.and_eq_true, decide_eq_true_eq, decide_eq_true_eq, cmpR_ge, cmpR_ge]
  exact Iff.rfl
theorem alw_mono {a t s u : Int} {c : Rat} (ha : 1 ≤ a) (ht : 1 ≤ t) (hs : 0 ≤ s) (hu : s ≤ u) (h : alw a t u c = true) : alw a t s c = true := by
  rw [alw_iff] at *
  have h1 := cq_mono ha ht hs hu h.1
  have h2 : cq a t u * cq a t u ≤ cq a t s * cq a t s := by
    have g1 := Rat.mul_le_mul_of_nonneg_left h1 h.1
    have g2 := Rat.mul_le_mul_of_nonneg_right h1 (show 0 ≤ cq a t s by grind)
    grind
  exact ⟨by grind, by grind⟩
theorem no_full {a t s : Int} (ha : 1 ≤ a) (ht : 1 ≤ t) (hs : 1 ≤ s) (h : decide (cmpR (cq a t s) ((1 : Int) : Rat) ≥ 0) = true) : False := by
  have h1 := cmpR_ge.1 (of_decide_eq_true h)
  have h2 := cq_lt ha ht hs
  have h3 : (1 : Rat) ≤ cq a t s := h1
  grind
theorem alw_t {a t s : Int} {c : Rat} (h : decide (cmpR (cq a t s) 0 ≥ 0) = true) : alw a t s c = decide (cmpR (cq a t s * cq a t s + cq a t s * cq a t s - ((1 : Int) : Rat)) c ≥ 0) := by unfold alw; rw [h, Bool.true_and]
theorem alw_f {a t s : Int} {c : Rat} (h : decide (cmpR (cq a t s) 0 ≥ 0) = false) : alw a t s c = false := by unfold alw; rw [h, Bool.false_and]
theorem not_lt_le (i r : Int) : (!decide (i < r)) = decide (r ≤ i) := by rw [← decide_not]; exact decide_eq_decide.2 (by omega)
theorem shr_half {m : Int} : m.fdiv (2 ^ (min (1 : Int).toNat IntKind.u64.bits)) = m / 2 := by
  show m.fdiv 2 = m / 2
  exact Int.fdiv_eq_ediv_of_nonneg _ (by decide)
theorem Rz.num {n : Int} (h0 : -9223372036854775808 ≤ n) (h1 : n ≤ 9223372036854775807) : Rz 3 (n : Rat) := Rz.int (Sz.small (by decide) h0 h1) (by decide)
theorem cq_sz {a t s : Int} (ha : 1 ≤ a) (ht : 1 ≤ t) (hs : 1 ≤ s) (ha2 : a ≤ 10000000) (ht2 : t ≤ 10000000) (hs2 : s ≤ 10000001) : Rz 40 (cq a t s) := by
  have r1 : Rz 3 (((a + t : Int)) : Rat) := Rz.num (by omega) (by omega)
  have r2 : Rz 3 (((a + s : Int)) : Rat) := Rz.num (by omega) (by omega)
  have r3 : Rz 3 ((t : Int) : Rat) := Rz.num (by omega) (by omega)
  have r4 : Rz 3 ((2 : Int) : Rat) := Rz.num (by omega) (by omega)
  have hp : (0 : Rat) < ((2 : Int) : Rat) * ((((a + s : Int)) : Rat) * ((t : Int) : Rat)) := Rat.mul_pos (by decide) (et_pos ha ht (by omega))
  exact ((((r1.mul r1).sub (r2.mul r2)).sub (r3.mul r3)).div (r4.mul (r2.mul r3)) (by grind)).mono (by decide)
/-- A test that fails from some place on. -/
theorem first_fail (φ : Int → Bool) (hm : ∀ i j, 0 ≤ i → i ≤ j → φ j = true → φ i = true) : ∀ n : Nat, ∃ r : Int, 0 ≤ r ∧ r ≤ n ∧ ∀ i : Int, 0 ≤ i → i < n → φ i = decide (i < r)
  | 0 => ⟨0, by omega, by omega, fun i h1 h2 => by omega⟩
  | n + 1 => by
    obtain ⟨r, h1, h2, h3⟩ := first_fail φ hm n
    by_cases h : φ n = true
    · refine ⟨n + 1, by omega, by omega, fun i g1 g2 => ?_⟩
      rw [decide_eq_true (by omega)]
      exact hm i n g1 (by omega) h
    · refine ⟨r, h1, by omega, fun i g1 g2 => ?_⟩
      by_cases hi : i = n
      · subst hi
        rw [decide_eq_false (by omega)]
        simpa using h
      · exact h3 i g1 (by omega)
theorem step_ex {a t : Int} (c : Rat) (ha : 1 ≤ a) (ht : 1 ≤ t) : ∃ r : Int, 0 ≤ r ∧ r ≤ t + 1 ∧ ∀ i : Int, 0 ≤ i → i < t + 1 → alw a t (i + 1) c = decide (i < r) := by
  obtain ⟨r, h1, h2, h3⟩ := first_fail (fun i => alw a t (i + 1) c) (fun i j g1 g2 h => alw_mono ha ht (by omega) (by omega) h) (t + 1).toNat
  exact ⟨r, h1, by omega, fun i g1 g2 => h3 i g1 (by omega)⟩
end Go.Proofs.Ytonjlikaacengaa
/- Package integer: GCD. -/
namespace Go.Proofs.Ytonjlikaacengaa
open Go Go.RowKit
theorem iGCD_ok {x y : Int} (hx : Sz 1000000 x) (hy : Sz 1000000 y) : Ok Try.prog 82 [dI x, dI y] [dI (Int.gcd x y : Int)] := by
  refine Ok.of (by kernel_rfl) Try.func82 rfl rfl ?_
  rw [show Try.f82.ntmps = 61 from rfl, show Try.f82.results.toList = [.cell 4 47] from rfl]
  refine dw_seq ?_
  -- region 0
  refine dw_region (by kernel_rfl) ?_
  refine dl_new (sem_box_a rfl rfl) rfl ?_
  refine dl_new (sem_box_a rfl rfl) rfl ?_
  refine dl_new (sem_alloc zc47 rfl) rfl ?_
  refine dl_end ?_
  refine dw_seq ?_
  -- region 1
  refine dw_draw 8 [] follows_mixed (by kernel_rfl) rfl rfl ?_
  refine dq_r (sem_field fd47_1 rfl rfl) ?_
  refine dq_r (sem_load1 ty45 rfl rfl rfl rfl) ?_
  refine dq_r (sem_call rfl rfl (iSigned_cL) rfl) ?_
  refine dq_r (sem_field fd47_1 rfl rfl) ?_
  refine dq_r (sem_load1 ty45 rfl rfl rfl rfl) ?_
  refine dq_r (sem_call rfl rfl (iSigned_cL) rfl) ?_
  refine dq_new (sem_alloc zc47 rfl) rfl ?_
  refine dq_new (sem_alloc zc47 rfl) rfl ?_
  refine dq_end ?_
  refine dl_start2 ?_
  refine dl_st (sem_store_a ty47 rfl rfl rfl rfl rfl rfl) ?_
  refine dl_st (sem_store_a ty47 rfl rfl rfl rfl rfl rfl) ?_
  refine dl_end ?_
  refine dw_seq ?_
  refine dw_block ?_
  refine dw_loop (ι := {p : Int × Int // GInv x y p.1 p.2}) (fun i => ⟨61, [(4, .p 4 0), (5, .p 5 0), (6, .p 6 0)], [(4, 47, ([.b false] ++ [.s 0 []])), (5, 47, cI i.1.1), (6, 47, cI i.1.2)]⟩) (fun i => i.1.2.toNat) ⟨(sg false (x.natAbs : Int), sg false (y.natAbs : Int)), GInv.start hx hy⟩ (sub_of ⟨rfl, rfl, rfl, trivial⟩ ⟨rfl, rfl, rfl, trivial⟩ rfl) ?_
  rintro ⟨⟨a, c⟩, hg⟩
  replace hg : GInv x y a c := hg
  have ha := hg.sa
  have hcc := hg.sc
  show Dw _ _ ⟨61, [(4, .p 4 0), (5, .p 5 0), (6, .p 6 0)], [(4, 47, ([.b false] ++ [.s 0 []])), (5, 47, cI a), (6, 47, cI c)]⟩ _
  refine dw_seq ?_
  refine dw_seq ?_
  -- region 2
  refine dw_region (by kernel_rfl) ?_
  refine dl_r (sem_field fd47_1 rfl rfl) ?_
  refine dl_r (sem_load1 ty45 rfl rfl rfl rfl) ?_
  refine dl_r (sem_len sl45 rfl rfl) ?_
  refine dl_r (sem_cmp rfl rfl rfl rfl) ?_
  refine dl_end ?_
  refine dw_cond rfl (fun hc1 => ?_) (fun hc1 => ?_)
  · have hne := lenL_pos hc1
    refine dw_skip ?_
    refine dw_block ?_
    refine dw_seq ?_
    -- region 3
    refine dw_region (by kernel_rfl) ?_
    refine dl_r (sem_load (us := cI a) ty47 rfl rfl rfl rfl rfl) ?_
    refine dl_r (sem_call rfl rfl (iWord_ok) rfl) ?_
    refine dl_r (sem_move rfl rfl) ?_
    refine dl_r (sem_extract rfl rfl rfl) ?_
    refine dl_r (sem_extract rfl rfl rfl) ?_
    refine dl_r (sem_assign rfl rfl) ?_
    refine dl_r (sem_assign rfl rfl) ?_
    refine dl_end ?_
    refine dw_seq ?_
    -- region 4
    refine dw_region (by kernel_rfl) ?_
    refine dl_r (sem_load (us := cI c) ty47 rfl rfl rfl rfl rfl) ?_
    refine dl_r (sem_call rfl rfl (iWord_ok) rfl) ?_
    refine dl_r (sem_move rfl rfl) ?_
    refine dl_r (sem_extract rfl rfl rfl) ?_
    refine dl_r (sem_extract rfl rfl rfl) ?_
    refine dl_r (sem_assign rfl rfl) ?_
    refine dl_r (sem_assign rfl rfl) ?_
    refine dl_end ?_
    refine dw_seq ?_
    refine dw_seq ?_
    -- region 5
    refine dw_region (by kernel_rfl) ?_
    refine dl_r (sem_move rfl rfl) ?_
    refine dl_rb (sem_move rfl rfl) (fun c2 hb2 => ?_)
    cases c2
    · refine dl_skip (sem_skip rfl) ?_
      refine dl_r (sem_pick rfl rfl rfl rfl) ?_
      refine dl_end ?_
      refine dw_false rfl ?_
      refine dw_skip ?_
      refine dw_seq ?_
      -- region 9
      refine dw_region (by kernel_rfl) ?_
      refine dl_r (sem_field fd47_1 rfl rfl) ?_
      refine dl_r (sem_load1 ty45 rfl rfl rfl rfl) ?_
      refine dl_r (sem_field fd47_1 rfl rfl) ?_
      refine dl_r (sem_load1 ty45 rfl rfl rfl rfl) ?_
      refine dl_r (sem_call rfl rfl (iDivide_ok (by assumption) (by assumption) (by assumption)) rfl) ?_
      refine dl_r (sem_move rfl rfl) ?_
      refine dl_r (sem_extract rfl rfl rfl) ?_
      refine dl_r (sem_extract rfl rfl rfl) ?_
      refine dl_r (sem_assign rfl rfl) ?_
      refine dl_r (sem_assign rfl rfl) ?_
      refine dl_end ?_
      -- region 10
      refine dw_draw 3 [] follows_mixed (by kernel_rfl) rfl rfl ?_
      refine dq_r (sem_load (us := cI c) ty47 rfl rfl rfl rfl rfl) ?_
      refine dq_r (sem_move rfl rfl) ?_
      refine dq_r (sem_call rfl rfl (iSigned_ok) rfl) ?_
      refine dq_end ?_
      refine dl_start0 ?_
      refine dl_st (sem_store_a ty47 rfl rfl rfl rfl rfl rfl) ?_
      refine dl_st (sem_store_a ty47 rfl rfl rfl rfl rfl rfl) ?_
      refine dl_end ?_
      exact ⟨⟨(c, sg false ((a.natAbs : Int) % c.natAbs)), hg.step hne⟩, sub_of ⟨rfl, rfl, rfl, trivial⟩ ⟨rfl, rfl, rfl, trivial⟩ rfl, hg.less hne⟩
    · refine dl_r (sem_move rfl rfl) ?_
      refine dl_r (sem_pick rfl rfl rfl rfl) ?_
      refine dl_end ?_
      refine dw_cond rfl (fun hc3 => ?_) (fun hc3 => ?_)
      · refine dw_seq ?_
        refine dw_block ?_
        refine dw_loop (ι := {p : Int × Int // GInv2 x y p.1 p.2}) (fun i => ⟨61, [(4, .p 4 0), (7, .v (.c (.i .u64 i.1.1))), (9, .v (.c (.i .u64 i.1.2)))], [(4, 47, ([.b false] ++ [.s 0 []]))]⟩) (fun i => i.1.2.toNat) ⟨(if a.natAbs < 1000000000000000000 then (a.natAbs : Int) else 0, if c.natAbs < 1000000000000000000 then (c.natAbs : Int) else 0), hg.word hb2 hc3⟩ (sub_of ⟨rfl, rfl, rfl, trivial⟩ ⟨rfl, trivial⟩ rfl) ?_
        rintro ⟨⟨u, v⟩, hw⟩
        replace hw : GInv2 x y u v := hw
        show Dw _ _ ⟨61, [(4, .p 4 0), (7, .v (.c (.i .u64 u))), (9, .v (.c (.i .u64 v)))], [(4, 47, ([.b false] ++ [.s 0 []]))]⟩ _
        refine dw_seq ?_
        refine dw_seq ?_
        -- region 6
        refine dw_region (by kernel_rfl) ?_
        refine dl_r (sem_move rfl rfl) ?_
        refine dl_r (sem_cmp rfl rfl rfl rfl) ?_
        refine dl_end ?_
        refine dw_cond rfl (fun hc4 => ?_) (fun hc4 => ?_)
        · have hv : v > 0 := by simpa using hc4
          refine dw_skip ?_
          refine dw_block ?_
          -- region 7
          refine dw_draw 6 [] follows_mixed (by kernel_rfl) rfl rfl ?_
          refine dq_r (sem_move rfl rfl) ?_
          refine dq_r (sem_move rfl rfl) ?_
          refine dq_r (sem_move rfl rfl) ?_
          refine dq_r (sem_rem rfl rfl (by omega) rfl) ?_
          refine dq_r (sem_assign rfl rfl) ?_
          refine dq_r (sem_assign rfl rfl) ?_
          refine dq_end ?_
          refine dl_start0 ?_
          refine dl_end ?_
          exact ⟨⟨(v, u.tmod v), hw.step hv⟩, sub_of ⟨rfl, rfl, rfl, trivial⟩ ⟨rfl, trivial⟩ rfl, hw.less hv⟩
        · refine dw_exit ?_
          refine dw_seq ?_
          -- region 8
          refine dw_region (by kernel_rfl) ?_
          refine dl_r (sem_move rfl rfl) ?_
          refine dl_r (sem_call rfl rfl (iSplit_ok hw.u0 hw.u1) rfl) ?_
          refine dl_r (sem_call rfl rfl (iSigned_ok) rfl) ?_
          refine dl_st (sem_store_a ty47 rfl rfl rfl rfl rfl rfl) ?_
          refine dl_end ?_
          refine dw_ret ?_
          -- path TtTF
          rw [hw.done (by simpa using hc4)]
          exact ⟨.inr rfl, (resL_cell (us := cI (sg false u)) ty47 rfl rfl rfl rfl resL_nil)⟩
      · refine dw_skip ?_
        refine dw_seq ?_
        -- region 9
        refine dw_region (by kernel_rfl) ?_
        refine dl_r (sem_field fd47_1 rfl rfl) ?_
        refine dl_r (sem_load1 ty45 rfl rfl rfl rfl) ?_
        refine dl_r (sem_field fd47_1 rfl rfl) ?_
        refine dl_r (sem_load1 ty45 rfl rfl rfl rfl) ?_
        refine dl_r (sem_call rfl rfl (iDivide_ok (by assumption) (by assumption) (by assumption)) rfl) ?_
        refine dl_r (sem_move rfl rfl) ?_
        refine dl_r (sem_extract rfl rfl rfl) ?_
        refine dl_r (sem_extract rfl rfl rfl) ?_
        refine dl_r (sem_assign rfl rfl) ?_
        refine dl_r (sem_assign rfl rfl) ?_
        refine dl_end ?_
        -- region 10
        refine dw_draw 3 [] follows_mixed (by kernel_rfl) rfl rfl ?_
        refine dq_r (sem_load (us := cI c) ty47 rfl rfl rfl rfl rfl) ?_
        refine dq_r (sem_move rfl rfl) ?_
        refine dq_r (sem_call rfl rfl (iSigned_ok) rfl) ?_
        refine dq_end ?_
        refine dl_start0 ?_
        refine dl_st (sem_store_a ty47 rfl rfl rfl rfl rfl rfl) ?_
        refine dl_st (sem_store_a ty47 rfl rfl rfl rfl rfl rfl) ?_
        refine dl_end ?_
        exact ⟨⟨(c, sg false ((a.natAbs : Int) % c.natAbs)), hg.step hne⟩, sub_of ⟨rfl, rfl, rfl, trivial⟩ ⟨rfl, rfl, rfl, trivial⟩ rfl, hg.less hne⟩
  · refine dw_exit ?_
    refine dw_seq ?_
    -- region 11
    refine dw_region (by kernel_rfl) ?_
    refine dl_r (sem_field fd47_1 rfl rfl) ?_
    refine dl_r (sem_load1 ty45 rfl rfl rfl rfl) ?_
    refine dl_r (sem_copy rfl (by assumption) rfl) ?_
    refine dl_r (sem_call rfl rfl (iSigned_cL) rfl) ?_
    refine dl_st (sem_store_a ty47 rfl rfl rfl rfl rfl rfl) ?_
    refine dl_end ?_
    refine dw_ret ?_
    -- path F
    rw [hg.done (lenL_zero hc1)]
    exact ⟨.inr rfl, (resL_cell (us := cI (sg false (a.natAbs : Int))) ty47 rfl rfl rfl rfl resL_nil)⟩
end Go.Proofs.Ytonjlikaacengaa
/- Package rational: the small functions. -/
namespace Go.Proofs.Ytonjlikaacengaa
open Go Go.RowKit
theorem unit_ok  : Ok Try.prog 63 [] [dI 1] := by
  refine Ok.of (by kernel_rfl) Try.func63 rfl rfl ?_
  rw [show Try.f63.ntmps = 2 from rfl, show Try.f63.results.toList = [.cell 0 47] from rfl]
  refine dw_seq ?_
  -- region 0
  refine dw_region (by kernel_rfl) ?_
  refine dl_new (sem_alloc zc47 rfl) rfl ?_
  refine dl_end ?_
  refine dw_seq ?_
  -- region 1
  refine dw_region (by kernel_rfl) ?_
  refine dl_r (sem_call rfl rfl (iFrom_ok (by omega) (by omega)) rfl) ?_
  refine dl_st (sem_store_a ty47 rfl rfl rfl rfl rfl rfl) ?_
  refine dl_end ?_
  refine dw_ret ?_
  -- path 
  exact ⟨.inr rfl, (resL_cell (us := cI 1) ty47 rfl rfl rfl rfl resL_nil)⟩
theorem rSign_ok {x : Rat} : Ok Try.prog 53 [dR x] [.c (.i .i64 (cmpI x.num 0))] := by
  refine Ok.of (by kernel_rfl) Try.func53 rfl rfl ?_
  rw [show Try.f53.ntmps = 6 from rfl, show Try.f53.results.toList = [.tmp 2] from rfl]
  refine dw_seq ?_
  -- region 0
  refine dw_region (by kernel_rfl) ?_
  refine dl_new (sem_box_a rfl rfl) rfl ?_
  refine dl_r (sem_assign rfl rfl) ?_
  refine dl_end ?_
  refine dw_seq ?_
  -- region 1
  refine dw_region (by kernel_rfl) ?_
  refine dl_r (sem_field fd49_0 rfl rfl) ?_
  refine dl_r (sem_load (us := cI x.num) ty47 rfl rfl rfl rfl rfl) ?_
  refine dl_r (sem_call rfl rfl (iSign_ok) rfl) ?_
  refine dl_r (sem_assign rfl rfl) ?_
  refine dl_end ?_
  refine dw_ret ?_
  -- path 
  exact ⟨.inr rfl, (resL_tmp rfl resL_nil)⟩
theorem isNaN_ok {m : Int} : Ok Try.prog 66 [.c (.i .i64 m)] [.c (.b false)] := by
  refine Ok.of (by kernel_rfl) Try.func66 rfl rfl ?_
  rw [show Try.f66.ntmps = 6 from rfl, show Try.f66.results.toList = [.tmp 2] from rfl]
  refine dw_seq ?_
  -- region 0
  refine dw_region (by kernel_rfl) ?_
  refine dl_r (sem_assign rfl rfl) ?_
  refine dl_end ?_
  refine dw_seq ?_
  -- region 1
  refine dw_region (by kernel_rfl) ?_
  refine dl_r (sem_move rfl rfl) ?_
  refine dl_r (sem_move rfl rfl) ?_
  refine dl_r (sem_cmp rfl rfl rfl rfl) ?_
  refine dl_r (sem_assign rfl rfl) ?_
  refine dl_end ?_
  refine dw_ret ?_
  -- path 
  exact ⟨.inr rfl, by simpa using (resL_tmp rfl resL_nil)⟩
end Go.Proofs.Ytonjlikaacengaa
/- cmp.Compare at int. -/
namespace Go.Proofs.Ytonjlikaacengaa
open Go Go.RowKit
theorem cmpInt_ok {m n : Int} : Ok Try.prog 52 [.c (.i .i64 m), .c (.i .i64 n)] [.c (.i .i64 (cmpI m n))] := by
  refine Ok.of (by kernel_rfl) Try.func52 rfl rfl ?_
  rw [show Try.f52.ntmps = 20 from rfl, show Try.f52.results.toList = [.tmp 4] from rfl]
  refine dw_seq ?_
  -- region 0
  refine dw_region (by kernel_rfl) ?_
  refine dl_r (sem_assign rfl rfl) ?_
  refine dl_end ?_
  refine dw_seq ?_
  -- region 1
  refine dw_region (by kernel_rfl) ?_
  refine dl_r (sem_move rfl rfl) ?_
  refine dl_r (sem_call rfl rfl (isNaN_ok) rfl) ?_
  refine dl_r (sem_assign rfl rfl) ?_
  refine dl_end ?_
  refine dw_seq ?_
  -- region 2
  refine dw_region (by kernel_rfl) ?_
  refine dl_r (sem_move rfl rfl) ?_
  refine dl_r (sem_call rfl rfl (isNaN_ok) rfl) ?_
  refine dl_r (sem_assign rfl rfl) ?_
  refine dl_end ?_
  refine dw_seq ?_
  refine dw_seq ?_
  -- region 3
  refine dw_region (by kernel_rfl) ?_
  refine dl_r (sem_move rfl rfl) ?_
  refine dl_end ?_
  refine dw_false rfl ?_
  refine dw_skip ?_
  refine dw_seq ?_
  refine dw_seq ?_
  -- region 7
  refine dw_region (by kernel_rfl) ?_
  refine dl_r (sem_move rfl rfl) ?_
  refine dl_end ?_
  refine dw_false rfl ?_
  refine dw_skip ?_
  refine dw_seq ?_
  refine dw_seq ?_
  -- region 9
  refine dw_region (by kernel_rfl) ?_
  refine dl_r (sem_move rfl rfl) ?_
  refine dl_r (sem_move rfl rfl) ?_
  refine dl_r (sem_cmp rfl rfl rfl rfl) ?_
  refine dl_end ?_
  refine dw_cond rfl (fun hc1 => ?_) (fun hc1 => ?_)
  · refine dw_seq ?_
    -- region 10
    refine dw_region (by kernel_rfl) ?_
    refine dl_r (sem_assign rfl rfl) ?_
    refine dl_end ?_
    refine dw_ret ?_
    -- path T
    rw [cmp_lt (by simpa using hc1)]
    exact ⟨.inr rfl, (resL_tmp rfl resL_nil)⟩
  · refine dw_skip ?_
    refine dw_seq ?_
    refine dw_seq ?_
    -- region 11
    refine dw_region (by kernel_rfl) ?_
    refine dl_r (sem_move rfl rfl) ?_
    refine dl_r (sem_move rfl rfl) ?_
    refine dl_r (sem_cmp rfl rfl rfl rfl) ?_
    refine dl_end ?_
    refine dw_cond rfl (fun hc2 => ?_) (fun hc2 => ?_)
    · refine dw_seq ?_
      -- region 12
      refine dw_region (by kernel_rfl) ?_
      refine dl_r (sem_assign rfl rfl) ?_
      refine dl_end ?_
      refine dw_ret ?_
      -- path FT
      rw [cmp_gt (by simpa using hc2)]
      exact ⟨.inr rfl, (resL_tmp rfl resL_nil)⟩
    · refine dw_skip ?_
      refine dw_seq ?_
      -- region 13
      refine dw_region (by kernel_rfl) ?_
      refine dl_r (sem_assign rfl rfl) ?_
      refine dl_end ?_
      refine dw_ret ?_
      -- path FF
      rw [cmp_eq (by have := hc1; have h2 := hc2; simp at this h2; omega)]
      exact ⟨.inr rfl, (resL_tmp rfl resL_nil)⟩
end Go.Proofs.Ytonjlikaacengaa
/- Package rational. -/
namespace Go.Proofs.Ytonjlikaacengaa
open Go Go.RowKit
theorem pUnit_ok  : Ok Try.prog 63 [] [dI 1] := by
  refine Ok.of (by kernel_rfl) Try.func63 rfl rfl ?_
  rw [show Try.f63.ntmps = 2 from rfl, show Try.f63.results.toList = [.cell 0 47] from rfl]
  refine dw_seq ?_
  -- region 0
  refine dw_region (by kernel_rfl) ?_
  refine dl_new (sem_alloc zc47 rfl) rfl ?_
  refine dl_end ?_
  refine dw_seq ?_
  -- region 1
  refine dw_region (by kernel_rfl) ?_
  refine dl_r (sem_call rfl rfl (iFrom_ok (by omega) (by omega)) rfl) ?_
  refine dl_st (sem_store_a ty47 rfl rfl rfl rfl rfl rfl) ?_
  refine dl_end ?_
  refine dw_ret ?_
  -- path 
  exact ⟨.inr rfl, (resL_cell (us := cI 1) ty47 rfl rfl rfl rfl resL_nil)⟩
theorem pSign_ok {x : Rat} : Ok Try.prog 53 [dR x] [.c (.i .i64 (cmpR x 0))] := by
  refine Ok.of (by kernel_rfl) Try.func53 rfl rfl ?_
  rw [show Try.f53.ntmps = 6 from rfl, show Try.f53.results.toList = [.tmp 2] from rfl]
  refine dw_seq ?_
  -- region 0
  refine dw_region (by kernel_rfl) ?_
  refine dl_new (sem_box_a rfl rfl) rfl ?_
  refine dl_r (sem_assign rfl rfl) ?_
  refine dl_end ?_
  refine dw_seq ?_
  -- region 1
  refine dw_region (by kernel_rfl) ?_
  refine dl_r (sem_field fd49_0 rfl rfl) ?_
  refine dl_r (sem_load (us := cI x.num) ty47 rfl rfl rfl rfl rfl) ?_
  refine dl_r (sem_call rfl rfl (iSign_ok) rfl) ?_
  refine dl_r (sem_assign rfl rfl) ?_
  refine dl_end ?_
  refine dw_ret ?_
  -- path 
  rw [← cmpR_num]
  exact ⟨.inr rfl, (resL_tmp rfl resL_nil)⟩
theorem pWhole_ok {n : Int} : Ok Try.prog 50 [dI n] [dR (n : Rat)] := by
  refine Ok.of (by kernel_rfl) Try.func50 rfl rfl ?_
  rw [show Try.f50.ntmps = 6 from rfl, show Try.f50.results.toList = [.cell 2 49] from rfl]
  refine dw_seq ?_
  -- region 0
  refine dw_region (by kernel_rfl) ?_
  refine dl_new (sem_box_a rfl rfl) rfl ?_
  refine dl_new (sem_alloc zc49 rfl) rfl ?_
  refine dl_end ?_
  refine dw_seq ?_
  -- region 1
  refine dw_draw 3 [] follows_mixed (by kernel_rfl) rfl rfl ?_
  refine dq_r (sem_load (us := cI n) ty47 rfl rfl rfl rfl rfl) ?_
  refine dq_r (sem_call rfl rfl (unit_ok) rfl) ?_
  refine dq_r (sem_build (us := cQ n 1) fs49 zc49 rfl rfl rfl) ?_
  refine dq_end ?_
  refine dl_start0 ?_
  refine dl_st (sem_store_a ty49 rfl rfl rfl rfl rfl rfl) ?_
  refine dl_end ?_
  refine dw_ret ?_
  -- path 
  rw [dR_int]
  exact ⟨.inr rfl, (resL_cell (us := cQ n 1) ty49 rfl rfl rfl rfl resL_nil)⟩
theorem pFrom_ok {n : Int} (h0 : -9223372036854775808 ≤ n) (h1 : n ≤ 9223372036854775807) : Ok Try.prog 43 [.c (.i .i64 n)] [dR (n : Rat)] := by
  refine Ok.of (by kernel_rfl) Try.func43 rfl rfl ?_
  rw [show Try.f43.ntmps = 6 from rfl, show Try.f43.results.toList = [.cell 2 49] from rfl]
  refine dw_seq ?_
  -- region 0
  refine dw_region (by kernel_rfl) ?_
  refine dl_new (sem_alloc zc49 rfl) rfl ?_
  refine dl_end ?_
  refine dw_seq ?_
  -- region 1
  refine dw_region (by kernel_rfl) ?_
  refine dl_r (sem_move rfl rfl) ?_
  refine dl_r (sem_call rfl rfl (iFrom_ok (by omega) (by omega)) rfl) ?_
  refine dl_r (sem_call rfl rfl (pWhole_ok) rfl) ?_
  refine dl_st (sem_store_a ty49 rfl rfl rfl rfl rfl rfl) ?_
  refine dl_end ?_
  refine dw_ret ?_
  -- path 
  exact ⟨.inr rfl, (resL_cell (us := cR (n : Rat)) ty49 rfl rfl rfl rfl resL_nil)⟩
theorem pExact_ok {x y : Int} (hx : Sz 1000000 x) (hy : Sz 1000000 y) (h0 : y ≠ 0) : Ok Try.prog 83 [dI x, dI y] [dI (x.fdiv y)] := by
  refine Ok.of (by kernel_rfl) Try.func83 rfl rfl ?_
  rw [show Try.f83.ntmps = 16 from rfl, show Try.f83.results.toList = [.cell 4 47] from rfl]
  refine dw_seq ?_
  -- region 0
  refine dw_region (by kernel_rfl) ?_
  refine dl_new (sem_box_a rfl rfl) rfl ?_
  refine dl_new (sem_box_a rfl rfl) rfl ?_
  refine dl_new (sem_alloc zc47 rfl) rfl ?_
  refine dl_end ?_
  refine dw_seq ?_
  -- region 1
  refine dw_region (by kernel_rfl) ?_
  refine dl_r (sem_load (us := cI x) ty47 rfl rfl rfl rfl rfl) ?_
  refine dl_r (sem_load (us := cI y) ty47 rfl rfl rfl rfl rfl) ?_
  refine dl_r (sem_call rfl rfl (iDivMod_ok (by first | assumption | exact Sz.mono hx (by decide)) (by first | assumption | exact Sz.mono hy (by decide)) (by assumption)) rfl) ?_
  refine dl_r (sem_move rfl rfl) ?_
  refine dl_r (sem_extract rfl rfl rfl) ?_
  refine dl_r (sem_extract rfl rfl rfl) ?_
  refine dl_r (sem_extract rfl rfl rfl) ?_
  refine dl_new (sem_alloc zc47 rfl) rfl ?_
  refine dl_new (sem_alloc zc47 rfl) rfl ?_
  refine dl_st (sem_store_a ty47 rfl rfl rfl rfl rfl rfl) ?_
  refine dl_st (sem_store_a ty47 rfl rfl rfl rfl rfl rfl) ?_
  refine dl_r (sem_assign rfl rfl) ?_
  refine dl_end ?_
  refine dw_seq ?_
  -- region 2
  refine dw_region (by kernel_rfl) ?_
  refine dl_r (sem_load (us := cI (x.fdiv y)) ty47 rfl rfl rfl rfl rfl) ?_
  refine dl_st (sem_store_a ty47 rfl rfl rfl rfl rfl rfl) ?_
  refine dl_end ?_
  refine dw_ret ?_
  -- path 
  exact ⟨.inr rfl, (resL_cell (us := cI (x.fdiv y)) ty47 rfl rfl rfl rfl resL_nil)⟩
theorem pReduce_ok {x y : Int} (hx : Sz 999 x) (hy : Sz 999 y) (h0 : y ≠ 0) : Ok Try.prog 80 [dI x, dI y] [dR (Rat.divInt x y)] := by
  have hg := gcd_ne (n := x) h0
  have hg2 := gcd_ne (n := -x) (d := -y) (by omega)
  have hgs := Sz.gcd (x := x) hy h0
  have hgs2 := Sz.gcd (x := -x) hy.neg (by omega)
  refine Ok.of (by kernel_rfl) Try.func80 rfl rfl ?_
  rw [show Try.f80.ntmps = 29 from rfl, show Try.f80.results.toList = [.cell 4 49] from rfl]
  refine dw_seq ?_
  -- region 0
  refine dw_region (by kernel_rfl) ?_
  refine dl_new (sem_box_a rfl rfl) rfl ?_
  refine dl_new (sem_box_a rfl rfl) rfl ?_
  refine dl_new (sem_alloc zc49 rfl) rfl ?_
  refine dl_end ?_
  refine dw_seq ?_
  refine dw_seq ?_
  -- region 1
  refine dw_region (by kernel_rfl) ?_
  refine dl_r (sem_load (us := cI y) ty47 rfl rfl rfl rfl rfl) ?_
  refine dl_r (sem_call rfl rfl (iSign_ok) rfl) ?_
  refine dl_r (sem_cmp rfl rfl rfl rfl) ?_
  refine dl_end ?_
  refine dw_cond rfl (fun hc1 => ?_) (fun hc1 => ?_)
  · have hn := t_lt hc1
    -- region 2
    refine dw_draw 4 [] follows_mixed (by kernel_rfl) rfl rfl ?_
    refine dq_r (sem_load (us := cI x) ty47 rfl rfl rfl rfl rfl) ?_
    refine dq_r (sem_call rfl rfl (iNeg_ok (by first | assumption | exact Sz.mono hx (by decide))) rfl) ?_
    refine dq_r (sem_load (us := cI y) ty47 rfl rfl rfl rfl rfl) ?_
    refine dq_r (sem_call rfl rfl (iNeg_ok (by first | assumption | exact Sz.mono hy (by decide))) rfl) ?_
    refine dq_end ?_
    refine dl_start0 ?_
    refine dl_st (sem_store_a ty47 rfl rfl rfl rfl rfl rfl) ?_
    refine dl_st (sem_store_a ty47 rfl rfl rfl rfl rfl rfl) ?_
    refine dl_end ?_
    refine dw_seq ?_
    refine dw_seq ?_
    -- region 3
    refine dw_region (by kernel_rfl) ?_
    refine dl_r (sem_load (us := cI (-x)) ty47 rfl rfl rfl rfl rfl) ?_
    refine dl_r (sem_load (us := cI (-y)) ty47 rfl rfl rfl rfl rfl) ?_
    refine dl_r (sem_call rfl rfl (iGCD_ok (by first | assumption | exact Sz.mono (Sz.neg hx) (by decide)) (by first | assumption | exact Sz.mono (Sz.neg hy) (by decide))) rfl) ?_
    refine dl_new (sem_alloc zc47 rfl) rfl ?_
    refine dl_st (sem_store_a ty47 rfl rfl rfl rfl rfl rfl) ?_
    refine dl_end ?_
    refine dw_seq ?_
    -- region 4
    refine dw_draw 4 [] follows_mixed (by kernel_rfl) rfl rfl ?_
    refine dq_r (sem_load (us := cI ((Int.gcd (-x) (-y) : Int))) ty47 rfl rfl rfl rfl rfl) ?_
    refine dq_r (sem_call rfl rfl (unit_ok) rfl) ?_
    refine dq_r (sem_call rfl rfl (iCmp_ok) rfl) ?_
    refine dq_r (sem_cmp rfl rfl rfl rfl) ?_
    refine dq_end ?_
    refine dl_start0 ?_
    refine dl_end ?_
    refine dw_cond rfl (fun hc2 => ?_) (fun hc2 => ?_)
    · -- region 5
      refine dw_draw 6 [] follows_mixed (by kernel_rfl) rfl rfl ?_
      refine dq_r (sem_load (us := cI (-x)) ty47 rfl rfl rfl rfl rfl) ?_
      refine dq_r (sem_load (us := cI ((Int.gcd (-x) (-y) : Int))) ty47 rfl rfl rfl rfl rfl) ?_
      refine dq_r (sem_call rfl rfl (pExact_ok (by first | assumption | exact Sz.mono (Sz.neg hx) (by decide)) (by first | assumption | exact Sz.mono (by assumption) (by decide)) (by first | assumption | exact neg_ne (by assumption) | exact mul_ne (by assumption) (by assumption))) rfl) ?_
      refine dq_r (sem_load (us := cI (-y)) ty47 rfl rfl rfl rfl rfl) ?_
      refine dq_r (sem_load (us := cI ((Int.gcd (-x) (-y) : Int))) ty47 rfl rfl rfl rfl rfl) ?_
      refine dq_r (sem_call rfl rfl (pExact_ok (by first | assumption | exact Sz.mono (Sz.neg hy) (by decide)) (by first | assumption | exact Sz.mono (by assumption) (by decide)) (by first | assumption | exact neg_ne (by assumption) | exact mul_ne (by assumption) (by assumption))) rfl) ?_
      refine dq_end ?_
      refine dl_start0 ?_
      refine dl_st (sem_store_a ty47 rfl rfl rfl rfl rfl rfl) ?_
      refine dl_st (sem_store_a ty47 rfl rfl rfl rfl rfl rfl) ?_
      refine dl_end ?_
      refine dw_seq ?_
      -- region 6
      refine dw_region (by kernel_rfl) ?_
      refine dl_r (sem_load (us := cI ((-x).fdiv ((Int.gcd (-x) (-y) : Int)))) ty47 rfl rfl rfl rfl rfl) ?_
      refine dl_r (sem_load (us := cI ((-y).fdiv ((Int.gcd (-x) (-y) : Int)))) ty47 rfl rfl rfl rfl rfl) ?_
      refine dl_r (sem_build (us := cQ ((-x).fdiv ((Int.gcd (-x) (-y) : Int))) ((-y).fdiv ((Int.gcd (-x) (-y) : Int)))) fs49 zc49 rfl rfl rfl) ?_
      refine dl_st (sem_store_a ty49 rfl rfl rfl rfl rfl rfl) ?_
      refine dl_end ?_
      refine dw_ret ?_
      -- path TT
      rw [dR_neg, dR_red (by omega)]
      exact ⟨.inr rfl, (resL_cell (us := cQ ((-x).fdiv ((Int.gcd (-x) (-y) : Int))) ((-y).fdiv ((Int.gcd (-x) (-y) : Int)))) ty49 rfl rfl rfl rfl resL_nil)⟩
    · refine dw_skip ?_
      refine dw_seq ?_
      -- region 6
      refine dw_region (by kernel_rfl) ?_
      refine dl_r (sem_load (us := cI (-x)) ty47 rfl rfl rfl rfl rfl) ?_
      refine dl_r (sem_load (us := cI (-y)) ty47 rfl rfl rfl rfl rfl) ?_
      refine dl_r (sem_build (us := cQ (-x) (-y)) fs49 zc49 rfl rfl rfl) ?_
      refine dl_st (sem_store_a ty49 rfl rfl rfl rfl rfl rfl) ?_
      refine dl_end ?_
      refine dw_ret ?_
      -- path TF
      rw [dR_neg, dR_red1 (by omega) (f_ne hc2)]
      exact ⟨.inr rfl, (resL_cell (us := cQ (-x) (-y)) ty49 rfl rfl rfl rfl resL_nil)⟩
  · have hn := f_lt hc1
    refine dw_skip ?_
    refine dw_seq ?_
    refine dw_seq ?_
    -- region 3
    refine dw_region (by kernel_rfl) ?_
    refine dl_r (sem_load (us := cI x) ty47 rfl rfl rfl rfl rfl) ?_
    refine dl_r (sem_load (us := cI y) ty47 rfl rfl rfl rfl rfl) ?_
    refine dl_r (sem_call rfl rfl (iGCD_ok (by first | assumption | exact Sz.mono hx (by decide)) (by first | assumption | exact Sz.mono hy (by decide))) rfl) ?_
    refine dl_new (sem_alloc zc47 rfl) rfl ?_
    refine dl_st (sem_store_a ty47 rfl rfl rfl rfl rfl rfl) ?_
    refine dl_end ?_
    refine dw_seq ?_
    -- region 4
    refine dw_draw 4 [] follows_mixed (by kernel_rfl) rfl rfl ?_
    refine dq_r (sem_load (us := cI (Int.gcd x y : Int)) ty47 rfl rfl rfl rfl rfl) ?_
    refine dq_r (sem_call rfl rfl (unit_ok) rfl) ?_
    refine dq_r (sem_call rfl rfl (iCmp_ok) rfl) ?_
    refine dq_r (sem_cmp rfl rfl rfl rfl) ?_
    refine dq_end ?_
    refine dl_start0 ?_
    refine dl_end ?_
    refine dw_cond rfl (fun hc3 => ?_) (fun hc3 => ?_)
    · -- region 5
      refine dw_draw 6 [] follows_mixed (by kernel_rfl) rfl rfl ?_
      refine dq_r (sem_load (us := cI x) ty47 rfl rfl rfl rfl rfl) ?_
      refine dq_r (sem_load (us := cI (Int.gcd x y : Int)) ty47 rfl rfl rfl rfl rfl) ?_
      refine dq_r (sem_call rfl rfl (pExact_ok (by first | assumption | exact Sz.mono hx (by decide)) (by first | assumption | exact Sz.mono (by assumption) (by decide)) (by first | assumption | exact neg_ne (by assumption) | exact mul_ne (by assumption) (by assumption))) rfl) ?_
      refine dq_r (sem_load (us := cI y) ty47 rfl rfl rfl rfl rfl) ?_
      refine dq_r (sem_load (us := cI (Int.gcd x y : Int)) ty47 rfl rfl rfl rfl rfl) ?_
      refine dq_r (sem_call rfl rfl (pExact_ok (by first | assumption | exact Sz.mono hy (by decide)) (by first | assumption | exact Sz.mono (by assumption) (by decide)) (by first | assumption | exact neg_ne (by assumption) | exact mul_ne (by assumption) (by assumption))) rfl) ?_
      refine dq_end ?_
      refine dl_start0 ?_
      refine dl_st (sem_store_a ty47 rfl rfl rfl rfl rfl rfl) ?_
      refine dl_st (sem_store_a ty47 rfl rfl rfl rfl rfl rfl) ?_
      refine dl_end ?_
      refine dw_seq ?_
      -- region 6
      refine dw_region (by kernel_rfl) ?_
      refine dl_r (sem_load (us := cI (x.fdiv (Int.gcd x y : Int))) ty47 rfl rfl rfl rfl rfl) ?_
      refine dl_r (sem_load (us := cI (y.fdiv (Int.gcd x y : Int))) ty47 rfl rfl rfl rfl rfl) ?_
      refine dl_r (sem_build (us := cQ (x.fdiv (Int.gcd x y : Int)) (y.fdiv (Int.gcd x y : Int))) fs49 zc49 rfl rfl rfl) ?_
      refine dl_st (sem_store_a ty49 rfl rfl rfl rfl rfl rfl) ?_
      refine dl_end ?_
      refine dw_ret ?_
      -- path FT
      rw [dR_red (by omega)]
      exact ⟨.inr rfl, (resL_cell (us := cQ (x.fdiv (Int.gcd x y : Int)) (y.fdiv (Int.gcd x y : Int))) ty49 rfl rfl rfl rfl resL_nil)⟩
    · refine dw_skip ?_
      refine dw_seq ?_
      -- region 6
      refine dw_region (by kernel_rfl) ?_
      refine dl_r (sem_load (us := cI x) ty47 rfl rfl rfl rfl rfl) ?_
      refine dl_r (sem_load (us := cI y) ty47 rfl rfl rfl rfl rfl) ?_
      refine dl_r (sem_build (us := cQ x y) fs49 zc49 rfl rfl rfl) ?_
      refine dl_st (sem_store_a ty49 rfl rfl rfl rfl rfl rfl) ?_
      refine dl_end ?_
      refine dw_ret ?_
      -- path FF
      rw [dR_red1 (by omega) (f_ne hc3)]
      exact ⟨.inr rfl, (resL_cell (us := cQ x y) ty49 rfl rfl rfl rfl resL_nil)⟩
-- no function swarf/rational.Make in this seat
theorem pNeg_ok {x : Rat} (hx : Rz 300 x) : Ok Try.prog 45 [dR x] [dR (-x)] := by
  refine Ok.of (by kernel_rfl) Try.func45 rfl rfl ?_
  rw [show Try.f45.ntmps = 9 from rfl, show Try.f45.results.toList = [.cell 2 49] from rfl]
  refine dw_seq ?_
  -- region 0
  refine dw_region (by kernel_rfl) ?_
  refine dl_new (sem_box_a rfl rfl) rfl ?_
  refine dl_new (sem_alloc zc49 rfl) rfl ?_
  refine dl_end ?_
  refine dw_seq ?_
  -- region 1
  refine dw_draw 6 [] follows_mixed (by kernel_rfl) rfl rfl ?_
  refine dq_r (sem_field fd49_0 rfl rfl) ?_
  refine dq_r (sem_load (us := cI x.num) ty47 rfl rfl rfl rfl rfl) ?_
  refine dq_r (sem_call rfl rfl (iNeg_ok (by first | assumption | exact Sz.mono (Rz.n hx) (by decide))) rfl) ?_
  refine dq_r (sem_field fd49_1 rfl rfl) ?_
  refine dq_r (sem_load (us := cI (x.den : Int)) ty47 rfl rfl rfl rfl rfl) ?_
  refine dq_r (sem_build (us := cQ (-x.num) (x.den : Int)) fs49 zc49 rfl rfl rfl) ?_
  refine dq_end ?_
  refine dl_start0 ?_
  refine dl_st (sem_store_a ty49 rfl rfl rfl rfl rfl rfl) ?_
  refine dl_end ?_
  refine dw_ret ?_
  -- path 
  rw [dR_eq (Rat.neg_num x) (congrArg Int.ofNat (Rat.neg_den x))]
  exact ⟨.inr rfl, (resL_cell (us := cQ (-x.num) (x.den : Int)) ty49 rfl rfl rfl rfl resL_nil)⟩
theorem pAdd_ok {x y : Rat} (hx : Rz 300 x) (hy : Rz 300 y) : Ok Try.prog 79 [dR x, dR y] [dR (x + y)] := by
  have hn := mul_ne (den_ne x) (den_ne y)
  have hn1 := den_ne x
  refine Ok.of (by kernel_rfl) Try.func79 rfl rfl ?_
  rw [show Try.f79.ntmps = 36 from rfl, show Try.f79.results.toList = [.cell 4 49] from rfl]
  refine dw_seq ?_
  -- region 0
  refine dw_region (by kernel_rfl) ?_
  refine dl_new (sem_box_a rfl rfl) rfl ?_
  refine dl_new (sem_box_a rfl rfl) rfl ?_
  refine dl_new (sem_alloc zc49 rfl) rfl ?_
  refine dl_end ?_
  refine dw_seq ?_
  refine dw_seq ?_
  -- region 1
  refine dw_region (by kernel_rfl) ?_
  refine dl_r (sem_field fd49_1 rfl rfl) ?_
  refine dl_r (sem_load (us := cI (x.den : Int)) ty47 rfl rfl rfl rfl rfl) ?_
  refine dl_r (sem_field fd49_1 rfl rfl) ?_
  refine dl_r (sem_load (us := cI (y.den : Int)) ty47 rfl rfl rfl rfl rfl) ?_
  refine dl_r (sem_call rfl rfl (iCmp_ok) rfl) ?_
  refine dl_r (sem_cmp rfl rfl rfl rfl) ?_
  refine dl_end ?_
  refine dw_cond rfl (fun hc1 => ?_) (fun hc1 => ?_)
  · refine dw_seq ?_
    -- region 2
    refine dw_draw 8 [] follows_mixed (by kernel_rfl) rfl rfl ?_
    refine dq_r (sem_field fd49_0 rfl rfl) ?_
    refine dq_r (sem_load (us := cI x.num) ty47 rfl rfl rfl rfl rfl) ?_
    refine dq_r (sem_field fd49_0 rfl rfl) ?_
    refine dq_r (sem_load (us := cI y.num) ty47 rfl rfl rfl rfl rfl) ?_
    refine dq_r (sem_call rfl rfl (iAdd_ok (by first | assumption | exact Sz.mono (Rz.n hx) (by decide)) (by first | assumption | exact Sz.mono (Rz.n hy) (by decide))) rfl) ?_
    refine dq_r (sem_field fd49_1 rfl rfl) ?_
    refine dq_r (sem_load (us := cI (x.den : Int)) ty47 rfl rfl rfl rfl rfl) ?_
    refine dq_r (sem_call rfl rfl (pReduce_ok (by first | assumption | exact Sz.mono (Sz.addm (Rz.n hx) (Rz.n hy)) (by decide)) (by first | assumption | exact Sz.mono (Rz.d hx) (by decide)) (by first | assumption | exact neg_ne (by assumption) | exact mul_ne (by assumption) (by assumption))) rfl) ?_
    refine dq_end ?_
    refine dl_start0 ?_
    refine dl_st (sem_store_a ty49 rfl rfl rfl rfl rfl rfl) ?_
    refine dl_end ?_
    refine dw_ret ?_
    -- path T
    rw [← radd1 (t_eq hc1)]
    exact ⟨.inr rfl, (resL_cell (us := cR (Rat.divInt (x.num + y.num) (x.den : Int))) ty49 rfl rfl rfl rfl resL_nil)⟩
  · refine dw_skip ?_
    refine dw_seq ?_
    -- region 3
    refine dw_draw 17 [] follows_mixed (by kernel_rfl) rfl rfl ?_
    refine dq_r (sem_field fd49_0 rfl rfl) ?_
    refine dq_r (sem_load (us := cI x.num) ty47 rfl rfl rfl rfl rfl) ?_
    refine dq_r (sem_field fd49_1 rfl rfl) ?_
    refine dq_r (sem_load (us := cI (y.den : Int)) ty47 rfl rfl rfl rfl rfl) ?_
    refine dq_r (sem_call rfl rfl (iMul_ok (by first | assumption | exact Sz.mono (Rz.n hx) (by decide)) (by first | assumption | exact Sz.mono (Rz.d hy) (by decide))) rfl) ?_
    refine dq_r (sem_field fd49_0 rfl rfl) ?_
    refine dq_r (sem_load (us := cI y.num) ty47 rfl rfl rfl rfl rfl) ?_
    refine dq_r (sem_field fd49_1 rfl rfl) ?_
    refine dq_r (sem_load (us := cI (x.den : Int)) ty47 rfl rfl rfl rfl rfl) ?_
    refine dq_r (sem_call rfl rfl (iMul_ok (by first | assumption | exact Sz.mono (Rz.n hy) (by decide)) (by first | assumption | exact Sz.mono (Rz.d hx) (by decide))) rfl) ?_
    refine dq_r (sem_call rfl rfl (iAdd_ok (by first | assumption | exact Sz.mono (Sz.mul (Rz.n hx) (Rz.d hy)) (by decide)) (by first | assumption | exact Sz.mono (Sz.mul (Rz.n hy) (Rz.d hx)) (by decide))) rfl) ?_
    refine dq_r (sem_field fd49_1 rfl rfl) ?_
    refine dq_r (sem_load (us := cI (x.den : Int)) ty47 rfl rfl rfl rfl rfl) ?_
    refine dq_r (sem_field fd49_1 rfl rfl) ?_
    refine dq_r (sem_load (us := cI (y.den : Int)) ty47 rfl rfl rfl rfl rfl) ?_
    refine dq_r (sem_call rfl rfl (iMul_ok (by first | assumption | exact Sz.mono (Rz.d hx) (by decide)) (by first | assumption | exact Sz.mono (Rz.d hy) (by decide))) rfl) ?_
    refine dq_r (sem_call rfl rfl (pReduce_ok (by first | assumption | exact Sz.mono (Sz.addm (Sz.mul (Rz.n hx) (Rz.d hy)) (Sz.mul (Rz.n hy) (Rz.d hx))) (by decide)) (by first | assumption | exact Sz.mono (Sz.mul (Rz.d hx) (Rz.d hy)) (by decide)) (by first | assumption | exact neg_ne (by assumption) | exact mul_ne (by assumption) (by assumption))) rfl) ?_
    refine dq_end ?_
    refine dl_start0 ?_
    refine dl_st (sem_store_a ty49 rfl rfl rfl rfl rfl rfl) ?_
    refine dl_end ?_
    refine dw_ret ?_
    -- path F
    rw [← radd]
    exact ⟨.inr rfl, (resL_cell (us := cR (Rat.divInt ((x.num * (y.den : Int)) + (y.num * (x.den : Int))) ((x.den : Int) * (y.den : Int)))) ty49 rfl rfl rfl rfl resL_nil)⟩
theorem pSub_ok {x y : Rat} (hx : Rz 300 x) (hy : Rz 300 y) : Ok Try.prog 78 [dR x, dR y] [dR (x - y)] := by
  refine Ok.of (by kernel_rfl) Try.func78 rfl rfl ?_
  rw [show Try.f78.ntmps = 9 from rfl, show Try.f78.results.toList = [.cell 4 49] from rfl]
  refine dw_seq ?_
  -- region 0
  refine dw_region (by kernel_rfl) ?_
  refine dl_new (sem_box_a rfl rfl) rfl ?_
  refine dl_new (sem_box_a rfl rfl) rfl ?_
  refine dl_new (sem_alloc zc49 rfl) rfl ?_
  refine dl_end ?_
  refine dw_seq ?_
  -- region 1
  refine dw_draw 4 [] follows_mixed (by kernel_rfl) rfl rfl ?_
  refine dq_r (sem_load (us := cR x) ty49 rfl rfl rfl rfl rfl) ?_
  refine dq_r (sem_load (us := cR y) ty49 rfl rfl rfl rfl rfl) ?_
  refine dq_r (sem_call rfl rfl (pNeg_ok (by first | assumption | exact Rz.mono hy (by decide))) rfl) ?_
  refine dq_r (sem_call rfl rfl (pAdd_ok (by first | assumption | exact Rz.mono hx (by decide)) (by first | assumption | exact Rz.mono (Rz.neg hy) (by decide))) rfl) ?_
  refine dq_end ?_
  refine dl_start0 ?_
  refine dl_st (sem_store_a ty49 rfl rfl rfl rfl rfl rfl) ?_
  refine dl_end ?_
  refine dw_ret ?_
  -- path 
  rw [Rat.sub_eq_add_neg]
  exact ⟨.inr rfl, (resL_cell (us := cR (x + (-y))) ty49 rfl rfl rfl rfl resL_nil)⟩
theorem pMul_ok {x y : Rat} (hx : Rz 300 x) (hy : Rz 300 y) : Ok Try.prog 77 [dR x, dR y] [dR (x * y)] := by
  have hn := mul_ne (den_ne x) (den_ne y)
  refine Ok.of (by kernel_rfl) Try.func77 rfl rfl ?_
  rw [show Try.f77.ntmps = 16 from rfl, show Try.f77.results.toList = [.cell 4 49] from rfl]
  refine dw_seq ?_
  -- region 0
  refine dw_region (by kernel_rfl) ?_
  refine dl_new (sem_box_a rfl rfl) rfl ?_
  refine dl_new (sem_box_a rfl rfl) rfl ?_
  refine dl_new (sem_alloc zc49 rfl) rfl ?_
  refine dl_end ?_
  refine dw_seq ?_
  -- region 1
  refine dw_draw 11 [] follows_mixed (by kernel_rfl) rfl rfl ?_
  refine dq_r (sem_field fd49_0 rfl rfl) ?_
  refine dq_r (sem_load (us := cI x.num) ty47 rfl rfl rfl rfl rfl) ?_
  refine dq_r (sem_field fd49_0 rfl rfl) ?_
  refine dq_r (sem_load (us := cI y.num) ty47 rfl rfl rfl rfl rfl) ?_
  refine dq_r (sem_call rfl rfl (iMul_ok (by first | assumption | exact Sz.mono (Rz.n hx) (by decide)) (by first | assumption | exact Sz.mono (Rz.n hy) (by decide))) rfl) ?_
  refine dq_r (sem_field fd49_1 rfl rfl) ?_
  refine dq_r (sem_load (us := cI (x.den : Int)) ty47 rfl rfl rfl rfl rfl) ?_
  refine dq_r (sem_field fd49_1 rfl rfl) ?_
  refine dq_r (sem_load (us := cI (y.den : Int)) ty47 rfl rfl rfl rfl rfl) ?_
  refine dq_r (sem_call rfl rfl (iMul_ok (by first | assumption | exact Sz.mono (Rz.d hx) (by decide)) (by first | assumption | exact Sz.mono (Rz.d hy) (by decide))) rfl) ?_
  refine dq_r (sem_call rfl rfl (pReduce_ok (by first | assumption | exact Sz.mono (Sz.mul (Rz.n hx) (Rz.n hy)) (by decide)) (by first | assumption | exact Sz.mono (Sz.mul (Rz.d hx) (Rz.d hy)) (by decide)) (by first | assumption | exact neg_ne (by assumption) | exact mul_ne (by assumption) (by assumption))) rfl) ?_
  refine dq_end ?_
  refine dl_start0 ?_
  refine dl_st (sem_store_a ty49 rfl rfl rfl rfl rfl rfl) ?_
  refine dl_end ?_
  refine dw_ret ?_
  -- path 
  rw [← rmul]
  exact ⟨.inr rfl, (resL_cell (us := cR (Rat.divInt (x.num * y.num) ((x.den : Int) * (y.den : Int)))) ty49 rfl rfl rfl rfl resL_nil)⟩
theorem pDiv_ok {x y : Rat} (hx : Rz 300 x) (hy : Rz 300 y) (h0 : y ≠ 0) : Ok Try.prog 76 [dR x, dR y] [dR (x / y), .c (.i .i64 0)] := by
  have hn := mul_ne (den_ne x) (num_ne h0)
  refine Ok.of (by kernel_rfl) Try.func76 rfl rfl ?_
  rw [show Try.f76.ntmps = 21 from rfl, show Try.f76.results.toList = [.cell 4 49, .tmp 5] from rfl]
  refine dw_seq ?_
  -- region 0
  refine dw_region (by kernel_rfl) ?_
  refine dl_new (sem_box_a rfl rfl) rfl ?_
  refine dl_new (sem_box_a rfl rfl) rfl ?_
  refine dl_new (sem_alloc zc49 rfl) rfl ?_
  refine dl_r (sem_assign rfl rfl) ?_
  refine dl_end ?_
  refine dw_seq ?_
  refine dw_seq ?_
  -- region 1
  refine dw_region (by kernel_rfl) ?_
  refine dl_r (sem_load (us := cR y) ty49 rfl rfl rfl rfl rfl) ?_
  refine dl_r (sem_call rfl rfl (pSign_ok) rfl) ?_
  refine dl_r (sem_cmp rfl rfl rfl rfl) ?_
  refine dl_end ?_
  refine dw_cond rfl (fun hc1 => ?_) (fun hc1 => ?_)
  · exact absurd (cmpR_t0 hc1) h0
  · refine dw_skip ?_
    refine dw_seq ?_
    -- region 3
    refine dw_draw 11 [] follows_mixed (by kernel_rfl) rfl rfl ?_
    refine dq_r (sem_field fd49_0 rfl rfl) ?_
    refine dq_r (sem_load (us := cI x.num) ty47 rfl rfl rfl rfl rfl) ?_
    refine dq_r (sem_field fd49_1 rfl rfl) ?_
    refine dq_r (sem_load (us := cI (y.den : Int)) ty47 rfl rfl rfl rfl rfl) ?_
    refine dq_r (sem_call rfl rfl (iMul_ok (by first | assumption | exact Sz.mono (Rz.n hx) (by decide)) (by first | assumption | exact Sz.mono (Rz.d hy) (by decide))) rfl) ?_
    refine dq_r (sem_field fd49_1 rfl rfl) ?_
    refine dq_r (sem_load (us := cI (x.den : Int)) ty47 rfl rfl rfl rfl rfl) ?_
    refine dq_r (sem_field fd49_0 rfl rfl) ?_
    refine dq_r (sem_load (us := cI y.num) ty47 rfl rfl rfl rfl rfl) ?_
    refine dq_r (sem_call rfl rfl (iMul_ok (by first | assumption | exact Sz.mono (Rz.d hx) (by decide)) (by first | assumption | exact Sz.mono (Rz.n hy) (by decide))) rfl) ?_
    refine dq_r (sem_call rfl rfl (pReduce_ok (by first | assumption | exact Sz.mono (Sz.mul (Rz.n hx) (Rz.d hy)) (by decide)) (by first | assumption | exact Sz.mono (Sz.mul (Rz.d hx) (Rz.n hy)) (by decide)) (by first | assumption | exact neg_ne (by assumption) | exact mul_ne (by assumption) (by assumption))) rfl) ?_
    refine dq_end ?_
    refine dl_start0 ?_
    refine dl_st (sem_store_a ty49 rfl rfl rfl rfl rfl rfl) ?_
    refine dl_r (sem_assign rfl rfl) ?_
    refine dl_end ?_
    refine dw_ret ?_
    -- path F
    rw [← rdiv]
    exact ⟨.inr rfl, (resL_cell (us := cR (Rat.divInt (x.num * (y.den : Int)) ((x.den : Int) * y.num))) ty49 rfl rfl rfl rfl (resL_tmp rfl resL_nil))⟩
theorem pCmp_ok {x y : Rat} (hx : Rz 300 x) (hy : Rz 300 y) : Ok Try.prog 44 [dR x, dR y] [.c (.i .i64 (cmpR x y))] := by
  refine Ok.of (by kernel_rfl) Try.func44 rfl rfl ?_
  rw [show Try.f44.ntmps = 25 from rfl, show Try.f44.results.toList = [.tmp 4] from rfl]
  refine dw_seq ?_
  -- region 0
  refine dw_region (by kernel_rfl) ?_
  refine dl_new (sem_box_a rfl rfl) rfl ?_
  refine dl_new (sem_box_a rfl rfl) rfl ?_
  refine dl_r (sem_assign rfl rfl) ?_
  refine dl_end ?_
  refine dw_seq ?_
  refine dw_seq ?_
  -- region 1
  refine dw_draw 6 [] follows_mixed (by kernel_rfl) rfl rfl ?_
  refine dq_r (sem_load (us := cR x) ty49 rfl rfl rfl rfl rfl) ?_
  refine dq_r (sem_call rfl rfl (pSign_ok) rfl) ?_
  refine dq_r (sem_load (us := cR y) ty49 rfl rfl rfl rfl rfl) ?_
  refine dq_r (sem_call rfl rfl (pSign_ok) rfl) ?_
  refine dq_r (sem_call rfl rfl (cmpInt_ok) rfl) ?_
  refine dq_r (sem_assign rfl rfl) ?_
  refine dq_end ?_
  refine dl_start0 ?_
  refine dl_end ?_
  refine dw_seq ?_
  -- region 2
  refine dw_region (by kernel_rfl) ?_
  refine dl_r (sem_move rfl rfl) ?_
  refine dl_r (sem_cmp rfl rfl rfl rfl) ?_
  refine dl_end ?_
  refine dw_cond rfl (fun hc1 => ?_) (fun hc1 => ?_)
  · refine dw_seq ?_
    -- region 3
    refine dw_region (by kernel_rfl) ?_
    refine dl_r (sem_move rfl rfl) ?_
    refine dl_r (sem_assign rfl rfl) ?_
    refine dl_end ?_
    refine dw_ret ?_
    -- path T
    rw [← cmpR_signs hc1]
    exact ⟨.inr rfl, (resL_tmp rfl resL_nil)⟩
  · refine dw_skip ?_
    refine dw_seq ?_
    -- region 4
    refine dw_draw 12 [] follows_mixed (by kernel_rfl) rfl rfl ?_
    refine dq_r (sem_field fd49_0 rfl rfl) ?_
    refine dq_r (sem_load (us := cI x.num) ty47 rfl rfl rfl rfl rfl) ?_
    refine dq_r (sem_field fd49_1 rfl rfl) ?_
    refine dq_r (sem_load (us := cI (y.den : Int)) ty47 rfl rfl rfl rfl rfl) ?_
    refine dq_r (sem_call rfl rfl (iMul_ok (by first | assumption | exact Sz.mono (Rz.n hx) (by decide)) (by first | assumption | exact Sz.mono (Rz.d hy) (by decide))) rfl) ?_
    refine dq_r (sem_field fd49_0 rfl rfl) ?_
    refine dq_r (sem_load (us := cI y.num) ty47 rfl rfl rfl rfl rfl) ?_
    refine dq_r (sem_field fd49_1 rfl rfl) ?_
    refine dq_r (sem_load (us := cI (x.den : Int)) ty47 rfl rfl rfl rfl rfl) ?_
    refine dq_r (sem_call rfl rfl (iMul_ok (by first | assumption | exact Sz.mono (Rz.n hy) (by decide)) (by first | assumption | exact Sz.mono (Rz.d hx) (by decide))) rfl) ?_
    refine dq_r (sem_call rfl rfl (iCmp_ok) rfl) ?_
    refine dq_r (sem_assign rfl rfl) ?_
    refine dq_end ?_
    refine dl_start0 ?_
    refine dl_end ?_
    refine dw_ret ?_
    -- path F
    rw [cmpR_mul (x := x) (y := y)]
    exact ⟨.inr rfl, (resL_tmp rfl resL_nil)⟩
-- no function swarf/rational.Floor in this seat
-- no function swarf/rational.side in this seat
-- no function swarf/rational.Sqrt in this seat
end Go.Proofs.Ytonjlikaacengaa
/- The greatest step for an engagement: the program. -/
namespace Go.Proofs.Ytonjlikaacengaa
open Go Go.RowKit
theorem eAdd_ok {x y : Rat} (hx : Rz 300 x) (hy : Rz 300 y) : Ok Try.prog 73 [dR x, dR y] [dR (x + y)] := by
  refine Ok.of (by kernel_rfl) Try.func73 rfl rfl ?_
  rw [show Try.f73.ntmps = 8 from rfl, show Try.f73.results.toList = [.cell 4 49] from rfl]
  refine dw_seq ?_
  -- region 0
  refine dw_region (by kernel_rfl) ?_
  refine dl_new (sem_box_a rfl rfl) rfl ?_
  refine dl_new (sem_box_a rfl rfl) rfl ?_
  refine dl_new (sem_alloc zc49 rfl) rfl ?_
  refine dl_end ?_
  refine dw_seq ?_
  -- region 1
  refine dw_region (by kernel_rfl) ?_
  refine dl_r (sem_load (us := cR x) ty49 rfl rfl rfl rfl rfl) ?_
  refine dl_r (sem_load (us := cR y) ty49 rfl rfl rfl rfl rfl) ?_
  refine dl_r (sem_call rfl rfl (pAdd_ok (by first | assumption | exact Rz.mono hx (by decide)) (by first | assumption | exact Rz.mono hy (by decide))) rfl) ?_
  refine dl_st (sem_store_a ty49 rfl rfl rfl rfl rfl rfl) ?_
  refine dl_end ?_
  refine dw_ret ?_
  -- path 
  exact ⟨.inr rfl, (resL_cell (us := cR (x + y)) ty49 rfl rfl rfl rfl resL_nil)⟩
theorem eSub_ok {x y : Rat} (hx : Rz 300 x) (hy : Rz 300 y) : Ok Try.prog 72 [dR x, dR y] [dR (x - y)] := by
  refine Ok.of (by kernel_rfl) Try.func72 rfl rfl ?_
  rw [show Try.f72.ntmps = 8 from rfl, show Try.f72.results.toList = [.cell 4 49] from rfl]
  refine dw_seq ?_
  -- region 0
  refine dw_region (by kernel_rfl) ?_
  refine dl_new (sem_box_a rfl rfl) rfl ?_
  refine dl_new (sem_box_a rfl rfl) rfl ?_
  refine dl_new (sem_alloc zc49 rfl) rfl ?_
  refine dl_end ?_
  refine dw_seq ?_
  -- region 1
  refine dw_region (by kernel_rfl) ?_
  refine dl_r (sem_load (us := cR x) ty49 rfl rfl rfl rfl rfl) ?_
  refine dl_r (sem_load (us := cR y) ty49 rfl rfl rfl rfl rfl) ?_
  refine dl_r (sem_call rfl rfl (pSub_ok (by first | assumption | exact Rz.mono hx (by decide)) (by first | assumption | exact Rz.mono hy (by decide))) rfl) ?_
  refine dl_st (sem_store_a ty49 rfl rfl rfl rfl rfl rfl) ?_
  refine dl_end ?_
  refine dw_ret ?_
  -- path 
  exact ⟨.inr rfl, (resL_cell (us := cR (x - y)) ty49 rfl rfl rfl rfl resL_nil)⟩
theorem eMul_ok {x y : Rat} (hx : Rz 300 x) (hy : Rz 300 y) : Ok Try.prog 71 [dR x, dR y] [dR (x * y)] := by
  refine Ok.of (by kernel_rfl) Try.func71 rfl rfl ?_
  rw [show Try.f71.ntmps = 8 from rfl, show Try.f71.results.toList = [.cell 4 49] from rfl]
  refine dw_seq ?_
  -- region 0
  refine dw_region (by kernel_rfl) ?_
  refine dl_new (sem_box_a rfl rfl) rfl ?_
  refine dl_new (sem_box_a rfl rfl) rfl ?_
  refine dl_new (sem_alloc zc49 rfl) rfl ?_
  refine dl_end ?_
  refine dw_seq ?_
  -- region 1
  refine dw_region (by kernel_rfl) ?_
  refine dl_r (sem_load (us := cR x) ty49 rfl rfl rfl rfl rfl) ?_
  refine dl_r (sem_load (us := cR y) ty49 rfl rfl rfl rfl rfl) ?_
  refine dl_r (sem_call rfl rfl (pMul_ok (by first | assumption | exact Rz.mono hx (by decide)) (by first | assumption | exact Rz.mono hy (by decide))) rfl) ?_
  refine dl_st (sem_store_a ty49 rfl rfl rfl rfl rfl rfl) ?_
  refine dl_end ?_
  refine dw_ret ?_
  -- path 
  exact ⟨.inr rfl, (resL_cell (us := cR (x * y)) ty49 rfl rfl rfl rfl resL_nil)⟩
theorem eCos_ok {x : Rat} (hx : Rz 300 x) : Ok Try.prog 57 [dR x] [.c (.b (cosB x))] := by
  refine Ok.of (by kernel_rfl) Try.func57 rfl rfl ?_
  rw [show Try.f57.ntmps = 16 from rfl, show Try.f57.results.toList = [.tmp 2] from rfl]
  refine dw_seq ?_
  -- region 0
  refine dw_region (by kernel_rfl) ?_
  refine dl_new (sem_box_a rfl rfl) rfl ?_
  refine dl_r (sem_assign rfl rfl) ?_
  refine dl_end ?_
  refine dw_seq ?_
  -- region 1
  refine dw_region (by kernel_rfl) ?_
  refine dl_r (sem_call rfl rfl (pFrom_ok (by omega) (by omega)) rfl) ?_
  refine dl_new (sem_alloc zc49 rfl) rfl ?_
  refine dl_st (sem_store_a ty49 rfl rfl rfl rfl rfl rfl) ?_
  refine dl_end ?_
  refine dw_seq ?_
  -- region 2
  refine dw_draw 12 [] follows_mixed (by kernel_rfl) rfl rfl ?_
  refine dq_r (sem_load (us := cR x) ty49 rfl rfl rfl rfl rfl) ?_
  refine dq_r (sem_load (us := cR (((1 : Int) : Rat))) ty49 rfl rfl rfl rfl rfl) ?_
  refine dq_r (sem_call rfl rfl (pCmp_ok (by first | assumption | exact Rz.mono hx (by decide)) (by first | assumption | exact Rz.mono (Rz.int (Sz.small (k := 3) (by decide) (by decide) (by decide)) (by decide)) (by decide))) rfl) ?_
  refine dq_r (sem_cmp rfl rfl rfl rfl) ?_
  refine dq_rb (sem_move rfl rfl) (fun c1 hb1 => ?_)
  cases c1
  · refine dq_skip (sem_skip rfl) ?_
    refine dq_skip (sem_skip rfl) ?_
    refine dq_skip (sem_skip rfl) ?_
    refine dq_skip (sem_skip rfl) ?_
    refine dq_skip (sem_skip rfl) ?_
    refine dq_r (sem_pick rfl rfl rfl rfl) ?_
    refine dq_r (sem_assign rfl rfl) ?_
    refine dq_end ?_
    refine dl_start0 ?_
    refine dl_end ?_
    refine dw_ret ?_
    -- path f
    rw [cosB_f hb1]
    exact ⟨.inr rfl, (resL_tmp rfl resL_nil)⟩
  · refine dq_r (sem_load (us := cR x) ty49 rfl rfl rfl rfl rfl) ?_
    refine dq_r (sem_call rfl rfl (pNeg_ok (by first | assumption | exact Rz.mono hx (by decide))) rfl) ?_
    refine dq_r (sem_load (us := cR (((1 : Int) : Rat))) ty49 rfl rfl rfl rfl rfl) ?_
    refine dq_r (sem_call rfl rfl (pCmp_ok (by first | assumption | exact Rz.mono (Rz.neg hx) (by decide)) (by first | assumption | exact Rz.mono (Rz.int (Sz.small (k := 3) (by decide) (by decide) (by decide)) (by decide)) (by decide))) rfl) ?_
    refine dq_r (sem_cmp rfl rfl rfl rfl) ?_
    refine dq_r (sem_pick rfl rfl rfl rfl) ?_
    refine dq_r (sem_assign rfl rfl) ?_
    refine dq_end ?_
    refine dl_start0 ?_
    refine dl_end ?_
    refine dw_ret ?_
    -- path t
    rw [cosB_t hb1]
    exact ⟨.inr rfl, (resL_tmp rfl resL_nil)⟩
theorem tCos_ok {x : Rat} (hx : Rz 300 x) : Ok Try.prog 33 [dR x] [.c (.b (cosB x))] := by
  refine Ok.of (by kernel_rfl) Try.func33 rfl rfl ?_
  rw [show Try.f33.ntmps = 16 from rfl, show Try.f33.results.toList = [.tmp 2] from rfl]
  refine dw_seq ?_
  -- region 0
  refine dw_region (by kernel_rfl) ?_
  refine dl_new (sem_box_a rfl rfl) rfl ?_
  refine dl_r (sem_assign rfl rfl) ?_
  refine dl_end ?_
  refine dw_seq ?_
  -- region 1
  refine dw_region (by kernel_rfl) ?_
  refine dl_r (sem_call rfl rfl (pFrom_ok (by omega) (by omega)) rfl) ?_
  refine dl_new (sem_alloc zc49 rfl) rfl ?_
  refine dl_st (sem_store_a ty49 rfl rfl rfl rfl rfl rfl) ?_
  refine dl_end ?_
  refine dw_seq ?_
  -- region 2
  refine dw_draw 12 [] follows_mixed (by kernel_rfl) rfl rfl ?_
  refine dq_r (sem_load (us := cR x) ty49 rfl rfl rfl rfl rfl) ?_
  refine dq_r (sem_load (us := cR (((1 : Int) : Rat))) ty49 rfl rfl rfl rfl rfl) ?_
  refine dq_r (sem_call rfl rfl (pCmp_ok (by first | assumption | exact Rz.mono hx (by decide)) (by first | assumption | exact Rz.mono (Rz.int (Sz.small (k := 3) (by decide) (by decide) (by decide)) (by decide)) (by decide))) rfl) ?_
  refine dq_r (sem_cmp rfl rfl rfl rfl) ?_
  refine dq_rb (sem_move rfl rfl) (fun c1 hb1 => ?_)
  cases c1
  · refine dq_skip (sem_skip rfl) ?_
    refine dq_skip (sem_skip rfl) ?_
    refine dq_skip (sem_skip rfl) ?_
    refine dq_skip (sem_skip rfl) ?_
    refine dq_skip (sem_skip rfl) ?_
    refine dq_r (sem_pick rfl rfl rfl rfl) ?_
    refine dq_r (sem_assign rfl rfl) ?_
    refine dq_end ?_
    refine dl_start0 ?_
    refine dl_end ?_
    refine dw_ret ?_
    -- path f
    rw [cosB_f hb1]
    exact ⟨.inr rfl, (resL_tmp rfl resL_nil)⟩
  · refine dq_r (sem_load (us := cR x) ty49 rfl rfl rfl rfl rfl) ?_
    refine dq_r (sem_load (us := cR (((1 : Int) : Rat))) ty49 rfl rfl rfl rfl rfl) ?_
    refine dq_r (sem_call rfl rfl (pNeg_ok (by first | assumption | exact Rz.mono (Rz.int (Sz.small (k := 3) (by decide) (by decide) (by decide)) (by decide)) (by decide))) rfl) ?_
    refine dq_r (sem_call rfl rfl (pCmp_ok (by first | assumption | exact Rz.mono hx (by decide)) (by first | assumption | exact Rz.mono (Rz.neg (Rz.int (Sz.small (k := 3) (by decide) (by decide) (by decide)) (by decide))) (by decide))) rfl) ?_
    refine dq_r (sem_cmp rfl rfl rfl rfl) ?_
    refine dq_r (sem_pick rfl rfl rfl rfl) ?_
    refine dq_r (sem_assign rfl rfl) ?_
    refine dq_end ?_
    refine dl_start0 ?_
    refine dl_end ?_
    refine dw_ret ?_
    -- path t
    rw [cosB_t2 hb1]
    exact ⟨.inr rfl, (resL_tmp rfl resL_nil)⟩
theorem eHalf_ok {R r e : Rat} (hR : Rz 20 R) (hr : Rz 20 r) (he : Rz 20 e) (h0 : ((2 : Int) : Rat) * (e * r) ≠ 0) : Ok Try.prog 70 [dR R, dR r, dR e] [dR (hfQ R r e)] := by
  refine Ok.of (by kernel_rfl) Try.func70 rfl rfl ?_
  rw [show Try.f70.ntmps = 35 from rfl, show Try.f70.results.toList = [.cell 6 49] from rfl]
  refine dw_seq ?_
  -- region 0
  refine dw_region (by kernel_rfl) ?_
  refine dl_new (sem_box_a rfl rfl) rfl ?_
  refine dl_new (sem_box_a rfl rfl) rfl ?_
  refine dl_new (sem_box_a rfl rfl) rfl ?_
  refine dl_new (sem_alloc zc49 rfl) rfl ?_
  refine dl_end ?_
  refine dw_seq ?_
  -- region 1
  refine dw_draw 12 [] follows_mixed (by kernel_rfl) rfl rfl ?_
  refine dq_r (sem_load (us := cR R) ty49 rfl rfl rfl rfl rfl) ?_
  refine dq_r (sem_load (us := cR R) ty49 rfl rfl rfl rfl rfl) ?_
  refine dq_r (sem_call rfl rfl (eMul_ok (by first | assumption | exact Rz.mono hR (by decide)) (by first | assumption | exact Rz.mono hR (by decide))) rfl) ?_
  refine dq_r (sem_load (us := cR e) ty49 rfl rfl rfl rfl rfl) ?_
  refine dq_r (sem_load (us := cR e) ty49 rfl rfl rfl rfl rfl) ?_
  refine dq_r (sem_call rfl rfl (eMul_ok (by first | assumption | exact Rz.mono he (by decide)) (by first | assumption | exact Rz.mono he (by decide))) rfl) ?_
  refine dq_r (sem_call rfl rfl (eSub_ok (by first | assumption | exact Rz.mono (Rz.mul hR hR) (by decide)) (by first | assumption | exact Rz.mono (Rz.mul he he) (by decide))) rfl) ?_
  refine dq_r (sem_load (us := cR r) ty49 rfl rfl rfl rfl rfl) ?_
  refine dq_r (sem_load (us := cR r) ty49 rfl rfl rfl rfl rfl) ?_
  refine dq_r (sem_call rfl rfl (eMul_ok (by first | assumption | exact Rz.mono hr (by decide)) (by first | assumption | exact Rz.mono hr (by decide))) rfl) ?_
  refine dq_r (sem_call rfl rfl (eSub_ok (by first | assumption | exact Rz.mono (Rz.sub (Rz.mul hR hR) (Rz.mul he he)) (by decide)) (by first | assumption | exact Rz.mono (Rz.mul hr hr) (by decide))) rfl) ?_
  refine dq_new (sem_alloc zc49 rfl) rfl ?_
  refine dq_end ?_
  refine dl_start1 ?_
  refine dl_st (sem_store_a ty49 rfl rfl rfl rfl rfl rfl) ?_
  refine dl_end ?_
  refine dw_seq ?_
  -- region 2
  refine dw_draw 13 [8] follows_mixed (by kernel_rfl) rfl rfl ?_
  refine dq_r (sem_load (us := cR (((R * R) - (e * e)) - (r * r))) ty49 rfl rfl rfl rfl rfl) ?_
  refine dq_r (sem_call rfl rfl (pFrom_ok (by omega) (by omega)) rfl) ?_
  refine dq_r (sem_load (us := cR e) ty49 rfl rfl rfl rfl rfl) ?_
  refine dq_r (sem_load (us := cR r) ty49 rfl rfl rfl rfl rfl) ?_
  refine dq_r (sem_call rfl rfl (eMul_ok (by first | assumption | exact Rz.mono he (by decide)) (by first | assumption | exact Rz.mono hr (by decide))) rfl) ?_
  refine dq_r (sem_call rfl rfl (eMul_ok (by first | assumption | exact Rz.mono (Rz.int (Sz.small (k := 3) (by decide) (by decide) (by decide)) (by decide)) (by decide)) (by first | assumption | exact Rz.mono (Rz.mul he hr) (by decide))) rfl) ?_
  refine dq_r (sem_call rfl rfl (pDiv_ok (by first | assumption | exact Rz.mono (Rz.sub (Rz.sub (Rz.mul hR hR) (Rz.mul he he)) (Rz.mul hr hr)) (by decide)) (by first | assumption | exact Rz.mono (Rz.mul (Rz.int (Sz.small (k := 3) (by decide) (by decide) (by decide)) (by decide)) (Rz.mul he hr)) (by decide)) h0) rfl) ?_
  refine dq_r (sem_move rfl rfl) ?_
  refine dq_r (sem_extract rfl rfl rfl) ?_
  refine dq_r (sem_extract rfl rfl rfl) ?_
  refine dq_new (sem_alloc zc49 rfl) rfl ?_
  refine dq_sn (sem_store_a ty49 rfl rfl rfl rfl rfl rfl) rfl rfl rfl ?_
  refine dq_r (sem_assign rfl rfl) ?_
  refine dq_end ?_
  refine dl_start2 ?_
  refine dl_end ?_
  refine dw_seq ?_
  refine dw_seq ?_
  -- region 3
  refine dw_region (by kernel_rfl) ?_
  refine dl_r (sem_move rfl rfl) ?_
  refine dl_r (sem_cmp rfl rfl rfl rfl) ?_
  refine dl_end ?_
  refine dw_false rfl ?_
  refine dw_skip ?_
  refine dw_seq ?_
  -- region 5
  refine dw_region (by kernel_rfl) ?_
  refine dl_r (sem_load (us := cR ((((R * R) - (e * e)) - (r * r)) / ((((2 : Int) : Rat)) * (e * r)))) ty49 rfl rfl rfl rfl rfl) ?_
  refine dl_st (sem_store_a ty49 rfl rfl rfl rfl rfl rfl) ?_
  refine dl_end ?_
  refine dw_ret ?_
  -- path 
  exact ⟨.inr rfl, (resL_cell (us := cR ((((R * R) - (e * e)) - (r * r)) / ((((2 : Int) : Rat)) * (e * r)))) ty49 rfl rfl rfl rfl resL_nil)⟩
theorem eAll_ok {a t : Int} {c : Rat} (hc : Rz 20 c) (ha : 1 ≤ a) (ha2 : a ≤ 10000000) (ht : 1 ≤ t) (ht2 : t ≤ 10000000) {s : Int} (hs : 1 ≤ s) (hs2 : s ≤ 10000001) : Ok Try.prog 60 [.c (.i .i64 a), .c (.i .i64 t), .c (.i .i64 s), dR c] [.c (.b (alw a t s c))] := by
  have hza : Sz 3 a := Sz.small (by decide) (by omega) (by omega)
  have hzt : Sz 3 t := Sz.small (by decide) (by omega) (by omega)
  have hzs : Sz 3 s := Sz.small (by decide) (by omega) (by omega)
  have hz := cq_sz ha ht hs ha2 ht2 hs2
  have h0 : ((2 : Int) : Rat) * ((((a + s : Int)) : Rat) * ((t : Int) : Rat)) ≠ 0 := by
    have : (0 : Rat) < ((2 : Int) : Rat) * ((((a + s : Int)) : Rat) * ((t : Int) : Rat)) := Rat.mul_pos (by decide) (et_pos ha ht (by omega))
    grind
  refine Ok.of (by kernel_rfl) Try.func60 rfl rfl ?_
  rw [show Try.f60.ntmps = 44 from rfl, show Try.f60.results.toList = [.tmp 8] from rfl]
  refine dw_seq ?_
  -- region 0
  refine dw_region (by kernel_rfl) ?_
  refine dl_new (sem_box_a rfl rfl) rfl ?_
  refine dl_r (sem_assign rfl rfl) ?_
  refine dl_end ?_
  refine dw_seq ?_
  -- region 1
  refine dw_region (by kernel_rfl) ?_
  refine dl_r (sem_call rfl rfl (pFrom_ok (by omega) (by omega)) rfl) ?_
  refine dl_new (sem_alloc zc49 rfl) rfl ?_
  refine dl_st (sem_store_a ty49 rfl rfl rfl rfl rfl rfl) ?_
  refine dl_end ?_
  refine dw_seq ?_
  -- region 2
  refine dw_region (by kernel_rfl) ?_
  refine dl_r (sem_move rfl rfl) ?_
  refine dl_r (sem_move rfl rfl) ?_
  refine dl_r (sem_ari (r := a + t) rfl rfl (ari_i64_add (by omega) (by omega)) rfl) ?_
  refine dl_r (sem_call rfl rfl (pFrom_ok (by omega) (by omega)) rfl) ?_
  refine dl_r (sem_move rfl rfl) ?_
  refine dl_r (sem_call rfl rfl (pFrom_ok (by omega) (by omega)) rfl) ?_
  refine dl_r (sem_move rfl rfl) ?_
  refine dl_r (sem_move rfl rfl) ?_
  refine dl_r (sem_ari (r := a + s) rfl rfl (ari_i64_add (by omega) (by omega)) rfl) ?_
  refine dl_r (sem_call rfl rfl (pFrom_ok (by omega) (by omega)) rfl) ?_
  refine dl_r (sem_call rfl rfl (rcast1 (eHalf_ok (by first | assumption | exact Rz.mono (Rz.int (Sz.addm hza hzt) (by decide)) (by decide)) (by first | assumption | exact Rz.mono (Rz.int hzt (by decide)) (by decide)) (by first | assumption | exact Rz.mono (Rz.int (Sz.addm hza hzs) (by decide)) (by decide)) h0) (x' := cq a t s) rfl) rfl) ?_
  refine dl_new (sem_alloc zc49 rfl) rfl ?_
  refine dl_st (sem_store_a ty49 rfl rfl rfl rfl rfl rfl) ?_
  refine dl_end ?_
  refine dw_seq ?_
  refine dw_seq ?_
  -- region 3
  refine dw_region (by kernel_rfl) ?_
  refine dl_r (sem_load (us := cR (cq a t s)) ty49 rfl rfl rfl rfl rfl) ?_
  refine dl_r (sem_load (us := cR (((1 : Int) : Rat))) ty49 rfl rfl rfl rfl rfl) ?_
  refine dl_r (sem_call rfl rfl (pCmp_ok (by first | assumption | exact Rz.mono (by assumption) (by decide)) (by first | assumption | exact Rz.mono (Rz.int (Sz.small (k := 3) (by decide) (by decide) (by decide)) (by decide)) (by decide))) rfl) ?_
  refine dl_r (sem_cmp rfl rfl rfl rfl) ?_
  refine dl_end ?_
  refine dw_cond rfl (fun hc1 => ?_) (fun hc1 => ?_)
  · exact (no_full ha ht hs hc1).elim
  · refine dw_skip ?_
    refine dw_seq ?_
    -- region 5
    refine dw_region (by kernel_rfl) ?_
    refine dl_r (sem_load (us := cR (cq a t s)) ty49 rfl rfl rfl rfl rfl) ?_
    refine dl_r (sem_load (us := cR (cq a t s)) ty49 rfl rfl rfl rfl rfl) ?_
    refine dl_r (sem_call rfl rfl (eMul_ok (by first | assumption | exact Rz.mono (by assumption) (by decide)) (by first | assumption | exact Rz.mono (by assumption) (by decide))) rfl) ?_
    refine dl_new (sem_alloc zc49 rfl) rfl ?_
    refine dl_st (sem_store_a ty49 rfl rfl rfl rfl rfl rfl) ?_
    refine dl_end ?_
    refine dw_seq ?_
    -- region 6
    refine dw_draw 14 [] follows_mixed (by kernel_rfl) rfl rfl ?_
    refine dq_r (sem_load (us := cR (cq a t s)) ty49 rfl rfl rfl rfl rfl) ?_
    refine dq_r (sem_call rfl rfl (pSign_ok) rfl) ?_
    refine dq_r (sem_cmp rfl rfl rfl rfl) ?_
    refine dq_rb (sem_move rfl rfl) (fun c2 hb2 => ?_)
    cases c2
    · refine dq_skip (sem_skip rfl) ?_
      refine dq_skip (sem_skip rfl) ?_
      refine dq_skip (sem_skip rfl) ?_
      refine dq_skip (sem_skip rfl) ?_
      refine dq_skip (sem_skip rfl) ?_
      refine dq_skip (sem_skip rfl) ?_
      refine dq_skip (sem_skip rfl) ?_
      refine dq_skip (sem_skip rfl) ?_
      refine dq_r (sem_pick rfl rfl rfl rfl) ?_
      refine dq_r (sem_assign rfl rfl) ?_
      refine dq_end ?_
      refine dl_start0 ?_
      refine dl_end ?_
      refine dw_ret ?_
      -- path Ff
      rw [alw_f hb2]
      exact ⟨.inr rfl, (resL_tmp rfl resL_nil)⟩
    · refine dq_r (sem_load (us := cR ((cq a t s) * (cq a t s))) ty49 rfl rfl rfl rfl rfl) ?_
      refine dq_r (sem_load (us := cR ((cq a t s) * (cq a t s))) ty49 rfl rfl rfl rfl rfl) ?_
      refine dq_r (sem_call rfl rfl (eAdd_ok (by first | assumption | exact Rz.mono (Rz.mul (by assumption) (by assumption)) (by decide)) (by first | assumption | exact Rz.mono (Rz.mul (by assumption) (by assumption)) (by decide))) rfl) ?_
      refine dq_r (sem_load (us := cR (((1 : Int) : Rat))) ty49 rfl rfl rfl rfl rfl) ?_
      refine dq_r (sem_call rfl rfl (eSub_ok (by first | assumption | exact Rz.mono (Rz.add (Rz.mul (by assumption) (by assumption)) (Rz.mul (by assumption) (by assumption))) (by decide)) (by first | assumption | exact Rz.mono (Rz.int (Sz.small (k := 3) (by decide) (by decide) (by decide)) (by decide)) (by decide))) rfl) ?_
      refine dq_r (sem_load (us := cR c) ty49 rfl rfl rfl rfl rfl) ?_
      refine dq_r (sem_call rfl rfl (pCmp_ok (by first | assumption | exact Rz.mono (Rz.sub (Rz.add (Rz.mul (by assumption) (by assumption)) (Rz.mul (by assumption) (by assumption))) (Rz.int (Sz.small (k := 3) (by decide) (by decide) (by decide)) (by decide))) (by decide)) (by first | assumption | exact Rz.mono hc (by decide))) rfl) ?_
      refine dq_r (sem_cmp rfl rfl rfl rfl) ?_
      refine dq_r (sem_pick rfl rfl rfl rfl) ?_
      refine dq_r (sem_assign rfl rfl) ?_
      refine dq_end ?_
      refine dl_start0 ?_
      refine dl_end ?_
      refine dw_ret ?_
      -- path Ft
      rw [alw_t hb2]
      exact ⟨.inr rfl, (resL_tmp rfl resL_nil)⟩
theorem eStp1_ok {a t : Int} {c : Rat} (hc : Rz 20 c) (ha : 1 ≤ a) (ha2 : a ≤ 10000000) (ht : 1 ≤ t) (ht2 : t ≤ 10000000) {n : Int} (h0 : 0 ≤ n) (h1 : n ≤ t) : Ok Try.prog 59 [.c (.i .i64 n), .c (.p ([.i .i64 a])), .c (.p ([.i .i64 t])), .c (.p (cR c))] [.c (.b (!alw a t (n + 1) c))] := by
  refine Ok.of (by kernel_rfl) Try.func59 rfl rfl ?_
  rw [show Try.f59.ntmps = 13 from rfl, show Try.f59.results.toList = [.tmp 5] from rfl]
  refine dw_seq ?_
  -- region 0
  refine dw_region (by kernel_rfl) ?_
  refine dl_r (sem_assign rfl rfl) ?_
  refine dl_end ?_
  refine dw_seq ?_
  -- region 1
  refine dw_region (by kernel_rfl) ?_
  refine dl_r (sem_loadP1 ty2 rfl rfl rfl) ?_
  refine dl_r (sem_loadP1 ty2 rfl rfl rfl) ?_
  refine dl_r (sem_move rfl rfl) ?_
  refine dl_r (sem_ari (r := n + 1) rfl rfl (ari_i64_add (by omega) (by omega)) rfl) ?_
  refine dl_r (sem_loadP (us := cR c) ty49 rfl rfl rfl rfl) ?_
  refine dl_r (sem_call rfl rfl (eAll_ok hc ha ha2 ht ht2 (by omega) (by omega)) rfl) ?_
  refine dl_r (sem_not rfl rfl) ?_
  refine dl_r (sem_assign rfl rfl) ?_
  refine dl_end ?_
  refine dw_ret ?_
  -- path 
  exact ⟨.inr rfl, (resL_tmp rfl resL_nil)⟩
theorem eSrch_ok {a t N r : Int} {c : Rat} (hN0 : 0 ≤ N) (hN : N ≤ 1000000000) (hr0 : 0 ≤ r) (hr1 : r ≤ N) (hφ : ∀ i : Int, 0 ≤ i → i < N → Ok Try.prog 59 [.c (.i .i64 i), .c (.p ([.i .i64 a])), .c (.p ([.i .i64 t])), .c (.p (cR c))] [.c (.b (decide (r ≤ i)))]) : Ok Try.prog 58 [.c (.i .i64 N), .c (.k 59 [.p ([.i .i64 a]), .p ([.i .i64 t]), .p (cR c)])] [.c (.i .i64 r)] := by
  refine Ok.of (by kernel_rfl) Try.func58 rfl rfl ?_
  rw [show Try.f58.ntmps = 26 from rfl, show Try.f58.results.toList = [.tmp 4] from rfl]
  refine dw_seq ?_
  -- region 0
  refine dw_region (by kernel_rfl) ?_
  refine dl_r (sem_assign rfl rfl) ?_
  refine dl_end ?_
  refine dw_seq ?_
  -- region 1
  refine dw_region (by kernel_rfl) ?_
  refine dl_r (sem_move rfl rfl) ?_
  refine dl_r (sem_assign rfl rfl) ?_
  refine dl_r (sem_assign rfl rfl) ?_
  refine dl_end ?_
  refine dw_seq ?_
  refine dw_block ?_
  refine dw_loop (ι := {p : Int × Int // 0 ≤ p.1 ∧ p.1 ≤ r ∧ r ≤ p.2 ∧ p.2 ≤ N}) (fun i => ⟨26, [(0, .v (.c (.i .i64 N))), (1, .v (.c (.k 59 [.p ([.i .i64 a]), .p ([.i .i64 t]), .p (cR c)]))), (5, .v (.c (.i .i64 i.1.1))), (6, .v (.c (.i .i64 i.1.2)))], []⟩) (fun i => (i.1.2 - i.1.1).toNat) ⟨(0, N), by show (0 : Int) ≤ 0; omega, hr0, hr1, by show N ≤ N; omega⟩ (sub_of ⟨rfl, rfl, rfl, rfl, trivial⟩ trivial rfl) ?_
  rintro ⟨⟨lo, hi⟩, g1, g2, g3, g4⟩
  replace g1 : 0 ≤ lo := g1
  replace g2 : lo ≤ r := g2
  replace g3 : r ≤ hi := g3
  replace g4 : hi ≤ N := g4
  show Dw _ _ ⟨26, [(0, .v (.c (.i .i64 N))), (1, .v (.c (.k 59 [.p ([.i .i64 a]), .p ([.i .i64 t]), .p (cR c)]))), (5, .v (.c (.i .i64 lo))), (6, .v (.c (.i .i64 hi)))], []⟩ _
  refine dw_seq ?_
  refine dw_seq ?_
  -- region 2
  refine dw_region (by kernel_rfl) ?_
  refine dl_r (sem_move rfl rfl) ?_
  refine dl_r (sem_move rfl rfl) ?_
  refine dl_r (sem_cmp rfl rfl rfl rfl) ?_
  refine dl_end ?_
  refine dw_cond rfl (fun hc1 => ?_) (fun hc1 => ?_)
  · have hlt : lo < hi := of_decide_eq_true hc1
    refine dw_skip ?_
    refine dw_block ?_
    refine dw_seq ?_
    -- region 3
    refine dw_region (by kernel_rfl) ?_
    refine dl_r (sem_move rfl rfl) ?_
    refine dl_r (sem_move rfl rfl) ?_
    refine dl_r (sem_ari (r := lo + hi) rfl rfl (ari_i64_add (by omega) (by omega)) rfl) ?_
    refine dl_r (sem_conv' (r := lo + hi) und3 und94 rfl (nwu64 (by omega) (by omega)) rfl) ?_
    refine dl_r (sem_shrC (r := (lo + hi) / 2) rfl rfl (by decide) shr_half rfl) ?_
    refine dl_r (sem_conv' (r := (lo + hi) / 2) und94 und3 rfl (nw64 (by omega) (by omega)) rfl) ?_
    refine dl_r (sem_assign rfl rfl) ?_
    refine dl_end ?_
    refine dw_seq ?_
    -- region 4
    refine dw_region (by kernel_rfl) ?_
    refine dl_r (sem_move rfl rfl) ?_
    refine dl_r (sem_move rfl rfl) ?_
    refine dl_r (sem_callk rfl rfl (hφ _ (by omega) (by omega)) rfl) ?_
    refine dl_r (sem_not rfl rfl) ?_
    refine dl_end ?_
    refine dw_cond rfl (fun hc2 => ?_) (fun hc2 => ?_)
    · have hm : ¬ r ≤ (lo + hi) / 2 := by simpa using hc2
      -- region 5
      refine dw_region (by kernel_rfl) ?_
      refine dl_r (sem_move rfl rfl) ?_
      refine dl_r (sem_ari (r := ((lo + hi) / 2) + 1) rfl rfl (ari_i64_add (by omega) (by omega)) rfl) ?_
      refine dl_r (sem_assign rfl rfl) ?_
      refine dl_end ?_
      exact ⟨⟨((lo + hi) / 2 + 1, hi), by show 0 ≤ (lo + hi) / 2 + 1; omega, by show (lo + hi) / 2 + 1 ≤ r; omega, g3, g4⟩, sub_of ⟨rfl, rfl, rfl, rfl, trivial⟩ trivial rfl, by show (hi - ((lo + hi) / 2 + 1)).toNat < (hi - lo).toNat; omega⟩
    · have hm : r ≤ (lo + hi) / 2 := by simpa using hc2
      -- region 6
      refine dw_region (by kernel_rfl) ?_
      refine dl_r (sem_move rfl rfl) ?_
      refine dl_r (sem_assign rfl rfl) ?_
      refine dl_end ?_
      exact ⟨⟨(lo, (lo + hi) / 2), g1, g2, by show r ≤ (lo + hi) / 2; omega, by show (lo + hi) / 2 ≤ N; omega⟩, sub_of ⟨rfl, rfl, rfl, rfl, trivial⟩ trivial rfl, by show ((lo + hi) / 2 - lo).toNat < (hi - lo).toNat; omega⟩
  · have hlo : r = lo := by have := of_decide_eq_false hc1; omega
    refine dw_exit ?_
    refine dw_seq ?_
    -- region 7
    refine dw_region (by kernel_rfl) ?_
    refine dl_r (sem_move rfl rfl) ?_
    refine dl_r (sem_assign rfl rfl) ?_
    refine dl_end ?_
    refine dw_ret ?_
    -- path F
    rw [hlo]
    exact ⟨.inr rfl, (resL_tmp rfl resL_nil)⟩
theorem eStep_ok {a t : Int} {c : Rat} (hc : Rz 20 c) (ha : 1 ≤ a) (ha2 : a ≤ 10000000) (ht : 1 ≤ t) (ht2 : t ≤ 10000000) {r : Int} (hcos : cosB c = true) (hr0 : 0 ≤ r) (hr1 : r ≤ t + 1) (hφ : ∀ i : Int, 0 ≤ i → i < t + 1 → alw a t (i + 1) c = decide (i < r)) : Ok Try.prog 46 [.c (.i .i64 a), .c (.i .i64 t), dR c] [.c (.i .i64 r), .c (.i .i64 0)] := by
  refine Ok.of (by kernel_rfl) Try.func46 rfl rfl ?_
  rw [show Try.f46.ntmps = 33 from rfl, show Try.f46.results.toList = [.tmp 6, .tmp 7] from rfl]
  refine dw_seq ?_
  -- region 0
  refine dw_region (by kernel_rfl) ?_
  refine dl_new (sem_box_c rfl rfl) rfl ?_
  refine dl_new (sem_box_c rfl rfl) rfl ?_
  refine dl_new (sem_box_a rfl rfl) rfl ?_
  refine dl_r (sem_assign rfl rfl) ?_
  refine dl_r (sem_assign rfl rfl) ?_
  refine dl_end ?_
  refine dw_seq ?_
  refine dw_seq ?_
  -- region 1
  refine dw_region (by kernel_rfl) ?_
  refine dl_r (sem_load1 ty2 rfl rfl rfl rfl) ?_
  refine dl_r (sem_castb (c := false) (sem_cmp rfl rfl rfl rfl) (decide_eq_false (by omega))) ?_
  refine dl_r (sem_move rfl rfl) ?_
  refine dl_r (sem_load1 ty2 rfl rfl rfl rfl) ?_
  refine dl_r (sem_castb (c := false) (sem_cmp rfl rfl rfl rfl) (decide_eq_false (by omega))) ?_
  refine dl_r (sem_pick rfl rfl rfl rfl) ?_
  refine dl_r (sem_move rfl rfl) ?_
  refine dl_r (sem_load1 ty2 rfl rfl rfl rfl) ?_
  refine dl_r (sem_castb (c := false) (sem_cmp rfl rfl rfl rfl) (decide_eq_false (by omega))) ?_
  refine dl_r (sem_pick rfl rfl rfl rfl) ?_
  refine dl_r (sem_move rfl rfl) ?_
  refine dl_r (sem_load1 ty2 rfl rfl rfl rfl) ?_
  refine dl_r (sem_castb (c := false) (sem_cmp rfl rfl rfl rfl) (decide_eq_false (by omega))) ?_
  refine dl_r (sem_pick rfl rfl rfl rfl) ?_
  refine dl_r (sem_move rfl rfl) ?_
  refine dl_r (sem_load (us := cR c) ty49 rfl rfl rfl rfl rfl) ?_
  refine dl_r (sem_call rfl rfl (rcastb (eCos_ok (by first | assumption | exact Rz.mono hc (by decide))) hcos) rfl) ?_
  refine dl_r (sem_not rfl rfl) ?_
  refine dl_r (sem_pick rfl rfl rfl rfl) ?_
  refine dl_end ?_
  refine dw_false rfl ?_
  refine dw_skip ?_
  refine dw_seq ?_
  -- region 3
  refine dw_freeze (t := 3) (k := 3) rfl rfl ?_
  refine dw_freeze (t := 4) (k := 4) rfl rfl ?_
  refine dw_freeze (t := 5) (k := 5) rfl rfl ?_
  refine dw_region (by kernel_rfl) ?_
  refine dl_r (sem_loadP1 ty2 rfl rfl rfl) ?_
  refine dl_r (sem_ari (r := t + 1) rfl rfl (ari_i64_add (by omega) (by omega)) rfl) ?_
  refine dl_r (sem_mkfn (us := [.p ([.i .i64 a]), .p ([.i .i64 t]), .p (cR c)]) rfl rfl) ?_
  refine dl_r (sem_call rfl rfl (eSrch_ok (by omega) (by omega) hr0 hr1 (fun i g1 g2 => rcastb (eStp1_ok hc ha ha2 ht ht2 g1 (by omega)) (by rw [hφ i g1 g2]; exact not_lt_le i r))) rfl) ?_
  refine dl_r (sem_assign rfl rfl) ?_
  refine dl_end ?_
  refine dw_seq ?_
  -- region 4
  refine dw_region (by kernel_rfl) ?_
  refine dl_r (sem_move rfl rfl) ?_
  refine dl_r (sem_assign rfl rfl) ?_
  refine dl_r (sem_assign rfl rfl) ?_
  refine dl_end ?_
  refine dw_ret ?_
  -- path 
  exact ⟨.inr rfl, (resL_tmp rfl (resL_tmp rfl resL_nil))⟩
theorem tBnd_ok {a t : Int} {c : Rat} (hc : Rz 20 c) (ha : 1 ≤ a) (ha2 : a ≤ 10000000) (ht : 1 ≤ t) (ht2 : t ≤ 10000000) {s : Int} (hcos : cosB c = true) (hs : 1 ≤ s) (hs2 : s ≤ t + 1) : Ok Try.prog 34 [.c (.i .i64 s), .c (.i .i64 a), .c (.i .i64 t), dR c] [.c (.b (alw a t s c))] := by
  obtain ⟨r, hr0, hr1, hφ⟩ := step_ex c ha ht
  refine Ok.of (by kernel_rfl) Try.func34 rfl rfl ?_
  rw [show Try.f34.ntmps = 25 from rfl, show Try.f34.results.toList = [.tmp 8] from rfl]
  refine dw_seq ?_
  -- region 0
  refine dw_region (by kernel_rfl) ?_
  refine dl_new (sem_box_a rfl rfl) rfl ?_
  refine dl_r (sem_assign rfl rfl) ?_
  refine dl_end ?_
  refine dw_seq ?_
  -- region 1
  refine dw_region (by kernel_rfl) ?_
  refine dl_r (sem_move rfl rfl) ?_
  refine dl_r (sem_move rfl rfl) ?_
  refine dl_r (sem_load (us := cR c) ty49 rfl rfl rfl rfl rfl) ?_
  refine dl_r (sem_call rfl rfl (eStep_ok hc ha ha2 ht ht2 hcos hr0 hr1 hφ) rfl) ?_
  refine dl_r (sem_move rfl rfl) ?_
  refine dl_r (sem_extract rfl rfl rfl) ?_
  refine dl_r (sem_extract rfl rfl rfl) ?_
  refine dl_r (sem_assign rfl rfl) ?_
  refine dl_r (sem_assign rfl rfl) ?_
  refine dl_end ?_
  refine dw_seq ?_
  -- region 2
  refine dw_region (by kernel_rfl) ?_
  refine dl_r (sem_move rfl rfl) ?_
  refine dl_r (sem_cmp rfl rfl rfl rfl) ?_
  refine dl_r (sem_move rfl rfl) ?_
  refine dl_r (sem_move rfl rfl) ?_
  refine dl_r (sem_move rfl rfl) ?_
  refine dl_r (sem_cmp rfl rfl rfl rfl) ?_
  refine dl_r (sem_pick rfl rfl rfl rfl) ?_
  refine dl_r (sem_assign rfl rfl) ?_
  refine dl_end ?_
  refine dw_ret ?_
  -- path 
  rw [show alw a t s c = decide (s ≤ r) from by
      have h9 := hφ (s - 1) (by omega) (by omega)
      rw [Int.sub_add_cancel] at h9
      rw [h9]
      exact decide_eq_decide.2 (by omega)]
  exact ⟨.inr rfl, (resL_tmp rfl resL_nil)⟩
end Go.Proofs.Ytonjlikaacengaa
/- Plain: positions in one direction, the greatest step between them. -/
namespace Go.Proofs.Ytonjlikaacengaa
open Go Go.RowKit
/-- The step to position j. -/
def stp (us : List CellD) (j : Nat) : Int := max (max (max (ci us (j * 2) - ci us ((j - 1) * 2)) (ci us ((j - 1) * 2) - ci us (j * 2))) (ci us (j * 2 + 1) - ci us ((j - 1) * 2 + 1))) (ci us ((j - 1) * 2 + 1) - ci us (j * 2 + 1))
def dk (us : List CellD) (j : Nat) : Bool := dok (ci us ((j - 1) * 2)) (ci us ((j - 1) * 2 + 1)) (ci us (j * 2)) (ci us (j * 2 + 1))
def dX (us : List CellD) (j : Nat) : Int := dsg (ci us ((j - 1) * 2)) (ci us (j * 2))
def dY (us : List CellD) (j : Nat) : Int := dsg (ci us ((j - 1) * 2 + 1)) (ci us (j * 2 + 1))
/-- Position j stands against it. -/
def eg (us : List CellD) (a : Int) (j : Nat) : Bool := (far (ci us (j * 2)) || far (ci us (j * 2 + 1))) || (decide (j ≠ 0) && (!dk us j || (!(dX us j == dX us 1 && dY us j == dY us 1) || decide (stp us j > a))))
def gmx (us : List CellD) : Nat → Int
  | 0 => 0
  | j + 1 => if j = 0 then 0 else max (gmx us j) (stp us j)
theorem gmx_0 {us : List CellD} {j : Nat} (h : j = 0) : gmx us j = gmx us (j + 1) := by subst h; rfl
theorem gmx_s {us : List CellD} {j : Nat} (h : j ≠ 0) : max (gmx us j) (stp us j) = gmx us (j + 1) := by
  show _ = if j = 0 then 0 else _
  rw [if_neg h]
def engB (us : List CellD) (n : Nat) (a t : Int) (c : Rat) : Bool := (List.range n).all (fun i => !eg us a i) && alw a t (gmx us n) c
theorem engB_f {us : List CellD} {n j : Nat} {a t : Int} {c : Rat} (hj : j < n) (h : eg us a j = true) : engB us n a t c = false := by
  unfold engB
  rw [show (List.range n).all (fun i => !eg us a i) = false from ?_, Bool.false_and]
  rw [List.all_eq_false]
  exact ⟨j, List.mem_range.2 hj, by rw [h]; decide⟩
theorem engB_t {us : List CellD} {n : Nat} {a t : Int} {c : Rat} (h : ∀ i, i < n → eg us a i = false) : engB us n a t c = alw a t (gmx us n) c := by
  unfold engB
  rw [show (List.range n).all (fun i => !eg us a i) = true from ?_, Bool.true_and]
  rw [List.all_eq_true]
  intro i hi
  rw [h i (List.mem_range.1 hi)]; rfl
section
variable {us : List CellD} {a : Int} {j : Nat}
theorem eg_1 (h : (!(!(far (ci us (j * 2)) || far (ci us (j * 2 + 1))))) = true) : eg us a j = true := by
  rw [Bool.not_not] at h
  unfold eg; rw [h, Bool.true_or]
theorem fr_1 (h : (!(!(far (ci us (j * 2)) || far (ci us (j * 2 + 1))))) = false) : far (ci us (j * 2)) = false ∧ far (ci us (j * 2 + 1)) = false := by
  rw [Bool.not_not, Bool.or_eq_false_iff] at h
  exact h
theorem eg_0 (h : far (ci us (j * 2)) = false ∧ far (ci us (j * 2 + 1)) = false) (h0 : j = 0) : eg us a j = false := by
  unfold eg; rw [h.1, h.2, decide_eq_false (show ¬ j ≠ 0 from fun g => g h0)]; rfl
theorem eg_2 (h0 : j ≠ 0) (h : (!dk us j) = true) : eg us a j = true := by
  unfold eg; rw [h, decide_eq_true h0]; simp
theorem eg_3 (h0 : j ≠ 0) (h : (!(dX us j == dX us 1 && dY us j == dY us 1)) = true) : eg us a j = true := by
  unfold eg; rw [h, decide_eq_true h0]; simp
theorem eg_4 (h0 : j ≠ 0) (h : decide (stp us j > a) = true) : eg us a j = true := by
  unfold eg; rw [h, decide_eq_true h0]; simp
theorem eg_5 (g : far (ci us (j * 2)) = false ∧ far (ci us (j * 2 + 1)) = false) (h2 : (!dk us j) = false) (h3 : (!(dX us j == dX us 1 && dY us j == dY us 1)) = false) (h4 : decide (stp us j > a) = false) : eg us a j = false := by
  unfold eg; rw [g.1, g.2, h2, h3, h4]; simp
theorem eg_far (h : eg us a j = false) : (-10000000 ≤ ci us (j * 2) ∧ ci us (j * 2) ≤ 10000000) ∧ (-10000000 ≤ ci us (j * 2 + 1) ∧ ci us (j * 2 + 1) ≤ 10000000) := by
  unfold eg at h
  rw [Bool.or_eq_false_iff, Bool.or_eq_false_iff] at h
  exact ⟨far_n h.1.1, far_n h.1.2⟩
theorem eg_dk (h0 : j ≠ 0) (h : eg us a j = false) : dk us j = true ∧ dX us j = dX us 1 ∧ dY us j = dY us 1 ∧ stp us j ≤ a := by
  unfold eg at h
  rw [decide_eq_true h0] at h
  simp only [Bool.or_eq_false_iff, Bool.true_and, Bool.not_eq_false', Bool.and_eq_true, decide_eq_false_iff_not, beq_iff_eq] at h
  exact ⟨h.2.1, h.2.2.1.1, h.2.2.1.2, by omega⟩
theorem stp_pos (h : dk us j = true) : 1 ≤ stp us j := by
  obtain ⟨L, dx, dy, hL, hd, e1, e2⟩ := dir_of h
  unfold stp
  rcases hd with ⟨rfl, rfl⟩ | ⟨rfl, rfl⟩ | ⟨rfl, rfl⟩ | ⟨rfl, rfl⟩ <;> omega
theorem gmx_le (ha : 0 ≤ a) : ∀ n, (∀ i, i < n → eg us a i = false) → 0 ≤ gmx us n ∧ gmx us n ≤ a
  | 0, _ => ⟨Int.le_refl _, ha⟩
  | n + 1, h => by
    have ih := gmx_le ha n (fun i hi => h i (by omega))
    by_cases h0 : n = 0
    · rw [← gmx_0 h0]; exact ih
    · rw [← gmx_s h0]
      have h1 := (eg_dk h0 (h n (by omega))).2.2.2
      omega
theorem gmx_ge {n : Nat} (hn : 2 ≤ n) (h : ∀ i, i < n → eg us a i = false) : 1 ≤ gmx us n := by
  match n, hn with
  | n + 2, _ =>
    rw [← gmx_s (show n + 1 ≠ 0 by omega)]
    have h1 := stp_pos (eg_dk (show n + 1 ≠ 0 by omega) (h (n + 1) (by omega))).1
    omega
end
end Go.Proofs.Ytonjlikaacengaa
