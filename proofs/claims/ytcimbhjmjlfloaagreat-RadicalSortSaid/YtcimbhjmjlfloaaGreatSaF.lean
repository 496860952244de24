/- Data: slices: made, indexed, sliced, appended to. -/
import Derived.Test.YtcimbhjmjlfloaaGreatSaE
import Derived.Laws.MakeOwn
import Derived.Deep.AppendSrc
import Derived.Great.BuildSlice
import Derived.Test.YtcimbhjmjlfloaaGreatProg
namespace Go.Proofs.YtcimbhjmjlfloaaGreat
open Go Go.RowKit

/-- A slice type's element type, its size and bytes, the cells of its zero. -/
def elB (P : Program) (U : TypeId) : Option (TypeId × Nat × Nat × List CellD) :=
  match P.underlying U with
  | some (.slice e) => match P.info? e, zcB P e with
    | some i, some zs => if Nat.beq i.size zs.length then some (e, i.size, i.bytes, zs) else none
    | _, _ => none
  | _ => none

section
variable {P : Program} {ops : Array Oper} {o : Oper} {T : TF} {B : BF} {V : Nat → Prop} {β : Nat → Nat} {a : Act} {w w' : World} {av : Nat → Prop}

theorem elB_spec {U e : TypeId} {m by_ : Nat} {zs : List CellD} (h : elB P U = some (e, m, by_, zs)) : P.underlying U = some (.slice e) ∧ ∃ i z, P.info? e = some i ∧ i.zero = some z ∧ i.size = m ∧ i.bytes = by_ ∧ zs.length = m ∧ ∀ (V : Nat → Prop) (w : World), RdCs V w z.cells.toList zs := by
  unfold elB at h
  split at h
  · rename_i e' hu
    split at h
    · rename_i i zs' hi hz
      split at h
      · rename_i hb
        injection h with h
        injection h with h1 h
        injection h with h2 h
        injection h with h3 h4
        subst h1 h2 h3 h4
        have hzc := hz
        unfold zcB at hzc
        rw [hi] at hzc
        dsimp only at hzc
        cases hz0 : i.zero with
        | none => rw [hz0] at hzc; cases hzc
        | some z =>
          refine ⟨hu, i, z, hi, hz0, rfl, rfl, (Nat.eq_of_beq_eq_true hb).symm, fun V w => ?_⟩
          obtain ⟨it, z', hi', hz', hr⟩ := zcB_reads (V := V) (w := w) hz
          rw [hi] at hi'
          injection hi' with e1
          subst e1
          rw [hz0] at hz'
          injection hz' with e2
          subst e2
          exact hr
      · cases h
    · cases h
  · cases h
theorem slB_of {U e : TypeId} {m by_ : Nat} {zs : List CellD} (h : elB P U = some (e, m, by_, zs)) : slB P U = some m := by
  obtain ⟨hu, i, z, hi, _, hs, _⟩ := elB_spec h
  unfold slB
  rw [hu]
  simp [hi, hs]

/-- make, at elements of one cell. -/
theorem sem_make {dst : Option Nat} {U e : TypeId} {l c : Operand} {ty : TypeId} {pos : String} {af : Array Edge} {g : Option (Nat × Bool)} {by_ n : Nat} {z : CellD} {kl kc : IntKind}
    (hU : elB P U = some (e, 1, by_, [z])) (hl : opd T l = some (.v (.c (.i kl n)))) (hc : opd T c = some (.v (.c (.i kc n)))) (hb : by_ * n ≤ 281474976710656) (h63 : n ≤ 9223372036854775807)
    (hg : gd ops ⟨dst, .makeSlice U l c, ty, pos, af, g⟩ T = some true) : Sem P ops ⟨dst, .makeSlice U l c, ty, pos, af, g⟩ T B (.a e (List.replicate n z) (some n)) := fun V β a w hs => ⟨gd_want hs hg, by
  obtain ⟨hu, i, zv, hi, hz, hsz, hby, _, hr⟩ := elB_spec hU
  have e1 : a.eval l = .int kl n := RdC.int_eq (opd_reads hs (x := l) (by simp [Op.operands]) hl)
  have e2 : a.eval c = .int kc n := RdC.int_eq (opd_reads hs (x := c) (by simp [Op.operands]) hc)
  have hrun := run_make (P := P) w U e i zv hu hi hz kl kc n n (by omega) (by omega) (by rw [hby]; have h2 : ((by_ * n : Nat) : Int) ≤ 281474976710656 := Int.ofNat_le.2 hb; rw [Int.natCast_mul] at h2; exact h2) (by omega)
  have hrr := hr V w
  unfold Gives
  have : (execOp a.eval ⟨dst, .makeSlice U l c, ty, pos, af, g⟩).run P w = .ok (.value (.slice (some ⟨w.heap.size, 0, none⟩) n n)) (w.alloc (.cells (madeCells zv.cells (n * 1)) e)) := by
    simp only [execOp, e1, e2, Sem.run_bind, hrun, Result.andThen_ok, Sem.run_pure, hsz]
    simp
  rw [this]
  refine ⟨_, rfl, rfl, by simp [madeCells], fun j v u hv hu => ?_⟩
  have hlen : zv.cells.size = 1 := by have := hrr.1; simpa using this
  simp only [madeCells, Nat.mul_one, hlen, Nat.mod_one, Array.toList_map, Array.toList_range, List.getElem?_map] at hv
  cases hq : (List.range n)[j]? with
  | none => rw [hq] at hv; cases hv
  | some q =>
    rw [hq] at hv
    injection hv with hv
    have hu2 : u = z := by
      have := List.mem_of_getElem? hu
      exact (List.mem_replicate.1 this).2
    subst hu2
    have hpos : 0 < zv.cells.size := by omega
    have h0 : zv.cells.toList[0]? = some (zv.cells[0]'hpos) := by rw [Array.getElem?_toList]; exact Array.getElem?_eq_getElem hpos
    have := hrr.2 0 _ u h0 rfl
    rw [← hv]
    have e3 : zv.cells[0]! = zv.cells[0]'hpos := getElem!_pos zv.cells 0 hpos
    rw [e3]; exact this⟩

theorem sem_len_o {dst : Option Nat} {x : Operand} {U : TypeId} {ty : TypeId} {pos : String} {af : Array Edge} {g : Option (Nat × Bool)} {n m c k : Nat}
    (hU : slB P U = some m) (hx : opd T x = some (.o k n c)) (hg : gd ops ⟨dst, .call ⟨.builtin .len, #[x], #[U]⟩, ty, pos, af, g⟩ T = some true) :
    Sem P ops ⟨dst, .call ⟨.builtin .len, #[x], #[U]⟩, ty, pos, af, g⟩ T B (.r (.v (.c (.i .i64 n)))) :=
  sem_pure hg (nop rfl) (fun V β a w hs => by
    have e : a.eval x = .slice (some ⟨β k, 0, none⟩) n c := opd_reads hs (x := x) (by simp [Op.operands, Call.operands]) hx
    unfold slB at hU
    split at hU
    · rename_i el hu
      refine ⟨.int .i64 n, ?_, .i _ _⟩
      simp [execOp, resolve, invoke, builtin, Builtin.len_, e, run_underlying hu, goInt]
    · cases hU)

theorem sem_index_o {dst : Option Nat} {x i : Operand} {U : TypeId} {ty : TypeId} {pos : String} {af : Array Edge} {g : Option (Nat × Bool)} {n m c k : Nat} {ki : IntKind} {j : Int}
    (hU : slB P U = some m) (hx : opd T x = some (.o k n c)) (hi : opd T i = some (.v (.c (.i ki j)))) (hj : 0 ≤ j ∧ j < n) (hg : gd ops ⟨dst, .indexAddr U x i, ty, pos, af, g⟩ T = some true) :
    Sem P ops ⟨dst, .indexAddr U x i, ty, pos, af, g⟩ T B (.r (.p k (j.toNat * m))) :=
  sem_pure hg (fun k' e => by
      obtain rfl : k = k' := by injection e
      exact opd_ptr (ops := ops) (o := ⟨dst, .indexAddr U x i, ty, pos, af, g⟩) (by simp [Op.operands]) hx rfl) (fun V β a w hs => by
    have e : a.eval x = .slice (some ⟨β k, 0, none⟩) n c := opd_reads hs (x := x) (by simp [Op.operands]) hx
    have h2 := RdC.int_eq (opd_reads hs (x := i) (by simp [Op.operands]) hi)
    unfold slB at hU
    split at hU
    case h_2 => cases hU
    rename_i el hul
    cases hinf : P.info? el with
    | none => rw [hinf] at hU; cases hU
    | some inf =>
      rw [hinf] at hU
      simp at hU
      refine ⟨.pointer (some ⟨β k, j.toNat * m, none⟩), ?_, rfl⟩
      have hso : ∀ w, (sizeOf el).run P w = .ok m w := fun w => by unfold sizeOf typeInfo; simp [program, Sem.run, hinf, hU]
      simp [execOp, Instr.indexAt, e, h2, asIntOf, run_underlying hul, hj.1, hj.2, hso, addr_add])

/-- x[:h] of a slice read as data (h within its length). -/
theorem sem_slice_s {dst : Option Nat} {x h : Operand} {U : TypeId} {ty : TypeId} {pos : String} {af : Array Edge} {g : Option (Nat × Bool)} {n m : Nat} {ki : IntKind} {j : Int} {xs us : List CellD}
    (hU : slB P U = some m) (hx : opd T x = some (.v (.c (.s n xs)))) (hh : opd T h = some (.v (.c (.i ki j)))) (hj : 0 ≤ j ∧ j ≤ n) (hl : xs.length = n * m) (hu : xs.take (j.toNat * m) = us) (hg : gd ops ⟨dst, .slice U x none (some h) none, ty, pos, af, g⟩ T = some true) :
    Sem P ops ⟨dst, .slice U x none (some h) none, ty, pos, af, g⟩ T B (.r (.v (.c (.s j.toNat us)))) :=
  sem_pure hg (nop rfl) (fun V β a w hs => by
    have h1 := opd_reads hs (x := x) (by simp [Op.operands]) hx
    have h2 := RdC.int_eq (opd_reads hs (x := h) (by simp [Op.operands]) hh)
    generalize hv : a.eval x = v at h1
    have h1 : RdC V w v (.s n xs) := h1
    unfold slB at hU
    split at hU
    case h_2 => cases hU
    rename_i el hul
    cases hinf : P.info? el with
    | none => rw [hinf] at hU; cases hU
    | some inf =>
      rw [hinf] at hU
      simp at hU
      have hso : ∀ w, (sizeOf el).run P w = .ok m w := fun w => by unfold sizeOf typeInfo; simp [program, Sem.run, hinf, hU]
      have hgen : ∀ (A : Option Addr) (c : Nat), a.eval x = .slice A n c → j ≤ c → (execOp a.eval ⟨dst, .slice U x none (some h) none, ty, pos, af, g⟩).run P w = .ok (.value (.slice A j.toNat c)) w := by
        intro A c e hjc
        have hA : (if c = 0 then A else Option.map (fun x : Addr => x.add (0 * m)) A) = A := by
          split
          · rfl
          · cases A with
            | none => rfl
            | some A => simp [Addr.add]
        simp [execOp, Instr.sliceAt, Instr.slice, run_underlying hul, e, h2, Instr.sliceBounds, Instr.sliceBound, asIntOf, hj.1, hjc, hso, Addr.add]
        try (cases A <;> rfl)
      cases h1 with
      | s0 A c hc =>
        have hj0 : j.toNat = 0 := by omega
        refine ⟨_, hgen A c hv (by omega), ?_⟩
        rw [← hu]
        rw [hj0]
        simp
        exact .s0 A c hc
      | s b off c sz _ _ cv h0 hnc hcm hlen hb hav hc hr =>
        have hsz : sz = m := by
          rw [hl] at hlen
          exact (Nat.eq_of_mul_eq_mul_left h0 hlen).symm
        subst hsz
        refine ⟨_, hgen _ c hv (by omega), ?_⟩
        rcases Nat.eq_zero_or_pos j.toNat with hj0 | hj0
        · rw [← hu, hj0]; simp; exact .s0 _ c hcm
        · have hjn : j.toNat ≤ n := by omega
          have hmul : j.toNat * sz ≤ n * sz := Nat.mul_le_mul_right _ hjn
          refine .s b off c sz j.toNat us cv hj0 (by omega) hcm ?_ hb hav (fun q hq => hc q (by omega)) (fun q u hq => ?_)
          · rw [← hu, List.length_take, hlen]; omega
          · rw [← hu, List.getElem?_take] at hq
            split at hq
            · exact hr q u hq
            · cases hq)
end
end Go.Proofs.YtcimbhjmjlfloaaGreat
/- Data: slices appended to; slice literals; an own slice given out. -/
namespace Go.Proofs.YtcimbhjmjlfloaaGreat
open Go Go.RowKit
section
variable {P : Program} {ops : Array Oper} {o : Oper} {T : TF} {B : BF} {V : Nat → Prop} {β : Nat → Nat} {a : Act} {w w' : World} {av : Nat → Prop}

theorem one_of {vs : List Value} {us : List CellD} (h : RdCs V w vs us) : ∀ v ∈ vs, v.oneCell' = true := by
  intro v hv
  obtain ⟨j, hj⟩ := List.getElem?_of_mem hv
  have hlt : j < us.length := by rw [← h.1]; exact (List.getElem?_eq_some_iff.1 hj).1
  have := h.2 j v _ hj (List.getElem?_eq_getElem hlt)
  generalize us[j] = u at this
  cases this <;> rfl

/-- The cells of a slice that reads as data. -/
theorem cells_of_s {v : Value} {n m : Nat} {xs : List CellD} (h : RdC V w v (.s n xs)) (hl : xs.length = n * m) :
    ∃ (A : Option Addr) (c : Nat) (vs : List Value), v = .slice A n c ∧ RdCs V w vs xs ∧ (∀ (j : Nat) (u : Value), vs[j]? = some u → ∃ b off, A = some ⟨b, off, none⟩ ∧ w.cell? ⟨b, off + j, none⟩ = some u) := by
  generalize hu : CellD.s n xs = u at h
  cases h with
  | s0 A c hc =>
    injection hu with h1 h2
    subst h1 h2
    exact ⟨A, c, [], rfl, RdCs.nil, fun j u hj => by simp at hj⟩
  | s b off c sz n' xs' cv h0 hnc hcm hlen hb hav hcell hr =>
    injection hu with h1 h2
    subst h1 h2
    refine ⟨_, c, (List.range (n * sz)).map cv, rfl, ⟨by simp [hlen], fun j v u hv hu => ?_⟩, fun j u hj => ?_⟩
    · rw [List.getElem?_map] at hv
      generalize hq : (List.range (n * sz))[j]? = r at hv
      match r, hq, hv with
      | some q, hq, hv =>
        obtain ⟨_, rfl⟩ := range_get hq
        simp at hv
        subst hv
        exact hr _ u hu
    · rw [List.getElem?_map] at hj
      generalize hq : (List.range (n * sz))[j]? = r at hj
      match r, hq, hj with
      | some q, hq, hj =>
        obtain ⟨hlt, rfl⟩ := range_get hq
        simp at hj
        subst hj
        exact ⟨b, off, rfl, hcell _ hlt⟩
  | _ => cases hu

theorem src_of {v : Value} {U e : TypeId} {n m by_ : Nat} {xs zs : List CellD} (hU : elB P U = some (e, m, by_, zs)) (h : RdC V w v (.s n xs)) (hl : xs.length = n * m) : ∃ news, Src P m U v n news w ∧ RdCs V w news xs := by
  obtain ⟨A, c, vs, rfl, hr, hc⟩ := cells_of_s h hl
  obtain ⟨hu, _⟩ := elB_spec hU
  have hlen : vs.length = n * m := by rw [hr.1, hl]
  have hcells : ∀ w', (∀ a : Addr, w'.cell? a = w.cell? a) → (Builtin.firstCells m n (.slice A n c)).run P w' = .ok vs.toArray w' := by
    intro w' hw
    cases A with
    | none =>
      have : vs = [] := by
        cases vs with
        | nil => rfl
        | cons u us => obtain ⟨b, off, e, _⟩ := hc 0 u rfl; cases e
      subst this; rfl
    | some A =>
      have := run_loadCells_list (P := P) w' A vs (fun j u hj => by
        obtain ⟨b, off, e, hcell⟩ := hc j u hj
        injection e with e
        subst e
        rw [addr_add, hw]; exact hcell)
      rw [hlen] at this
      exact this
  exact ⟨vs, ⟨.inl ⟨e, hu⟩, fun _ => rfl, hcells w (fun _ => rfl), hcells w.drew (fun _ => rfl), hlen, one_of hr⟩, hr⟩

/-- append onto an own slice that has no room: new memory; the own array may be read as data from now on. -/
theorem sem_append_c {dst : Option Nat} {x y : Operand} {U e : TypeId} {ty : TypeId} {pos : String} {af : Array Edge} {g : Option (Nat × Bool)} {n c q m by_ k : Nat} {cs ys zs us : List CellD}
    (hU : elB P U = some (e, m, by_, zs)) (hx : opd T x = some (.o k n c)) (hy : opd T y = some (.v (.c (.s q ys)))) (hb : B k = some (e, cs)) (hcs : cs.length = c * m) (hys : ys.length = q * m) (hm : 0 < m)
    (hgrow : c < n + q) (hnc : n ≤ c) (hbytes : (n + q) * by_ ≤ 140737488355328) (h63 : n + q ≤ maxLen) (hus : cs.take (n * m) ++ ys = us)
    (hg : gd ops ⟨dst, .call ⟨.builtin .append, #[x, y], #[U, U]⟩, ty, pos, af, g⟩ T = some true) :
    Sem P ops ⟨dst, .call ⟨.builtin .append, #[x, y], #[U, U]⟩, ty, pos, af, g⟩ T B (.c k (.v (.c (.s (n + q) us)))) := by
  refine ⟨rfl, by rw [hb]; simp, fun V β a w hs => ⟨gd_want hs hg, ?_⟩⟩
  have e1 : a.eval x = .slice (some ⟨β k, 0, none⟩) n c := opd_reads hs (x := x) (by simp [Op.operands, Call.operands]) hx
  have h2 : RdC V w (a.eval y) (.s q ys) := opd_reads hs (x := y) (by simp [Op.operands, Call.operands]) hy
  obtain ⟨news, hsrc, hrn⟩ := src_of hU h2 hys
  obtain ⟨hu, i, z, hi, hz, hsz, hby, _, hzr⟩ := elB_spec hU
  obtain ⟨hvk, vs, ev, hr⟩ := hs.box k e cs hb
  subst hsz
  have hle : n * i.size ≤ cs.length := by rw [hcs]; exact Nat.mul_le_mul_right _ hnc
  have hr2 := hr.take (n * i.size)
  have hlen : (vs.toList.take (n * i.size)).length = n * i.size := by rw [hr2.1, List.length_take]; omega
  have hold : (Builtin.firstCells i.size n (.slice (some ⟨β k, 0, none⟩) n c)).run P w.drew = .ok (vs.toList.take (n * i.size)).toArray w.drew := by
    have := run_loadCells_list (P := P) w.drew ⟨β k, 0, none⟩ (vs.toList.take (n * i.size)) (fun j u hj => by
      rw [addr_add, Nat.zero_add]
      show w.cell? _ = _
      rw [List.getElem?_take] at hj
      split at hj
      · rw [cells_of_box ev, ← hj]; simp
      · cases hj)
    rw [hlen] at this
    exact this
  have hrun := run_append_grow_src (P := P) (w := w) U U ty e i z hu hi hz (some ⟨β k, 0, none⟩) n c _ hold (a.eval y) q news hsrc hgrow (by have : maxLen = 9223372036854775807 := rfl; omega) (growslice_fits hgrow (by rw [hby]; exact hbytes))
  have hexec : (execOp a.eval ⟨dst, .call ⟨.builtin .append, #[x, y], #[U, U]⟩, ty, pos, af, g⟩).run P w = .ok (.value (.slice (some ⟨w.heap.size, 0, none⟩) (n + q) (grownCap w (n + q) c e)))
      (w.drew.alloc (.cells ((vs.toList.take (n * i.size) ++ news).toArray ++ Builtin.zeroCells z.cells (grownCap w (n + q) c e - (n + q))) e)) := by
    simp only [execOp, resolve, invoke, builtin, Sem.run_bind, Sem.run_pure, Result.andThen_ok, List.map_toArray, List.map_cons, List.map_nil, e1]
    rw [hrun]
    rfl
  unfold Gives
  rw [hexec]
  have hbel : Below w.heap.size w (w.drew.alloc (.cells ((vs.toList.take (n * i.size) ++ news).toArray ++ Builtin.zeroCells z.cells (grownCap w (n + q) c e - (n + q))) e)) := (Below.refl _ w).drew.alloc (Nat.le_refl _) _
  refine ⟨?_, hbel⟩
  have hkeep : Keep V (fun b => V b ∧ b ≠ β k) w (w.drew.alloc (.cells ((vs.toList.take (n * i.size) ++ news).toArray ++ Builtin.zeroCells z.cells (grownCap w (n + q) c e - (n + q))) e)) := ⟨hbel.size, fun b hb _ => hbel.block b hb, fun _ _ h => h.1⟩
  have hrd := (RdCs.append hr2 hrn).keep hkeep
  rw [hus] at hrd
  have hlenr : (vs.toList.take (n * i.size) ++ news).length = (n + q) * i.size := by rw [List.length_append, hlen, hsrc.newsLen, Nat.add_mul]
  refine .s w.heap.size 0 (grownCap w (n + q) c e) i.size (n + q) us (fun j => (vs.toList.take (n * i.size) ++ news).getD j undef) (by omega) (grownCap_ge _ _ _ _) ?_ (by rw [← hrd.1]; exact hlenr) (by simp) (fun h => by have := hs.av _ h.1; omega) (fun j hj => ?_) (fun j u hj => ?_)
  · exact grownCap_le_maxLen _ _ _ _ h63
  · have hlt : j < (vs.toList.take (n * i.size) ++ news).length := by omega
    rw [Nat.zero_add]
    show (w.drew.alloc _).cell? ⟨w.drew.heap.size, j, none⟩ = _
    rw [cells_of_box (U := e) (vs := (vs.toList.take (n * i.size) ++ news).toArray ++ Builtin.zeroCells z.cells (grownCap w (n + q) c e - (n + q))) (heap_alloc_new w.drew _)]
    rw [Array.getElem?_append_left (by simpa using hlt)]
    simp only [List.getElem?_toArray, List.getD]
    rw [List.getElem?_eq_getElem hlt]; rfl
  · have hlt : j < (vs.toList.take (n * i.size) ++ news).length := by rw [hrd.1]; exact (List.getElem?_eq_some_iff.1 hj).1
    have hv : (vs.toList.take (n * i.size) ++ news)[j]? = some ((vs.toList.take (n * i.size) ++ news)[j]) := List.getElem?_eq_getElem hlt
    simp only [List.getD, hv, Option.getD_some]
    exact hrd.2 j _ u hv hj

/-- A slice literal: an own array. -/
theorem sem_slit {dst : Option Nat} {U e : TypeId} {ps : Array (Nat × Operand)} {ty : TypeId} {pos : String} {af : Array Edge} {g : Option (Nat × Bool)} {n m by_ : Nat} {zs us : List CellD} {dps : List (Nat × D0)}
    (hU : elB P U = some (e, m, by_, zs)) (hp : partsD T ps.toList = some dps) (hf : fillD (fun i => some (i * m, m)) (List.replicate n zs).flatten dps = some us) (hn : n * m ≤ 16777216) (hm : 0 < n * m)
    (hg : gd ops ⟨dst, .buildSlice U n ps, ty, pos, af, g⟩ T = some true) : Sem P ops ⟨dst, .buildSlice U n ps, ty, pos, af, g⟩ T B (.a e us (some n)) := fun V β a w hs => ⟨gd_want hs hg, by
  obtain ⟨hu, i, z, hi, hz, hsz, hby, hzl, hzr⟩ := elB_spec hU
  obtain ⟨h1, h2⟩ := partsD_reads hs ps.toList dps (fun p hp => by simp only [Op.operands, List.mem_toArray, List.mem_map]; exact ⟨p, hp, rfl⟩) hp
  subst hsz
  have hzs : z.cells.size = i.size := by have := (hzr V w).1; rw [hzl] at this; simpa using this
  -- the zero row
  have hzero : RdCs V w ((Array.range (n * i.size)).map (z.cells[· % z.cells.size]!)).toList (List.replicate n zs).flatten := by
    have key : ∀ (n : Nat), RdCs V w ((List.range (n * i.size)).map (fun j => z.cells[j % z.cells.size]!)) (List.replicate n zs).flatten := by
      intro n
      induction n with
      | zero => simp; exact RdCs.nil
      | succ n ih =>
        rw [Nat.succ_mul, List.range_add, List.map_append, List.replicate_succ', List.flatten_append]
        refine RdCs.append ih ?_
        have e2 : (List.map (fun x => n * i.size + x) (List.range i.size)).map (fun j => z.cells[j % z.cells.size]!) = z.cells.toList := by
          apply List.ext_getElem (by simp [hzs])
          intro j h1 h2
          simp at h1
          simp only [List.getElem_map, List.getElem_range, hzs]
          rw [Nat.mul_comm n, Nat.mul_add_mod, Nat.mod_eq_of_lt (by omega), getElem!_pos z.cells j (by omega)]
          simp
        rw [e2]
        simpa using hzr V w
    have := key n
    simpa using this
  obtain ⟨cells, hfl, hrd⟩ := fill_reads _ dps _ _ us h1 h2 hzero hf
  have hrun := run_buildSlice (P := P) w U e n (ps.map fun (i, x) => (i, a.eval x)) cells i z hu hi hz (by have : (2 : Nat) ^ 24 = 16777216 := rfl; omega) (by omega) (by simpa using hfl)
  unfold Gives
  have : (execOp a.eval ⟨dst, .buildSlice U n ps, ty, pos, af, g⟩).run P w = .ok (.value (.slice (some ⟨w.heap.size, 0, none⟩) n n)) (w.alloc (.cells cells e)) := by
    simp only [execOp, Sem.run_bind, hrun, Result.andThen_ok, Sem.run_pure]
  rw [this]
  exact ⟨cells, rfl, rfl, hrd⟩⟩
end
end Go.Proofs.YtcimbhjmjlfloaaGreat
/- Data: an own array given out as data. -/
namespace Go.Proofs.YtcimbhjmjlfloaaGreat
open Go Go.RowKit
section
variable {P : Program} {σ : St} {Q : Exit → St → Prop}
theorem Rel.upd {av : Nat → Prop} {w0 : Ent} {w : World} {n : Nat} {T : TF} {B : BF} {β : Nat → Nat} {a : Act} (h : Rel av w0 n T B β a w) {t : Nat} {x : DV} {v : Value} (hv : a.tmps[t]? = some v)
    (hx : RdX (fun b => av b ∨ ∃ k, B k ≠ none ∧ β k = b) w β v x) (hr : refs x = none) : Rel av w0 n (fun s => if t = s then some x else T s) B β a w :=
  ⟨h.dfr, h.siz, h.bel, h.avl, h.avE, h.big, h.fix, h.inj, h.own, fun s y k hs hy => by
    try dsimp only at hs
    split at hs
    · injection hs with hs; subst hs; rw [hr] at hy; cases hy
    · exact h.wf s y k hs hy, h.sees.av, h.sees.box, fun s y hL hs => by
    try dsimp only at hs
    split at hs
    · rename_i e; injection hs with hs; subst hs; subst e; exact ⟨v, hv, hx⟩
    · exact h.sees.tmp s y hL hs⟩

/-- The ways meet again. -/
theorem dw_seqJ {ι : Type} {x y : Code} (J : ι → St) (h1 : Dw P x σ (thenD (fun σ' => ∃ j, Sub σ' (J j)) Q)) (h2 : ∀ j, Dw P y (J j) Q) : Dw P (.seq x y) σ Q := by
  refine dw_seq (h1.mono fun e σ' h => ?_)
  cases e with
  | normal => obtain ⟨j, hs⟩ := h; exact (h2 j).weak hs
  | _ => exact h
theorem dw_release {c : Code} {N t k n' c' m : Nat} {tm : List (Nat × DV)} {bx : List (Nat × TypeId × List CellD)} {U : TypeId} {cs us : List CellD}
    (ht : look t tm = some (.o k n' c')) (hb : look k bx = some (U, cs)) (hm : cs.length = c' * m) (hn : n' ≤ c') (hc : c' ≤ 9223372036854775807) (hu : cs.take (n' * m) = us)
    (h : Dw P c ⟨N, (t, .v (.c (.s n' us))) :: killL k tm, dropL k bx⟩ Q) : Dw P c ⟨N, tm, bx⟩ Q := fun av w0 β a w hr => by
  obtain ⟨v, hv, hx⟩ := hr.sees.tmp t _ trivial ht
  have hx : v = .slice (some ⟨β k, 0, none⟩) n' c' := hx
  subst hx
  obtain ⟨hvk, vs, ev, hrd⟩ := hr.sees.box k U cs hb
  have hk0 : (St.B ⟨N, tm, bx⟩) k ≠ none := by rw [show (St.B ⟨N, tm, bx⟩) k = some (U, cs) from hb]; simp
  have e := drop_av hr hk0
  have hkeep : Keep (fun b => av b ∨ ∃ l, (St.B ⟨N, tm, bx⟩) l ≠ none ∧ β l = b) (fun b => (av b ∨ ∃ l, (St.B ⟨N, tm, bx⟩) l ≠ none ∧ β l = b) ∧ b ≠ β k) w w := ⟨Nat.le_refl _, fun _ _ _ => rfl, fun _ _ h => h.1⟩
  have hle : n' * m ≤ cs.length := by rw [hm]; exact Nat.mul_le_mul_right _ hn
  have hread : RdC (fun b => (av b ∨ ∃ l, (St.B ⟨N, tm, bx⟩) l ≠ none ∧ β l = b) ∧ b ≠ β k) w (.slice (some ⟨β k, 0, none⟩) n' c') (.s n' us) := by
    rcases Nat.eq_zero_or_pos n' with h0 | h0
    · subst h0
      rw [← hu]; simp
      exact .s0 _ _ hc
    · have hr2 := (hrd.take (n' * m)).keep hkeep
      rw [hu] at hr2
      have hvl : n' * m ≤ vs.size := by have := hrd.1; simp at this; omega
      refine .s (β k) 0 c' m n' us (fun j => vs.getD j undef) h0 hn hc ?_ (hr.sees.av _ hvk) (fun h => h.2 rfl) (fun j hj => ?_) (fun j u hj => ?_)
      · rw [← hu, List.length_take]; omega
      · rw [Nat.zero_add, cells_of_box ev]
        have : j < vs.size := by omega
        simp [Array.getD, this]
      · have hlt : j < us.length := (List.getElem?_eq_some_iff.1 hj).1
        have hlt2 : j < n' * m := by rw [← hu, List.length_take] at hlt; omega
        refine hr2.2 j _ u ?_ hj
        rw [List.getElem?_take, if_pos hlt2, Array.getElem?_toList]
        have : j < vs.size := by omega
        simp [Array.getD, this]
  have h2 := (hr.drop k).upd (t := t) (x := .v (.c (.s n' us))) hv (by rw [e]; exact hread) rfl
  refine h av w0 β a w (h2.congr (fun s => ?_) (fun l => ?_))
  · show look s ((t, .v (.c (.s n' us))) :: killL k tm) = _
    rw [look_cons]
    split
    · rfl
    · rw [killL_look]
      show _ = killF k (fun s => look s tm) s
      unfold killF
      try (dsimp only)
      try (generalize look s tm = q; cases q <;> rfl)
  · exact dropL_look k l bx
end
end Go.Proofs.YtcimbhjmjlfloaaGreat
/- Data: slices that grow: the room behind a slice is not known. -/
namespace Go.Proofs.YtcimbhjmjlfloaaGreat
open Go Go.RowKit
section
variable {P : Program} {ops : Array Oper} {T : TF} {B : BF} {av : Nat → Prop} {w0 : Ent} {w : World} {N : Nat} {β : Nat → Nat} {a : Act}

/-- A box goes by another number; what pointed to it is let go. -/
theorem Rel.ren (h : Rel av w0 N T B β a w) {k d : Nat} (hdN : d < N) (hk : B k ≠ none) (hd : d = k ∨ B d = none) :
    Rel av w0 N (killF k T) (fun l => if l = d then B k else if l = k then none else B l) (fun l => if l = d then β k else β l) a w := by
  have hB : ∀ l, (if l = d then B k else if l = k then none else B l) ≠ none → (l = d ∨ (l ≠ d ∧ l ≠ k ∧ B l ≠ none)) := by
    intro l hl
    by_cases e : l = d
    · exact .inl e
    · rw [if_neg e] at hl
      by_cases e2 : l = k
      · rw [if_pos e2] at hl; exact absurd rfl hl
      · rw [if_neg e2] at hl; exact .inr ⟨e, e2, hl⟩
  have hne : ∀ l, B l ≠ none → l ≠ k → l ≠ d := by
    intro l hl e e2
    rcases hd with hd | hd
    · exact e (e2.trans hd)
    · rw [← e2] at hd; exact hl hd
  have hV : (fun b => av b ∨ ∃ l, (if l = d then B k else if l = k then none else B l) ≠ none ∧ (if l = d then β k else β l) = b) = (fun b => av b ∨ ∃ l, B l ≠ none ∧ β l = b) := by
    funext b
    refine propext ⟨?_, ?_⟩
    · rintro (hb | ⟨l, hl, hb⟩)
      · exact .inl hb
      · rcases hB l hl with e | ⟨e1, e2, e3⟩
        · rw [if_pos e] at hb; exact .inr ⟨k, hk, hb⟩
        · rw [if_neg e1] at hb; exact .inr ⟨l, e3, hb⟩
    · rintro (hb | ⟨l, hl, hb⟩)
      · exact .inl hb
      · by_cases e : l = k
        · exact .inr ⟨d, by rw [if_pos rfl]; exact hk, by rw [if_pos rfl, ← e]; exact hb⟩
        · have := hne l hl e
          exact .inr ⟨l, by rw [if_neg this, if_neg e]; exact hl, by rw [if_neg this]; exact hb⟩
  have hT : ∀ t x, killF k T t = some x → x = .n ∨ (T t = some x ∧ refs x ≠ some k) := by
    intro t x ht
    unfold killF at ht
    split at ht
    · rename_i y hy
      split at ht
      · injection ht with ht; exact .inl ht.symm
      · rename_i hr; injection ht with ht; subst ht; exact .inr ⟨hy, hr⟩
    · cases ht
  refine ⟨h.dfr, h.siz, h.bel, h.avl, h.avE, h.big, fun b hb hK => ?_, ?_, ?_, ?_, ?_⟩
  · have hKd : w0.K ≠ d := by have := h.big; omega
    have hK0 := hK
    rcases hB _ hK with e | ⟨_, _, e⟩
    · exact absurd e hKd
    · rw [if_neg hKd]; exact h.fix b hb e
  · intro l m hl hm e
    rcases hB l hl with e1 | ⟨e1, e2, e3⟩ <;> rcases hB m hm with f1 | ⟨f1, f2, f3⟩
    · rw [e1, f1]
    · rw [if_pos e1, if_neg f1] at e
      exact absurd (h.inj k m hk f3 e).symm f2
    · rw [if_neg e1, if_pos f1] at e
      exact absurd (h.inj l k e3 hk e) e2
    · rw [if_neg e1, if_neg f1] at e
      exact h.inj l m e3 f3 e
  · intro l hl
    rcases hB l hl with e1 | ⟨e1, e2, e3⟩
    · rw [if_pos e1]; exact h.own k hk
    · rw [if_neg e1]; exact h.own l e3
  · intro t x l ht hx
    rcases hT t x ht with rfl | ⟨h1, h2⟩
    · cases hx
    · have h3 := h.wf t x l h1 hx
      have h4 : l ≠ k := fun e => h2 (by rw [hx, e])
      rw [if_neg (hne l h3 h4), if_neg h4]; exact h3
  · rw [hV]
    refine ⟨h.sees.av, ?_, ?_⟩
    · intro l U cs hl
      have hl0 : (if l = d then B k else if l = k then none else B l) = some (U, cs) := hl
      by_cases e : l = d
      · rw [if_pos e] at hl0
        show Box _ _ (if l = d then β k else β l) _ _
        rw [if_pos e]; exact h.sees.box k U cs hl0
      · rw [if_neg e] at hl0
        show Box _ _ (if l = d then β k else β l) _ _
        rw [if_neg e]
        by_cases e2 : l = k
        · rw [if_pos e2] at hl0; cases hl0
        · rw [if_neg e2] at hl0; exact h.sees.box l U cs hl0
    · intro t x hL ht
      rcases hT t x ht with rfl | ⟨h1, h2⟩
      · unfold killF at ht
        split at ht
        · rename_i y hy
          obtain ⟨v, e, _⟩ := h.sees.tmp t y hL hy
          exact ⟨v, e, trivial⟩
        · cases ht
      · obtain ⟨v, e, hr⟩ := h.sees.tmp t x hL h1
        refine ⟨v, e, ?_⟩
        cases x with
        | p l off =>
          have h3 := h.wf t _ l h1 rfl
          have h4 : l ≠ k := fun e => h2 (by rw [e]; rfl)
          show v = .pointer (some ⟨if l = d then β k else β l, off, none⟩)
          rw [if_neg (hne l h3 h4)]; exact hr
        | o l n c =>
          have h3 := h.wf t _ l h1 rfl
          have h4 : l ≠ k := fun e => h2 (by rw [e]; rfl)
          show v = .slice (some ⟨if l = d then β k else β l, 0, none⟩) n c
          rw [if_neg (hne l h3 h4)]; exact hr
        | w l off n c =>
          have h3 := h.wf t _ l h1 rfl
          have h4 : l ≠ k := fun e => h2 (by rw [e]; rfl)
          show v = .slice (some ⟨if l = d then β k else β l, off, none⟩) n c
          rw [if_neg (hne l h3 h4)]; exact hr
        | v d => exact hr
        | t ds => exact hr
        | q us => exact hr
        | u => exact hr
        | n => trivial
        | z => exact hr
        | f n us => exact hr

theorem put_put (a : Act) (d : Nat) (v v' : Value) : (a.put (some d) v).put (some d) v' = a.put (some d) v' := by simp [Act.put]

theorem kill_T {k t : Nat} {x : DV} {tm : List (Nat × DV)} {bx : List (Nat × TypeId × List CellD)} : (⟨N, (t, x) :: killL k tm, bx⟩ : St).T = fun s => if some t = some s then some x else killF k (fun s => look s tm) s := by
  funext s
  show look s ((t, x) :: killL k tm) = _
  rw [look_cons, killL_look]
  by_cases e : t = s
  · rw [if_pos e, if_pos (by rw [e])]
  · rw [if_neg e, if_neg (by simpa using e)]; rfl
theorem drop_B {k t : Nat} {x : TypeId × List CellD} {tm : List (Nat × DV)} {bx : List (Nat × TypeId × List CellD)} : (⟨N, tm, (t, x) :: dropL k bx⟩ : St).B = fun l => if some t = some l then some x else if l = k then none else look l bx := by
  funext s
  show look s ((t, x) :: dropL k bx) = (if some t = some s then some x else if s = k then none else look s bx)
  rw [look_cons, dropL_look]
  by_cases e : t = s
  · rw [if_pos e, if_pos (by rw [e])]
  · rw [if_neg e, if_neg (show ¬ some t = some s by simpa using e)]

theorem zeroC {z : Value} {zs : List CellD} {m : Nat} (hzl : zs.length = m) (hzr : ∀ (V : Nat → Prop) (w : World), RdCs V w z.cells.toList zs) (r : Nat) :
    ∃ rest : List CellD, rest.length = r * m ∧ ∀ (V : Nat → Prop) (w : World), RdCs V w (Builtin.zeroCells z.cells r).toList rest := by
  have hzs : z.cells.size = m := by have := (hzr (fun _ => False) default).1; rw [hzl] at this; simpa using this
  have key : ∀ (r : Nat) (V : Nat → Prop) (w : World), RdCs V w ((List.range (r * m)).map (fun j => z.cells[j % z.cells.size]!)) (List.replicate r zs).flatten := by
    intro r V w
    induction r with
    | zero => simp; exact RdCs.nil
    | succ r ih =>
      rw [Nat.succ_mul, List.range_add, List.map_append, List.replicate_succ', List.flatten_append]
      refine RdCs.append ih ?_
      have e2 : (List.map (fun x => r * m + x) (List.range m)).map (fun j => z.cells[j % z.cells.size]!) = z.cells.toList := by
        apply List.ext_getElem (by simp [hzs])
        intro j h1 h2
        simp at h1
        simp only [List.getElem_map, List.getElem_range, hzs]
        rw [Nat.mul_comm r, Nat.mul_add_mod, Nat.mod_eq_of_lt (by omega), getElem!_pos z.cells j (by omega)]
        simp
      rw [e2]
      simpa using hzr V w
  refine ⟨(List.replicate r zs).flatten, ?_, fun V w => ?_⟩
  · have := (key r (fun _ => False) default).1
    simpa using this.symm
  · have := key r V w
    unfold Builtin.zeroCells
    rw [hzs]
    simpa [hzs] using this

variable {tm : List (Nat × DV)} {bx : List (Nat × TypeId × List CellD)}
/-- append onto an own slice: with room or without. -/
theorem gsem_appendS {t : Nat} {x y : Operand} {U e : TypeId} {ty : TypeId} {pos : String} {af : Array Edge} {g : Option (Nat × Bool)} {n c q m by_ k : Nat} {cs ys zs pre : List CellD}
    (hU : elB P U = some (e, m, by_, zs)) (hx : opd (fun s => look s tm) x = some (.o k n c)) (hsc : ∀ V β a w, Sees V (Looks ops ⟨some t, .call ⟨.builtin .append, #[x, y], #[U, U]⟩, ty, pos, af, g⟩) (fun s => look s tm) (fun l => look l bx) β a w → ∃ V', RdC V' w (a.eval y) (.s q ys) ∧ ∀ news, RdCs V' w news ys → RdCs V w news ys) (hb : look k bx = some (e, cs)) (hcs : cs.length = c * m) (hys : ys.length = q * m) (hm : 0 < m)
    (hnc : n ≤ c) (hcm : c ≤ maxLen) (hbytes : (n + q) * by_ ≤ 140737488355328) (h63 : n + q ≤ maxLen) (hpre : cs.take (n * m) = pre) (hd : t = k ∨ look t bx = none)
    (hg : gd ops ⟨some t, .call ⟨.builtin .append, #[x, y], #[U, U]⟩, ty, pos, af, g⟩ (fun s => look s tm) = some true) :
    GSem P ops ⟨some t, .call ⟨.builtin .append, #[x, y], #[U, U]⟩, ty, pos, af, g⟩ ⟨N, tm, bx⟩ (fun σ' => ∃ c' rest, n + q ≤ c' ∧ c' ≤ maxLen ∧ rest.length = (c' - (n + q)) * m ∧ σ' = ⟨N, (t, .o t (n + q) c') :: killL k tm, (t, e, pre ++ ys ++ rest) :: dropL k bx⟩) := by
  intro av w0 β a w hrel htn
  have hs := Sees.of hrel.sees (L := Looks ops ⟨some t, .call ⟨.builtin .append, #[x, y], #[U, U]⟩, ty, pos, af, g⟩) (fun _ _ => trivial) (fun _ _ _ h => h) (fun _ _ h => h)
  refine ⟨gd_want hs hg, ?_⟩
  have e1 : a.eval x = .slice (some ⟨β k, 0, none⟩) n c := opd_reads hs (x := x) (by simp [Op.operands, Call.operands]) hx
  obtain ⟨V', h2, hconv⟩ := hsc _ _ _ _ hs
  obtain ⟨news, hsrc, hrn'⟩ := src_of hU h2 hys
  have hrn := hconv _ hrn'
  obtain ⟨hu, i, z, hi, hz, hsz, hby, hzl, hzr⟩ := elB_spec hU
  obtain ⟨hvk, vs, ev, hr⟩ := hs.box k e cs hb
  subst hsz
  have hkn : (look k bx) ≠ none := by rw [hb]; simp
  have hle : n * i.size ≤ cs.length := by rw [hcs]; exact Nat.mul_le_mul_right _ hnc
  have hvl : vs.size = c * i.size := by have := hr.1; rw [hcs] at this; simpa using this
  have hr2 := hr.take (n * i.size)
  rw [hpre] at hr2
  have hlen : (vs.toList.take (n * i.size)).length = n * i.size := by
    rw [List.length_take, Array.length_toList, hvl]
    exact Nat.min_eq_left (Nat.mul_le_mul_right _ hnc)
  have ht : t < N := htn t rfl
  have hnl : news.length = q * i.size := hsrc.newsLen
  unfold Gives
  by_cases hroom : n + q ≤ c
  · -- in place
    have hfit : 0 + n * i.size + 0 + news.length ≤ vs.size := by
      rw [hvl, hnl]
      have := Nat.mul_le_mul_right i.size hroom
      rw [Nat.add_mul] at this; omega
    have hst := run_storeCells_at P (β k) (0 + n * i.size) e news 0 vs w ev hfit hsrc.one
    simp only [Nat.zero_add, Nat.add_zero] at hst
    have hrun : (Builtin.append_ #[U, U] ty #[.slice (some ⟨β k, 0, none⟩) n c, a.eval y]).run P w = .ok (.slice (some ⟨β k, 0, none⟩) (n + q) c) (w.setRow (β k) (vs.toList.take (n * i.size) ++ news ++ vs.toList.drop (n * i.size + news.length)).toArray) := by
      rcases hsrc.kind with ⟨e', hk⟩ | hk <;> simp [Builtin.append_, run_underlying hu, sizeOf, typeInfo, hi, hsrc.len, hroom, hsrc.cells, Addr.add_lit, hst]
    have hexec : (execOp a.eval ⟨some t, .call ⟨.builtin .append, #[x, y], #[U, U]⟩, ty, pos, af, g⟩).run P w = .ok (.value (.slice (some ⟨β k, 0, none⟩) (n + q) c)) (w.setRow (β k) (vs.toList.take (n * i.size) ++ news ++ vs.toList.drop (n * i.size + news.length)).toArray) := by
      simp only [execOp, resolve, invoke, builtin, Sem.run_bind, Sem.run_pure, Result.andThen_ok, List.map_toArray, List.map_cons, List.map_nil, e1]
      rw [hrun]
      rfl
    rw [hexec]
    have hrest : ((cs.drop (n * i.size + news.length))).length = (c - (n + q)) * i.size := by
      rw [List.length_drop, hcs, hnl, ← Nat.add_mul, ← Nat.sub_mul]
    refine ⟨⟨N, (t, .o t (n + q) c) :: killL k tm, (t, e, pre ++ ys ++ cs.drop (n * i.size + news.length)) :: dropL k bx⟩, fun l => if l = t then β k else β l, ⟨c, _, hroom, hcm, hrest, rfl⟩, rfl, ?_⟩
    have hren := hrel.ren (k := k) (d := t) (htn t rfl) hkn hd
    have hstore := hren.store (k := t) (U := e) (cs0 := cs) (cs := pre ++ ys ++ cs.drop (n * i.size + news.length)) (vs := (vs.toList.take (n * i.size) ++ news ++ vs.toList.drop (n * i.size + news.length)).toArray)
      (w' := w.setRow (β k) (vs.toList.take (n * i.size) ++ news ++ vs.toList.drop (n * i.size + news.length)).toArray) (by rw [if_pos rfl]; exact hb) (by rw [if_pos rfl]; exact setRow_heap_set ev) rfl rfl rfl ?_
    · have hval := hstore.value (d := some t) (x := .o t (n + q) c) (v := .slice (some ⟨β k, 0, none⟩) (n + q) c) (by intro s hs; injection hs with hs; subst hs; exact ht) (Below.refl _ _) (by show _ = Value.slice (some ⟨if t = t then β k else β t, 0, none⟩) _ _; rw [if_pos rfl]) (by intro l hl; injection hl with hl; subst hl; rw [if_pos rfl]; simp)
      refine hval.congr (fun s => ?_) (fun l => ?_)
      · rw [kill_T]; rfl
      · rw [drop_B]
        show (if some t = some l then _ else _) = (if t = l then _ else if l = t then _ else _)
        by_cases e : t = l
        · rw [if_pos (by rw [e]), if_pos e]
        · rw [if_neg (show ¬ some t = some l by simpa using e), if_neg e, if_neg (Ne.symm e)]; rfl
    · have hrd : RdCs (fun b => av b ∨ ∃ k, look k bx ≠ none ∧ β k = b) w (vs.toList.take (n * i.size) ++ news ++ vs.toList.drop (n * i.size + news.length)) (pre ++ ys ++ cs.drop (n * i.size + news.length)) := (hr2.append hrn).append (hr.drop _)
      refine RdCs.keep (av := fun b => av b ∨ ∃ k, look k bx ≠ none ∧ β k = b) ⟨Nat.le_refl _, fun _ _ _ => rfl, ?_⟩ hrd
      rintro b _ (hb' | ⟨l, hl, hb'⟩)
      · exact .inl hb'
      · try dsimp only at hl hb'
        by_cases e : l = t
        · rw [if_pos e] at hb'; exact .inr ⟨k, hkn, hb'⟩
        · rw [if_neg e] at hl hb'
          by_cases e2 : l = k
          · rw [if_pos e2] at hl; exact absurd rfl hl
          · rw [if_neg e2] at hl; exact .inr ⟨l, hl, hb'⟩
  · -- new memory
    have hgrow : c < n + q := by omega
    have hold : (Builtin.firstCells i.size n (.slice (some ⟨β k, 0, none⟩) n c)).run P w.drew = .ok (vs.toList.take (n * i.size)).toArray w.drew := by
      have := run_loadCells_list (P := P) w.drew ⟨β k, 0, none⟩ (vs.toList.take (n * i.size)) (fun j u hj => by
        rw [addr_add, Nat.zero_add]
        show w.cell? _ = _
        rw [List.getElem?_take] at hj
        split at hj
        · rw [cells_of_box ev, ← hj]; simp
        · cases hj)
      rw [hlen] at this
      exact this
    have hrun := run_append_grow_src (P := P) (w := w) U U ty e i z hu hi hz (some ⟨β k, 0, none⟩) n c _ hold (a.eval y) q news hsrc hgrow (by have : maxLen = 9223372036854775807 := rfl; omega) (growslice_fits hgrow (by rw [hby]; exact hbytes))
    generalize hcap : grownCap w (n + q) c e = c' at hrun
    have hc1 : n + q ≤ c' := by rw [← hcap]; exact grownCap_ge _ _ _ _
    have hc2 : c' ≤ maxLen := by rw [← hcap]; exact grownCap_le_maxLen _ _ _ _ h63
    have hexec : (execOp a.eval ⟨some t, .call ⟨.builtin .append, #[x, y], #[U, U]⟩, ty, pos, af, g⟩).run P w = .ok (.value (.slice (some ⟨w.heap.size, 0, none⟩) (n + q) c'))
        (w.drew.alloc (.cells ((vs.toList.take (n * i.size) ++ news).toArray ++ Builtin.zeroCells z.cells (c' - (n + q))) e)) := by
      simp only [execOp, resolve, invoke, builtin, Sem.run_bind, Sem.run_pure, Result.andThen_ok, List.map_toArray, List.map_cons, List.map_nil, e1]
      rw [hrun]
      rfl
    rw [hexec]
    have hdr := (hrel.drop k).drew
    obtain ⟨rest, hrl, hrz⟩ := zeroC hzl hzr (c' - (n + q))
    have hrd : RdCs (fun b => av b ∨ ∃ l, (if l = k then none else look l bx) ≠ none ∧ β l = b) w.drew ((vs.toList.take (n * i.size) ++ news).toArray ++ Builtin.zeroCells z.cells (c' - (n + q))).toList (pre ++ ys ++ rest) := by
      have h0 : RdCs (fun b => av b ∨ ∃ k, look k bx ≠ none ∧ β k = b) w (vs.toList.take (n * i.size) ++ news) (pre ++ ys) := hr2.append hrn
      have h1 := RdCs.append (RdCs.keep (av := fun b => av b ∨ ∃ k, look k bx ≠ none ∧ β k = b) (w := w) (av' := fun b => av b ∨ ∃ l, (if l = k then none else look l bx) ≠ none ∧ β l = b) (w' := w.drew) ⟨Nat.le_refl _, fun _ _ _ => rfl, fun b _ hb' => hb'.imp id fun ⟨l, hl, e⟩ => ⟨l, fun h0 => by rw [h0] at hl; exact hl (by split <;> rfl), e⟩⟩ h0) (hrz (fun b => av b ∨ ∃ l, (if l = k then none else look l bx) ≠ none ∧ β l = b) w.drew)
      simpa using h1
    have hbox := hdr.box (d := t) ht (by
      show (if t = k then none else look t bx) = none
      rcases hd with hd | hd
      · rw [if_pos hd]
      · rw [hd]; split <;> rfl) (U := e) (sl := some c') hrd
    refine ⟨⟨N, (t, .o t (n + q) c') :: killL k tm, (t, e, pre ++ ys ++ rest) :: dropL k bx⟩, fun l => if l = t then w.drew.heap.size else β l, ⟨c', _, hc1, hc2, hrl, rfl⟩, rfl, ?_⟩
    have hval := hbox.value (d := some t) (x := .o t (n + q) c') (v := .slice (some ⟨w.heap.size, 0, none⟩) (n + q) c') (by intro s hs; injection hs with hs; subst hs; exact ht) (Below.refl _ _) (by show _ = Value.slice (some ⟨if t = t then w.drew.heap.size else β t, 0, none⟩) _ _; rw [if_pos rfl]; rfl) (by intro l hl; injection hl with hl; subst hl; rw [if_pos rfl]; simp)
    rw [put_put] at hval
    refine hval.congr (fun s => ?_) (fun l => ?_)
    · rw [kill_T]
      show (if some t = some s then _ else _) = (if some t = some s then _ else if some t = some s then _ else killF k _ s)
      by_cases e : some t = some s
      · rw [if_pos e, if_pos e]
      · rw [if_neg e, if_neg e, if_neg e]; rfl
    · rw [drop_B]; rfl
theorem gsem_append {t : Nat} {x y : Operand} {U e : TypeId} {ty : TypeId} {pos : String} {af : Array Edge} {g : Option (Nat × Bool)} {n c q m by_ k : Nat} {cs ys zs pre : List CellD}
    (hU : elB P U = some (e, m, by_, zs)) (hx : opd (fun s => look s tm) x = some (.o k n c)) (hy : opd (fun s => look s tm) y = some (.v (.c (.s q ys)))) (hb : look k bx = some (e, cs)) (hcs : cs.length = c * m) (hys : ys.length = q * m) (hm : 0 < m)
    (hnc : n ≤ c) (hcm : c ≤ maxLen) (hbytes : (n + q) * by_ ≤ 140737488355328) (h63 : n + q ≤ maxLen) (hpre : cs.take (n * m) = pre) (hd : t = k ∨ look t bx = none)
    (hg : gd ops ⟨some t, .call ⟨.builtin .append, #[x, y], #[U, U]⟩, ty, pos, af, g⟩ (fun s => look s tm) = some true) :
    GSem P ops ⟨some t, .call ⟨.builtin .append, #[x, y], #[U, U]⟩, ty, pos, af, g⟩ ⟨N, tm, bx⟩ (fun σ' => ∃ c' rest, n + q ≤ c' ∧ c' ≤ maxLen ∧ rest.length = (c' - (n + q)) * m ∧ σ' = ⟨N, (t, .o t (n + q) c') :: killL k tm, (t, e, pre ++ ys ++ rest) :: dropL k bx⟩) := by
  exact gsem_appendS hU hx (fun V β a w hs => ⟨V, opd_reads hs (x := y) (by simp [Op.operands, Call.operands]) hy, fun _ h => h⟩) hb hcs hys hm hnc hcm hbytes h63 hpre hd hg
/-- append onto a nil slice. -/
theorem gsem_append0 {t : Nat} {x y : Operand} {U e : TypeId} {ty : TypeId} {pos : String} {af : Array Edge} {g : Option (Nat × Bool)} {q m by_ : Nat} {ys zs : List CellD}
    (hU : elB P U = some (e, m, by_, zs)) (hx : opd (fun s => look s tm) x = some .z) (hy : opd (fun s => look s tm) y = some (.v (.c (.s q ys)))) (hys : ys.length = q * m) (hq : 0 < q)
    (hbytes : q * by_ ≤ 140737488355328) (h63 : q ≤ maxLen) (hd : look t bx = none)
    (hg : gd ops ⟨some t, .call ⟨.builtin .append, #[x, y], #[U, U]⟩, ty, pos, af, g⟩ (fun s => look s tm) = some true) :
    GSem P ops ⟨some t, .call ⟨.builtin .append, #[x, y], #[U, U]⟩, ty, pos, af, g⟩ ⟨N, tm, bx⟩ (fun σ' => ∃ c' rest, q ≤ c' ∧ c' ≤ maxLen ∧ rest.length = (c' - q) * m ∧ σ' = ⟨N, (t, .o t q c') :: tm, (t, e, ys ++ rest) :: bx⟩) := by
  intro av w0 β a w hrel htn
  have hs := Sees.of hrel.sees (L := Looks ops ⟨some t, .call ⟨.builtin .append, #[x, y], #[U, U]⟩, ty, pos, af, g⟩) (fun _ _ => trivial) (fun _ _ _ h => h) (fun _ _ h => h)
  refine ⟨gd_want hs hg, ?_⟩
  have e1 : a.eval x = .slice none 0 0 := opd_reads hs (x := x) (by simp [Op.operands, Call.operands]) hx
  have h2 := opd_reads hs (x := y) (by simp [Op.operands, Call.operands]) hy
  obtain ⟨news, hsrc, hrn⟩ := src_of hU h2 hys
  obtain ⟨hu, i, z, hi, hz, hsz, hby, hzl, hzr⟩ := elB_spec hU
  subst hsz
  have ht : t < N := htn t rfl
  unfold Gives
  have hold : (Builtin.firstCells i.size 0 (.slice none 0 0)).run P w.drew = .ok ([] : List Value).toArray w.drew := rfl
  have hgrow : 0 < 0 + q := by omega
  have hrun := run_append_grow_src (P := P) (w := w) U U ty e i z hu hi hz none 0 0 _ hold (a.eval y) q news hsrc hgrow (by have : maxLen = 9223372036854775807 := rfl; omega) (growslice_fits hgrow (by rw [hby, Nat.zero_add]; exact hbytes))
  rw [Nat.zero_add] at hrun
  generalize hcap : grownCap w q 0 e = c' at hrun
  have hc1 : q ≤ c' := by rw [← hcap]; exact grownCap_ge _ _ _ _
  have hc2 : c' ≤ maxLen := by rw [← hcap]; exact grownCap_le_maxLen _ _ _ _ h63
  have hexec : (execOp a.eval ⟨some t, .call ⟨.builtin .append, #[x, y], #[U, U]⟩, ty, pos, af, g⟩).run P w = .ok (.value (.slice (some ⟨w.heap.size, 0, none⟩) q c'))
      (w.drew.alloc (.cells (([] ++ news).toArray ++ Builtin.zeroCells z.cells (c' - q)) e)) := by
    simp only [execOp, resolve, invoke, builtin, Sem.run_bind, Sem.run_pure, Result.andThen_ok, List.map_toArray, List.map_cons, List.map_nil, e1]
    rw [hrun]
    rfl
  rw [hexec]
  obtain ⟨rest, hrl, hrz⟩ := zeroC hzl hzr (c' - q)
  have hrd : RdCs (fun b => av b ∨ ∃ k, look k bx ≠ none ∧ β k = b) w.drew (([] ++ news).toArray ++ Builtin.zeroCells z.cells (c' - q)).toList (ys ++ rest) := by
    have h1 : RdCs (fun b => av b ∨ ∃ k, look k bx ≠ none ∧ β k = b) w.drew (news ++ (Builtin.zeroCells z.cells (c' - q)).toList) (ys ++ rest) := RdCs.append (RdCs.keep (Keep.below (Below.refl _ w).drew) hrn) (hrz (fun b => av b ∨ ∃ k, look k bx ≠ none ∧ β k = b) w.drew)
    simpa using h1
  have hbox := hrel.drew.box (d := t) ht hd (U := e) (sl := some c') hrd
  refine ⟨⟨N, (t, .o t q c') :: tm, (t, e, ys ++ rest) :: bx⟩, fun l => if l = t then w.drew.heap.size else β l, ⟨c', _, hc1, hc2, hrl, rfl⟩, rfl, ?_⟩
  have hval := hbox.value (d := some t) (x := .o t q c') (v := .slice (some ⟨w.heap.size, 0, none⟩) q c') (by intro s hs; injection hs with hs; subst hs; exact ht) (Below.refl _ _) (by show _ = Value.slice (some ⟨if t = t then w.drew.heap.size else β t, 0, none⟩) _ _; rw [if_pos rfl]; rfl) (by intro l hl; injection hl with hl; subst hl; rw [if_pos rfl]; simp)
  rw [put_put] at hval
  refine hval.congr (fun s => ?_) (fun l => ?_)
  · show look s ((t, DV.o t q c') :: tm) = (if some t = some s then _ else if some t = some s then _ else look s tm)
    rw [look_cons]
    by_cases e : t = s
    · rw [if_pos e, if_pos (by rw [e])]
    · rw [if_neg e, if_neg (show ¬ some t = some s by simpa using e), if_neg (show ¬ some t = some s by simpa using e)]
  · show look l ((t, e, ys ++ rest) :: bx) = (if some t = some l then _ else look l bx)
    rw [look_cons]
    by_cases e : t = l
    · rw [if_pos e, if_pos (by rw [e])]
    · rw [if_neg e, if_neg (show ¬ some t = some l by simpa using e)]

variable {os : List Oper} {K : St → Prop}
theorem dl_grow {t : Nat} {x y : Operand} {U e : TypeId} {ty : TypeId} {pos : String} {af : Array Edge} {g : Option (Nat × Bool)} {n c q m by_ k : Nat} {us rest ys zs : List CellD}
    (hU : elB P U = some (e, m, by_, zs)) (hx : opd (fun s => look s tm) x = some (.o k n c)) (hy : opd (fun s => look s tm) y = some (.v (.c (.s q ys)))) (hb : look k bx = some (e, us ++ rest)) (hus : us.length = n * m) (hr : rest.length = (c - n) * m)
    (hys : ys.length = q * m) (hm : 0 < m) (hnc : n ≤ c) (hcm : c ≤ maxLen) (hbytes : (n + q) * by_ ≤ 140737488355328) (h63 : n + q ≤ maxLen) (hd : t = k ∨ look t bx = none)
    (hg : gd ops ⟨some t, .call ⟨.builtin .append, #[x, y], #[U, U]⟩, ty, pos, af, g⟩ (fun s => look s tm) = some true)
    (hk : ∀ c' rest', n + q ≤ c' → c' ≤ maxLen → rest'.length = (c' - (n + q)) * m → dl P ops os ⟨N, (t, .o t (n + q) c') :: killL k tm, (t, e, us ++ ys ++ rest') :: dropL k bx⟩ K) :
    dl P ops (⟨some t, .call ⟨.builtin .append, #[x, y], #[U, U]⟩, ty, pos, af, g⟩ :: os) ⟨N, tm, bx⟩ K :=
  .inr ⟨_, gsem_append (pre := us) hU hx hy hb (by rw [List.length_append, hus, hr, ← Nat.add_mul]; congr 1; omega) hys hm hnc hcm hbytes h63 (by rw [← hus]; simp) hd hg, fun σ' ⟨c', rest', h1, h2, h3, e⟩ => by subst e; exact hk c' rest' h1 h2 h3⟩
theorem dl_grow0 {t : Nat} {x y : Operand} {U e : TypeId} {ty : TypeId} {pos : String} {af : Array Edge} {g : Option (Nat × Bool)} {q m by_ : Nat} {ys zs : List CellD}
    (hU : elB P U = some (e, m, by_, zs)) (hx : opd (fun s => look s tm) x = some .z) (hy : opd (fun s => look s tm) y = some (.v (.c (.s q ys)))) (hys : ys.length = q * m) (hq : 0 < q)
    (hbytes : q * by_ ≤ 140737488355328) (h63 : q ≤ maxLen) (hd : look t bx = none)
    (hg : gd ops ⟨some t, .call ⟨.builtin .append, #[x, y], #[U, U]⟩, ty, pos, af, g⟩ (fun s => look s tm) = some true)
    (hk : ∀ c' rest', q ≤ c' → c' ≤ maxLen → rest'.length = (c' - q) * m → dl P ops os ⟨N, (t, .o t q c') :: tm, (t, e, ys ++ rest') :: bx⟩ K) :
    dl P ops (⟨some t, .call ⟨.builtin .append, #[x, y], #[U, U]⟩, ty, pos, af, g⟩ :: os) ⟨N, tm, bx⟩ K :=
  .inr ⟨_, gsem_append0 hU hx hy hys hq hbytes h63 hd hg, fun σ' ⟨c', rest', h1, h2, h3, e⟩ => by subst e; exact hk c' rest' h1 h2 h3⟩

/-- The nil slice, known as such; as data. -/
theorem sem_assign_z {T : TF} {B : BF} {dst : Option Nat} {ty : TypeId} {pos : String} {af : Array Edge} {g : Option (Nat × Bool)}
    (hg : gd ops ⟨dst, .assign (.const (.slice none 0 0)), ty, pos, af, g⟩ T = some true) : Sem P ops ⟨dst, .assign (.const (.slice none 0 0)), ty, pos, af, g⟩ T B (.r .z) :=
  sem_pure hg (fun k e => by cases e) (fun V β a w hs => ⟨.slice none 0 0, rfl, rfl⟩)
theorem dw_nil {c : Code} {Q : Exit → St → Prop} {t : Nat} (ht : look t tm = some .z) (h : Dw P c ⟨N, (t, .v (.c (.s 0 []))) :: tm, bx⟩ Q) : Dw P c ⟨N, tm, bx⟩ Q := fun av w0 β a w hr => by
  obtain ⟨v, hv, hx⟩ := hr.sees.tmp t _ trivial ht
  have hx : v = .slice none 0 0 := hx
  subst hx
  have h2 := hr.upd (t := t) (x := .v (.c (.s 0 []))) hv (.s0 _ _ (by decide)) rfl
  refine h av w0 β a w (h2.congr (fun s => ?_) (fun _ => rfl))
  show look s ((t, .v (.c (.s 0 []))) :: tm) = _
  rw [look_cons]; rfl
/-- A loop whose first round begins in a state of its own. -/
theorem dw_loop1 {ι : Type} {c : Code} {σ : St} {Q : Exit → St → Prop} (I : ι → St) (μ : ι → Nat) (M : Nat)
    (first : Dw P c σ (thenD (fun σ' => ∃ j, Sub σ' (I j) ∧ μ j < M) Q)) (round : ∀ i, Dw P c (I i) (thenD (fun σ' => ∃ j, Sub σ' (I j) ∧ μ j < μ i) Q)) : Dw P (.loop c) σ Q := fun av w0 β a w hr => by
  refine dw_loop (ι := Option ι) (fun i => match i with | none => σ | some i => I i) (fun i => match i with | none => M | some i => μ i) none ⟨rfl, fun _ _ h => h, fun _ _ h => h, hr.wf⟩ (fun i => ?_) av w0 β a w hr
  cases i with
  | none =>
    refine first.mono fun e σ' h => ?_
    cases e with
    | normal => obtain ⟨j, h1, h2⟩ := h; exact ⟨some j, h1, h2⟩
    | _ => exact h
  | some i =>
    refine (round i).mono fun e σ' h => ?_
    cases e with
    | normal => obtain ⟨j, h1, h2⟩ := h; exact ⟨some j, h1, h2⟩
    | _ => exact h
theorem g_len {us rest : List CellD} {n c m : Nat} (h : us.length = n * m) (hr : rest.length = (c - n) * m) (hn : n ≤ c) : (us ++ rest).length = c * m := by
  rw [List.length_append, h, hr, ← Nat.add_mul]; congr 1; omega
theorem g_take {us rest : List CellD} {n m : Nat} (h : us.length = n * m) : (us ++ rest).take (n * m) = us := by rw [← h]; simp
theorem g_max {n : Nat} (h : n ≤ 1000000) : n ≤ maxLen := Nat.le_trans h (by decide)
theorem sem_casti {o : Oper} {T : TF} {B : BF} {k : IntKind} {b c : Int} (h : Sem P ops o T B (.r (.v (.c (.i k b))))) (e : b = c) : Sem P ops o T B (.r (.v (.c (.i k c)))) := by subst e; exact h
theorem sem_max4 {T : TF} {B : BF} {dst : Option Nat} {x1 x2 x3 x4 : Operand} {t1 t2 t3 t4 : TypeId} {ty : TypeId} {pos : String} {af : Array Edge} {g : Option (Nat × Bool)} {k : IntKind} {m1 m2 m3 m4 : Int}
    (h1 : opd T x1 = some (.v (.c (.i k m1)))) (h2 : opd T x2 = some (.v (.c (.i k m2)))) (h3 : opd T x3 = some (.v (.c (.i k m3)))) (h4 : opd T x4 = some (.v (.c (.i k m4))))
    (hg : gd ops ⟨dst, .call ⟨.builtin .max, #[x1, x2, x3, x4], #[t1, t2, t3, t4]⟩, ty, pos, af, g⟩ T = some true) :
    Sem P ops ⟨dst, .call ⟨.builtin .max, #[x1, x2, x3, x4], #[t1, t2, t3, t4]⟩, ty, pos, af, g⟩ T B (.r (.v (.c (.i k (max (max (max m1 m2) m3) m4))))) :=
  sem_pure hg (nop rfl) (fun V β a w hs => by
    have e1 : a.eval x1 = .int k m1 := RdC.int_eq (opd_reads hs (x := x1) (by simp [Op.operands, Call.operands]) h1)
    have e2 : a.eval x2 = .int k m2 := RdC.int_eq (opd_reads hs (x := x2) (by simp [Op.operands, Call.operands]) h2)
    have e3 : a.eval x3 = .int k m3 := RdC.int_eq (opd_reads hs (x := x3) (by simp [Op.operands, Call.operands]) h3)
    have e4 : a.eval x4 = .int k m4 := RdC.int_eq (opd_reads hs (x := x4) (by simp [Op.operands, Call.operands]) h4)
    have q : ∀ a b : Int, Builtin.max2 (.int k a) (.int k b) = pure (.int k (max a b)) := fun a b => by
      show pure (Value.int k (if b > a then b else a)) = _
      congr 2; split <;> omega
    refine ⟨.int k (max (max (max m1 m2) m3) m4), ?_, .i _ _⟩
    simp [execOp, resolve, invoke, builtin, Builtin.max_, q, e1, e2, e3, e4])
end
end Go.Proofs.YtcimbhjmjlfloaaGreat
/- Data: function values that hold pointers, and pointers to memory that stays. -/
namespace Go.Proofs.YtcimbhjmjlfloaaGreat
open Go Go.RowKit
theorem RdC.clo_eq {V : Nat → Prop} {w : World} {v : Value} {g : FuncId} {xs : List CellD} (h : RdC V w v (.k g xs)) : ∃ cs : Array Value, v = .func (.func g) #[] cs ∧ RdCs V w cs.toList xs := by
  cases h with
  | k _ cs _ h1 h2 => exact ⟨cs, rfl, by simpa using h1, fun j v u hv hu => h2 j v u (by simpa using hv) hu⟩
theorem RdC.ptr_eq {V : Nat → Prop} {w : World} {v : Value} {us : List CellD} (h : RdC V w v (.p us)) :
    ∃ b off, ∃ vs : List Value, v = .pointer (some ⟨b, off, none⟩) ∧ b < w.heap.size ∧ ¬ V b ∧ RdCs V w vs us ∧ ∀ (j : Nat) (u : Value), vs[j]? = some u → w.cell? ⟨b, off + j, none⟩ = some u := by
  cases h with
  | p b off _ cv h1 h2 h3 h4 =>
    refine ⟨b, off, (List.range us.length).map cv, rfl, h1, h2, ⟨by simp, fun j v u hv hu => ?_⟩, fun j u hu => ?_⟩
    · rw [List.getElem?_map] at hv
      have hlt : j < us.length := (List.getElem?_eq_some_iff.1 hu).1
      rw [List.getElem?_range hlt] at hv
      injection hv with hv; subst hv
      exact h4 j u hu
    · have hlt : j < us.length := by
        have := (List.getElem?_eq_some_iff.1 hu).1; simpa using this
      rw [List.getElem?_map, List.getElem?_range hlt] at hu
      injection hu with hu; subst hu
      exact h3 j hlt
section
variable {P : Program} {ops : Array Oper} {T : TF} {B : BF}
theorem sem_loadP {dst : Option Nat} {U : TypeId} {x : Operand} {ty : TypeId} {pos : String} {af : Array Edge} {g : Option (Nat × Bool)} {n : Nat} {cs us : List CellD}
    (hU : tyB P U = some (true, n)) (hx : opd T x = some (.v (.c (.p cs)))) (hu : cs.take n = us) (hn : us.length = n) (hg : gd ops ⟨dst, .load U x, ty, pos, af, g⟩ T = some true) :
    Sem P ops ⟨dst, .load U x, ty, pos, af, g⟩ T B (.r (.v (.a us))) :=
  sem_pure hg (nop rfl) (fun V β a w hs => by
    obtain ⟨b, off, vs, hp, _, _, hr, hc⟩ := RdC.ptr_eq (opd_reads hs (by simp [Op.operands]) hx)
    have hr2 := hr.take n
    rw [hu] at hr2
    have hrun := run_loadVar_agg (w := w) hU (b := b) (off := off) (vs := vs.take n) (by rw [hr2.1, hn]) (fun j v hv => by
      rw [List.getElem?_take] at hv
      split at hv
      · exact hc j v hv
      · cases hv)
    refine ⟨_, ?_, _, rfl, by simpa using hr2⟩
    simp only [execOp, Instr.loadAt, hp, Instr.sureAddr, Sem.run_bind, Sem.run_pure, Result.andThen_ok, hrun])
theorem sem_loadP1 {dst : Option Nat} {U : TypeId} {x : Operand} {ty : TypeId} {pos : String} {af : Array Edge} {g : Option (Nat × Bool)} {n : Nat} {cs : List CellD} {u : CellD}
    (hU : tyB P U = some (false, n)) (hx : opd T x = some (.v (.c (.p cs)))) (hu : cs[0]? = some u) (hg : gd ops ⟨dst, .load U x, ty, pos, af, g⟩ T = some true) :
    Sem P ops ⟨dst, .load U x, ty, pos, af, g⟩ T B (.r (.v (.c u))) :=
  sem_pure hg (nop rfl) (fun V β a w hs => by
    obtain ⟨b, off, vs, hp, _, _, hr, hc⟩ := RdC.ptr_eq (opd_reads hs (by simp [Op.operands]) hx)
    have hlt : 0 < cs.length := (List.getElem?_eq_some_iff.1 hu).1
    have hv : vs[0]? = some (vs[0]'(by rw [hr.1]; exact hlt)) := List.getElem?_eq_getElem _
    have hrun := run_loadVar_one (P := P) (w := w) hU (b := b) (off := off) (by have := hc 0 _ hv; simpa using this)
    refine ⟨_, ?_, hr.2 0 _ _ hv hu⟩
    simp only [execOp, Instr.loadAt, hp, Instr.sureAddr, Sem.run_bind, Sem.run_pure, Result.andThen_ok, hrun])

theorem sem_shrC {dst : Option Nat} {xt yt : TypeId} {x y : Operand} {ty : TypeId} {pos : String} {af : Array Edge} {g : Option (Nat × Bool)} {k yk : IntKind} {m n r : Int}
    (hx : opd T x = some (.v (.c (.i k m)))) (hy : opd T y = some (.v (.c (.i yk n)))) (h0 : ¬ n < 0) (hr : m.fdiv (2 ^ (min n.toNat k.bits)) = r) (hg : gd ops ⟨dst, .binOp .shr xt x y yt, ty, pos, af, g⟩ T = some true) :
    Sem P ops ⟨dst, .binOp .shr xt x y yt, ty, pos, af, g⟩ T B (.r (.v (.c (.i k r)))) :=
  sem_pure hg (nop rfl) (fun V β a w hs => by
      have e1 : a.eval x = .int k m := RdC.int_eq (opd_reads hs (x := x) (by simp [Op.operands]) hx)
      have e2 : a.eval y = .int yk n := RdC.int_eq (opd_reads hs (x := y) (by simp [Op.operands]) hy)
      subst hr
      exact ⟨.int k (m.fdiv (2 ^ (min n.toNat k.bits))), by simp [execOp, e1, e2, eqGuard, binOp, Op.shift, h0], .i _ _⟩)
/-- The operands read as cells. -/
def argsC (T : TF) : List Operand → Option (List CellD)
  | [] => some []
  | x :: xs => match opd T x, argsC T xs with
    | some (.v (.c u)), some us => some (u :: us)
    | _, _ => none
theorem argsC_reads {o : Oper} {V : Nat → Prop} {β : Nat → Nat} {a : Act} {w : World} (hs : Sees V (Looks ops o) T B β a w) : ∀ (xs : List Operand) (us : List CellD), (∀ x ∈ xs, x ∈ o.op.operands) → argsC T xs = some us → RdCs V w (xs.map a.eval) us
  | [], us, _, h => by injection h with h; subst h; exact RdCs.nil
  | x :: xs, us, hx, h => by
    unfold argsC at h
    split at h
    · rename_i u us' hu hus
      injection h with h
      subst h
      exact RdCs.cons (opd_reads hs (hx x (by simp)) hu) (argsC_reads hs xs us' (fun y hy => hx y (by simp [hy])) hus)
    · cases h
/-- A function value. -/
theorem sem_mkfn {dst : Option Nat} {f : FuncId} {cap : Array Operand} {ty : TypeId} {pos : String} {af : Array Edge} {g : Option (Nat × Bool)} {us : List CellD}
    (ha : argsC T cap.toList = some us) (hg : gd ops ⟨dst, .makeFunc (.func f) #[] cap, ty, pos, af, g⟩ T = some true) :
    Sem P ops ⟨dst, .makeFunc (.func f) #[] cap, ty, pos, af, g⟩ T B (.r (.v (.c (.k f us)))) :=
  sem_pure hg (nop rfl) (fun V β a w hs => by
    have h2 := argsC_reads hs cap.toList us (fun x hx => by have hx2 := Array.mem_toList_iff.1 hx; simp [Op.operands, hx2]) ha
    refine ⟨.func (.func f) #[] (cap.map a.eval), by simp [execOp, Instr.makeFunc], .k f _ us (by have := h2.1; simpa using this) (fun j v u hv hu => h2.2 j v u ?_ hu)⟩
    rw [← Array.toList_map, Array.getElem?_toList]; exact hv)
theorem RdL.append {V : Nat → Prop} {w : World} : ∀ {vs vs' : List Value} {ds ds' : List D0}, RdL V w vs ds → RdL V w vs' ds' → RdL V w (vs ++ vs') (ds ++ ds')
  | [], vs', [], ds', _, h' => h'
  | [], _, _ :: _, _, h, _ => by have := h.1; simp at this
  | _ :: _, _, [], _, h, _ => by have := h.1; simp at this
  | v :: vs, vs', d :: ds, ds', h, h' => by
    obtain ⟨h1, h2⟩ := h.uncons
    exact RdL.cons h1 (RdL.append h2 h')
theorem RdCs.toL {V : Nat → Prop} {w : World} {vs : List Value} {us : List CellD} (h : RdCs V w vs us) : RdL V w vs (us.map .c) := by
  refine ⟨by simp [h.1], fun j v d hv hd => ?_⟩
  rw [List.getElem?_map] at hd
  cases hu : us[j]? with
  | none => rw [hu] at hd; cases hd
  | some u => rw [hu] at hd; injection hd with hd; subst hd; exact h.2 j v u hv hu
/-- A call of a function value that holds something. -/
theorem sem_callk {dst : Option Nat} {fo : Operand} {args : Array Operand} {at_ : Array TypeId} {ty : TypeId} {pos : String} {af : Array Edge} {g : Option (Nat × Bool)} {f : FuncId} {ds rs : List D0} {us : List CellD}
    (hf : opd T fo = some (.v (.c (.k f us)))) (ha : argsD T args.toList = some ds) (hok : Ok P f (ds ++ us.map .c) rs) (hg : gd ops ⟨dst, .call ⟨.value fo, args, at_⟩, ty, pos, af, g⟩ T = some true) :
    Sem P ops ⟨dst, .call ⟨.value fo, args, at_⟩, ty, pos, af, g⟩ T B (.r (resD rs)) := by
  refine ⟨nop (by unfold resD; split <;> rfl), fun V β a w hs => ⟨gd_want hs hg, ?_⟩⟩
  obtain ⟨cs, h1, h1r⟩ := RdC.clo_eq (opd_reads hs (x := fo) (by simp [Op.operands, Call.operands]) hf)
  have h2 := argsD_reads hs args.toList ds (fun x hx => by have hx2 := Array.mem_toList_iff.1 hx; simp [Op.operands, Call.operands, hx2]) ha
  have hc := hok.cal
  unfold callable at hc
  cases hfn : P.funcs[f]? with
  | none => rw [hfn] at hc; cases hc
  | some fn =>
    rw [hfn] at hc
    simp only [Bool.and_eq_true, bne_iff_ne, ne_eq, Bool.not_eq_true'] at hc
    have hrun : (execOp a.eval ⟨dst, .call ⟨.value fo, args, at_⟩, ty, pos, af, g⟩).run P w = .ok (.enter f (args.map a.eval ++ cs)) w := by
      have hb2 : fn.body ≠ none := by have := hc.2; cases hbb : fn.body with
        | none => rw [hbb] at this; cases this
        | some c => simp
      simp [execOp, resolve, h1, Deferred.ofValue, invoke, callFunc, program, Sem.run, hfn, hc.1, hb2]
    unfold Gives
    rw [hrun]
    refine (hok.run V (args.map a.eval ++ cs) w hs.av (by rw [Array.toList_append, Array.toList_map]; exact h2.append h1r.toL)).mono ?_
    rintro e w' ⟨v, rfl, hr, hb⟩
    refine ⟨v, rfl, ?_, hb⟩
    unfold RdR at hr
    split at hr
    · exact hr
    · rename_i hne
      have e2 : resD rs = .t rs := by
        unfold resD
        split
        · rename_i d; exact absurd rfl (hne d)
        · rfl
      rw [e2]; exact hr
end
section
variable {P : Program} {σ : St} {Q : Exit → St → Prop}
/-- A box that no one will write any more: its pointer is a datum. -/
theorem dw_freeze {c : Code} {N t k : Nat} {tm : List (Nat × DV)} {bx : List (Nat × TypeId × List CellD)} {U : TypeId} {cs : List CellD}
    (ht : look t tm = some (.p k 0)) (hb : look k bx = some (U, cs))
    (h : Dw P c ⟨N, (t, .v (.c (.p cs))) :: killL k tm, dropL k bx⟩ Q) : Dw P c ⟨N, tm, bx⟩ Q := fun av w0 β a w hr => by
  obtain ⟨v, hv, hx⟩ := hr.sees.tmp t _ trivial ht
  have hx : v = .pointer (some ⟨β k, 0, none⟩) := hx
  subst hx
  obtain ⟨hvk, vs, ev, hrd⟩ := hr.sees.box k U cs hb
  have hk0 : (St.B ⟨N, tm, bx⟩) k ≠ none := by rw [show (St.B ⟨N, tm, bx⟩) k = some (U, cs) from hb]; simp
  have e := drop_av hr hk0
  have hkeep : Keep (fun b => av b ∨ ∃ l, (St.B ⟨N, tm, bx⟩) l ≠ none ∧ β l = b) (fun b => (av b ∨ ∃ l, (St.B ⟨N, tm, bx⟩) l ≠ none ∧ β l = b) ∧ b ≠ β k) w w := ⟨Nat.le_refl _, fun _ _ _ => rfl, fun _ _ h => h.1⟩
  have hread : RdC (fun b => (av b ∨ ∃ l, (St.B ⟨N, tm, bx⟩) l ≠ none ∧ β l = b) ∧ b ≠ β k) w (.pointer (some ⟨β k, 0, none⟩)) (.p cs) := by
    have hr2 := hrd.keep hkeep
    refine .p (β k) 0 cs (fun j => vs.getD j undef) (hr.sees.av _ hvk) (fun h => h.2 rfl) (fun j hj => ?_) (fun j u hj => ?_)
    · rw [Nat.zero_add, cells_of_box ev]
      have : j < vs.size := by have := hrd.1; simp at this; omega
      simp [Array.getD, this]
    · have hlt : j < cs.length := (List.getElem?_eq_some_iff.1 hj).1
      refine hr2.2 j _ u ?_ hj
      rw [Array.getElem?_toList]
      have : j < vs.size := by have := hrd.1; simp at this; omega
      simp [Array.getD, this]
  have h2 := (hr.drop k).upd (t := t) (x := .v (.c (.p cs))) hv (by rw [e]; exact hread) rfl
  refine h av w0 β a w (h2.congr (fun s => ?_) (fun l => ?_))
  · show look s ((t, .v (.c (.p cs))) :: killL k tm) = _
    rw [look_cons]
    split
    · rfl
    · rw [killL_look]
      show _ = killF k (fun s => look s tm) s
      unfold killF
      try (dsimp only)
      try (generalize look s tm = q; cases q <;> rfl)
  · exact dropL_look k l bx
end
end Go.Proofs.YtcimbhjmjlfloaaGreat
/- Data: a call that writes into a slice of its caller: the contract, the rule from the body, the operation. -/
namespace Go.Proofs.YtcimbhjmjlfloaaGreat
open Go Go.RowKit
/-- THE CONTRACT OF A CALL whose first argument is a slice over a whole box of the caller: what the box holds before and behind. No results. -/
structure OkS (P : Program) (f : FuncId) (U : TypeId) (n c : Nat) (cs0 cs1 : List CellD) (ds : List D0) : Prop where
  cal : callable P f = true
  run : ∀ (V : Nat → Prop) (b : Nat) (bs vs : Array Value) (vl : List Value) (w : World), vs.toList = .slice (some ⟨b, 0, none⟩) n c :: vl → (∀ x, V x → x < w.heap.size) → V b → w.heap[b]? = some (.cells bs U (0, 0)) → RdCs V w bs.toList cs0 → RdL V w vl ds →
    Calls P f vs w fun e w' => ∃ bs' : Array Value, e = .returned (.tuple #[]) ∧ w'.heap[b]? = some (.cells bs' U (0, 0)) ∧ Mid b w w' ∧ RdCs V w' bs'.toList cs1
section
variable {P : Program}
/-- THE CONTRACT FROM THE BODY: box K is the caller's. -/
theorem OkS.of {f : FuncId} {fn : Func} {c : Code} {U : TypeId} {n m K : Nat} {cs0 cs1 : List CellD} {ds : List D0} (hcal : callable P f = true) (hf : P.funcs[f]? = some fn) (hb : fn.body = some c) (hlen : Nat.ble (ds.length + 1) fn.ntmps = true) (hK : Nat.ble fn.ntmps K = true) (hres : fn.results = #[])
    (h : Dw P c ⟨fn.ntmps, (0, .o K n m) :: argsT 1 ds, [(K, U, cs0)]⟩ fun e σ => (e = .normal ∨ e = .ret) ∧ look K σ.bx = some (U, cs1)) : OkS P f U n m cs0 cs1 ds := by
  refine ⟨hcal, fun V b bs vs vl w hvs hV hVb hbl hcs hds => calls_of_wp hf hb ?_⟩
  have hlen := Nat.le_of_ble_eq_true hlen
  have hK := Nat.le_of_ble_eq_true hK
  have hvl : vs.size = ds.length + 1 := by
    have h1 : vs.toList.length = ds.length + 1 := by rw [hvs, List.length_cons, hds.1]
    simpa using h1
  have hT : ∀ (k : Nat) (ds : List D0) (t : Nat) (x : DV), look t (argsT k ds) = some x → ∃ j d, t = k + j ∧ ds[j]? = some d ∧ x = .v d := by
    intro k ds
    induction ds generalizing k with
    | nil => intro t x h; cases h
    | cons d ds ih =>
      intro t x h
      unfold argsT at h
      rw [look_cons] at h
      split at h
      · rename_i e; injection h with h; exact ⟨0, d, by omega, rfl, h.symm⟩
      · obtain ⟨j, d', e1, e2, e3⟩ := ih (k + 1) t x h
        exact ⟨j + 1, d', by omega, by simpa using e2, e3⟩
  have hT0 : ∀ t x, look t ((0, DV.o K n m) :: argsT 1 ds) = some x → (t = 0 ∧ x = .o K n m) ∨ ∃ j d, t = 1 + j ∧ ds[j]? = some d ∧ x = .v d := by
    intro t x h
    rw [look_cons] at h
    split at h
    · rename_i e; injection h with h; exact .inl ⟨e.symm, h.symm⟩
    · exact .inr (hT 1 ds t x h)
  have hB : ∀ k y, look k [(K, U, cs0)] = some y → k = K ∧ y = (U, cs0) := by
    intro k y h
    rw [look_cons] at h
    split at h
    · rename_i e; injection h with h; exact ⟨e.symm, h.symm⟩
    · cases h
  have hBn : ∀ k, look k [(K, U, cs0)] ≠ none → k = K := by
    intro k hk
    cases e : look k [(K, U, cs0)] with
    | none => exact absurd e hk
    | some y => exact (hB k y e).1
  have hKb : look K [(K, U, cs0)] = some (U, cs0) := by rw [look_cons, if_pos rfl]
  have hr0 : Rel (fun x => V x ∧ x ≠ b) ⟨w, fun x => x = b, K⟩ (St.n ⟨fn.ntmps, (0, .o K n m) :: argsT 1 ds, [(K, U, cs0)]⟩) (St.T ⟨fn.ntmps, (0, .o K n m) :: argsT 1 ds, [(K, U, cs0)]⟩) (St.B ⟨fn.ntmps, (0, .o K n m) :: argsT 1 ds, [(K, U, cs0)]⟩) (fun _ => b)
      { tmps := vs ++ Array.replicate (fn.ntmps - vs.size) undef, defers := [] } w := by
    have hkeep : Keep V (fun x => (V x ∧ x ≠ b) ∨ ∃ k, (St.B ⟨fn.ntmps, (0, .o K n m) :: argsT 1 ds, [(K, U, cs0)]⟩) k ≠ none ∧ b = x) w w :=
      ⟨Nat.le_refl _, fun _ _ _ => rfl, fun x _ hx => by
        rcases hx with hx | ⟨k, _, hx⟩
        · exact hx.1
        · rw [← hx]; exact hVb⟩
    refine ⟨rfl, by simp; omega, BelE.refl _, fun x hx => hV x hx.1, fun x hx e => hx.2 e, hK, fun x hx _ => hx.symm, fun k l hk hl _ => (hBn k hk).trans (hBn l hl).symm, fun k _ => .inr rfl, ?_, ?_, ?_, ?_⟩
    · intro t x k ht hx
      rcases hT0 t x ht with ⟨_, rfl⟩ | ⟨j, d, _, _, rfl⟩
      · injection hx with hx
        subst hx
        show look K [(K, U, cs0)] ≠ none
        rw [hKb]; simp
      · cases hx
    · rintro x (hx | ⟨k, hk, hx⟩)
      · exact hV x hx.1
      · have hx : b = x := hx
        rw [← hx]; exact hV b hVb
    · intro k U' cs hk
      obtain ⟨rfl, e⟩ := hB k _ hk
      injection e with e1 e2
      subst e1 e2
      exact ⟨.inr ⟨k, by show look k [(k, U', cs)] ≠ none; rw [hKb]; simp, rfl⟩, bs, hbl, hcs.keep hkeep⟩
    · intro t x _ ht
      rcases hT0 t x ht with ⟨rfl, rfl⟩ | ⟨j, d, e1, e2, rfl⟩
      · have hv : vs.toList[0]? = some (.slice (some ⟨b, 0, none⟩) n m) := by rw [hvs]; rfl
        refine ⟨.slice (some ⟨b, 0, none⟩) n m, ?_, rfl⟩
        show (vs ++ Array.replicate (fn.ntmps - vs.size) undef)[0]? = _
        rw [Array.getElem?_append_left (by omega), ← Array.getElem?_toList]; exact hv
      · have hlt : j < vl.length := by rw [hds.1]; exact (List.getElem?_eq_some_iff.1 e2).1
        have hv : vl[j]? = some vl[j] := List.getElem?_eq_getElem hlt
        have hv2 : vs.toList[t]? = some vl[j] := by rw [hvs, e1, Nat.add_comm 1 j, List.getElem?_cons_succ]; exact hv
        have hlt2 : t < vs.size := by have := (List.getElem?_eq_some_iff.1 hv2).1; simpa using this
        refine ⟨vl[j], ?_, (hds.2 j _ d hv e2).keep hkeep⟩
        show (vs ++ Array.replicate (fn.ntmps - vs.size) undef)[t]? = _
        rw [Array.getElem?_append_left hlt2, ← Array.getElem?_toList]; exact hv2
  refine Code.wp_mono ?_ (h _ _ (fun _ => b) _ w hr0)
  rintro e a' w' ⟨σ', β', hn, ⟨he, hbx⟩, hr⟩
  have hresults : (results fn a'.tmps).run P w' = .ok (.tuple #[]) w' := by
    unfold results
    rw [hres]
    simp [Array.mapM_eq_mapM_toList]
  obtain ⟨hvv, bs', ebl, hrd⟩ := hr.sees.box K U cs1 hbx
  have hBK : σ'.B K ≠ none := by rw [show σ'.B K = some (U, cs1) from hbx]; simp
  have hfix : β' K = b := hr.fix b rfl hBK
  rw [hfix] at ebl
  have hm : Mid b w w' := ⟨hr.bel.os, hr.bel.tape, hr.bel.output, hr.bel.size, fun c hc hne => hr.bel.block c hc hne⟩
  have hkeep2 : Keep (fun x => (V x ∧ x ≠ b) ∨ ∃ l, σ'.B l ≠ none ∧ β' l = x) V w' w' := ⟨Nat.le_refl _, fun _ _ _ => rfl, fun x _ hx => by
    by_cases e : x = b
    · exact .inr ⟨K, hBK, hfix.trans e.symm⟩
    · exact .inl ⟨hx, e⟩⟩
  rcases he with rfl | rfl
  · exact ⟨hr.dfr, _, hresults, bs', rfl, ebl, hm, hrd.keep hkeep2⟩
  · exact ⟨hr.dfr, _, hresults, bs', rfl, ebl, hm, hrd.keep hkeep2⟩
variable {ops : Array Oper} {T : TF} {B : BF}
theorem sem_calls {dst : Option Nat} {fo x : Operand} {xs : List Operand} {args : Array Operand} {at_ : Array TypeId} {ty : TypeId} {pos : String} {af : Array Edge} {g : Option (Nat × Bool)} {f : FuncId} {k n c : Nat} {U : TypeId} {cs0 cs1 : List CellD} {ds : List D0}
    (hf : opd T fo = some (.v (.c (.f f)))) (hargs : args.toList = x :: xs) (hx : opd T x = some (.o k n c)) (ha : argsD T xs = some ds) (hb : B k = some (U, cs0)) (hok : OkS P f U n c cs0 cs1 ds) (hg : gd ops ⟨dst, .call ⟨.value fo, args, at_⟩, ty, pos, af, g⟩ T = some true) :
    Sem P ops ⟨dst, .call ⟨.value fo, args, at_⟩, ty, pos, af, g⟩ T B (.rs k U cs1 (.t [])) := by
  refine ⟨rfl, ⟨_, hb⟩, fun V β a w hs => ⟨gd_want hs hg, ?_⟩⟩
  have hin : ∀ y ∈ x :: xs, y ∈ (⟨dst, .call ⟨.value fo, args, at_⟩, ty, pos, af, g⟩ : Oper).op.operands := fun y hy => by
    have hx2 : y ∈ args := Array.mem_toList_iff.1 (by rw [hargs]; exact hy)
    simp [Op.operands, Call.operands, hx2]
  have h1 := RdC.func_eq (opd_reads hs (x := fo) (by simp [Op.operands, Call.operands]) hf)
  have h2 := argsD_reads hs xs ds (fun y hy => hin y (List.mem_cons_of_mem _ hy)) ha
  have h3 : a.eval x = .slice (some ⟨β k, 0, none⟩) n c := opd_reads hs (hin x (List.mem_cons_self ..)) hx
  obtain ⟨hV, bs, e, hr⟩ := hs.box k U cs0 hb
  have hc := hok.cal
  unfold callable at hc
  cases hfn : P.funcs[f]? with
  | none => rw [hfn] at hc; cases hc
  | some fn =>
    rw [hfn] at hc
    simp only [Bool.and_eq_true, bne_iff_ne, ne_eq, Bool.not_eq_true'] at hc
    have hrun : (execOp a.eval ⟨dst, .call ⟨.value fo, args, at_⟩, ty, pos, af, g⟩).run P w = .ok (.enter f (args.map a.eval)) w := by
      have hb2 : fn.body ≠ none := by have := hc.2; cases hbb : fn.body with
        | none => rw [hbb] at this; cases this
        | some c => simp
      simp [execOp, resolve, h1, Deferred.ofValue, invoke, callFunc, program, Sem.run, hfn, hc.1, hb2]
    unfold Gives
    rw [hrun]
    refine (hok.run V (β k) bs (args.map a.eval) (xs.map a.eval) w (by rw [Array.toList_map, hargs, List.map_cons, h3]) hs.av hV e hr h2).mono ?_
    rintro e w' ⟨bs', rfl, hbl, hm, hr1⟩
    exact ⟨.tuple #[], rfl, bs', hbl, hm, hr1, _, rfl, RdL.nil⟩
end
end Go.Proofs.YtcimbhjmjlfloaaGreat
/- Data: slices into own boxes: cut at both ends, appended from; lists of numbers in boxes. -/
namespace Go.Proofs.YtcimbhjmjlfloaaGreat
open Go Go.RowKit
def numC : CellD → Bool
  | .i _ _ => true
  | _ => false
theorem nums_any {V V' : Nat → Prop} {w : World} : ∀ {vs : List Value} {us : List CellD}, us.all numC = true → RdCs V w vs us → RdCs V' w vs us
  | [], [], _, _ => RdCs.nil
  | [], _ :: _, _, h => by have := h.1; simp at this
  | _ :: _, [], _, h => by have := h.1; simp at this
  | v :: vs, u :: us, ha, h => by
    simp only [List.all_cons, Bool.and_eq_true] at ha
    obtain ⟨h1, h2⟩ := h.uncons
    refine RdCs.cons ?_ (nums_any ha.2 h2)
    cases u with
    | i k m => rw [h1.int_eq]; exact .i k m
    | _ => cases ha.1
theorem numC_map (xs : List Int) : (xs.map (CellD.i .i64)).all numC = true := by
  rw [List.all_eq_true]
  intro c hc
  obtain ⟨z, _, rfl⟩ := List.mem_map.1 hc
  rfl
section
variable {P : Program} {ops : Array Oper} {T : TF} {B : BF}
/-- v[j:] -/
theorem sem_slice_w {dst : Option Nat} {x h : Operand} {U : TypeId} {ty : TypeId} {pos : String} {af : Array Edge} {g : Option (Nat × Bool)} {k n c q m : Nat} {ki : IntKind}
    (hU : slB P U = some m) (hx : opd T x = some (.o k n c)) (hh : opd T h = some (.v (.c (.i ki q)))) (hq : q ≤ n) (hnc : n ≤ c) (hg : gd ops ⟨dst, .slice U x (some h) none none, ty, pos, af, g⟩ T = some true) :
    Sem P ops ⟨dst, .slice U x (some h) none none, ty, pos, af, g⟩ T B (.r (.w k (if q < c then q * m else 0) (n - q) (c - q))) :=
  sem_pure hg (fun k' e => by
      obtain rfl : k = k' := by injection e
      exact opd_ptr (ops := ops) (o := ⟨dst, .slice U x (some h) none none, ty, pos, af, g⟩) (by simp [Op.operands]) hx rfl) (fun V β a w hs => by
    have e : a.eval x = .slice (some ⟨β k, 0, none⟩) n c := opd_reads hs (x := x) (by simp [Op.operands]) hx
    have h2 := RdC.int_eq (opd_reads hs (x := h) (by simp [Op.operands]) hh)
    unfold slB at hU
    split at hU
    case h_2 => cases hU
    rename_i el hul
    cases hinf : P.info? el with
    | none => rw [hinf] at hU; cases hU
    | some inf =>
      rw [hinf] at hU
      simp at hU
      have hso : ∀ w, (sizeOf el).run P w = .ok m w := fun w => by unfold sizeOf typeInfo; simp [program, Sem.run, hinf, hU]
      refine ⟨.slice (some ⟨β k, if q < c then q * m else 0, none⟩) (n - q) (c - q), ?_, rfl⟩
      by_cases hqc : q < c
      · simp [execOp, Instr.sliceAt, Instr.slice, run_underlying hul, e, h2, Instr.sliceBounds, Instr.sliceBound, asIntOf, hq, hso, Addr.add, hqc, Nat.ne_of_gt hqc]
        exact fun h => h.symm
      · have hce : c = q := by omega
        simp [execOp, Instr.sliceAt, Instr.slice, run_underlying hul, e, h2, Instr.sliceBounds, Instr.sliceBound, asIntOf, hq, hso, Addr.add, hce])
/-- A part of an own box, read. -/
theorem rdc_own {V L : Nat → Prop} {w : World} {β : Nat → Nat} {a : Act} {k off q c m : Nat} {U : TypeId} {cs ys : List CellD} (hs : Sees V L T B β a w) (hb : B k = some (U, cs)) (hys : (cs.drop off).take (q * m) = ys)
    (hoff : 0 < q → off + q * m ≤ cs.length) (hqc : q ≤ c) (hc : c ≤ 9223372036854775807) : RdC (fun x => V x ∧ x ≠ β k) w (.slice (some ⟨β k, off, none⟩) q c) (.s q ys) := by
  obtain ⟨hV, bs, e, hr⟩ := hs.box k U cs hb
  rcases Nat.eq_zero_or_pos q with h0 | h0
  · subst h0
    rw [← hys]; simp
    exact .s0 _ _ hc
  · have hoff := hoff h0
    have hkeep : Keep V (fun x => V x ∧ x ≠ β k) w w := ⟨Nat.le_refl _, fun _ _ _ => rfl, fun _ _ h => h.1⟩
    have hbl : bs.size = cs.length := by have := hr.1; simpa using this
    have hr2 := ((hr.drop off).take (q * m)).keep hkeep
    rw [hys] at hr2
    refine .s (β k) off c m q ys (fun j => bs.getD (off + j) undef) h0 hqc hc ?_ (hs.av _ hV) (fun h => h.2 rfl) (fun j hj => ?_) (fun j u hj => ?_)
    · rw [← hys, List.length_take, List.length_drop]; omega
    · rw [cells_of_box e]
      have : off + j < bs.size := by omega
      simp [Array.getD, this]
    · have hlt : j < ys.length := (List.getElem?_eq_some_iff.1 hj).1
      have hlt2 : j < q * m := by rw [← hys, List.length_take] at hlt; omega
      refine hr2.2 j _ u ?_ hj
      rw [List.getElem?_take, if_pos hlt2, List.getElem?_drop, Array.getElem?_toList]
      have : off + j < bs.size := by omega
      simp [Array.getD, this]
end
section
variable {P : Program} {ops : Array Oper} {os : List Oper} {K : St → Prop} {N : Nat} {tm : List (Nat × DV)} {bx : List (Nat × TypeId × List CellD)}
/-- append of numbers that lie in an own box. -/
theorem dl_growW {t : Nat} {x y : Operand} {U e e2 : TypeId} {ty : TypeId} {pos : String} {af : Array Edge} {g : Option (Nat × Bool)} {n c q m by_ k k2 off c2 : Nat} {us rest ys zs cs cs2 : List CellD}
    (hU : elB P U = some (e, m, by_, zs)) (hx : opd (fun s => look s tm) x = some (.o k n c)) (hy : opd (fun s => look s tm) y = some (.w k2 off q c2) ∨ (off = 0 ∧ opd (fun s => look s tm) y = some (.o k2 q c2))) (hb : look k bx = some (e, cs)) (hcs : cs = us ++ rest) (hus : us.length = n * m) (hr : rest.length = (c - n) * m)
    (hb2 : look k2 bx = some (e2, cs2)) (hys : (cs2.drop off).take (q * m) = ys) (hoff : 0 < q → off + q * m ≤ cs2.length) (hqc : q ≤ c2) (hc2 : c2 ≤ maxLen) (hnum : ys.all numC = true) (hyl : ys.length = q * m)
    (hm : 0 < m) (hnc : n ≤ c) (hcm : c ≤ maxLen) (hbytes : (n + q) * by_ ≤ 140737488355328) (h63 : n + q ≤ maxLen) (hd : t = k ∨ look t bx = none)
    (hg : gd ops ⟨some t, .call ⟨.builtin .append, #[x, y], #[U, U]⟩, ty, pos, af, g⟩ (fun s => look s tm) = some true)
    (hk : ∀ c' rest', n + q ≤ c' → c' ≤ maxLen → rest'.length = (c' - (n + q)) * m → dl P ops os ⟨N, (t, .o t (n + q) c') :: killL k tm, (t, e, us ++ ys ++ rest') :: dropL k bx⟩ K) :
    dl P ops (⟨some t, .call ⟨.builtin .append, #[x, y], #[U, U]⟩, ty, pos, af, g⟩ :: os) ⟨N, tm, bx⟩ K :=
  .inr ⟨_, gsem_appendS (pre := us) (ys := ys) (q := q) hU hx (fun V β a w hs => by
      have hmax : maxLen = 9223372036854775807 := rfl
      refine ⟨fun b => V b ∧ b ≠ β k2, ?_, fun news h => nums_any hnum h⟩
      have e1 : a.eval y = .slice (some ⟨β k2, off, none⟩) q c2 := by
        rcases hy with hy | ⟨h0, hy⟩
        · exact opd_reads hs (x := y) (by simp [Op.operands, Call.operands]) hy
        · have := opd_reads hs (x := y) (by simp [Op.operands, Call.operands]) hy
          rw [h0]; exact this
      rw [e1]
      exact rdc_own hs hb2 hys hoff hqc (by omega)) hb (by rw [hcs, List.length_append, hus, hr, ← Nat.add_mul]; congr 1; omega) hyl hm hnc hcm hbytes h63 (by rw [hcs, ← hus]; simp) hd hg, fun σ' ⟨c', rest', h1, h2, h3, e⟩ => by subst e; exact hk c' rest' h1 h2 h3⟩
end
/-- Lists of numbers in boxes. -/
theorem W_get {xs : List Int} {i : Nat} (h : i < xs.length) : (xs.map (CellD.i .i64))[i * 1]? = some (.i .i64 (xs.getD i 0)) := by
  rw [Nat.mul_one, List.getElem?_map, List.getElem?_eq_getElem h]
  simp [List.getD, h]
theorem W_set {xs : List Int} {i : Nat} {x : Int} (h : i < xs.length) : (xs.map (CellD.i .i64)).take (i * 1) ++ [CellD.i .i64 x] ++ (xs.map (CellD.i .i64)).drop (i * 1 + 1) = (xs.set i x).map (CellD.i .i64) := by
  rw [Nat.mul_one, ← List.map_take, ← List.map_drop, ← List.map_singleton, ← List.map_append, ← List.map_append]
  congr 1
  rw [List.set_eq_take_append_cons_drop, if_pos h]
  simp
end Go.Proofs.YtcimbhjmjlfloaaGreat
/- Plain: positions sorted by insertion. -/
namespace Go.Proofs.YtcimbhjmjlfloaaGreat
open Go Go.RowKit
/-- From k down as far as p goes. -/
def posK (p : Nat → Bool) : Nat → Nat
  | 0 => 0
  | k + 1 => if p k then posK p k else k + 1
theorem posK_le (p : Nat → Bool) : ∀ k, posK p k ≤ k
  | 0 => Nat.le_refl _
  | k + 1 => by
    show (if p k then posK p k else k + 1) ≤ k + 1
    split
    · have := posK_le p k; omega
    · exact Nat.le_refl _
theorem posK_t {p : Nat → Bool} {j : Nat} (h0 : 0 < j) (h : p (j - 1) = true) : posK p j = posK p (j - 1) := by
  match j, h0 with
  | j + 1, _ =>
    show (if p j then posK p j else j + 1) = _
    rw [show p j = true from h, if_pos rfl]; rfl
theorem posK_f {p : Nat → Bool} {j : Nat} (h : j = 0 ∨ p (j - 1) = false) : posK p j = j := by
  match j with
  | 0 => rfl
  | j + 1 =>
    rcases h with h | h
    · omega
    · show (if p j then posK p j else j + 1) = _
      rw [show p j = false from h, if_neg (by decide)]
def pp (C : Int → Int → Int) (out : List Int) (x : Int) (j : Nat) : Bool := decide (C x (out.getD j 0) < 0)
def ins1 (C : Int → Int → Int) (out : List Int) (x : Int) : List Int := out.take (posK (pp C out x) out.length) ++ x :: out.drop (posK (pp C out x) out.length)
def srt (C : Int → Int → Int) : Nat → List Int
  | 0 => []
  | i + 1 => ins1 C (srt C i) i
theorem ins1_len (C : Int → Int → Int) (out : List Int) (x : Int) : (ins1 C out x).length = out.length + 1 := by
  have h := posK_le (pp C out x) out.length
  unfold ins1
  rw [List.length_append, List.length_cons, List.length_take, List.length_drop]
  omega
theorem srt_len (C : Int → Int → Int) : ∀ i, (srt C i).length = i
  | 0 => rfl
  | i + 1 => by
    show (ins1 C (srt C i) i).length = _
    rw [ins1_len, srt_len C i]
theorem srt_mem (C : Int → Int → Int) : ∀ i x, x ∈ srt C i → 0 ≤ x ∧ x < i
  | 0, x, h => by cases h
  | i + 1, x, h => by
    have h : x ∈ ins1 C (srt C i) i := h
    unfold ins1 at h
    rcases List.mem_append.1 h with h | h
    · have := srt_mem C i x (List.mem_of_mem_take h); omega
    · rcases List.mem_cons.1 h with h | h
      · omega
      · have := srt_mem C i x (List.mem_of_mem_drop h); omega
theorem srt_at (C : Int → Int → Int) {i j : Nat} (h : j < i) : 0 ≤ (srt C i).getD j 0 ∧ (srt C i).getD j 0 < i := by
  have hl : j < (srt C i).length := by rw [srt_len]; exact h
  rw [List.getD, List.getElem?_eq_getElem hl]
  exact srt_mem C i _ (List.getElem_mem hl)
/-- x on its way: at place j. -/
def mdl (out rest : List Int) (x : Int) (j : Nat) : List Int := out.take j ++ x :: (out.drop j ++ rest)
section
variable {out rest : List Int} {x : Int} {j : Nat}
theorem mdl_len (hj : j ≤ out.length) : (mdl out rest x j).length = out.length + 1 + rest.length := by
  unfold mdl
  rw [List.length_append, List.length_cons, List.length_append, List.length_take, List.length_drop]
  omega
theorem mdl_at (hj : j ≤ out.length) : (mdl out rest x j).getD j 0 = x := by
  unfold mdl
  have hl : (out.take j).length = j := by rw [List.length_take]; omega
  rw [List.getD, List.getElem?_append_right (by omega), hl, Nat.sub_self]
  rfl
theorem mdl_pr (h0 : 0 < j) (hj : j ≤ out.length) : (mdl out rest x j).getD (j - 1) 0 = out.getD (j - 1) 0 := by
  unfold mdl
  have hl : (out.take j).length = j := by rw [List.length_take]; omega
  rw [List.getD, List.getElem?_append_left (by omega), List.getElem?_take, if_pos (by omega)]
  rfl
theorem mdl_sw (h0 : 0 < j) (hj : j ≤ out.length) : ((mdl out rest x j).set j (out.getD (j - 1) 0)).set (j - 1) x = mdl out rest x (j - 1) := by
  obtain ⟨k, rfl⟩ : ∃ k, j = k + 1 := ⟨j - 1, by omega⟩
  have hk : k < out.length := by omega
  rw [Nat.add_sub_cancel]
  apply List.ext_getElem?
  intro q
  rw [List.getElem?_set, List.getElem?_set, List.length_set, mdl_len hj]
  have hl : (out.take (k + 1)).length = k + 1 := by rw [List.length_take]; omega
  have hl2 : (out.take k).length = k := by rw [List.length_take]; omega
  have hd : out.drop k = out[k] :: out.drop (k + 1) := List.drop_eq_getElem_cons hk
  unfold mdl
  by_cases e1 : k = q
  · subst e1
    rw [if_pos rfl, if_pos (by omega), List.getElem?_append_right (by omega), hl2, Nat.sub_self]; rfl
  · rw [if_neg e1]
    by_cases e2 : k + 1 = q
    · subst e2
      rw [if_pos rfl, if_pos (by omega), List.getElem?_append_right (by omega), hl2, show k + 1 - k = 1 by omega, hd, List.getD, List.getElem?_eq_getElem hk]
      rfl
    · rw [if_neg e2]
      rcases Nat.lt_or_ge q k with h | h
      · rw [List.getElem?_append_left (by omega), List.getElem?_append_left (by omega), List.getElem?_take, List.getElem?_take, if_pos (by omega), if_pos (by omega)]
      · rw [List.getElem?_append_right (by omega), List.getElem?_append_right (by omega), hl, hl2, hd]
        obtain ⟨r, rfl⟩ : ∃ r, q = k + 2 + r := ⟨q - k - 2, by omega⟩
        rw [show k + 2 + r - (k + 1) = r + 1 by omega, show k + 2 + r - k = r + 1 + 1 by omega]
        rfl
end
/-- The positions that are still to come. -/
def rng2 (i n : Nat) : List Int := ((List.range n).drop i).map Int.ofNat
def lst (C : Int → Int → Int) (n i : Nat) : List Int := srt C i ++ rng2 i n
theorem rng2_cons {i n : Nat} (h : i < n) : rng2 i n = (i : Int) :: rng2 (i + 1) n := by
  unfold rng2
  rw [List.drop_eq_getElem_cons (by simpa using h)]
  simp
theorem rng2_len {i n : Nat} : (rng2 i n).length = n - i := by unfold rng2; simp
theorem lst_len (C : Int → Int → Int) {n i : Nat} (h : i ≤ n) : (lst C n i).length = n := by
  unfold lst
  rw [List.length_append, srt_len, rng2_len]; omega
theorem lst_mid (C : Int → Int → Int) {n i : Nat} (h : i < n) : lst C n i = mdl (srt C i) (rng2 (i + 1) n) i i := by
  unfold lst mdl
  rw [rng2_cons h, List.take_of_length_le (by rw [srt_len]; exact Nat.le_refl _), List.drop_eq_nil_of_le (by rw [srt_len]; exact Nat.le_refl _)]
  rfl
theorem lst_next (C : Int → Int → Int) {n i j : Nat} (h : posK (pp C (srt C i) i) i = j) : mdl (srt C i) (rng2 (i + 1) n) i j = lst C n (i + 1) := by
  unfold lst mdl
  show _ = ins1 C (srt C i) i ++ _
  unfold ins1
  rw [srt_len, h, List.append_assoc]
  rfl
theorem lst_0 (C : Int → Int → Int) {n : Nat} : lst C n 0 = (List.range n).map Int.ofNat := rfl
theorem lst_1 (C : Int → Int → Int) {n : Nat} (h : 1 ≤ n) : lst C n 1 = (List.range n).map Int.ofNat := by
  rw [← lst_0 C, lst_mid C (show 0 < n by omega)]
  rfl
theorem lst_n (C : Int → Int → Int) {n : Nat} : lst C n n = srt C n := by
  unfold lst rng2
  rw [List.drop_eq_nil_of_le (by simp)]
  simp
/-- The first j places filled with their numbers. -/
def fil (j n : Nat) : List Int := (List.range j).map Int.ofNat ++ List.replicate (n - j) 0
theorem fil_0 {n : Nat} : fil 0 n = List.replicate n 0 := rfl
theorem fil_len {j n : Nat} (h : j ≤ n) : (fil j n).length = n := by
  unfold fil
  rw [List.length_append, List.length_map, List.length_range, List.length_replicate]; omega
theorem fil_set {j n : Nat} (h : j < n) : (fil j n).set j (j : Int) = fil (j + 1) n := by
  unfold fil
  have hl : ((List.range j).map Int.ofNat).length = j := by simp
  rw [List.set_append, if_neg (by omega), hl, Nat.sub_self]
  obtain ⟨k, hk⟩ : ∃ k, n - j = k + 1 := ⟨n - j - 1, by omega⟩
  rw [hk, List.replicate_succ, List.set_cons_zero, List.range_succ, List.map_append, show n - (j + 1) = k by omega, List.append_assoc]
  rfl
theorem fil_lst (C : Int → Int → Int) {n : Nat} (h : 1 ≤ n) : fil n n = lst C n 1 := by
  rw [lst_1 C h]
  unfold fil
  rw [Nat.sub_self]; simp
end Go.Proofs.YtcimbhjmjlfloaaGreat
/- The types of this program, as the walks ask of them. -/
namespace Go.Proofs.YtcimbhjmjlfloaaGreat
open Go Go.RowKit
theorem follows_mixed : Tryz.prog.follows .mixedOrders = true := by kernel_rfl
theorem ty_bool : Tryz.prog.underlying 4 = some .bool := by kernel_rfl
theorem el124 : elB Tryz.prog 124 = some (2, 1, 8, [.i .i64 0]) := by kernel_rfl
theorem el22 : elB Tryz.prog 22 = some (30, 12, 192, [.b false, .s 0 [], .b false, .s 0 [], .b false, .s 0 [], .b false, .s 0 [], .b false, .s 0 [], .b false, .s 0 []]) := by kernel_rfl
theorem el24 : elB Tryz.prog 24 = some (119, 1, 4, [.i .u32 0]) := by kernel_rfl
theorem el32 : elB Tryz.prog 32 = some (3, 1, 8, [.i .i64 0]) := by kernel_rfl
theorem el55 : elB Tryz.prog 55 = some (28, 4, 64, [.b false, .s 0 [], .b false, .s 0 []]) := by kernel_rfl
theorem fd26_0 : fdB Tryz.prog 26 0 = some 0 := by kernel_rfl
theorem fd26_1 : fdB Tryz.prog 26 1 = some 1 := by kernel_rfl
theorem fd27_0 : fdB Tryz.prog 27 0 = some 0 := by kernel_rfl
theorem fd27_1 : fdB Tryz.prog 27 1 = some 2 := by kernel_rfl
theorem fd28_0 : fdB Tryz.prog 28 0 = some 0 := by kernel_rfl
theorem fd28_1 : fdB Tryz.prog 28 1 = some 2 := by kernel_rfl
theorem fd29_0 : fdB Tryz.prog 29 0 = some 0 := by kernel_rfl
theorem fd29_1 : fdB Tryz.prog 29 1 = some 4 := by kernel_rfl
theorem fd29_2 : fdB Tryz.prog 29 2 = some 8 := by kernel_rfl
theorem fd30_0 : fdB Tryz.prog 30 0 = some 0 := by kernel_rfl
theorem fd30_1 : fdB Tryz.prog 30 1 = some 4 := by kernel_rfl
theorem fd30_2 : fdB Tryz.prog 30 2 = some 8 := by kernel_rfl
theorem fd44_0 : fdB Tryz.prog 44 0 = some 0 := by kernel_rfl
theorem fd44_1 : fdB Tryz.prog 44 1 = some 4 := by kernel_rfl
theorem fd44_2 : fdB Tryz.prog 44 2 = some 8 := by kernel_rfl
theorem fd44_3 : fdB Tryz.prog 44 3 = some 12 := by kernel_rfl
theorem fd44_4 : fdB Tryz.prog 44 4 = some 16 := by kernel_rfl
theorem fd44_5 : fdB Tryz.prog 44 5 = some 20 := by kernel_rfl
theorem fd45_0 : fdB Tryz.prog 45 0 = some 0 := by kernel_rfl
theorem fd45_1 : fdB Tryz.prog 45 1 = some 4 := by kernel_rfl
theorem fd45_2 : fdB Tryz.prog 45 2 = some 8 := by kernel_rfl
theorem fd45_3 : fdB Tryz.prog 45 3 = some 12 := by kernel_rfl
theorem fd45_4 : fdB Tryz.prog 45 4 = some 16 := by kernel_rfl
theorem fd45_5 : fdB Tryz.prog 45 5 = some 20 := by kernel_rfl
theorem fd93_0 : fdB Tryz.prog 93 0 = some 0 := by kernel_rfl
theorem fd95_0 : fdB Tryz.prog 95 0 = some 0 := by kernel_rfl
theorem fd95_1 : fdB Tryz.prog 95 1 = some 1 := by kernel_rfl
theorem fs26 : fsB Tryz.prog 26 = some [(0, 1), (1, 1)] := by kernel_rfl
theorem fs27 : fsB Tryz.prog 27 = some [(0, 2), (2, 2)] := by kernel_rfl
theorem fs28 : fsB Tryz.prog 28 = some [(0, 2), (2, 2)] := by kernel_rfl
theorem fs29 : fsB Tryz.prog 29 = some [(0, 4), (4, 4), (8, 4)] := by kernel_rfl
theorem fs30 : fsB Tryz.prog 30 = some [(0, 4), (4, 4), (8, 4)] := by kernel_rfl
theorem fs44 : fsB Tryz.prog 44 = some [(0, 4), (4, 4), (8, 4), (12, 4), (16, 4), (20, 4)] := by kernel_rfl
theorem fs45 : fsB Tryz.prog 45 = some [(0, 4), (4, 4), (8, 4), (12, 4), (16, 4), (20, 4)] := by kernel_rfl
theorem fs93 : fsB Tryz.prog 93 = some [(0, 1)] := by kernel_rfl
theorem fs95 : fsB Tryz.prog 95 = some [(0, 1), (1, 1)] := by kernel_rfl
theorem sl124 : slB Tryz.prog 124 = some 1 := by kernel_rfl
theorem sl22 : slB Tryz.prog 22 = some 12 := by kernel_rfl
theorem sl24 : slB Tryz.prog 24 = some 1 := by kernel_rfl
theorem sl32 : slB Tryz.prog 32 = some 1 := by kernel_rfl
theorem sl55 : slB Tryz.prog 55 = some 4 := by kernel_rfl
theorem ty119 : tyB Tryz.prog 119 = some (false, 1) := by kernel_rfl
theorem ty12 : tyB Tryz.prog 12 = some (false, 1) := by kernel_rfl
theorem ty124 : tyB Tryz.prog 124 = some (false, 1) := by kernel_rfl
theorem ty127 : tyB Tryz.prog 127 = some (false, 1) := by kernel_rfl
theorem ty146 : tyB Tryz.prog 146 = some (false, 1) := by kernel_rfl
theorem ty147 : tyB Tryz.prog 147 = some (false, 1) := by kernel_rfl
theorem ty150 : tyB Tryz.prog 150 = some (false, 1) := by kernel_rfl
theorem ty151 : tyB Tryz.prog 151 = some (false, 1) := by kernel_rfl
theorem ty2 : tyB Tryz.prog 2 = some (false, 1) := by kernel_rfl
theorem ty21 : tyB Tryz.prog 21 = some (false, 1) := by kernel_rfl
theorem ty22 : tyB Tryz.prog 22 = some (false, 1) := by kernel_rfl
theorem ty24 : tyB Tryz.prog 24 = some (false, 1) := by kernel_rfl
theorem ty26 : tyB Tryz.prog 26 = some (true, 2) := by kernel_rfl
theorem ty27 : tyB Tryz.prog 27 = some (true, 4) := by kernel_rfl
theorem ty28 : tyB Tryz.prog 28 = some (true, 4) := by kernel_rfl
theorem ty29 : tyB Tryz.prog 29 = some (true, 12) := by kernel_rfl
theorem ty3 : tyB Tryz.prog 3 = some (false, 1) := by kernel_rfl
theorem ty30 : tyB Tryz.prog 30 = some (true, 12) := by kernel_rfl
theorem ty32 : tyB Tryz.prog 32 = some (false, 1) := by kernel_rfl
theorem ty35 : tyB Tryz.prog 35 = some (false, 1) := by kernel_rfl
theorem ty4 : tyB Tryz.prog 4 = some (false, 1) := by kernel_rfl
theorem ty44 : tyB Tryz.prog 44 = some (true, 24) := by kernel_rfl
theorem ty45 : tyB Tryz.prog 45 = some (true, 24) := by kernel_rfl
theorem ty5 : tyB Tryz.prog 5 = some (false, 1) := by kernel_rfl
theorem ty55 : tyB Tryz.prog 55 = some (false, 1) := by kernel_rfl
theorem ty6 : tyB Tryz.prog 6 = some (false, 1) := by kernel_rfl
theorem ty90 : tyB Tryz.prog 90 = some (false, 1) := by kernel_rfl
theorem ty93 : tyB Tryz.prog 93 = some (true, 1) := by kernel_rfl
theorem ty95 : tyB Tryz.prog 95 = some (true, 2) := by kernel_rfl
theorem und119 : Tryz.prog.underlying 119 = some (.int .u32) := by kernel_rfl
theorem und12 : Tryz.prog.underlying 12 = some (.int .u64) := by kernel_rfl
theorem und127 : Tryz.prog.underlying 127 = some (.int .u64) := by kernel_rfl
theorem und146 : Tryz.prog.underlying 146 = some (.int .u8) := by kernel_rfl
theorem und147 : Tryz.prog.underlying 147 = some (.int .u8) := by kernel_rfl
theorem und150 : Tryz.prog.underlying 150 = some (.int .i32) := by kernel_rfl
theorem und151 : Tryz.prog.underlying 151 = some (.int .i32) := by kernel_rfl
theorem und2 : Tryz.prog.underlying 2 = some (.int .i64) := by kernel_rfl
theorem und21 : Tryz.prog.underlying 21 = some (.int .i32) := by kernel_rfl
theorem und3 : Tryz.prog.underlying 3 = some (.int .i64) := by kernel_rfl
theorem und35 : Tryz.prog.underlying 35 = some (.int .i64) := by kernel_rfl
theorem und5 : Tryz.prog.underlying 5 = some (.int .u8) := by kernel_rfl
theorem und6 : Tryz.prog.underlying 6 = some (.int .u8) := by kernel_rfl
theorem und90 : Tryz.prog.underlying 90 = some (.int .u64) := by kernel_rfl
theorem zc119 : zcB Tryz.prog 119 = some [.i .u32 0] := by kernel_rfl
theorem zc12 : zcB Tryz.prog 12 = some [.i .u64 0] := by kernel_rfl
theorem zc124 : zcB Tryz.prog 124 = some [.s 0 []] := by kernel_rfl
theorem zc127 : zcB Tryz.prog 127 = some [.i .u64 0] := by kernel_rfl
theorem zc146 : zcB Tryz.prog 146 = some [.i .u8 0] := by kernel_rfl
theorem zc147 : zcB Tryz.prog 147 = some [.i .u8 0] := by kernel_rfl
theorem zc150 : zcB Tryz.prog 150 = some [.i .i32 0] := by kernel_rfl
theorem zc151 : zcB Tryz.prog 151 = some [.i .i32 0] := by kernel_rfl
theorem zc2 : zcB Tryz.prog 2 = some [.i .i64 0] := by kernel_rfl
theorem zc21 : zcB Tryz.prog 21 = some [.i .i32 0] := by kernel_rfl
theorem zc22 : zcB Tryz.prog 22 = some [.s 0 []] := by kernel_rfl
theorem zc24 : zcB Tryz.prog 24 = some [.s 0 []] := by kernel_rfl
theorem zc26 : zcB Tryz.prog 26 = some [.b false, .s 0 []] := by kernel_rfl
theorem zc27 : zcB Tryz.prog 27 = some [.b false, .s 0 [], .b false, .s 0 []] := by kernel_rfl
theorem zc28 : zcB Tryz.prog 28 = some [.b false, .s 0 [], .b false, .s 0 []] := by kernel_rfl
theorem zc29 : zcB Tryz.prog 29 = some [.b false, .s 0 [], .b false, .s 0 [], .b false, .s 0 [], .b false, .s 0 [], .b false, .s 0 [], .b false, .s 0 []] := by kernel_rfl
theorem zc3 : zcB Tryz.prog 3 = some [.i .i64 0] := by kernel_rfl
theorem zc30 : zcB Tryz.prog 30 = some [.b false, .s 0 [], .b false, .s 0 [], .b false, .s 0 [], .b false, .s 0 [], .b false, .s 0 [], .b false, .s 0 []] := by kernel_rfl
theorem zc32 : zcB Tryz.prog 32 = some [.s 0 []] := by kernel_rfl
theorem zc35 : zcB Tryz.prog 35 = some [.i .i64 0] := by kernel_rfl
theorem zc4 : zcB Tryz.prog 4 = some [.b false] := by kernel_rfl
theorem zc44 : zcB Tryz.prog 44 = some [.b false, .s 0 [], .b false, .s 0 [], .b false, .s 0 [], .b false, .s 0 [], .b false, .s 0 [], .b false, .s 0 [], .b false, .s 0 [], .b false, .s 0 [], .b false, .s 0 [], .b false, .s 0 [], .b false, .s 0 [], .b false, .s 0 []] := by kernel_rfl
theorem zc45 : zcB Tryz.prog 45 = some [.b false, .s 0 [], .b false, .s 0 [], .b false, .s 0 [], .b false, .s 0 [], .b false, .s 0 [], .b false, .s 0 [], .b false, .s 0 [], .b false, .s 0 [], .b false, .s 0 [], .b false, .s 0 [], .b false, .s 0 [], .b false, .s 0 []] := by kernel_rfl
theorem zc5 : zcB Tryz.prog 5 = some [.i .u8 0] := by kernel_rfl
theorem zc55 : zcB Tryz.prog 55 = some [.s 0 []] := by kernel_rfl
theorem zc6 : zcB Tryz.prog 6 = some [.i .u8 0] := by kernel_rfl
theorem zc90 : zcB Tryz.prog 90 = some [.i .u64 0] := by kernel_rfl
theorem zc93 : zcB Tryz.prog 93 = some [.b false] := by kernel_rfl
theorem zc95 : zcB Tryz.prog 95 = some [.i .i64 0, .i .i64 0] := by kernel_rfl
end Go.Proofs.YtcimbhjmjlfloaaGreat
/- Data of fractions: two integers; a rational number. -/
namespace Go.Proofs.YtcimbhjmjlfloaaGreat
open Go Go.RowKit
def cQ (n d : Int) : List CellD := cI n ++ cI d
def dQ (n d : Int) : D0 := .a (cQ n d)
def cR (x : Rat) : List CellD := cQ x.num (x.den : Int)
def dR (x : Rat) : D0 := .a (cR x)
end Go.Proofs.YtcimbhjmjlfloaaGreat
/- Plain: division rounded down, out of division of absolute values. -/
namespace Go.Proofs.YtcimbhjmjlfloaaGreat
open Go Go.RowKit
theorem fdiv_unique {x y q r : Int} (hy : y ≠ 0) (h : x = y * q + r) (hp : 0 < y → 0 ≤ r ∧ r < y) (hn : y < 0 → y < r ∧ r ≤ 0) : x.fdiv y = q ∧ x.fmod y = r := by
  have hfd : x.fdiv y = q := by
    rcases Int.lt_or_gt_of_ne hy with h0 | h0
    · obtain ⟨h1, h2⟩ := hn h0
      rw [← Int.neg_fdiv_neg, Int.fdiv_eq_ediv_of_nonneg _ (by omega)]
      have := (Int.ediv_emod_unique (a := -x) (b := -y) (r := -r) (q := q) (by omega)).2 ⟨by rw [h]; simp only [Int.neg_mul]; omega, by omega, by omega⟩
      exact this.1
    · obtain ⟨h1, h2⟩ := hp h0
      rw [Int.fdiv_eq_ediv_of_nonneg _ (by omega)]
      exact ((Int.ediv_emod_unique (a := x) (b := y) (r := r) (q := q) h0).2 ⟨by rw [h]; omega, h1, h2⟩).1
  refine ⟨hfd, ?_⟩
  have := Int.mul_fdiv_add_fmod x y
  rw [hfd] at this
  omega
/-- The quotient and the remainder of the absolute values, with signs. -/
def q0 (x y : Int) : Int := sg (!(decide (x < 0) == decide (y < 0))) ((x.natAbs : Int) / y.natAbs)
def r0 (x y : Int) : Int := sg (decide (x < 0)) ((x.natAbs : Int) % y.natAbs)
theorem qr_eq {x y : Int} : x = y * q0 x y + r0 x y := by
  have h := Int.mul_ediv_add_emod (x.natAbs : Int) y.natAbs
  unfold q0 r0
  obtain ⟨q, hq⟩ : ∃ q, (x.natAbs : Int) / y.natAbs = q := ⟨_, rfl⟩
  obtain ⟨r, hr⟩ : ∃ r, (x.natAbs : Int) % y.natAbs = r := ⟨_, rfl⟩
  rw [hq, hr]
  rw [hq, hr] at h
  clear hq hr
  by_cases hx : x < 0 <;> by_cases hy : y < 0
  · rw [show (x.natAbs : Int) = -x from by omega, show (y.natAbs : Int) = -y from by omega, Int.neg_mul] at h
    rw [show (!(decide (x < 0) == decide (y < 0))) = false from by simp [hx, hy], show decide (x < 0) = true from by simp [hx], sg_true, sg_false]
    omega
  · rw [show (x.natAbs : Int) = -x from by omega, show (y.natAbs : Int) = y from by omega] at h
    rw [show (!(decide (x < 0) == decide (y < 0))) = true from by simp [hx, hy], show decide (x < 0) = true from by simp [hx], sg_true, sg_true, Int.mul_neg]
    omega
  · rw [show (x.natAbs : Int) = x from by omega, show (y.natAbs : Int) = -y from by omega, Int.neg_mul] at h
    rw [show (!(decide (x < 0) == decide (y < 0))) = true from by simp [hx, hy], show decide (x < 0) = false from by simp [hx], sg_true, sg_false, Int.mul_neg]
    omega
  · rw [show (x.natAbs : Int) = x from by omega, show (y.natAbs : Int) = y from by omega] at h
    rw [show (!(decide (x < 0) == decide (y < 0))) = false from by simp [hx, hy], show decide (x < 0) = false from by simp [hx], sg_false, sg_false]
    omega
theorem r_bd {x y : Int} (hy : y ≠ 0) : 0 ≤ (x.natAbs : Int) % y.natAbs ∧ (x.natAbs : Int) % y.natAbs < y.natAbs := ⟨Int.emod_nonneg _ (by omega), Int.emod_lt_of_pos _ (by omega)⟩
theorem dm_plain {x y : Int} (hy : y ≠ 0) (h : r0 x y = 0 ∨ (r0 x y < 0 ↔ y < 0)) : x.fdiv y = q0 x y ∧ x.fmod y = r0 x y := by
  refine fdiv_unique hy qr_eq ?_ ?_
  all_goals
    intro h0
    have := r_bd (x := x) hy
    unfold r0 at *
    by_cases hx : x < 0
    · simp only [hx, decide_true, sg_true] at *; omega
    · simp only [hx, decide_false, sg_false] at *; omega
theorem dm_shift {x y : Int} (hy : y ≠ 0) (h0 : r0 x y ≠ 0) (h : ¬ (r0 x y < 0 ↔ y < 0)) : x.fdiv y = q0 x y - 1 ∧ x.fmod y = r0 x y + y := by
  refine fdiv_unique hy ?_ ?_ ?_
  · have := qr_eq (x := x) (y := y)
    rw [Int.mul_sub]; omega
  all_goals
    intro hy0
    have := r_bd (x := x) hy
    unfold r0 at *
    by_cases hx : x < 0
    · simp only [hx, decide_true, sg_true] at *; omega
    · simp only [hx, decide_false, sg_false] at *; omega
theorem lenL_eq {y : Int} : (lim y.natAbs).length = 0 ↔ y = 0 := by
  rw [List.length_eq_zero_iff, lim_eq_nil]; omega
theorem lenL_pos {r : Int} (h : decide (((lim r.natAbs).length : Int) > 0) = true) : r ≠ 0 := by
  intro e
  have := lenL_eq.2 e
  simp only [decide_eq_true_eq] at h
  omega
theorem lenL_zero {r : Int} (h : decide (((lim r.natAbs).length : Int) > 0) = false) : r = 0 := by
  simp only [decide_eq_false_iff_not] at h
  exact lenL_eq.1 (by omega)
theorem sgn_ne {a b : Int} (h : (!(decide (a < 0) == decide (b < 0))) = true) : ¬ (a < 0 ↔ b < 0) := by simpa using h
theorem sgn_eq {a b : Int} (h : (!(decide (a < 0) == decide (b < 0))) = false) : (a < 0 ↔ b < 0) := by simpa using h
theorem Sz.q0 {k : Nat} {x y : Int} (hx : Sz k x) : Sz k (q0 x y) := by
  refine hx.of_le ?_
  have h1 : (x.natAbs : Int) / (y.natAbs : Int) ≤ x.natAbs := Int.ediv_le_self _ (by omega)
  have h2 : 0 ≤ (x.natAbs : Int) / (y.natAbs : Int) := Int.ediv_nonneg (by omega) (by omega)
  unfold Go.Proofs.YtcimbhjmjlfloaaGreat.q0
  generalize (!(decide (x < 0) == decide (y < 0))) = s
  cases s
  · rw [sg_false]; omega
  · rw [sg_true]; omega
theorem Sz.r0 {k : Nat} {x y : Int} (hy : y ≠ 0) (h : Sz k y) : Sz k (r0 x y) := by
  refine h.of_le ?_
  have := r_bd (x := x) hy
  unfold Go.Proofs.YtcimbhjmjlfloaaGreat.r0
  generalize decide (x < 0) = s
  cases s
  · rw [sg_false]; omega
  · rw [sg_true]; omega
end Go.Proofs.YtcimbhjmjlfloaaGreat
/- Plain: the greatest common divisor, as the loops compute it. -/
namespace Go.Proofs.YtcimbhjmjlfloaaGreat
open Go Go.RowKit
theorem gcd_mod {a c : Int} (h1 : 0 ≤ a) (h2 : 0 ≤ c) : Int.gcd c (a % c) = Int.gcd a c := by
  obtain ⟨m, rfl⟩ := Int.eq_ofNat_of_zero_le h1
  obtain ⟨n, rfl⟩ := Int.eq_ofNat_of_zero_le h2
  rw [← Int.natCast_emod]
  show Nat.gcd n (m % n) = Nat.gcd m n
  rw [Nat.gcd_comm m n, Nat.gcd_rec n m, Nat.gcd_comm]
structure GInv (x y a c : Int) : Prop where
  sa : Sz 1000000 a
  sc : Sz 1000000 c
  a0 : 0 ≤ a
  c0 : 0 ≤ c
  g : Int.gcd a c = Int.gcd x y
theorem GInv.start {x y : Int} (hx : Sz 1000000 x) (hy : Sz 1000000 y) : GInv x y (sg false (x.natAbs : Int)) (sg false (y.natAbs : Int)) := by
  rw [sg_false, sg_false]
  exact ⟨hx.of_le (by omega), hy.of_le (by omega), by omega, by omega, rfl⟩
theorem GInv.step {x y a c : Int} (h : GInv x y a c) (hc : c ≠ 0) : GInv x y c (sg false ((a.natAbs : Int) % c.natAbs)) := by
  rw [sg_false]
  have h1 := h.a0
  have h2 := h.c0
  have e1 : (a.natAbs : Int) = a := by omega
  have e2 : (c.natAbs : Int) = c := by omega
  rw [e1, e2]
  have h3 := Int.emod_nonneg a hc
  have h4 := Int.emod_lt_of_pos a (show 0 < c by omega)
  exact ⟨h.sc, h.sc.of_le (by omega), h2, h3, by rw [← h.g, gcd_mod h1 h2]⟩
theorem GInv.less {x y a c : Int} (h : GInv x y a c) (hc : c ≠ 0) : (sg false ((a.natAbs : Int) % c.natAbs)).toNat < c.toNat := by
  rw [sg_false]
  have := h.c0
  have := r_bd (x := a) hc
  omega
theorem GInv.done {x y a c : Int} (h : GInv x y a c) (hc : c = 0) : (Int.gcd x y : Int) = sg false (a.natAbs : Int) := by
  rw [← h.g, hc, sg_false]; simp
structure GInv2 (x y u v : Int) : Prop where
  u0 : 0 ≤ u
  u1 : u ≤ 18446744073709551615
  v0 : 0 ≤ v
  v1 : v ≤ 18446744073709551615
  g : Int.gcd u v = Int.gcd x y
theorem GInv.word {x y a c : Int} (h : GInv x y a c) (ha : decide (a.natAbs < 1000000000000000000) = true) (hc : decide (c.natAbs < 1000000000000000000) = true) :
    GInv2 x y (if a.natAbs < 1000000000000000000 then (a.natAbs : Int) else 0) (if c.natAbs < 1000000000000000000 then (c.natAbs : Int) else 0) := by
  rw [decide_eq_true_eq] at ha hc
  rw [if_pos ha, if_pos hc]
  exact ⟨by omega, by omega, by omega, by omega, by rw [← h.g]; rfl⟩
theorem GInv2.step {x y u v : Int} (h : GInv2 x y u v) (hv : v > 0) : GInv2 x y v (u.tmod v) := by
  have h1 := h.u0
  rw [Int.tmod_eq_emod_of_nonneg h1]
  have h3 := Int.emod_nonneg u (show v ≠ 0 by omega)
  have h4 := Int.emod_lt_of_pos u hv
  exact ⟨h.v0, h.v1, h3, by have := h.v1; omega, by rw [← h.g, gcd_mod h1 h.v0]⟩
theorem GInv2.less {x y u v : Int} (h : GInv2 x y u v) (hv : v > 0) : (u.tmod v).toNat < v.toNat := by
  rw [Int.tmod_eq_emod_of_nonneg h.u0]
  have h3 := Int.emod_nonneg u (show v ≠ 0 by omega)
  have h4 := Int.emod_lt_of_pos u hv
  omega
theorem GInv2.done {x y u v : Int} (h : GInv2 x y u v) (hv : v ≤ 0) : (Int.gcd x y : Int) = sg false u := by
  have h0 := h.v0
  have h1 := h.u0
  rw [← h.g, show v = 0 from by omega, sg_false]; simp; omega
end Go.Proofs.YtcimbhjmjlfloaaGreat
