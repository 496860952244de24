/- Data: slices: made, indexed, sliced, appended to. -/
import Derived.Test.YthlnndkgpgfbnaaGreatRsE
import Derived.Laws.MakeOwn
import Derived.Deep.AppendSrc
import Derived.Great.BuildSlice
import Derived.Test.YthlnndkgpgfbnaaGreatProg
namespace Go.Proofs.YthlnndkgpgfbnaaGreat
open Go Go.RowKit
def elB (P : Program) (U : TypeId) : Option (TypeId × Nat × Nat × List CellD) :=
  match P.underlying U with
  | some (.slice e) => match P.info? e, zcB P e with
    | some i, some zs => if Nat.beq i.size zs.length then some (e, i.size, i.bytes, zs) else none
    | _, _ => none
  | _ => none
section
variable {P : Program} {ops : Array Oper} {o : Oper} {T : TF} {B : BF} {V : Nat → Prop} {β : Nat → Nat} {a : Act} {w w' : World} {av : Nat → Prop}
theorem elB_spec {U e : TypeId} {m by_ : Nat} {zs : List CellD} (h : elB P U = some (e, m, by_, zs)) : P.underlying U = some (.slice e) ∧ ∃ i z, P.info? e = some i ∧ i.zero = some z ∧ i.size = m ∧ i.bytes = by_ ∧ zs.length = m ∧ ∀ (V : Nat → Prop) (w : World), RdCs V w z.cells.toList zs := by
  unfold elB at h
  split at h
  · rename_i e' hu
    split at h
    · rename_i i zs' hi hz
      split at h
      · rename_i hb
        injection h with h
        injection h with h1 h
        injection h with h2 h
        injection h with h3 h4
        subst h1 h2 h3 h4
        have hzc := hz
        unfold zcB at hzc
        rw [hi] at hzc
        dsimp only at hzc
        cases hz0 : i.zero with
        | none => rw [hz0] at hzc; cases hzc
        | some z =>
          refine ⟨hu, i, z, hi, hz0, rfl, rfl, (Nat.eq_of_beq_eq_true hb).symm, fun V w => ?_⟩
          obtain ⟨it, z', hi', hz', hr⟩ := zcB_reads (V := V) (w := w) hz
          rw [hi] at hi'
          injection hi' with e1
          subst e1
          rw [hz0] at hz'
          injection hz' with e2
          subst e2
          exact hr
      · cases h
    · cases h
  · cases h
theorem sem_make {dst : Option Nat} {U e : TypeId} {l c : Operand} {ty : TypeId} {pos : String} {af : Array Edge} {g : Option (Nat × Bool)} {by_ n : Nat} {z : CellD} {kl kc : IntKind}
    (hU : elB P U = some (e, 1, by_, [z])) (hl : opd T l = some (.v (.c (.i kl n)))) (hc : opd T c = some (.v (.c (.i kc n)))) (hb : by_ * n ≤ 281474976710656) (h63 : n ≤ 9223372036854775807)
    (hg : gd ops ⟨dst, .makeSlice U l c, ty, pos, af, g⟩ T = some true) : Sem P ops ⟨dst, .makeSlice U l c, ty, pos, af, g⟩ T B (.a e (List.replicate n z) (some n)) := fun V β a w hs => ⟨gd_want hs hg, by
  obtain ⟨hu, i, zv, hi, hz, hsz, hby, _, hr⟩ := elB_spec hU
  have e1 : a.eval l = .int kl n := RdC.int_eq (opd_reads hs (x := l) (by simp [Op.operands]) hl)
  have e2 : a.eval c = .int kc n := RdC.int_eq (opd_reads hs (x := c) (by simp [Op.operands]) hc)
  have hrun := run_make (P := P) w U e i zv hu hi hz kl kc n n (by omega) (by omega) (by rw [hby]; have h2 : ((by_ * n : Nat) : Int) ≤ 281474976710656 := Int.ofNat_le.2 hb; rw [Int.natCast_mul] at h2; exact h2) (by omega)
  have hrr := hr V w
  unfold Gives
  have : (execOp a.eval ⟨dst, .makeSlice U l c, ty, pos, af, g⟩).run P w = .ok (.value (.slice (some ⟨w.heap.size, 0, none⟩) n n)) (w.alloc (.cells (madeCells zv.cells (n * 1)) e)) := by
    simp only [execOp, e1, e2, Sem.run_bind, hrun, Result.andThen_ok, Sem.run_pure, hsz]
    simp
  rw [this]
  refine ⟨_, rfl, rfl, by simp [madeCells], fun j v u hv hu => ?_⟩
  have hlen : zv.cells.size = 1 := by have := hrr.1; simpa using this
  simp only [madeCells, Nat.mul_one, hlen, Nat.mod_one, Array.toList_map, Array.toList_range, List.getElem?_map] at hv
  cases hq : (List.range n)[j]? with
  | none => rw [hq] at hv; cases hv
  | some q =>
    rw [hq] at hv
    injection hv with hv
    have hu2 : u = z := by
      have := List.mem_of_getElem? hu
      exact (List.mem_replicate.1 this).2
    subst hu2
    have hpos : 0 < zv.cells.size := by omega
    have h0 : zv.cells.toList[0]? = some (zv.cells[0]'hpos) := by rw [Array.getElem?_toList]; exact Array.getElem?_eq_getElem hpos
    have := hrr.2 0 _ u h0 rfl
    rw [← hv]
    have e3 : zv.cells[0]! = zv.cells[0]'hpos := getElem!_pos zv.cells 0 hpos
    rw [e3]; exact this⟩
theorem sem_len_o {dst : Option Nat} {x : Operand} {U : TypeId} {ty : TypeId} {pos : String} {af : Array Edge} {g : Option (Nat × Bool)} {n m c k : Nat}
    (hU : slB P U = some m) (hx : opd T x = some (.o k n c)) (hg : gd ops ⟨dst, .call ⟨.builtin .len, #[x], #[U]⟩, ty, pos, af, g⟩ T = some true) :
    Sem P ops ⟨dst, .call ⟨.builtin .len, #[x], #[U]⟩, ty, pos, af, g⟩ T B (.r (.v (.c (.i .i64 n)))) :=
  sem_pure hg (nop rfl) (fun V β a w hs => by
    have e : a.eval x = .slice (some ⟨β k, 0, none⟩) n c := opd_reads hs (x := x) (by simp [Op.operands, Call.operands]) hx
    unfold slB at hU
    split at hU
    · rename_i el hu
      refine ⟨.int .i64 n, ?_, .i _ _⟩
      simp [execOp, resolve, invoke, builtin, Builtin.len_, e, run_underlying hu, goInt]
    · cases hU)
theorem sem_index_o {dst : Option Nat} {x i : Operand} {U : TypeId} {ty : TypeId} {pos : String} {af : Array Edge} {g : Option (Nat × Bool)} {n m c k : Nat} {ki : IntKind} {j : Int}
    (hU : slB P U = some m) (hx : opd T x = some (.o k n c)) (hi : opd T i = some (.v (.c (.i ki j)))) (hj : 0 ≤ j ∧ j < n) (hg : gd ops ⟨dst, .indexAddr U x i, ty, pos, af, g⟩ T = some true) :
    Sem P ops ⟨dst, .indexAddr U x i, ty, pos, af, g⟩ T B (.r (.p k (j.toNat * m))) :=
  sem_pure hg (fun k' e => by
      obtain rfl : k = k' := by injection e
      exact opd_ptr (ops := ops) (o := ⟨dst, .indexAddr U x i, ty, pos, af, g⟩) (by simp [Op.operands]) hx rfl) (fun V β a w hs => by
    have e : a.eval x = .slice (some ⟨β k, 0, none⟩) n c := opd_reads hs (x := x) (by simp [Op.operands]) hx
    have h2 := RdC.int_eq (opd_reads hs (x := i) (by simp [Op.operands]) hi)
    unfold slB at hU
    split at hU
    case h_2 => cases hU
    rename_i el hul
    cases hinf : P.info? el with
    | none => rw [hinf] at hU; cases hU
    | some inf =>
      rw [hinf] at hU
      simp at hU
      refine ⟨.pointer (some ⟨β k, j.toNat * m, none⟩), ?_, rfl⟩
      have hso : ∀ w, (sizeOf el).run P w = .ok m w := fun w => by unfold sizeOf typeInfo; simp [program, Sem.run, hinf, hU]
      simp [execOp, Instr.indexAt, e, h2, asIntOf, run_underlying hul, hj.1, hj.2, hso, addr_add])
theorem sem_slice_s {dst : Option Nat} {x h : Operand} {U : TypeId} {ty : TypeId} {pos : String} {af : Array Edge} {g : Option (Nat × Bool)} {n m : Nat} {ki : IntKind} {j : Int} {xs us : List CellD}
    (hU : slB P U = some m) (hx : opd T x = some (.v (.c (.s n xs)))) (hh : opd T h = some (.v (.c (.i ki j)))) (hj : 0 ≤ j ∧ j ≤ n) (hl : xs.length = n * m) (hu : xs.take (j.toNat * m) = us) (hg : gd ops ⟨dst, .slice U x none (some h) none, ty, pos, af, g⟩ T = some true) :
    Sem P ops ⟨dst, .slice U x none (some h) none, ty, pos, af, g⟩ T B (.r (.v (.c (.s j.toNat us)))) :=
  sem_pure hg (nop rfl) (fun V β a w hs => by
    have h1 := opd_reads hs (x := x) (by simp [Op.operands]) hx
    have h2 := RdC.int_eq (opd_reads hs (x := h) (by simp [Op.operands]) hh)
    generalize hv : a.eval x = v at h1
    have h1 : RdC V w v (.s n xs) := h1
    unfold slB at hU
    split at hU
    case h_2 => cases hU
    rename_i el hul
    cases hinf : P.info? el with
    | none => rw [hinf] at hU; cases hU
    | some inf =>
      rw [hinf] at hU
      simp at hU
      have hso : ∀ w, (sizeOf el).run P w = .ok m w := fun w => by unfold sizeOf typeInfo; simp [program, Sem.run, hinf, hU]
      have hgen : ∀ (A : Option Addr) (c : Nat), a.eval x = .slice A n c → j ≤ c → (execOp a.eval ⟨dst, .slice U x none (some h) none, ty, pos, af, g⟩).run P w = .ok (.value (.slice A j.toNat c)) w := by
        intro A c e hjc
        have hA : (if c = 0 then A else Option.map (fun x : Addr => x.add (0 * m)) A) = A := by
          split
          · rfl
          · cases A with
            | none => rfl
            | some A => simp [Addr.add]
        simp [execOp, Instr.sliceAt, Instr.slice, run_underlying hul, e, h2, Instr.sliceBounds, Instr.sliceBound, asIntOf, hj.1, hjc, hso, Addr.add]
        try (cases A <;> rfl)
      cases h1 with
      | s0 A c hc =>
        have hj0 : j.toNat = 0 := by omega
        refine ⟨_, hgen A c hv (by omega), ?_⟩
        rw [← hu]
        rw [hj0]
        simp
        exact .s0 A c hc
      | s b off c sz _ _ cv h0 hnc hcm hlen hb hav hc hr =>
        have hsz : sz = m := by
          rw [hl] at hlen
          exact (Nat.eq_of_mul_eq_mul_left h0 hlen).symm
        subst hsz
        refine ⟨_, hgen _ c hv (by omega), ?_⟩
        rcases Nat.eq_zero_or_pos j.toNat with hj0 | hj0
        · rw [← hu, hj0]; simp; exact .s0 _ c hcm
        · have hjn : j.toNat ≤ n := by omega
          have hmul : j.toNat * sz ≤ n * sz := Nat.mul_le_mul_right _ hjn
          refine .s b off c sz j.toNat us cv hj0 (by omega) hcm ?_ hb hav (fun q hq => hc q (by omega)) (fun q u hq => ?_)
          · rw [← hu, List.length_take, hlen]; omega
          · rw [← hu, List.getElem?_take] at hq
            split at hq
            · exact hr q u hq
            · cases hq)
end
section
variable {P : Program} {ops : Array Oper} {o : Oper} {T : TF} {B : BF} {V : Nat → Prop} {β : Nat → Nat} {a : Act} {w w' : World} {av : Nat → Prop}
theorem one_of {vs : List Value} {us : List CellD} (h : RdCs V w vs us) : ∀ v ∈ vs, v.oneCell' = true := by
  intro v hv
  obtain ⟨j, hj⟩ := List.getElem?_of_mem hv
  have hlt : j < us.length := by rw [← h.1]; exact (List.getElem?_eq_some_iff.1 hj).1
  have := h.2 j v _ hj (List.getElem?_eq_getElem hlt)
  generalize us[j] = u at this
  cases this <;> rfl
theorem cells_of_s {v : Value} {n m : Nat} {xs : List CellD} (h : RdC V w v (.s n xs)) (hl : xs.length = n * m) :
    ∃ (A : Option Addr) (c : Nat) (vs : List Value), v = .slice A n c ∧ RdCs V w vs xs ∧ (∀ (j : Nat) (u : Value), vs[j]? = some u → ∃ b off, A = some ⟨b, off, none⟩ ∧ w.cell? ⟨b, off + j, none⟩ = some u) := by
  generalize hu : CellD.s n xs = u at h
  cases h with
  | s0 A c hc =>
    injection hu with h1 h2
    subst h1 h2
    exact ⟨A, c, [], rfl, RdCs.nil, fun j u hj => by simp at hj⟩
  | s b off c sz n' xs' cv h0 hnc hcm hlen hb hav hcell hr =>
    injection hu with h1 h2
    subst h1 h2
    refine ⟨_, c, (List.range (n * sz)).map cv, rfl, ⟨by simp [hlen], fun j v u hv hu => ?_⟩, fun j u hj => ?_⟩
    · rw [List.getElem?_map] at hv
      generalize hq : (List.range (n * sz))[j]? = r at hv
      match r, hq, hv with
      | some q, hq, hv =>
        obtain ⟨_, rfl⟩ := range_get hq
        simp at hv
        subst hv
        exact hr _ u hu
    · rw [List.getElem?_map] at hj
      generalize hq : (List.range (n * sz))[j]? = r at hj
      match r, hq, hj with
      | some q, hq, hj =>
        obtain ⟨hlt, rfl⟩ := range_get hq
        simp at hj
        subst hj
        exact ⟨b, off, rfl, hcell _ hlt⟩
  | _ => cases hu
theorem src_of {v : Value} {U e : TypeId} {n m by_ : Nat} {xs zs : List CellD} (hU : elB P U = some (e, m, by_, zs)) (h : RdC V w v (.s n xs)) (hl : xs.length = n * m) : ∃ news, Src P m U v n news w ∧ RdCs V w news xs := by
  obtain ⟨A, c, vs, rfl, hr, hc⟩ := cells_of_s h hl
  obtain ⟨hu, _⟩ := elB_spec hU
  have hlen : vs.length = n * m := by rw [hr.1, hl]
  have hcells : ∀ w', (∀ a : Addr, w'.cell? a = w.cell? a) → (Builtin.firstCells m n (.slice A n c)).run P w' = .ok vs.toArray w' := by
    intro w' hw
    cases A with
    | none =>
      have : vs = [] := by
        cases vs with
        | nil => rfl
        | cons u us => obtain ⟨b, off, e, _⟩ := hc 0 u rfl; cases e
      subst this; rfl
    | some A =>
      have := run_loadCells_list (P := P) w' A vs (fun j u hj => by
        obtain ⟨b, off, e, hcell⟩ := hc j u hj
        injection e with e
        subst e
        rw [addr_add, hw]; exact hcell)
      rw [hlen] at this
      exact this
  exact ⟨vs, ⟨.inl ⟨e, hu⟩, fun _ => rfl, hcells w (fun _ => rfl), hcells w.drew (fun _ => rfl), hlen, one_of hr⟩, hr⟩
theorem sem_append_c {dst : Option Nat} {x y : Operand} {U e : TypeId} {ty : TypeId} {pos : String} {af : Array Edge} {g : Option (Nat × Bool)} {n c q m by_ k : Nat} {cs ys zs us : List CellD}
    (hU : elB P U = some (e, m, by_, zs)) (hx : opd T x = some (.o k n c)) (hy : opd T y = some (.v (.c (.s q ys)))) (hb : B k = some (e, cs)) (hcs : cs.length = c * m) (hys : ys.length = q * m) (hm : 0 < m)
    (hgrow : c < n + q) (hnc : n ≤ c) (hbytes : (n + q) * by_ ≤ 140737488355328) (h63 : n + q ≤ maxLen) (hus : cs.take (n * m) ++ ys = us)
    (hg : gd ops ⟨dst, .call ⟨.builtin .append, #[x, y], #[U, U]⟩, ty, pos, af, g⟩ T = some true) :
    Sem P ops ⟨dst, .call ⟨.builtin .append, #[x, y], #[U, U]⟩, ty, pos, af, g⟩ T B (.c k (.v (.c (.s (n + q) us)))) := by
  refine ⟨rfl, by rw [hb]; simp, fun V β a w hs => ⟨gd_want hs hg, ?_⟩⟩
  have e1 : a.eval x = .slice (some ⟨β k, 0, none⟩) n c := opd_reads hs (x := x) (by simp [Op.operands, Call.operands]) hx
  have h2 : RdC V w (a.eval y) (.s q ys) := opd_reads hs (x := y) (by simp [Op.operands, Call.operands]) hy
  obtain ⟨news, hsrc, hrn⟩ := src_of hU h2 hys
  obtain ⟨hu, i, z, hi, hz, hsz, hby, _, hzr⟩ := elB_spec hU
  obtain ⟨hvk, vs, ev, hr⟩ := hs.box k e cs hb
  subst hsz
  have hle : n * i.size ≤ cs.length := by rw [hcs]; exact Nat.mul_le_mul_right _ hnc
  have hr2 := hr.take (n * i.size)
  have hlen : (vs.toList.take (n * i.size)).length = n * i.size := by rw [hr2.1, List.length_take]; omega
  have hold : (Builtin.firstCells i.size n (.slice (some ⟨β k, 0, none⟩) n c)).run P w.drew = .ok (vs.toList.take (n * i.size)).toArray w.drew := by
    have := run_loadCells_list (P := P) w.drew ⟨β k, 0, none⟩ (vs.toList.take (n * i.size)) (fun j u hj => by
      rw [addr_add, Nat.zero_add]
      show w.cell? _ = _
      rw [List.getElem?_take] at hj
      split at hj
      · rw [cells_of_box ev, ← hj]; simp
      · cases hj)
    rw [hlen] at this
    exact this
  have hrun := run_append_grow_src (P := P) (w := w) U U ty e i z hu hi hz (some ⟨β k, 0, none⟩) n c _ hold (a.eval y) q news hsrc hgrow (by have : maxLen = 9223372036854775807 := rfl; omega) (growslice_fits hgrow (by rw [hby]; exact hbytes))
  have hexec : (execOp a.eval ⟨dst, .call ⟨.builtin .append, #[x, y], #[U, U]⟩, ty, pos, af, g⟩).run P w = .ok (.value (.slice (some ⟨w.heap.size, 0, none⟩) (n + q) (grownCap w (n + q) c e)))
      (w.drew.alloc (.cells ((vs.toList.take (n * i.size) ++ news).toArray ++ Builtin.zeroCells z.cells (grownCap w (n + q) c e - (n + q))) e)) := by
    simp only [execOp, resolve, invoke, builtin, Sem.run_bind, Sem.run_pure, Result.andThen_ok, List.map_toArray, List.map_cons, List.map_nil, e1]
    rw [hrun]
    rfl
  unfold Gives
  rw [hexec]
  have hbel : Below w.heap.size w (w.drew.alloc (.cells ((vs.toList.take (n * i.size) ++ news).toArray ++ Builtin.zeroCells z.cells (grownCap w (n + q) c e - (n + q))) e)) := (Below.refl _ w).drew.alloc (Nat.le_refl _) _
  refine ⟨?_, hbel⟩
  have hkeep : Keep V (fun b => V b ∧ b ≠ β k) w (w.drew.alloc (.cells ((vs.toList.take (n * i.size) ++ news).toArray ++ Builtin.zeroCells z.cells (grownCap w (n + q) c e - (n + q))) e)) := ⟨hbel.size, fun b hb _ => hbel.block b hb, fun _ _ h => h.1⟩
  have hrd := (RdCs.append hr2 hrn).keep hkeep
  rw [hus] at hrd
  have hlenr : (vs.toList.take (n * i.size) ++ news).length = (n + q) * i.size := by rw [List.length_append, hlen, hsrc.newsLen, Nat.add_mul]
  refine .s w.heap.size 0 (grownCap w (n + q) c e) i.size (n + q) us (fun j => (vs.toList.take (n * i.size) ++ news).getD j undef) (by omega) (grownCap_ge _ _ _ _) ?_ (by rw [← hrd.1]; exact hlenr) (by simp) (fun h => by have := hs.av _ h.1; omega) (fun j hj => ?_) (fun j u hj => ?_)
  · exact grownCap_le_maxLen _ _ _ _ h63
  · have hlt : j < (vs.toList.take (n * i.size) ++ news).length := by omega
    rw [Nat.zero_add]
    show (w.drew.alloc _).cell? ⟨w.drew.heap.size, j, none⟩ = _
    rw [cells_of_box (U := e) (vs := (vs.toList.take (n * i.size) ++ news).toArray ++ Builtin.zeroCells z.cells (grownCap w (n + q) c e - (n + q))) (heap_alloc_new w.drew _)]
    rw [Array.getElem?_append_left (by simpa using hlt)]
    simp only [List.getElem?_toArray, List.getD]
    rw [List.getElem?_eq_getElem hlt]; rfl
  · have hlt : j < (vs.toList.take (n * i.size) ++ news).length := by rw [hrd.1]; exact (List.getElem?_eq_some_iff.1 hj).1
    have hv : (vs.toList.take (n * i.size) ++ news)[j]? = some ((vs.toList.take (n * i.size) ++ news)[j]) := List.getElem?_eq_getElem hlt
    simp only [List.getD, hv, Option.getD_some]
    exact hrd.2 j _ u hv hj
theorem sem_slit {dst : Option Nat} {U e : TypeId} {ps : Array (Nat × Operand)} {ty : TypeId} {pos : String} {af : Array Edge} {g : Option (Nat × Bool)} {n m by_ : Nat} {zs us : List CellD} {dps : List (Nat × D0)}
    (hU : elB P U = some (e, m, by_, zs)) (hp : partsD T ps.toList = some dps) (hf : fillD (fun i => some (i * m, m)) (List.replicate n zs).flatten dps = some us) (hn : n * m ≤ 16777216) (hm : 0 < n * m)
    (hg : gd ops ⟨dst, .buildSlice U n ps, ty, pos, af, g⟩ T = some true) : Sem P ops ⟨dst, .buildSlice U n ps, ty, pos, af, g⟩ T B (.a e us (some n)) := fun V β a w hs => ⟨gd_want hs hg, by
  obtain ⟨hu, i, z, hi, hz, hsz, hby, hzl, hzr⟩ := elB_spec hU
  obtain ⟨h1, h2⟩ := partsD_reads hs ps.toList dps (fun p hp => by simp only [Op.operands, List.mem_toArray, List.mem_map]; exact ⟨p, hp, rfl⟩) hp
  subst hsz
  have hzs : z.cells.size = i.size := by have := (hzr V w).1; rw [hzl] at this; simpa using this
  have hzero : RdCs V w ((Array.range (n * i.size)).map (z.cells[· % z.cells.size]!)).toList (List.replicate n zs).flatten := by
    have key : ∀ (n : Nat), RdCs V w ((List.range (n * i.size)).map (fun j => z.cells[j % z.cells.size]!)) (List.replicate n zs).flatten := by
      intro n
      induction n with
      | zero => simp; exact RdCs.nil
      | succ n ih =>
        rw [Nat.succ_mul, List.range_add, List.map_append, List.replicate_succ', List.flatten_append]
        refine RdCs.append ih ?_
        have e2 : (List.map (fun x => n * i.size + x) (List.range i.size)).map (fun j => z.cells[j % z.cells.size]!) = z.cells.toList := by
          apply List.ext_getElem (by simp [hzs])
          intro j h1 h2
          simp at h1
          simp only [List.getElem_map, List.getElem_range, hzs]
          rw [Nat.mul_comm n, Nat.mul_add_mod, Nat.mod_eq_of_lt (by omega), getElem!_pos z.cells j (by omega)]
          simp
        rw [e2]
        simpa using hzr V w
    have := key n
    simpa using this
  obtain ⟨cells, hfl, hrd⟩ := fill_reads _ dps _ _ us h1 h2 hzero hf
  have hrun := run_buildSlice (P := P) w U e n (ps.map fun (i, x) => (i, a.eval x)) cells i z hu hi hz (by have : (2 : Nat) ^ 24 = 16777216 := rfl; omega) (by omega) (by simpa using hfl)
  unfold Gives
  have : (execOp a.eval ⟨dst, .buildSlice U n ps, ty, pos, af, g⟩).run P w = .ok (.value (.slice (some ⟨w.heap.size, 0, none⟩) n n)) (w.alloc (.cells cells e)) := by
    simp only [execOp, Sem.run_bind, hrun, Result.andThen_ok, Sem.run_pure]
  rw [this]
  exact ⟨cells, rfl, rfl, hrd⟩⟩
end
theorem follows_mixed : Tryz.prog.follows .mixedOrders = true := by kernel_rfl
theorem ty_bool : Tryz.prog.underlying 4 = some .bool := by kernel_rfl
theorem el117 : elB Tryz.prog 117 = some (2, 1, 8, [.i .i64 0]) := by kernel_rfl
theorem el22 : elB Tryz.prog 22 = some (89, 1, 4, [.i .u32 0]) := by kernel_rfl
theorem el78 : elB Tryz.prog 78 = some (26, 4, 64, [.b false, .s 0 [], .b false, .s 0 []]) := by kernel_rfl
theorem fd101_0 : fdB Tryz.prog 101 0 = some 0 := by kernel_rfl
theorem fd103_0 : fdB Tryz.prog 103 0 = some 0 := by kernel_rfl
theorem fd103_1 : fdB Tryz.prog 103 1 = some 1 := by kernel_rfl
theorem fd24_0 : fdB Tryz.prog 24 0 = some 0 := by kernel_rfl
theorem fd24_1 : fdB Tryz.prog 24 1 = some 1 := by kernel_rfl
theorem fd26_0 : fdB Tryz.prog 26 0 = some 0 := by kernel_rfl
theorem fd26_1 : fdB Tryz.prog 26 1 = some 2 := by kernel_rfl
theorem fd28_0 : fdB Tryz.prog 28 0 = some 0 := by kernel_rfl
theorem fd28_1 : fdB Tryz.prog 28 1 = some 4 := by kernel_rfl
theorem fd28_2 : fdB Tryz.prog 28 2 = some 8 := by kernel_rfl
theorem fd53_0 : fdB Tryz.prog 53 0 = some 0 := by kernel_rfl
theorem fd53_1 : fdB Tryz.prog 53 1 = some 4 := by kernel_rfl
theorem fd53_2 : fdB Tryz.prog 53 2 = some 8 := by kernel_rfl
theorem fd53_3 : fdB Tryz.prog 53 3 = some 12 := by kernel_rfl
theorem fd53_4 : fdB Tryz.prog 53 4 = some 16 := by kernel_rfl
theorem fd53_5 : fdB Tryz.prog 53 5 = some 20 := by kernel_rfl
theorem fs101 : fsB Tryz.prog 101 = some [(0, 1)] := by kernel_rfl
theorem fs103 : fsB Tryz.prog 103 = some [(0, 1), (1, 1)] := by kernel_rfl
theorem fs24 : fsB Tryz.prog 24 = some [(0, 1), (1, 1)] := by kernel_rfl
theorem fs26 : fsB Tryz.prog 26 = some [(0, 2), (2, 2)] := by kernel_rfl
theorem fs28 : fsB Tryz.prog 28 = some [(0, 4), (4, 4), (8, 4)] := by kernel_rfl
theorem fs53 : fsB Tryz.prog 53 = some [(0, 4), (4, 4), (8, 4), (12, 4), (16, 4), (20, 4)] := by kernel_rfl
theorem sl117 : slB Tryz.prog 117 = some 1 := by kernel_rfl
theorem sl22 : slB Tryz.prog 22 = some 1 := by kernel_rfl
theorem sl78 : slB Tryz.prog 78 = some 4 := by kernel_rfl
theorem ty103 : tyB Tryz.prog 103 = some (true, 2) := by kernel_rfl
theorem ty2 : tyB Tryz.prog 2 = some (false, 1) := by kernel_rfl
theorem ty22 : tyB Tryz.prog 22 = some (false, 1) := by kernel_rfl
theorem ty24 : tyB Tryz.prog 24 = some (true, 2) := by kernel_rfl
theorem ty26 : tyB Tryz.prog 26 = some (true, 4) := by kernel_rfl
theorem ty28 : tyB Tryz.prog 28 = some (true, 12) := by kernel_rfl
theorem ty4 : tyB Tryz.prog 4 = some (false, 1) := by kernel_rfl
theorem ty53 : tyB Tryz.prog 53 = some (true, 24) := by kernel_rfl
theorem ty89 : tyB Tryz.prog 89 = some (false, 1) := by kernel_rfl
theorem und2 : Tryz.prog.underlying 2 = some (.int .i64) := by kernel_rfl
theorem und69 : Tryz.prog.underlying 69 = some (.int .u64) := by kernel_rfl
theorem und89 : Tryz.prog.underlying 89 = some (.int .u32) := by kernel_rfl
theorem zc101 : zcB Tryz.prog 101 = some [.b false] := by kernel_rfl
theorem zc103 : zcB Tryz.prog 103 = some [.i .i64 0, .i .i64 0] := by kernel_rfl
theorem zc24 : zcB Tryz.prog 24 = some [.b false, .s 0 []] := by kernel_rfl
theorem zc26 : zcB Tryz.prog 26 = some [.b false, .s 0 [], .b false, .s 0 []] := by kernel_rfl
theorem zc28 : zcB Tryz.prog 28 = some [.b false, .s 0 [], .b false, .s 0 [], .b false, .s 0 [], .b false, .s 0 [], .b false, .s 0 [], .b false, .s 0 []] := by kernel_rfl
theorem zc53 : zcB Tryz.prog 53 = some [.b false, .s 0 [], .b false, .s 0 [], .b false, .s 0 [], .b false, .s 0 [], .b false, .s 0 [], .b false, .s 0 [], .b false, .s 0 [], .b false, .s 0 [], .b false, .s 0 [], .b false, .s 0 [], .b false, .s 0 [], .b false, .s 0 []] := by kernel_rfl
def cQ (n d : Int) : List CellD := cI n ++ cI d
def dQ (n d : Int) : D0 := .a (cQ n d)
def cR (x : Rat) : List CellD := cQ x.num (x.den : Int)
def dR (x : Rat) : D0 := .a (cR x)
section
variable {P : Program} {σ : St} {Q : Exit → St → Prop}
theorem Rel.upd {av : Nat → Prop} {w0 : Ent} {w : World} {n : Nat} {T : TF} {B : BF} {β : Nat → Nat} {a : Act} (h : Rel av w0 n T B β a w) {t : Nat} {x : DV} {v : Value} (hv : a.tmps[t]? = some v)
    (hx : RdX (fun b => av b ∨ ∃ k, B k ≠ none ∧ β k = b) w β v x) (hr : refs x = none) : Rel av w0 n (fun s => if t = s then some x else T s) B β a w :=
  ⟨h.dfr, h.siz, h.bel, h.avl, h.avE, h.big, h.fix, h.inj, h.own, fun s y k hs hy => by
    try dsimp only at hs
    split at hs
    · injection hs with hs; subst hs; rw [hr] at hy; cases hy
    · exact h.wf s y k hs hy, h.sees.av, h.sees.box, fun s y hL hs => by
    try dsimp only at hs
    split at hs
    · rename_i e; injection hs with hs; subst hs; subst e; exact ⟨v, hv, hx⟩
    · exact h.sees.tmp s y hL hs⟩
theorem dw_seqJ {ι : Type} {x y : Code} (J : ι → St) (h1 : Dw P x σ (thenD (fun σ' => ∃ j, Sub σ' (J j)) Q)) (h2 : ∀ j, Dw P y (J j) Q) : Dw P (.seq x y) σ Q := by
  refine dw_seq (h1.mono fun e σ' h => ?_)
  cases e with
  | normal => obtain ⟨j, hs⟩ := h; exact (h2 j).weak hs
  | _ => exact h
theorem dw_release {c : Code} {N t k n' c' m : Nat} {tm : List (Nat × DV)} {bx : List (Nat × TypeId × List CellD)} {U : TypeId} {cs us : List CellD}
    (ht : look t tm = some (.o k n' c')) (hb : look k bx = some (U, cs)) (hm : cs.length = c' * m) (hn : n' ≤ c') (hc : c' ≤ 9223372036854775807) (hu : cs.take (n' * m) = us)
    (h : Dw P c ⟨N, (t, .v (.c (.s n' us))) :: killL k tm, dropL k bx⟩ Q) : Dw P c ⟨N, tm, bx⟩ Q := fun av w0 β a w hr => by
  obtain ⟨v, hv, hx⟩ := hr.sees.tmp t _ trivial ht
  have hx : v = .slice (some ⟨β k, 0, none⟩) n' c' := hx
  subst hx
  obtain ⟨hvk, vs, ev, hrd⟩ := hr.sees.box k U cs hb
  have hk0 : (St.B ⟨N, tm, bx⟩) k ≠ none := by rw [show (St.B ⟨N, tm, bx⟩) k = some (U, cs) from hb]; simp
  have e := drop_av hr hk0
  have hkeep : Keep (fun b => av b ∨ ∃ l, (St.B ⟨N, tm, bx⟩) l ≠ none ∧ β l = b) (fun b => (av b ∨ ∃ l, (St.B ⟨N, tm, bx⟩) l ≠ none ∧ β l = b) ∧ b ≠ β k) w w := ⟨Nat.le_refl _, fun _ _ _ => rfl, fun _ _ h => h.1⟩
  have hle : n' * m ≤ cs.length := by rw [hm]; exact Nat.mul_le_mul_right _ hn
  have hread : RdC (fun b => (av b ∨ ∃ l, (St.B ⟨N, tm, bx⟩) l ≠ none ∧ β l = b) ∧ b ≠ β k) w (.slice (some ⟨β k, 0, none⟩) n' c') (.s n' us) := by
    rcases Nat.eq_zero_or_pos n' with h0 | h0
    · subst h0
      rw [← hu]; simp
      exact .s0 _ _ hc
    · have hr2 := (hrd.take (n' * m)).keep hkeep
      rw [hu] at hr2
      have hvl : n' * m ≤ vs.size := by have := hrd.1; simp at this; omega
      refine .s (β k) 0 c' m n' us (fun j => vs.getD j undef) h0 hn hc ?_ (hr.sees.av _ hvk) (fun h => h.2 rfl) (fun j hj => ?_) (fun j u hj => ?_)
      · rw [← hu, List.length_take]; omega
      · rw [Nat.zero_add, cells_of_box ev]
        have : j < vs.size := by omega
        simp [Array.getD, this]
      · have hlt : j < us.length := (List.getElem?_eq_some_iff.1 hj).1
        have hlt2 : j < n' * m := by rw [← hu, List.length_take] at hlt; omega
        refine hr2.2 j _ u ?_ hj
        rw [List.getElem?_take, if_pos hlt2, Array.getElem?_toList]
        have : j < vs.size := by omega
        simp [Array.getD, this]
  have h2 := (hr.drop k).upd (t := t) (x := .v (.c (.s n' us))) hv (by rw [e]; exact hread) rfl
  refine h av w0 β a w (h2.congr (fun s => ?_) (fun l => ?_))
  · show look s ((t, .v (.c (.s n' us))) :: killL k tm) = _
    rw [look_cons]
    split
    · rfl
    · rw [killL_look]
      show _ = killF k (fun s => look s tm) s
      unfold killF
      try (dsimp only)
      try (generalize look s tm = q; cases q <;> rfl)
  · exact dropL_look k l bx
end
theorem fdiv_unique {x y q r : Int} (hy : y ≠ 0) (h : x = y * q + r) (hp : 0 < y → 0 ≤ r ∧ r < y) (hn : y < 0 → y < r ∧ r ≤ 0) : x.fdiv y = q ∧ x.fmod y = r := by
  have hfd : x.fdiv y = q := by
    rcases Int.lt_or_gt_of_ne hy with h0 | h0
    · obtain ⟨h1, h2⟩ := hn h0
      rw [← Int.neg_fdiv_neg, Int.fdiv_eq_ediv_of_nonneg _ (by omega)]
      have := (Int.ediv_emod_unique (a := -x) (b := -y) (r := -r) (q := q) (by omega)).2 ⟨by rw [h]; simp only [Int.neg_mul]; omega, by omega, by omega⟩
      exact this.1
    · obtain ⟨h1, h2⟩ := hp h0
      rw [Int.fdiv_eq_ediv_of_nonneg _ (by omega)]
      exact ((Int.ediv_emod_unique (a := x) (b := y) (r := r) (q := q) h0).2 ⟨by rw [h]; omega, h1, h2⟩).1
  refine ⟨hfd, ?_⟩
  have := Int.mul_fdiv_add_fmod x y
  rw [hfd] at this
  omega
def q0 (x y : Int) : Int := sg (!(decide (x < 0) == decide (y < 0))) ((x.natAbs : Int) / y.natAbs)
def r0 (x y : Int) : Int := sg (decide (x < 0)) ((x.natAbs : Int) % y.natAbs)
theorem qr_eq {x y : Int} : x = y * q0 x y + r0 x y := by
  have h := Int.mul_ediv_add_emod (x.natAbs : Int) y.natAbs
  unfold q0 r0
  obtain ⟨q, hq⟩ : ∃ q, (x.natAbs : Int) / y.natAbs = q := ⟨_, rfl⟩
  obtain ⟨r, hr⟩ : ∃ r, (x.natAbs : Int) % y.natAbs = r := ⟨_, rfl⟩
  rw [hq, hr]
  rw [hq, hr] at h
  clear hq hr
  by_cases hx : x < 0 <;> by_cases hy : y < 0
  · rw [show (x.natAbs : Int) = -x from by omega, show (y.natAbs : Int) = -y from by omega, Int.neg_mul] at h
    rw [show (!(decide (x < 0) == decide (y < 0))) = false from by simp [hx, hy], show decide (x < 0) = true from by simp [hx], sg_true, sg_false]
    omega
  · rw [show (x.natAbs : Int) = -x from by omega, show (y.natAbs : Int) = y from by omega] at h
    rw [show (!(decide (x < 0) == decide (y < 0))) = true from by simp [hx, hy], show decide (x < 0) = true from by simp [hx], sg_true, sg_true, Int.mul_neg]
    omega
  · rw [show (x.natAbs : Int) = x from by omega, show (y.natAbs : Int) = -y from by omega, Int.neg_mul] at h
    rw [show (!(decide (x < 0) == decide (y < 0))) = true from by simp [hx, hy], show decide (x < 0) = false from by simp [hx], sg_true, sg_false, Int.mul_neg]
    omega
  · rw [show (x.natAbs : Int) = x from by omega, show (y.natAbs : Int) = y from by omega] at h
    rw [show (!(decide (x < 0) == decide (y < 0))) = false from by simp [hx, hy], show decide (x < 0) = false from by simp [hx], sg_false, sg_false]
    omega
theorem r_bd {x y : Int} (hy : y ≠ 0) : 0 ≤ (x.natAbs : Int) % y.natAbs ∧ (x.natAbs : Int) % y.natAbs < y.natAbs := ⟨Int.emod_nonneg _ (by omega), Int.emod_lt_of_pos _ (by omega)⟩
theorem dm_plain {x y : Int} (hy : y ≠ 0) (h : r0 x y = 0 ∨ (r0 x y < 0 ↔ y < 0)) : x.fdiv y = q0 x y ∧ x.fmod y = r0 x y := by
  refine fdiv_unique hy qr_eq ?_ ?_
  all_goals
    intro h0
    have := r_bd (x := x) hy
    unfold r0 at *
    by_cases hx : x < 0
    · simp only [hx, decide_true, sg_true] at *; omega
    · simp only [hx, decide_false, sg_false] at *; omega
theorem dm_shift {x y : Int} (hy : y ≠ 0) (h0 : r0 x y ≠ 0) (h : ¬ (r0 x y < 0 ↔ y < 0)) : x.fdiv y = q0 x y - 1 ∧ x.fmod y = r0 x y + y := by
  refine fdiv_unique hy ?_ ?_ ?_
  · have := qr_eq (x := x) (y := y)
    rw [Int.mul_sub]; omega
  all_goals
    intro hy0
    have := r_bd (x := x) hy
    unfold r0 at *
    by_cases hx : x < 0
    · simp only [hx, decide_true, sg_true] at *; omega
    · simp only [hx, decide_false, sg_false] at *; omega
theorem lenL_eq {y : Int} : (lim y.natAbs).length = 0 ↔ y = 0 := by
  rw [List.length_eq_zero_iff, lim_eq_nil]; omega
theorem lenL_pos {r : Int} (h : decide (((lim r.natAbs).length : Int) > 0) = true) : r ≠ 0 := by
  intro e
  have := lenL_eq.2 e
  simp only [decide_eq_true_eq] at h
  omega
theorem lenL_zero {r : Int} (h : decide (((lim r.natAbs).length : Int) > 0) = false) : r = 0 := by
  simp only [decide_eq_false_iff_not] at h
  exact lenL_eq.1 (by omega)
theorem sgn_ne {a b : Int} (h : (!(decide (a < 0) == decide (b < 0))) = true) : ¬ (a < 0 ↔ b < 0) := by simpa using h
theorem sgn_eq {a b : Int} (h : (!(decide (a < 0) == decide (b < 0))) = false) : (a < 0 ↔ b < 0) := by simpa using h
theorem Sz.q0 {k : Nat} {x y : Int} (hx : Sz k x) : Sz k (q0 x y) := by
  refine hx.of_le ?_
  have h1 : (x.natAbs : Int) / (y.natAbs : Int) ≤ x.natAbs := Int.ediv_le_self _ (by omega)
  have h2 : 0 ≤ (x.natAbs : Int) / (y.natAbs : Int) := Int.ediv_nonneg (by omega) (by omega)
  unfold Go.Proofs.YthlnndkgpgfbnaaGreat.q0
  generalize (!(decide (x < 0) == decide (y < 0))) = s
  cases s
  · rw [sg_false]; omega
  · rw [sg_true]; omega
theorem Sz.r0 {k : Nat} {x y : Int} (hy : y ≠ 0) (h : Sz k y) : Sz k (r0 x y) := by
  refine h.of_le ?_
  have := r_bd (x := x) hy
  unfold Go.Proofs.YthlnndkgpgfbnaaGreat.r0
  generalize decide (x < 0) = s
  cases s
  · rw [sg_false]; omega
  · rw [sg_true]; omega
theorem gcd_mod {a c : Int} (h1 : 0 ≤ a) (h2 : 0 ≤ c) : Int.gcd c (a % c) = Int.gcd a c := by
  obtain ⟨m, rfl⟩ := Int.eq_ofNat_of_zero_le h1
  obtain ⟨n, rfl⟩ := Int.eq_ofNat_of_zero_le h2
  rw [← Int.natCast_emod]
  show Nat.gcd n (m % n) = Nat.gcd m n
  rw [Nat.gcd_comm m n, Nat.gcd_rec n m, Nat.gcd_comm]
structure GInv (x y a c : Int) : Prop where
  sa : Sz 1000000 a
  sc : Sz 1000000 c
  a0 : 0 ≤ a
  c0 : 0 ≤ c
  g : Int.gcd a c = Int.gcd x y
theorem GInv.start {x y : Int} (hx : Sz 1000000 x) (hy : Sz 1000000 y) : GInv x y (sg false (x.natAbs : Int)) (sg false (y.natAbs : Int)) := by
  rw [sg_false, sg_false]
  exact ⟨hx.of_le (by omega), hy.of_le (by omega), by omega, by omega, rfl⟩
theorem GInv.step {x y a c : Int} (h : GInv x y a c) (hc : c ≠ 0) : GInv x y c (sg false ((a.natAbs : Int) % c.natAbs)) := by
  rw [sg_false]
  have h1 := h.a0
  have h2 := h.c0
  have e1 : (a.natAbs : Int) = a := by omega
  have e2 : (c.natAbs : Int) = c := by omega
  rw [e1, e2]
  have h3 := Int.emod_nonneg a hc
  have h4 := Int.emod_lt_of_pos a (show 0 < c by omega)
  exact ⟨h.sc, h.sc.of_le (by omega), h2, h3, by rw [← h.g, gcd_mod h1 h2]⟩
theorem GInv.less {x y a c : Int} (h : GInv x y a c) (hc : c ≠ 0) : (sg false ((a.natAbs : Int) % c.natAbs)).toNat < c.toNat := by
  rw [sg_false]
  have := h.c0
  have := r_bd (x := a) hc
  omega
theorem GInv.done {x y a c : Int} (h : GInv x y a c) (hc : c = 0) : (Int.gcd x y : Int) = sg false (a.natAbs : Int) := by
  rw [← h.g, hc, sg_false]; simp
structure GInv2 (x y u v : Int) : Prop where
  u0 : 0 ≤ u
  u1 : u ≤ 18446744073709551615
  v0 : 0 ≤ v
  v1 : v ≤ 18446744073709551615
  g : Int.gcd u v = Int.gcd x y
theorem GInv.word {x y a c : Int} (h : GInv x y a c) (ha : decide (a.natAbs < 1000000000000000000) = true) (hc : decide (c.natAbs < 1000000000000000000) = true) :
    GInv2 x y (if a.natAbs < 1000000000000000000 then (a.natAbs : Int) else 0) (if c.natAbs < 1000000000000000000 then (c.natAbs : Int) else 0) := by
  rw [decide_eq_true_eq] at ha hc
  rw [if_pos ha, if_pos hc]
  exact ⟨by omega, by omega, by omega, by omega, by rw [← h.g]; rfl⟩
theorem GInv2.step {x y u v : Int} (h : GInv2 x y u v) (hv : v > 0) : GInv2 x y v (u.tmod v) := by
  have h1 := h.u0
  rw [Int.tmod_eq_emod_of_nonneg h1]
  have h3 := Int.emod_nonneg u (show v ≠ 0 by omega)
  have h4 := Int.emod_lt_of_pos u hv
  exact ⟨h.v0, h.v1, h3, by have := h.v1; omega, by rw [← h.g, gcd_mod h1 h.v0]⟩
theorem GInv2.less {x y u v : Int} (h : GInv2 x y u v) (hv : v > 0) : (u.tmod v).toNat < v.toNat := by
  rw [Int.tmod_eq_emod_of_nonneg h.u0]
  have h3 := Int.emod_nonneg u (show v ≠ 0 by omega)
  have h4 := Int.emod_lt_of_pos u hv
  omega
theorem GInv2.done {x y u v : Int} (h : GInv2 x y u v) (hv : v ≤ 0) : (Int.gcd x y : Int) = sg false u := by
  have h0 := h.v0
  have h1 := h.u0
  rw [← h.g, show v = 0 from by omega, sg_false]; simp; omega
theorem lim_trm {xs : List Int} (h : Lim xs) : trm xs = lim (val xs).natAbs := by
  have h0 := val_nonneg h
  rw [lim_of (nrm_trm xs) h.trm, val_trm]
  congr 1; omega
def cM (xs : List Int) : CellD := .s xs.length (xs.map (CellD.i .u32))
theorem cL_cM (e : Int) : cL e = cM (lim e.natAbs) := rfl
theorem cL_trm {xs : List Int} (h : Lim xs) : cL (val xs) = cM (trm xs) := by rw [cL_cM, lim_trm h]
theorem M_len (xs : List Int) : (xs.map (CellD.i .u32)).length = xs.length * 1 := by simp
theorem M_get {xs : List Int} {i : Nat} (h : i < xs.length) : ((xs.map (CellD.i .u32)).drop (i * 1))[0]? = some (.i .u32 (xs.getD i 0)) := by
  rw [Nat.mul_one, List.getElem?_drop, Nat.add_zero, List.getElem?_map, List.getElem?_eq_getElem h]
  simp [List.getD, h]
theorem O_get {xs : List Int} {i : Nat} (h : i < xs.length) : (xs.map (CellD.i .u32))[i * 1]? = some (.i .u32 (xs.getD i 0)) := by
  rw [Nat.mul_one, List.getElem?_map, List.getElem?_eq_getElem h]
  simp [List.getD, h]
theorem O_set {xs : List Int} {i : Nat} {x : Int} (h : i < xs.length) : (xs.map (CellD.i .u32)).take (i * 1) ++ [CellD.i .u32 x] ++ (xs.map (CellD.i .u32)).drop (i * 1 + 1) = (xs.set i x).map (CellD.i .u32) := by
  rw [Nat.mul_one, ← List.map_take, ← List.map_drop, ← List.map_singleton, ← List.map_append, ← List.map_append]
  congr 1
  rw [List.set_eq_take_append_cons_drop, if_pos h]
  simp
theorem lim_getD {xs : List Int} (h : Lim xs) (i : Nat) : 0 ≤ xs.getD i 0 ∧ xs.getD i 0 < 1000000000 := by
  rw [List.getD]
  cases hx : xs[i]? with
  | none => simp
  | some x => exact h.at_ hx
theorem getD_some {xs : List Int} {i : Nat} (h : i < xs.length) : xs[i]? = some (xs.getD i 0) := by
  rw [List.getElem?_eq_getElem h]; simp [List.getD, h]
theorem nw64 {x : Int} (h0 : -9223372036854775808 ≤ x) (h1 : x ≤ 9223372036854775807) : IntKind.i64.wrap x = x := by unfold IntKind.wrap; simp [IntKind.bits, IntKind.signed]; omega
theorem nwu64 {x : Int} (h0 : 0 ≤ x) (h1 : x ≤ 18446744073709551615) : IntKind.u64.wrap x = x := by unfold IntKind.wrap; simp [IntKind.bits, IntKind.signed]; omega
theorem nwu32 {x : Int} (h0 : 0 ≤ x) (h1 : x ≤ 4294967295) : IntKind.u32.wrap x = x := by unfold IntKind.wrap; simp [IntKind.bits, IntKind.signed]; omega
theorem ari_i64_add {a b : Int} (h0 : -9223372036854775808 ≤ a + b) (h1 : a + b ≤ 9223372036854775807) : iari .add .i64 a b = some (a + b) := congrArg some (nw64 h0 h1)
theorem ari_i64_sub {a b : Int} (h0 : -9223372036854775808 ≤ a - b) (h1 : a - b ≤ 9223372036854775807) : iari .sub .i64 a b = some (a - b) := congrArg some (nw64 h0 h1)
theorem ari_u64_add {a b : Int} (h0 : 0 ≤ a + b) (h1 : a + b ≤ 18446744073709551615) : iari .add .u64 a b = some (a + b) := congrArg some (nwu64 h0 h1)
theorem ari_u64_sub {a b : Int} (h0 : 0 ≤ a - b) (h1 : a - b ≤ 18446744073709551615) : iari .sub .u64 a b = some (a - b) := congrArg some (nwu64 h0 h1)
theorem ari_u64_mul {a b : Int} (h0 : 0 ≤ a * b) (h1 : a * b ≤ 18446744073709551615) : iari .mul .u64 a b = some (a * b) := congrArg some (nwu64 h0 h1)
theorem ari_u32_add {a b : Int} (h0 : 0 ≤ a + b) (h1 : a + b ≤ 4294967295) : iari .add .u32 a b = some (a + b) := congrArg some (nwu32 h0 h1)
theorem ari_u32_sub {a b : Int} (h0 : 0 ≤ a - b) (h1 : a - b ≤ 4294967295) : iari .sub .u32 a b = some (a - b) := congrArg some (nwu32 h0 h1)
theorem trim_step {xs : List Int} {k : Nat} (h1 : 0 < k) (hk : k ≤ xs.length) (hT : trm (xs.take k) = trm xs) (h : ((xs.take k).getD (k - 1) 0 == 0) = true) : trm (xs.take (k - 1)) = trm xs := by
  obtain ⟨j, rfl⟩ : ∃ j, k = j + 1 := ⟨k - 1, by omega⟩
  rw [Nat.add_sub_cancel] at *
  have hx := getD_some (xs := xs) (i := j) (by omega)
  have e : (xs.take (j + 1)).getD j 0 = xs.getD j 0 := by simp [List.getD]
  rw [e] at h
  rw [← hT, trm_step_zero hx (by simpa using h)]
theorem trim_stop {xs : List Int} {k : Nat} (h1 : 0 < k) (hk : k ≤ xs.length) (hT : trm (xs.take k) = trm xs) (h : ((xs.take k).getD (k - 1) 0 == 0) = false) : trm xs = xs.take k := by
  obtain ⟨j, rfl⟩ : ∃ j, k = j + 1 := ⟨k - 1, by omega⟩
  rw [Nat.add_sub_cancel] at *
  have hx := getD_some (xs := xs) (i := j) (by omega)
  have e : (xs.take (j + 1)).getD j 0 = xs.getD j 0 := by simp [List.getD]
  rw [e] at h
  rw [← hT, trm_step_stop hx (by simpa using h)]
section
variable {P : Program} {ops : Array Oper} {T : TF} {B : BF}
theorem sem_quo' {dst : Option Nat} {xt yt : TypeId} {x y : Operand} {ty : TypeId} {pos : String} {af : Array Edge} {g : Option (Nat × Bool)} {k : IntKind} {m n r : Int}
    (hx : opd T x = some (.v (.c (.i k m)))) (hy : opd T y = some (.v (.c (.i k n)))) (h0 : n ≠ 0) (hr : k.wrap (m.tdiv n) = r) (hg : gd ops ⟨dst, .binOp .quo xt x y yt, ty, pos, af, g⟩ T = some true) :
    Sem P ops ⟨dst, .binOp .quo xt x y yt, ty, pos, af, g⟩ T B (.r (.v (.c (.i k r)))) := by subst hr; exact sem_quo hx hy h0 hg
theorem sem_rem' {dst : Option Nat} {xt yt : TypeId} {x y : Operand} {ty : TypeId} {pos : String} {af : Array Edge} {g : Option (Nat × Bool)} {k : IntKind} {m n r : Int}
    (hx : opd T x = some (.v (.c (.i k m)))) (hy : opd T y = some (.v (.c (.i k n)))) (h0 : n ≠ 0) (hr : m.tmod n = r) (hg : gd ops ⟨dst, .binOp .rem xt x y yt, ty, pos, af, g⟩ T = some true) :
    Sem P ops ⟨dst, .binOp .rem xt x y yt, ty, pos, af, g⟩ T B (.r (.v (.c (.i k r)))) := by subst hr; exact sem_rem hx hy h0 hg
theorem sem_conv' {dst : Option Nat} {t1 t2 : TypeId} {x : Operand} {ty : TypeId} {pos : String} {af : Array Edge} {g : Option (Nat × Bool)} {k1 k2 k : IntKind} {m r : Int}
    (h1 : P.underlying t1 = some (.int k1)) (h2 : P.underlying t2 = some (.int k2)) (hx : opd T x = some (.v (.c (.i k m)))) (hr : k2.wrap m = r) (hg : gd ops ⟨dst, .convert t1 t2 x, ty, pos, af, g⟩ T = some true) :
    Sem P ops ⟨dst, .convert t1 t2 x, ty, pos, af, g⟩ T B (.r (.v (.c (.i k2 r)))) := by subst hr; exact sem_conv h1 h2 hx hg
theorem sem_slit_M {dst : Option Nat} {U e : TypeId} {x : Operand} {ty : TypeId} {pos : String} {af : Array Edge} {g : Option (Nat × Bool)} {by_ : Nat} {z : CellD} {m : Int}
    (hU : elB P U = some (e, 1, by_, [z])) (hx : opd T x = some (.v (.c (.i .u32 m)))) (hg : gd ops ⟨dst, .buildSlice U 1 #[(0, x)], ty, pos, af, g⟩ T = some true) :
    Sem P ops ⟨dst, .buildSlice U 1 #[(0, x)], ty, pos, af, g⟩ T B (.r (.v (.c (cM [m])))) := by
  have h := sem_slit (B := B) (n := 1) (us := [.i .u32 m]) (dps := [(0, .c (.i .u32 m))]) hU (by unfold partsD; rw [hx]; rfl) rfl (by omega) (by omega) hg
  refine ⟨nop rfl, fun V β a w hs => ?_⟩
  obtain ⟨hw, hg⟩ := h V β a w hs
  refine ⟨hw, hg.mono ?_⟩
  rintro v w' ⟨vs, rfl, rfl, hr⟩
  refine ⟨?_, (Below.refl _ w).alloc (Nat.le_refl _) _⟩
  have hkeep := Keep.below (av := V) ((Below.refl w.heap.size w).alloc (Nat.le_refl _) (.cells vs e))
  have hr2 := hr.keep hkeep
  have hvl : vs.size = 1 := by have := hr.1; simpa using this
  refine .s w.heap.size 0 1 1 1 _ (fun j => vs.getD j undef) (by omega) (by omega) (by omega) rfl (by simp) (fun h => by have := hs.av _ h; omega) (fun j hj => ?_) (fun j u hj => ?_)
  · rw [Nat.zero_add, cells_of_box (heap_alloc_new w (.cells vs e))]
    have : j < vs.size := by omega
    simp [Array.getD, this]
  · have hlt : j < 1 := by have := (List.getElem?_eq_some_iff.1 hj).1; simpa using this
    refine hr2.2 j _ u ?_ hj
    rw [Array.getElem?_toList]
    have : j < vs.size := by omega
    simp [Array.getD, this]
theorem sem_append_0 {dst : Option Nat} {x y : Operand} {U e : TypeId} {ty : TypeId} {pos : String} {af : Array Edge} {g : Option (Nat × Bool)} {n m by_ k : Nat} {cs zs : List CellD}
    (hU : elB P U = some (e, m, by_, zs)) (hx : opd T x = some (.o k n n)) (hy : opd T y = some (.v (.c (.s 0 [])))) (hb : B k = some (e, cs)) (hcs : cs.length = n * m) (hn : 0 < n) (hn2 : n ≤ 9223372036854775807)
    (hg : gd ops ⟨dst, .call ⟨.builtin .append, #[x, y], #[U, U]⟩, ty, pos, af, g⟩ T = some true) :
    Sem P ops ⟨dst, .call ⟨.builtin .append, #[x, y], #[U, U]⟩, ty, pos, af, g⟩ T B (.c k (.v (.c (.s n cs)))) := by
  refine ⟨rfl, by rw [hb]; simp, fun V β a w hs => ⟨gd_want hs hg, ?_⟩⟩
  have e1 : a.eval x = .slice (some ⟨β k, 0, none⟩) n n := opd_reads hs (x := x) (by simp [Op.operands, Call.operands]) hx
  have h2 : RdC V w (a.eval y) (.s 0 []) := opd_reads hs (x := y) (by simp [Op.operands, Call.operands]) hy
  have h3 : ∃ A c, a.eval y = .slice A 0 c := by
    generalize a.eval y = v at h2
    cases h2 with
    | s0 A c _ => exact ⟨A, c, rfl⟩
    | s b off c sz _ _ cv h0 => omega
  obtain ⟨A, c, e2⟩ := h3
  obtain ⟨hu, i, z, hi, hz, hsz, hby, _, hzr⟩ := elB_spec hU
  obtain ⟨hvk, vs, ev, hr⟩ := hs.box k e cs hb
  have hfirst : ∀ w, (Builtin.firstCells m 0 (.slice A 0 c)).run P w = .ok #[] w := by
    intro w
    cases A with
    | none => rfl
    | some A => simp [Builtin.firstCells, loadCells, loadCellsFrom]
  have hexec : (execOp a.eval ⟨dst, .call ⟨.builtin .append, #[x, y], #[U, U]⟩, ty, pos, af, g⟩).run P w = .ok (.value (.slice (some ⟨β k, 0, none⟩) n n)) w := by
    simp only [execOp, resolve, invoke, builtin, Sem.run_bind, Sem.run_pure, Result.andThen_ok, List.map_toArray, List.map_cons, List.map_nil, e1, e2]
    simp [Builtin.append_, run_underlying hu, sizeOf, typeInfo, program, Sem.run, hi, hsz, Builtin.lenOf, hfirst, storeCells]
  unfold Gives
  rw [hexec]
  refine ⟨?_, Below.refl _ _⟩
  have hkeep : Keep V (fun b => V b ∧ b ≠ β k) w w := ⟨Nat.le_refl _, fun _ _ _ => rfl, fun _ _ h => h.1⟩
  have hr2 := hr.keep hkeep
  have hvl : vs.size = n * m := by have := hr.1; simp at this; omega
  refine .s (β k) 0 n m n cs (fun j => vs.getD j undef) hn (Nat.le_refl _) hn2 hcs (hs.av _ hvk) (fun h => h.2 rfl) (fun j hj => ?_) (fun j u hj => ?_)
  · rw [Nat.zero_add, cells_of_box ev]
    have : j < vs.size := by omega
    simp [Array.getD, this]
  · have hlt : j < cs.length := (List.getElem?_eq_some_iff.1 hj).1
    refine hr2.2 j _ u ?_ hj
    rw [Array.getElem?_toList]
    have : j < vs.size := by omega
    simp [Array.getD, this]
theorem sem_append_1M {dst : Option Nat} {x y : Operand} {U e : TypeId} {ty : TypeId} {pos : String} {af : Array Edge} {g : Option (Nat × Bool)} {k : Nat} {z : CellD} {d : Int} {rs : List Int}
    (hU : elB P U = some (e, 1, 4, [z])) (hx : opd T x = some (.o k 1 1)) (hy : opd T y = some (.v (.c (cM rs)))) (hb : B k = some (e, [.i .u32 d])) (hl : rs.length ≤ 10000000)
    (hg : gd ops ⟨dst, .call ⟨.builtin .append, #[x, y], #[U, U]⟩, ty, pos, af, g⟩ T = some true) :
    Sem P ops ⟨dst, .call ⟨.builtin .append, #[x, y], #[U, U]⟩, ty, pos, af, g⟩ T B (.c k (.v (.c (cM (d :: rs))))) := by
  cases rs with
  | nil => exact sem_append_0 (n := 1) hU hx hy hb rfl (by omega) (by omega) hg
  | cons r rs =>
    have := sem_append_c (us := (d :: r :: rs).map (CellD.i .u32)) hU hx hy hb rfl (M_len _) (by omega) (by simp) (by omega) (by simp at hl ⊢; omega) (by simp at hl ⊢; unfold maxLen; omega) rfl hg
    unfold cM
    rw [show (d :: r :: rs).length = 1 + (r :: rs).length from by simp; omega]
    exact this
theorem dw_relM {c : Code} {Q : Exit → St → Prop} {N t k n' c' : Nat} {tm : List (Nat × DV)} {bx : List (Nat × TypeId × List CellD)} {U : TypeId} {zs ys : List Int}
    (ht : look t tm = some (.o k n' c')) (hb : look k bx = some (U, zs.map (CellD.i .u32))) (hm : zs.length = c') (hn : n' ≤ c') (hc : c' ≤ 9223372036854775807) (hu : zs.take n' = ys)
    (h : Dw P c ⟨N, (t, .v (.c (cM ys))) :: killL k tm, dropL k bx⟩ Q) : Dw P c ⟨N, tm, bx⟩ Q := by
  refine dw_release ht hb (m := 1) (us := ys.map (CellD.i .u32)) (by simp [hm]) hn hc (by rw [Nat.mul_one, ← List.map_take, hu]) ?_
  have e : n' = ys.length := by rw [← hu, List.length_take]; omega
  unfold cM at h
  rw [← e] at h
  exact h
theorem sem_slice_M {dst : Option Nat} {x h : Operand} {U : TypeId} {ty : TypeId} {pos : String} {af : Array Edge} {g : Option (Nat × Bool)} {xs : List Int} {j : Nat} {ki : IntKind}
    (hU : slB P U = some 1) (hx : opd T x = some (.v (.c (cM xs)))) (hh : opd T h = some (.v (.c (.i ki j)))) (hj : j ≤ xs.length) (hg : gd ops ⟨dst, .slice U x none (some h) none, ty, pos, af, g⟩ T = some true) :
    Sem P ops ⟨dst, .slice U x none (some h) none, ty, pos, af, g⟩ T B (.r (.v (.c (cM (xs.take j))))) := by
  have := sem_slice_s (B := B) hU hx hh (by omega) (M_len xs) rfl hg
  have e : CellD.s ((j : Int).toNat) ((xs.map (CellD.i .u32)).take ((j : Int).toNat * 1)) = cM (xs.take j) := by
    unfold cM
    rw [Int.toNat_natCast, Nat.mul_one, List.length_take, Nat.min_eq_left hj, List.map_take]
  rw [e] at this; exact this
theorem sem_slice_o {dst : Option Nat} {x h : Operand} {U : TypeId} {ty : TypeId} {pos : String} {af : Array Edge} {g : Option (Nat × Bool)} {k n c q m : Nat} {ki : IntKind}
    (hU : slB P U = some m) (hx : opd T x = some (.o k n c)) (hh : opd T h = some (.v (.c (.i ki q)))) (hq : q ≤ c) (hg : gd ops ⟨dst, .slice U x none (some h) none, ty, pos, af, g⟩ T = some true) :
    Sem P ops ⟨dst, .slice U x none (some h) none, ty, pos, af, g⟩ T B (.r (.o k q c)) :=
  sem_pure hg (fun k' e => by
      obtain rfl : k = k' := by injection e
      exact opd_ptr (ops := ops) (o := ⟨dst, .slice U x none (some h) none, ty, pos, af, g⟩) (by simp [Op.operands]) hx rfl) (fun V β a w hs => by
    have e : a.eval x = .slice (some ⟨β k, 0, none⟩) n c := opd_reads hs (x := x) (by simp [Op.operands]) hx
    have h2 := RdC.int_eq (opd_reads hs (x := h) (by simp [Op.operands]) hh)
    unfold slB at hU
    split at hU
    case h_2 => cases hU
    rename_i el hul
    cases hinf : P.info? el with
    | none => rw [hinf] at hU; cases hU
    | some inf =>
      rw [hinf] at hU
      simp at hU
      have hso : ∀ w, (sizeOf el).run P w = .ok m w := fun w => by unfold sizeOf typeInfo; simp [program, Sem.run, hinf, hU]
      refine ⟨.slice (some ⟨β k, 0, none⟩) q c, ?_, rfl⟩
      simp [execOp, Instr.sliceAt, Instr.slice, run_underlying hul, e, h2, Instr.sliceBounds, Instr.sliceBound, asIntOf, hq, hso, Addr.add])
end
theorem rTrim_ok {xs : List Int} (hL : Lim xs) (hn : xs.length ≤ 10000000) : Ok Tryz.prog 77 [.c (cM xs)] [.c (cL (val xs))] := by
  refine Ok.of (by kernel_rfl) Tryz.func77 rfl rfl ?_
  rw [show Tryz.f77.ntmps = 21 from rfl, show Tryz.f77.results.toList = [.tmp 2] from rfl]
  refine dw_seq <| dw_region (by kernel_rfl) <| dl_r (sem_assign rfl rfl) <| dl_end <| dw_seq <| dw_block <| dw_loop (ι := {k : Nat // k ≤ xs.length ∧ trm (xs.take k) = trm xs}) (fun i => ⟨21, [(0, .v (.c (cM (xs.take i.1))))], []⟩) (fun i => i.1) ⟨xs.length, Nat.le_refl _, by rw [List.take_length]⟩ (sub_of ⟨by rw [List.take_length]; rfl, trivial⟩ trivial rfl) ?_
  rintro ⟨k, hk0, hT⟩
  have hk : (xs.take k).length = k := by rw [List.length_take]; omega
  show Dw _ _ ⟨21, [(0, .v (.c (cM (xs.take k))))], []⟩ _
  refine dw_seq <| dw_seq <| dw_region (by kernel_rfl) <| dl_r (sem_move rfl rfl) <| dl_r (sem_len sl22 rfl rfl) <| dl_r (sem_cmp rfl rfl rfl rfl) ?_
  refine dl_rb (sem_move rfl rfl) (fun c1 hb1 => ?_)
  cases c1
  · have hz : k = 0 := by simp only [decide_eq_false_iff_not] at hb1; omega
    have hfin : cL (val xs) = cM (xs.take k) := by rw [cL_trm hL, ← hT, hz]; rfl
    refine dl_skip (sem_skip rfl) <| dl_skip (sem_skip rfl) <| dl_skip (sem_skip rfl) <| dl_skip (sem_skip rfl) <| dl_skip (sem_skip rfl) <| dl_skip (sem_skip rfl) <| dl_skip (sem_skip rfl) <| dl_r (sem_pick rfl rfl rfl rfl) ?_
    refine dl_end <| dw_false rfl <| dw_exit <| dw_seq <| dw_region (by kernel_rfl) <| dl_r (sem_move rfl rfl) <| dl_r (sem_assign rfl rfl) <| dl_end ?_
    refine dw_ret ?_
    rw [hfin]
    exact ⟨.inr rfl, (resL_tmp rfl resL_nil)⟩
  · have h1 : 0 < k := by simp only [decide_eq_true_eq] at hb1; omega
    refine dl_r (sem_move rfl rfl) <| dl_r (sem_move rfl rfl) <| dl_r (sem_len sl22 rfl rfl) <| dl_r (sem_ari (r := ((k - 1 : Nat) : Int)) rfl rfl (by rw [hk, show ((k - 1 : Nat) : Int) = (k : Int) - 1 from by omega]; exact ari_i64_sub (by omega) (by omega)) rfl) <| dl_r (sem_index sl22 rfl rfl (by omega) (M_len _) rfl rfl) <| dl_r (sem_loadq1 ty89 rfl (M_get (i := (k - 1)) (by omega)) rfl) <| dl_r (sem_cmp rfl rfl rfl rfl) <| dl_r (sem_pick rfl rfl rfl rfl) ?_
    refine dl_end ?_
    refine dw_cond rfl (fun hc2 => ?_) (fun hc2 => ?_)
    · have hstep := trim_step h1 hk0 hT hc2
      refine dw_skip <| dw_block <| dw_region (by kernel_rfl) <| dl_r (sem_move rfl rfl) <| dl_r (sem_move rfl rfl) <| dl_r (sem_len sl22 rfl rfl) <| dl_r (sem_ari (r := ((k - 1 : Nat) : Int)) rfl rfl (by rw [hk, show ((k - 1 : Nat) : Int) = (k : Int) - 1 from by omega]; exact ari_i64_sub (by omega) (by omega)) rfl) <| dl_r (sem_slice_M (xs := xs.take k) (j := (k - 1)) sl22 rfl rfl (by omega) rfl) ?_
      refine dl_r (sem_assign rfl rfl) <| dl_end ?_
      exact ⟨⟨k - 1, by omega, hstep⟩, sub_of ⟨by rw [show xs.take (k - 1) = (xs.take k).take (k - 1) from by rw [List.take_take, Nat.min_eq_left (by omega)]]; rfl, trivial⟩ trivial rfl, by show k - 1 < k; omega⟩
    · have hfin : cL (val xs) = cM (xs.take k) := by rw [cL_trm hL]; exact congrArg cM (trim_stop h1 hk0 hT hc2)
      refine dw_exit <| dw_seq <| dw_region (by kernel_rfl) <| dl_r (sem_move rfl rfl) <| dl_r (sem_assign rfl rfl) <| dl_end <| dw_ret ?_
      rw [hfin]
      exact ⟨.inr rfl, (resL_tmp rfl resL_nil)⟩
theorem take_getD {xs : List Int} {k : Nat} (h : k < xs.length) : val (xs.take (k + 1)) = val (xs.take k) + pw k * xs.getD k 0 := val_take_succ (getD_some h)
theorem take_getD' {xs : List Int} (k : Nat) : val (xs.take (k + 1)) = val (xs.take k) + pw k * xs.getD k 0 := by
  by_cases h : k < xs.length
  · exact take_getD h
  · rw [val_take_more (by omega), List.getD, List.getElem?_eq_none (by omega)]; simp
structure PInv (p q : List Int) (k : Nat) (c : Int) (zs : List Int) : Prop where
  le : k ≤ p.length
  c0 : 0 ≤ c
  c1 : c ≤ 1
  L : Lim zs
  len : zs.length = k
  v : val zs + pw k * c = val (p.take k) + val (q.take k)
theorem PInv.step {p q zs : List Int} {k : Nat} {c S : Int} (h : PInv p q k c zs) (hp : Lim p) (hq : Lim q) (hk : k < p.length) (hS : S = c + p.getD k 0 + q.getD k 0) : PInv p q (k + 1) (S / 1000000000) (zs ++ [S % 1000000000]) := by
  have h1 := lim_getD hp k
  have h2 := lim_getD hq k
  have := h.c0
  have := h.c1
  refine ⟨hk, by omega, by omega, h.L.snoc (by omega) (by omega), by simp [h.len], ?_⟩
  rw [take_getD' k, take_getD' k, digit h.len h.v (d := S % 1000000000) (c' := S / 1000000000) (t := p.getD k 0 + q.getD k 0) (by omega)]
  rw [Int.mul_add]; omega
theorem PInv.done {p q zs : List Int} {k : Nat} {c : Int} (h : PInv p q k c zs) (hk : k = p.length) (hq : q.length ≤ p.length) : val (zs ++ [c]) = val p + val q := by
  have := h.v
  rw [val_snoc, h.len, this, hk, val_take_all (Nat.le_refl _), val_take_all hq]
structure SInv (p q : List Int) (k : Nat) (c : Int) (zs : List Int) : Prop where
  le : k ≤ p.length
  c0 : 0 ≤ c
  c1 : c ≤ 1
  L : Lim zs
  len : zs.length = k
  v : val zs - pw k * c = val (p.take k) - val (q.take k)
theorem SInv.step {p q zs : List Int} {k : Nat} {c d c' : Int} (h : SInv p q k c zs) (hk : k < p.length) (hd : 0 ≤ d) (hd2 : d < 1000000000) (hc0 : 0 ≤ c') (hc1 : c' ≤ 1) (hS : d - 1000000000 * c' = p.getD k 0 - c - q.getD k 0) : SInv p q (k + 1) c' (zs ++ [d]) := by
  refine ⟨hk, hc0, hc1, h.L.snoc hd hd2, by simp [h.len], ?_⟩
  have h1 := digit (zs := zs) (k := k) (c := -c) (S := val (p.take k) - val (q.take k)) (t := p.getD k 0 - q.getD k 0) (d := d) (c' := -c') h.len (by rw [Int.mul_neg]; have := h.v; omega) (by omega)
  rw [Int.mul_neg] at h1
  rw [take_getD' k, take_getD' k]
  rw [Int.mul_sub] at h1
  omega
theorem SInv.done {p q zs : List Int} {k : Nat} {c : Int} (h : SInv p q k c zs) (hk : k = p.length) (hq : q.length ≤ p.length) (hv : val q ≤ val p) : val zs = val p - val q := by
  have h1 := h.v
  rw [hk, val_take_all (Nat.le_refl _), val_take_all hq] at h1
  have h2 := val_lt h.L
  have h3 := val_nonneg h.L
  rw [h.len, hk] at h2
  have h4 := h.c0
  have h5 := h.c1
  have : c = 0 ∨ c = 1 := by omega
  rcases this with rfl | rfl
  · omega
  · rw [Int.mul_one] at h1; omega
structure TInv (p q : List Int) (i k : Nat) (c : Int) (zs : List Int) : Prop where
  ik : i ≤ p.length
  kk : k ≤ q.length
  c0 : 0 ≤ c
  c1 : c < 1000000000
  L : Lim zs
  len : zs.length = p.length + q.length
  z : Zr zs (i + q.length)
  v : val zs + pw (i + k) * c = val (p.take i) * val q + pw i * (p.getD i 0 * val (q.take k))
theorem TInv.start {p q : List Int} : TInv p q 0 0 0 (List.replicate (p.length + q.length) 0) :=
  ⟨Nat.zero_le _, Nat.zero_le _, by omega, by omega, Lim.zeros _, by simp, Zr.zeros _ _, by rw [val_zeros]; simp [val]⟩
theorem tstep_alg {Z a b c d o c' x y Q M S : Int} (hv : Z + a * b * c = M + a * (x * Q)) (e1 : d + 1000000000 * c' = S) (hS : S = c + o + x * y) : Z + a * b * (d - o) + 1000000000 * (a * b) * c' = M + a * (x * (Q + b * y)) := by
  grind
theorem TInv.step {p q zs : List Int} {i k : Nat} {c S : Int} (h : TInv p q i k c zs) (hp : Lim p) (hq : Lim q) (hi : i < p.length) (hk : k < q.length) (hS : S = c + zs.getD (i + k) 0 + p.getD i 0 * q.getD k 0) :
    TInv p q i (k + 1) (S / 1000000000) (zs.set (i + k) (S % 1000000000)) := by
  have h1 := lim_getD hp i
  have h2 := lim_getD hq k
  have h3 := lim_getD h.L (i + k)
  have hc0 := h.c0
  have hc1 := h.c1
  have hm0 : 0 ≤ p.getD i 0 * q.getD k 0 := Int.mul_nonneg h1.1 h2.1
  have hm1 : p.getD i 0 * q.getD k 0 ≤ 999999999 * 999999999 := Int.mul_le_mul (by omega) (by omega) h2.1 (by omega)
  have hlt : i + k < zs.length := by rw [h.len]; omega
  refine ⟨h.ik, hk, by omega, by omega, h.L.set (by omega) (by omega), by simp [h.len], h.z.set (by omega), ?_⟩
  rw [val_set (getD_some hlt), take_getD hk, show i + (k + 1) = i + k + 1 from by omega, pw_succ]
  have hv := h.v
  have e1 : S % 1000000000 + 1000000000 * (S / 1000000000) = S := Int.emod_add_mul_ediv S 1000000000
  rw [pw_add i k] at *
  exact tstep_alg hv e1 hS
theorem TInv.row {p q zs : List Int} {i k : Nat} {c : Int} (h : TInv p q i k c zs) (hi : i < p.length) (hk : k = q.length) : TInv p q (i + 1) 0 0 (zs.set (i + q.length) c) := by
  subst hk
  have hlt : i + q.length < zs.length := by rw [h.len]; omega
  have hz : zs.getD (i + q.length) 0 = 0 := h.z (i + q.length) _ (Nat.le_refl _) (getD_some hlt)
  refine ⟨hi, Nat.zero_le _, by omega, by omega, h.L.set h.c0 h.c1, by simp [h.len], ?_, ?_⟩
  · rw [show i + 1 + q.length = i + q.length + 1 from by omega]; exact h.z.set_at
  · rw [val_set (getD_some hlt), hz, take_getD hi]
    have hv := h.v
    rw [val_take_all (Nat.le_refl _)] at hv
    simp only [List.take_zero, val, Int.mul_zero, Int.add_zero, Int.sub_zero]
    generalize pw (i + q.length) = a at *
    generalize pw i = b at *
    generalize p.getD i 0 = x at *
    generalize val q = Q at *
    generalize val zs = Z at *
    generalize val (p.take i) = M at *
    grind
theorem TInv.done {p q zs : List Int} {i : Nat} (h : TInv p q i 0 0 zs) (hi : i = p.length) : val zs = val p * val q := by
  have hv := h.v
  subst hi
  rw [val_take_all (Nat.le_refl _)] at hv
  simp [val] at hv
  exact hv
theorem drop_step {xs ys : List Int} {i : Nat} (hx : i < xs.length) (hy : i < ys.length) (h : xs.drop (i + 1) = ys.drop (i + 1)) (he : xs.getD i 0 = ys.getD i 0) : xs.drop i = ys.drop i := by
  rw [List.drop_eq_getElem_cons hx, List.drop_eq_getElem_cons hy, h]
  congr 1
  simpa [List.getD, hx, hy] using he
theorem sg_data {v : Int} (h : 0 ≤ v) : dI (sg true v) = .a ([.b (decide (((lim v.natAbs).length : Int) > 0))] ++ [cL v]) := by
  rw [sg_true]
  unfold dI cI
  have e1 : cL (-v) = cL v := by unfold cL; rw [Int.natAbs_neg]
  rw [e1]
  have e2 : decide (-v < 0) = decide (((lim v.natAbs).length : Int) > 0) := by
    by_cases h0 : v = 0
    · subst h0; simp [lim_zero]
    · have : (lim v.natAbs).length ≠ 0 := fun e => h0 (lenL_eq.1 e)
      rw [show decide (-v < 0) = true from by simp; omega, show decide (((lim v.natAbs).length : Int) > 0) = true from by simp only [decide_eq_true_eq]; omega]
  rw [e2]; rfl
structure ShInv (xs : List Int) (j : Nat) (r : Int) : Prop where
  le : j ≤ xs.length
  r0 : 0 ≤ r
  v : r * pw j + val (xs.take j) = val xs
theorem ShInv.step {xs : List Int} {i : Nat} {r : Int} (h : ShInv xs (i + 1) r) (hL : Lim xs) : ShInv xs i (r * 1000000000 + xs.getD i 0) := by
  have h1 := lim_getD hL i
  refine ⟨by have := h.le; omega, by have := h.r0; omega, ?_⟩
  have hv := h.v
  rw [take_getD' i, pw_succ] at hv
  rw [← hv]
  generalize pw i = a at *
  grind
theorem ShInv.bound {xs : List Int} {j : Nat} {r : Int} (h : ShInv xs j r) (hL : Lim xs) : r ≤ val xs := by
  have := h.v
  have h1 := pw_pos j
  have h2 := val_nonneg (hL.take j)
  have h3 := Int.mul_le_mul_of_nonneg_left h1 h.r0
  rw [Int.mul_one] at h3
  omega
theorem rPlus_ok {xs ys : List Int} (hLxs : Lim xs) (hLys : Lim ys) (hn : xs.length ≤ 1000000) (hm : ys.length ≤ 1000000) : Ok Tryz.prog 85 [.c (cM xs), .c (cM ys)] [.c (cL (val xs + val ys))] := by
  refine Ok.of (by kernel_rfl) Tryz.func85 rfl rfl ?_
  rw [show Tryz.f85.ntmps = 55 from rfl, show Tryz.f85.results.toList = [.tmp 4] from rfl]
  refine dw_seq <| dw_region (by kernel_rfl) <| dl_r (sem_assign rfl rfl) <| dl_end <| dw_seq <| dw_seq <| dw_region (by kernel_rfl) <| dl_r (sem_move rfl rfl) ?_
  refine dl_r (sem_len sl22 rfl rfl) <| dl_r (sem_move rfl rfl) <| dl_r (sem_len sl22 rfl rfl) <| dl_r (sem_cmp rfl rfl rfl rfl) <| dl_end ?_
  refine dw_cond rfl (fun hc1 => ?_) (fun hc1 => ?_)
  · have hlt : xs.length < ys.length := by simp only [decide_eq_true_eq] at hc1; omega
    refine dw_region (by kernel_rfl) <| dl_r (sem_move rfl rfl) <| dl_r (sem_move rfl rfl) <| dl_r (sem_assign rfl rfl) <| dl_r (sem_assign rfl rfl) <| dl_end <| dw_seq <| dw_region (by kernel_rfl) ?_
    refine dl_r (sem_move rfl rfl) <| dl_r (sem_len sl22 rfl rfl) ?_
    refine dl_r (sem_ari (r := (ys.length : Int) + 1) rfl rfl (ari_i64_add (by (first | omega | (simp; omega))) (by (first | omega | (simp; omega)))) rfl) ?_
    refine dl_mk (sem_make (n := ys.length + 1) el22 rfl rfl (by (first | omega | (simp; omega))) (by (first | omega | (simp; omega))) rfl) rfl ?_
    refine dl_r (sem_assign rfl rfl) <| dl_end <| dw_seq <| dw_region (by kernel_rfl) <| dl_r (sem_assign rfl rfl) <| dl_end <| dw_seq <| dw_seq ?_
    refine dw_region (by kernel_rfl) <| dl_r (sem_assign rfl rfl) <| dl_end <| dw_block <| dw_loop (ι := {t : Nat × Int × List Int // PInv ys xs t.1 t.2.1 t.2.2}) (fun i => ⟨55, [(0, .v (.c (cM ys))), (1, .v (.c (cM xs))), (5, .o 18 (ys.length + 1) (ys.length + 1)), (6, .v (.c (.i .u32 i.1.2.1))), (7, .v (.c (.i .i64 (i.1.1 : Int))))], [(18, 89, (i.1.2.2 ++ List.replicate (ys.length + 1 - i.1.1) 0).map (CellD.i .u32))]⟩) (fun i => ys.length - i.1.1) ⟨(0, 0, []), ⟨Nat.zero_le _, Int.le_refl 0, by decide, Lim.nil, rfl, by simp [val]⟩⟩ (sub_of ⟨rfl, rfl, rfl, rfl, rfl, trivial⟩ ⟨by rw [show (List.replicate (ys.length + 1) (CellD.i .u32 0)) = (([] : List Int) ++ List.replicate (ys.length + 1 - 0) 0).map (CellD.i .u32) from by simp]; rfl, trivial⟩ rfl) ?_
    rintro ⟨⟨k, c, zs⟩, hI⟩
    replace hI : PInv ys xs k c zs := hI
    have g1 := lim_getD hLys k
    have g2 := lim_getD hLxs k
    have g3 := hI.c0
    have g4 := hI.c1
    have g5 := hI.le
    have g6 := hI.len
    show Dw _ _ ⟨55, [(0, .v (.c (cM ys))), (1, .v (.c (cM xs))), (5, .o 18 (ys.length + 1) (ys.length + 1)), (6, .v (.c (.i .u32 c))), (7, .v (.c (.i .i64 (k : Int))))], [(18, 89, (zs ++ List.replicate (ys.length + 1 - k) 0).map (CellD.i .u32))]⟩ _
    refine dw_seq <| dw_seq <| dw_region (by kernel_rfl) <| dl_r (sem_move rfl rfl) <| dl_r (sem_move rfl rfl) <| dl_r (sem_len sl22 rfl rfl) <| dl_r (sem_cmp rfl rfl rfl rfl) <| dl_end ?_
    refine dw_cond rfl (fun hc2 => ?_) (fun hc2 => ?_)
    · have hk : k < ys.length := by simp only [decide_eq_true_eq] at hc2; omega
      refine dw_skip <| dw_seq <| dw_block <| dw_seq <| dw_region (by kernel_rfl) <| dl_r (sem_move rfl rfl) <| dl_r (sem_move rfl rfl) <| dl_r (sem_move rfl rfl) ?_
      refine dl_r (sem_index sl22 rfl rfl (by (first | omega | (simp; omega))) (M_len _) rfl rfl) ?_
      refine dl_r (sem_loadq1 ty89 rfl (M_get (i := k) (by (first | omega | (simp; omega)))) rfl) ?_
      refine dl_r (sem_ari (r := c + (ys.getD k 0)) rfl rfl (ari_u32_add (by (first | omega | (simp; omega))) (by (first | omega | (simp; omega)))) rfl) ?_
      refine dl_r (sem_assign rfl rfl) <| dl_end <| dw_seq <| dw_seq <| dw_region (by kernel_rfl) <| dl_r (sem_move rfl rfl) <| dl_r (sem_move rfl rfl) <| dl_r (sem_len sl22 rfl rfl) ?_
      refine dl_r (sem_cmp rfl rfl rfl rfl) <| dl_end ?_
      refine dw_cond rfl (fun hc3 => ?_) (fun hc3 => ?_)
      · have hkq : k < xs.length := by simp only [decide_eq_true_eq] at hc3; omega
        have hS : c + ys.getD k 0 + xs.getD k 0 = c + ys.getD k 0 + xs.getD k 0 := rfl
        have hb : c + ys.getD k 0 + xs.getD k 0 ≤ 4294967295 := by omega
        refine dw_region (by kernel_rfl) <| dl_r (sem_move rfl rfl) <| dl_r (sem_move rfl rfl) <| dl_r (sem_move rfl rfl) ?_
        refine dl_r (sem_index sl22 rfl rfl (by (first | omega | (simp; omega))) (M_len _) rfl rfl) ?_
        refine dl_r (sem_loadq1 ty89 rfl (M_get (i := k) (by (first | omega | (simp; omega)))) rfl) ?_
        refine dl_r (sem_ari (r := (c + (ys.getD k 0)) + (xs.getD k 0)) rfl rfl (ari_u32_add (by (first | omega | (simp; omega))) (by (first | omega | (simp; omega)))) rfl) ?_
        refine dl_r (sem_assign rfl rfl) <| dl_end <| dw_seq <| dw_region (by kernel_rfl) <| dl_r (sem_move rfl rfl) <| dl_r (sem_move rfl rfl) <| dl_r (sem_move rfl rfl) <| dl_r (sem_rem' (r := (c + ys.getD k 0 + xs.getD k 0) % 1000000000) rfl rfl (by omega) (Int.tmod_eq_emod_of_nonneg (by omega)) rfl) ?_
        refine dl_r (sem_index_o sl22 rfl rfl (by (first | omega | (simp; omega))) rfl) ?_
        refine dl_st (sem_store (us := ((zs ++ List.replicate (ys.length + 1 - k) 0).set k ((c + ys.getD k 0 + xs.getD k 0) % 1000000000)).map (CellD.i .u32)) ty89 rfl rfl rfl rfl (by simp; omega) (O_set (by (first | omega | (simp; omega)))) rfl) ?_
        refine dl_end <| dw_region (by kernel_rfl) <| dl_r (sem_move rfl rfl) <| dl_r (sem_quo' (r := (c + ys.getD k 0 + xs.getD k 0) / 1000000000) rfl rfl (by omega) (by rw [Int.tdiv_eq_ediv_of_nonneg (by omega)]; exact nwu32 (by omega) (by omega)) rfl) <| dl_r (sem_assign rfl rfl) <| dl_end <| dw_region (by kernel_rfl) <| dl_r (sem_move rfl rfl) ?_
        refine dl_r (sem_ari (r := (k : Int) + 1) rfl rfl (ari_i64_add (by (first | omega | (simp; omega))) (by (first | omega | (simp; omega)))) rfl) ?_
        refine dl_r (sem_assign rfl rfl) <| dl_end ?_
        exact ⟨⟨(k + 1, (c + ys.getD k 0 + xs.getD k 0) / 1000000000, zs ++ [(c + ys.getD k 0 + xs.getD k 0) % 1000000000]), hI.step hLys hLxs hk hS⟩, sub_of ⟨rfl, rfl, rfl, rfl, by rw [show ((k + 1 : Nat) : Int) = (k : Int) + 1 from by omega]; rfl, trivial⟩ ⟨by rw [show ys.length + 1 - (k + 1) = ys.length - k from by omega, ← set_end (m := ys.length - k) (d := (c + ys.getD k 0 + xs.getD k 0) % 1000000000) g6, show ys.length - k + 1 = ys.length + 1 - k from by omega]; rfl, trivial⟩ rfl, by show ys.length - (k + 1) < ys.length - k; omega⟩
      · have hkq : ¬ k < xs.length := by simp only [decide_eq_false_iff_not] at hc3; omega
        have hq0 : xs.getD k 0 = 0 := by rw [List.getD, List.getElem?_eq_none (by omega)]; rfl
        have hS : c + ys.getD k 0 = c + ys.getD k 0 + xs.getD k 0 := by omega
        refine dw_skip <| dw_seq <| dw_region (by kernel_rfl) <| dl_r (sem_move rfl rfl) <| dl_r (sem_move rfl rfl) <| dl_r (sem_move rfl rfl) <| dl_r (sem_rem' (r := (c + ys.getD k 0) % 1000000000) rfl rfl (by omega) (Int.tmod_eq_emod_of_nonneg (by omega)) rfl) ?_
        refine dl_r (sem_index_o sl22 rfl rfl (by (first | omega | (simp; omega))) rfl) ?_
        refine dl_st (sem_store (us := ((zs ++ List.replicate (ys.length + 1 - k) 0).set k ((c + ys.getD k 0) % 1000000000)).map (CellD.i .u32)) ty89 rfl rfl rfl rfl (by simp; omega) (O_set (by (first | omega | (simp; omega)))) rfl) ?_
        refine dl_end <| dw_region (by kernel_rfl) <| dl_r (sem_move rfl rfl) <| dl_r (sem_quo' (r := (c + ys.getD k 0) / 1000000000) rfl rfl (by omega) (by rw [Int.tdiv_eq_ediv_of_nonneg (by omega)]; exact nwu32 (by omega) (by omega)) rfl) <| dl_r (sem_assign rfl rfl) <| dl_end <| dw_region (by kernel_rfl) <| dl_r (sem_move rfl rfl) ?_
        refine dl_r (sem_ari (r := (k : Int) + 1) rfl rfl (ari_i64_add (by (first | omega | (simp; omega))) (by (first | omega | (simp; omega)))) rfl) ?_
        refine dl_r (sem_assign rfl rfl) <| dl_end ?_
        exact ⟨⟨(k + 1, (c + ys.getD k 0) / 1000000000, zs ++ [(c + ys.getD k 0) % 1000000000]), hI.step hLys hLxs hk hS⟩, sub_of ⟨rfl, rfl, rfl, rfl, by rw [show ((k + 1 : Nat) : Int) = (k : Int) + 1 from by omega]; rfl, trivial⟩ ⟨by rw [show ys.length + 1 - (k + 1) = ys.length - k from by omega, ← set_end (m := ys.length - k) (d := (c + ys.getD k 0) % 1000000000) g6, show ys.length - k + 1 = ys.length + 1 - k from by omega]; rfl, trivial⟩ rfl, by show ys.length - (k + 1) < ys.length - k; omega⟩
    · have hk : k = ys.length := by simp only [decide_eq_false_iff_not] at hc2; omega
      have hfin : (val xs + val ys : Int) = val ((zs ++ List.replicate (ys.length + 1 - k) 0).set ys.length c) := by rw [show ys.length + 1 - k = 0 + 1 from by omega, set_end (by omega)]; simp only [List.replicate_zero, List.append_nil]; rw [hI.done hk (by omega)]; omega
      have hLf : Lim ((zs ++ List.replicate (ys.length + 1 - k) 0).set ys.length c) := (hI.L.append (Lim.zeros _)).set g3 (by omega)
      refine dw_exit <| dw_seq <| dw_region (by kernel_rfl) <| dl_r (sem_move rfl rfl) <| dl_r (sem_move rfl rfl) <| dl_r (sem_len sl22 rfl rfl) <| dl_r (sem_move rfl rfl) ?_
      refine dl_r (sem_index_o sl22 rfl rfl (by (first | omega | (simp; omega))) rfl) ?_
      refine dl_st (sem_store (us := ((zs ++ List.replicate (ys.length + 1 - k) 0).set ys.length c).map (CellD.i .u32)) ty89 rfl rfl rfl rfl (by simp; omega) (O_set (by (first | omega | (simp; omega)))) rfl) ?_
      refine dl_end <| dw_seq ?_
      refine dw_relM (t := 5) (zs := (zs ++ List.replicate (ys.length + 1 - k) 0).set ys.length c) (ys := (zs ++ List.replicate (ys.length + 1 - k) 0).set ys.length c) rfl rfl (by first | omega | (simp; omega) | simp) (by omega) (by omega) (List.take_of_length_le (by first | omega | (simp; omega) | simp)) ?_
      refine dw_region (by kernel_rfl) <| dl_r (sem_move rfl rfl) <| dl_r (sem_call rfl rfl (rTrim_ok hLf (by simp; omega)) rfl) <| dl_r (sem_assign rfl rfl) <| dl_end <| dw_ret ?_
      rw [hfin]
      exact ⟨.inr rfl, (resL_tmp rfl resL_nil)⟩
  · have hlt : ys.length ≤ xs.length := by simp only [decide_eq_false_iff_not] at hc1; omega
    refine dw_skip <| dw_seq <| dw_region (by kernel_rfl) <| dl_r (sem_move rfl rfl) <| dl_r (sem_len sl22 rfl rfl) ?_
    refine dl_r (sem_ari (r := (xs.length : Int) + 1) rfl rfl (ari_i64_add (by (first | omega | (simp; omega))) (by (first | omega | (simp; omega)))) rfl) ?_
    refine dl_mk (sem_make (n := xs.length + 1) el22 rfl rfl (by (first | omega | (simp; omega))) (by (first | omega | (simp; omega))) rfl) rfl ?_
    refine dl_r (sem_assign rfl rfl) <| dl_end <| dw_seq <| dw_region (by kernel_rfl) <| dl_r (sem_assign rfl rfl) <| dl_end <| dw_seq <| dw_seq ?_
    refine dw_region (by kernel_rfl) <| dl_r (sem_assign rfl rfl) <| dl_end <| dw_block <| dw_loop (ι := {t : Nat × Int × List Int // PInv xs ys t.1 t.2.1 t.2.2}) (fun i => ⟨55, [(0, .v (.c (cM xs))), (1, .v (.c (cM ys))), (5, .o 18 (xs.length + 1) (xs.length + 1)), (6, .v (.c (.i .u32 i.1.2.1))), (7, .v (.c (.i .i64 (i.1.1 : Int))))], [(18, 89, (i.1.2.2 ++ List.replicate (xs.length + 1 - i.1.1) 0).map (CellD.i .u32))]⟩) (fun i => xs.length - i.1.1) ⟨(0, 0, []), ⟨Nat.zero_le _, Int.le_refl 0, by decide, Lim.nil, rfl, by simp [val]⟩⟩ (sub_of ⟨rfl, rfl, rfl, rfl, rfl, trivial⟩ ⟨by rw [show (List.replicate (xs.length + 1) (CellD.i .u32 0)) = (([] : List Int) ++ List.replicate (xs.length + 1 - 0) 0).map (CellD.i .u32) from by simp]; rfl, trivial⟩ rfl) ?_
    rintro ⟨⟨k, c, zs⟩, hI⟩
    replace hI : PInv xs ys k c zs := hI
    have g1 := lim_getD hLxs k
    have g2 := lim_getD hLys k
    have g3 := hI.c0
    have g4 := hI.c1
    have g5 := hI.le
    have g6 := hI.len
    show Dw _ _ ⟨55, [(0, .v (.c (cM xs))), (1, .v (.c (cM ys))), (5, .o 18 (xs.length + 1) (xs.length + 1)), (6, .v (.c (.i .u32 c))), (7, .v (.c (.i .i64 (k : Int))))], [(18, 89, (zs ++ List.replicate (xs.length + 1 - k) 0).map (CellD.i .u32))]⟩ _
    refine dw_seq <| dw_seq <| dw_region (by kernel_rfl) <| dl_r (sem_move rfl rfl) <| dl_r (sem_move rfl rfl) <| dl_r (sem_len sl22 rfl rfl) <| dl_r (sem_cmp rfl rfl rfl rfl) <| dl_end ?_
    refine dw_cond rfl (fun hc4 => ?_) (fun hc4 => ?_)
    · have hk : k < xs.length := by simp only [decide_eq_true_eq] at hc4; omega
      refine dw_skip <| dw_seq <| dw_block <| dw_seq <| dw_region (by kernel_rfl) <| dl_r (sem_move rfl rfl) <| dl_r (sem_move rfl rfl) <| dl_r (sem_move rfl rfl) ?_
      refine dl_r (sem_index sl22 rfl rfl (by (first | omega | (simp; omega))) (M_len _) rfl rfl) ?_
      refine dl_r (sem_loadq1 ty89 rfl (M_get (i := k) (by (first | omega | (simp; omega)))) rfl) ?_
      refine dl_r (sem_ari (r := c + (xs.getD k 0)) rfl rfl (ari_u32_add (by (first | omega | (simp; omega))) (by (first | omega | (simp; omega)))) rfl) ?_
      refine dl_r (sem_assign rfl rfl) <| dl_end <| dw_seq <| dw_seq <| dw_region (by kernel_rfl) <| dl_r (sem_move rfl rfl) <| dl_r (sem_move rfl rfl) <| dl_r (sem_len sl22 rfl rfl) ?_
      refine dl_r (sem_cmp rfl rfl rfl rfl) <| dl_end ?_
      refine dw_cond rfl (fun hc5 => ?_) (fun hc5 => ?_)
      · have hkq : k < ys.length := by simp only [decide_eq_true_eq] at hc5; omega
        have hS : c + xs.getD k 0 + ys.getD k 0 = c + xs.getD k 0 + ys.getD k 0 := rfl
        have hb : c + xs.getD k 0 + ys.getD k 0 ≤ 4294967295 := by omega
        refine dw_region (by kernel_rfl) <| dl_r (sem_move rfl rfl) <| dl_r (sem_move rfl rfl) <| dl_r (sem_move rfl rfl) ?_
        refine dl_r (sem_index sl22 rfl rfl (by (first | omega | (simp; omega))) (M_len _) rfl rfl) ?_
        refine dl_r (sem_loadq1 ty89 rfl (M_get (i := k) (by (first | omega | (simp; omega)))) rfl) ?_
        refine dl_r (sem_ari (r := (c + (xs.getD k 0)) + (ys.getD k 0)) rfl rfl (ari_u32_add (by (first | omega | (simp; omega))) (by (first | omega | (simp; omega)))) rfl) ?_
        refine dl_r (sem_assign rfl rfl) <| dl_end <| dw_seq <| dw_region (by kernel_rfl) <| dl_r (sem_move rfl rfl) <| dl_r (sem_move rfl rfl) <| dl_r (sem_move rfl rfl) <| dl_r (sem_rem' (r := (c + xs.getD k 0 + ys.getD k 0) % 1000000000) rfl rfl (by omega) (Int.tmod_eq_emod_of_nonneg (by omega)) rfl) ?_
        refine dl_r (sem_index_o sl22 rfl rfl (by (first | omega | (simp; omega))) rfl) ?_
        refine dl_st (sem_store (us := ((zs ++ List.replicate (xs.length + 1 - k) 0).set k ((c + xs.getD k 0 + ys.getD k 0) % 1000000000)).map (CellD.i .u32)) ty89 rfl rfl rfl rfl (by simp; omega) (O_set (by (first | omega | (simp; omega)))) rfl) ?_
        refine dl_end <| dw_region (by kernel_rfl) <| dl_r (sem_move rfl rfl) <| dl_r (sem_quo' (r := (c + xs.getD k 0 + ys.getD k 0) / 1000000000) rfl rfl (by omega) (by rw [Int.tdiv_eq_ediv_of_nonneg (by omega)]; exact nwu32 (by omega) (by omega)) rfl) <| dl_r (sem_assign rfl rfl) <| dl_end <| dw_region (by kernel_rfl) <| dl_r (sem_move rfl rfl) ?_
        refine dl_r (sem_ari (r := (k : Int) + 1) rfl rfl (ari_i64_add (by (first | omega | (simp; omega))) (by (first | omega | (simp; omega)))) rfl) ?_
        refine dl_r (sem_assign rfl rfl) <| dl_end ?_
        exact ⟨⟨(k + 1, (c + xs.getD k 0 + ys.getD k 0) / 1000000000, zs ++ [(c + xs.getD k 0 + ys.getD k 0) % 1000000000]), hI.step hLxs hLys hk hS⟩, sub_of ⟨rfl, rfl, rfl, rfl, by rw [show ((k + 1 : Nat) : Int) = (k : Int) + 1 from by omega]; rfl, trivial⟩ ⟨by rw [show xs.length + 1 - (k + 1) = xs.length - k from by omega, ← set_end (m := xs.length - k) (d := (c + xs.getD k 0 + ys.getD k 0) % 1000000000) g6, show xs.length - k + 1 = xs.length + 1 - k from by omega]; rfl, trivial⟩ rfl, by show xs.length - (k + 1) < xs.length - k; omega⟩
      · have hkq : ¬ k < ys.length := by simp only [decide_eq_false_iff_not] at hc5; omega
        have hq0 : ys.getD k 0 = 0 := by rw [List.getD, List.getElem?_eq_none (by omega)]; rfl
        have hS : c + xs.getD k 0 = c + xs.getD k 0 + ys.getD k 0 := by omega
        refine dw_skip <| dw_seq <| dw_region (by kernel_rfl) <| dl_r (sem_move rfl rfl) <| dl_r (sem_move rfl rfl) <| dl_r (sem_move rfl rfl) <| dl_r (sem_rem' (r := (c + xs.getD k 0) % 1000000000) rfl rfl (by omega) (Int.tmod_eq_emod_of_nonneg (by omega)) rfl) ?_
        refine dl_r (sem_index_o sl22 rfl rfl (by (first | omega | (simp; omega))) rfl) ?_
        refine dl_st (sem_store (us := ((zs ++ List.replicate (xs.length + 1 - k) 0).set k ((c + xs.getD k 0) % 1000000000)).map (CellD.i .u32)) ty89 rfl rfl rfl rfl (by simp; omega) (O_set (by (first | omega | (simp; omega)))) rfl) ?_
        refine dl_end <| dw_region (by kernel_rfl) <| dl_r (sem_move rfl rfl) <| dl_r (sem_quo' (r := (c + xs.getD k 0) / 1000000000) rfl rfl (by omega) (by rw [Int.tdiv_eq_ediv_of_nonneg (by omega)]; exact nwu32 (by omega) (by omega)) rfl) <| dl_r (sem_assign rfl rfl) <| dl_end <| dw_region (by kernel_rfl) <| dl_r (sem_move rfl rfl) ?_
        refine dl_r (sem_ari (r := (k : Int) + 1) rfl rfl (ari_i64_add (by (first | omega | (simp; omega))) (by (first | omega | (simp; omega)))) rfl) ?_
        refine dl_r (sem_assign rfl rfl) <| dl_end ?_
        exact ⟨⟨(k + 1, (c + xs.getD k 0) / 1000000000, zs ++ [(c + xs.getD k 0) % 1000000000]), hI.step hLxs hLys hk hS⟩, sub_of ⟨rfl, rfl, rfl, rfl, by rw [show ((k + 1 : Nat) : Int) = (k : Int) + 1 from by omega]; rfl, trivial⟩ ⟨by rw [show xs.length + 1 - (k + 1) = xs.length - k from by omega, ← set_end (m := xs.length - k) (d := (c + xs.getD k 0) % 1000000000) g6, show xs.length - k + 1 = xs.length + 1 - k from by omega]; rfl, trivial⟩ rfl, by show xs.length - (k + 1) < xs.length - k; omega⟩
    · have hk : k = xs.length := by simp only [decide_eq_false_iff_not] at hc4; omega
      have hfin : (val xs + val ys : Int) = val ((zs ++ List.replicate (xs.length + 1 - k) 0).set xs.length c) := by rw [show xs.length + 1 - k = 0 + 1 from by omega, set_end (by omega)]; simp only [List.replicate_zero, List.append_nil]; rw [hI.done hk (by omega)]
      have hLf : Lim ((zs ++ List.replicate (xs.length + 1 - k) 0).set xs.length c) := (hI.L.append (Lim.zeros _)).set g3 (by omega)
      refine dw_exit <| dw_seq <| dw_region (by kernel_rfl) <| dl_r (sem_move rfl rfl) <| dl_r (sem_move rfl rfl) <| dl_r (sem_len sl22 rfl rfl) <| dl_r (sem_move rfl rfl) ?_
      refine dl_r (sem_index_o sl22 rfl rfl (by (first | omega | (simp; omega))) rfl) ?_
      refine dl_st (sem_store (us := ((zs ++ List.replicate (xs.length + 1 - k) 0).set xs.length c).map (CellD.i .u32)) ty89 rfl rfl rfl rfl (by simp; omega) (O_set (by (first | omega | (simp; omega)))) rfl) ?_
      refine dl_end <| dw_seq ?_
      refine dw_relM (t := 5) (zs := (zs ++ List.replicate (xs.length + 1 - k) 0).set xs.length c) (ys := (zs ++ List.replicate (xs.length + 1 - k) 0).set xs.length c) rfl rfl (by first | omega | (simp; omega) | simp) (by omega) (by omega) (List.take_of_length_le (by first | omega | (simp; omega) | simp)) ?_
      refine dw_region (by kernel_rfl) <| dl_r (sem_move rfl rfl) <| dl_r (sem_call rfl rfl (rTrim_ok hLf (by simp; omega)) rfl) <| dl_r (sem_assign rfl rfl) <| dl_end <| dw_ret ?_
      rw [hfin]
      exact ⟨.inr rfl, (resL_tmp rfl resL_nil)⟩
theorem rMinus_ok {xs ys : List Int} (hLxs : Lim xs) (hLys : Lim ys) (hn : xs.length ≤ 1000000) (hlen : ys.length ≤ xs.length) (hle : val ys ≤ val xs) : Ok Tryz.prog 86 [.c (cM xs), .c (cM ys)] [.c (cL (val xs - val ys))] := by
  refine Ok.of (by kernel_rfl) Tryz.func86 rfl rfl ?_
  rw [show Tryz.f86.ntmps = 45 from rfl, show Tryz.f86.results.toList = [.tmp 4] from rfl]
  refine dw_seq <| dw_region (by kernel_rfl) <| dl_r (sem_assign rfl rfl) <| dl_end <| dw_seq <| dw_region (by kernel_rfl) <| dl_r (sem_move rfl rfl) <| dl_r (sem_len sl22 rfl rfl) ?_
  refine dl_mk (sem_make (n := xs.length) el22 rfl rfl (by (first | omega | (simp; omega))) (by (first | omega | (simp; omega))) rfl) rfl ?_
  refine dl_r (sem_assign rfl rfl) <| dl_end <| dw_seq <| dw_region (by kernel_rfl) <| dl_r (sem_assign rfl rfl) <| dl_end <| dw_seq <| dw_seq ?_
  refine dw_region (by kernel_rfl) <| dl_r (sem_assign rfl rfl) <| dl_end <| dw_block <| dw_loop (ι := {t : Nat × Int × List Int // SInv xs ys t.1 t.2.1 t.2.2}) (fun i => ⟨45, [(0, .v (.c (cM xs))), (1, .v (.c (cM ys))), (5, .o 11 xs.length xs.length), (6, .v (.c (.i .u32 i.1.2.1))), (7, .v (.c (.i .i64 (i.1.1 : Int))))], [(11, 89, (i.1.2.2 ++ List.replicate (xs.length - i.1.1) 0).map (CellD.i .u32))]⟩) (fun i => xs.length - i.1.1) ⟨(0, 0, []), ⟨Nat.zero_le _, Int.le_refl 0, by decide, Lim.nil, rfl, by simp [val]⟩⟩ (sub_of ⟨rfl, rfl, rfl, rfl, rfl, trivial⟩ ⟨by rw [show (List.replicate xs.length (CellD.i .u32 0)) = (([] : List Int) ++ List.replicate (xs.length - 0) 0).map (CellD.i .u32) from by simp]; rfl, trivial⟩ rfl) ?_
  rintro ⟨⟨k, c, zs⟩, hI⟩
  replace hI : SInv xs ys k c zs := hI
  have g1 := lim_getD hLxs k
  have g2 := lim_getD hLys k
  have g3 := hI.c0
  have g4 := hI.c1
  have g5 := hI.le
  have g6 := hI.len
  show Dw _ _ ⟨45, [(0, .v (.c (cM xs))), (1, .v (.c (cM ys))), (5, .o 11 xs.length xs.length), (6, .v (.c (.i .u32 c))), (7, .v (.c (.i .i64 (k : Int))))], [(11, 89, (zs ++ List.replicate (xs.length - k) 0).map (CellD.i .u32))]⟩ _
  refine dw_seq <| dw_seq <| dw_region (by kernel_rfl) <| dl_r (sem_move rfl rfl) <| dl_r (sem_move rfl rfl) <| dl_r (sem_len sl22 rfl rfl) <| dl_r (sem_cmp rfl rfl rfl rfl) <| dl_end ?_
  refine dw_cond rfl (fun hc1 => ?_) (fun hc1 => ?_)
  · have hk : k < xs.length := by simp only [decide_eq_true_eq] at hc1; omega
    refine dw_skip <| dw_seq <| dw_block <| dw_seq <| dw_region (by kernel_rfl) <| dl_r (sem_move rfl rfl) <| dl_r (sem_move rfl rfl) ?_
    refine dl_r (sem_index sl22 rfl rfl (by (first | omega | (simp; omega))) (M_len _) rfl rfl) ?_
    refine dl_r (sem_loadq1 ty89 rfl (M_get (i := k) (by (first | omega | (simp; omega)))) rfl) ?_
    refine dl_r (sem_ari (r := (xs.getD k 0) + 1000000000) rfl rfl (ari_u32_add (by (first | omega | (simp; omega))) (by (first | omega | (simp; omega)))) rfl) ?_
    refine dl_r (sem_move rfl rfl) ?_
    refine dl_r (sem_ari (r := ((xs.getD k 0) + 1000000000) - c) rfl rfl (ari_u32_sub (by (first | omega | (simp; omega))) (by (first | omega | (simp; omega)))) rfl) ?_
    refine dl_r (sem_assign rfl rfl) <| dl_end <| dw_seq <| dw_seq <| dw_region (by kernel_rfl) <| dl_r (sem_move rfl rfl) <| dl_r (sem_move rfl rfl) <| dl_r (sem_len sl22 rfl rfl) ?_
    refine dl_r (sem_cmp rfl rfl rfl rfl) <| dl_end ?_
    refine dw_cond rfl (fun hc2 => ?_) (fun hc2 => ?_)
    · have hkq : k < ys.length := by simp only [decide_eq_true_eq] at hc2; omega
      refine dw_region (by kernel_rfl) <| dl_r (sem_move rfl rfl) <| dl_r (sem_move rfl rfl) <| dl_r (sem_move rfl rfl) ?_
      refine dl_r (sem_index sl22 rfl rfl (by (first | omega | (simp; omega))) (M_len _) rfl rfl) ?_
      refine dl_r (sem_loadq1 ty89 rfl (M_get (i := k) (by (first | omega | (simp; omega)))) rfl) ?_
      refine dl_r (sem_ari (r := (((xs.getD k 0) + 1000000000) - c) - (ys.getD k 0)) rfl rfl (ari_u32_sub (by (first | omega | (simp; omega))) (by (first | omega | (simp; omega)))) rfl) ?_
      refine dl_r (sem_assign rfl rfl) <| dl_end <| dw_seq <| dw_region (by kernel_rfl) <| dl_r (sem_assign rfl rfl) <| dl_end <| dw_seq <| dw_seq ?_
      refine dw_region (by kernel_rfl) <| dl_r (sem_move rfl rfl) <| dl_r (sem_cmp rfl rfl rfl rfl) <| dl_end ?_
      refine dw_cond rfl (fun hc3 => ?_) (fun hc3 => ?_)
      · simp only [decide_eq_true_eq] at hc3
        have hd1 : 0 ≤ xs.getD k 0 + 1000000000 - c - ys.getD k 0 - 1000000000 := by omega
        have hd2 : xs.getD k 0 + 1000000000 - c - ys.getD k 0 - 1000000000 < 1000000000 := by omega
        have hd3 : (0 : Int) ≤ 0 := by omega
        have hd4 : (0 : Int) ≤ 1 := by omega
        have hdS : xs.getD k 0 + 1000000000 - c - ys.getD k 0 - 1000000000 - 1000000000 * 0 = xs.getD k 0 - c - ys.getD k 0 := by omega
        refine dw_region (by kernel_rfl) <| dl_r (sem_move rfl rfl) ?_
        refine dl_r (sem_ari (r := ((((xs.getD k 0) + 1000000000) - c) - (ys.getD k 0)) - 1000000000) rfl rfl (ari_u32_sub (by (first | omega | (simp; omega))) (by (first | omega | (simp; omega)))) rfl) ?_
        refine dl_r (sem_assign rfl rfl) <| dl_r (sem_assign rfl rfl) <| dl_end <| dw_region (by kernel_rfl) <| dl_r (sem_move rfl rfl) <| dl_r (sem_move rfl rfl) <| dl_r (sem_move rfl rfl) ?_
        refine dl_r (sem_index_o sl22 rfl rfl (by (first | omega | (simp; omega))) rfl) ?_
        refine dl_st (sem_store (us := ((zs ++ List.replicate (xs.length - k) 0).set k (((((xs.getD k 0) + 1000000000) - c) - (ys.getD k 0)) - 1000000000)).map (CellD.i .u32)) ty89 rfl rfl rfl rfl (by simp; omega) (O_set (by (first | omega | (simp; omega)))) rfl) ?_
        refine dl_end <| dw_region (by kernel_rfl) <| dl_r (sem_move rfl rfl) ?_
        refine dl_r (sem_ari (r := (k : Int) + 1) rfl rfl (ari_i64_add (by (first | omega | (simp; omega))) (by (first | omega | (simp; omega)))) rfl) ?_
        refine dl_r (sem_assign rfl rfl) <| dl_end ?_
        exact ⟨⟨(k + 1, 0, zs ++ [xs.getD k 0 + 1000000000 - c - ys.getD k 0 - 1000000000]), hI.step hk hd1 hd2 hd3 hd4 hdS⟩, sub_of ⟨rfl, rfl, rfl, rfl, by rw [show ((k + 1 : Nat) : Int) = (k : Int) + 1 from by omega]; rfl, trivial⟩ ⟨by rw [show xs.length - (k + 1) = xs.length - k - 1 from by omega, ← set_end (m := xs.length - k - 1) (d := xs.getD k 0 + 1000000000 - c - ys.getD k 0 - 1000000000) g6, show xs.length - k - 1 + 1 = xs.length - k from by omega]; rfl, trivial⟩ rfl, by show xs.length - (k + 1) < xs.length - k; omega⟩
      · simp only [decide_eq_false_iff_not] at hc3
        have hd1 : 0 ≤ xs.getD k 0 + 1000000000 - c - ys.getD k 0 := by omega
        have hd2 : xs.getD k 0 + 1000000000 - c - ys.getD k 0 < 1000000000 := by omega
        have hd3 : (0 : Int) ≤ 1 := by omega
        have hd4 : (1 : Int) ≤ 1 := by omega
        have hdS : xs.getD k 0 + 1000000000 - c - ys.getD k 0 - 1000000000 * 1 = xs.getD k 0 - c - ys.getD k 0 := by omega
        refine dw_skip <| dw_region (by kernel_rfl) <| dl_r (sem_move rfl rfl) <| dl_r (sem_move rfl rfl) <| dl_r (sem_move rfl rfl) ?_
        refine dl_r (sem_index_o sl22 rfl rfl (by (first | omega | (simp; omega))) rfl) ?_
        refine dl_st (sem_store (us := ((zs ++ List.replicate (xs.length - k) 0).set k ((((xs.getD k 0) + 1000000000) - c) - (ys.getD k 0))).map (CellD.i .u32)) ty89 rfl rfl rfl rfl (by simp; omega) (O_set (by (first | omega | (simp; omega)))) rfl) ?_
        refine dl_end <| dw_region (by kernel_rfl) <| dl_r (sem_move rfl rfl) ?_
        refine dl_r (sem_ari (r := (k : Int) + 1) rfl rfl (ari_i64_add (by (first | omega | (simp; omega))) (by (first | omega | (simp; omega)))) rfl) ?_
        refine dl_r (sem_assign rfl rfl) <| dl_end ?_
        exact ⟨⟨(k + 1, 1, zs ++ [xs.getD k 0 + 1000000000 - c - ys.getD k 0]), hI.step hk hd1 hd2 hd3 hd4 hdS⟩, sub_of ⟨rfl, rfl, rfl, rfl, by rw [show ((k + 1 : Nat) : Int) = (k : Int) + 1 from by omega]; rfl, trivial⟩ ⟨by rw [show xs.length - (k + 1) = xs.length - k - 1 from by omega, ← set_end (m := xs.length - k - 1) (d := xs.getD k 0 + 1000000000 - c - ys.getD k 0) g6, show xs.length - k - 1 + 1 = xs.length - k from by omega]; rfl, trivial⟩ rfl, by show xs.length - (k + 1) < xs.length - k; omega⟩
    · have hkq : ¬ k < ys.length := by simp only [decide_eq_false_iff_not] at hc2; omega
      have hq0 : ys.getD k 0 = 0 := by rw [List.getD, List.getElem?_eq_none (by omega)]; rfl
      refine dw_skip <| dw_seq <| dw_region (by kernel_rfl) <| dl_r (sem_assign rfl rfl) <| dl_end <| dw_seq <| dw_seq <| dw_region (by kernel_rfl) ?_
      refine dl_r (sem_move rfl rfl) <| dl_r (sem_cmp rfl rfl rfl rfl) <| dl_end ?_
      refine dw_cond rfl (fun hc4 => ?_) (fun hc4 => ?_)
      · simp only [decide_eq_true_eq] at hc4
        have hd1 : 0 ≤ xs.getD k 0 + 1000000000 - c - 1000000000 := by omega
        have hd2 : xs.getD k 0 + 1000000000 - c - 1000000000 < 1000000000 := by omega
        have hd3 : (0 : Int) ≤ 0 := by omega
        have hd4 : (0 : Int) ≤ 1 := by omega
        have hdS : xs.getD k 0 + 1000000000 - c - 1000000000 - 1000000000 * 0 = xs.getD k 0 - c - ys.getD k 0 := by omega
        refine dw_region (by kernel_rfl) <| dl_r (sem_move rfl rfl) ?_
        refine dl_r (sem_ari (r := (((xs.getD k 0) + 1000000000) - c) - 1000000000) rfl rfl (ari_u32_sub (by (first | omega | (simp; omega))) (by (first | omega | (simp; omega)))) rfl) ?_
        refine dl_r (sem_assign rfl rfl) <| dl_r (sem_assign rfl rfl) <| dl_end <| dw_region (by kernel_rfl) <| dl_r (sem_move rfl rfl) <| dl_r (sem_move rfl rfl) <| dl_r (sem_move rfl rfl) ?_
        refine dl_r (sem_index_o sl22 rfl rfl (by (first | omega | (simp; omega))) rfl) ?_
        refine dl_st (sem_store (us := ((zs ++ List.replicate (xs.length - k) 0).set k ((((xs.getD k 0) + 1000000000) - c) - 1000000000)).map (CellD.i .u32)) ty89 rfl rfl rfl rfl (by simp; omega) (O_set (by (first | omega | (simp; omega)))) rfl) ?_
        refine dl_end <| dw_region (by kernel_rfl) <| dl_r (sem_move rfl rfl) ?_
        refine dl_r (sem_ari (r := (k : Int) + 1) rfl rfl (ari_i64_add (by (first | omega | (simp; omega))) (by (first | omega | (simp; omega)))) rfl) ?_
        refine dl_r (sem_assign rfl rfl) <| dl_end ?_
        exact ⟨⟨(k + 1, 0, zs ++ [xs.getD k 0 + 1000000000 - c - 1000000000]), hI.step hk hd1 hd2 hd3 hd4 hdS⟩, sub_of ⟨rfl, rfl, rfl, rfl, by rw [show ((k + 1 : Nat) : Int) = (k : Int) + 1 from by omega]; rfl, trivial⟩ ⟨by rw [show xs.length - (k + 1) = xs.length - k - 1 from by omega, ← set_end (m := xs.length - k - 1) (d := xs.getD k 0 + 1000000000 - c - 1000000000) g6, show xs.length - k - 1 + 1 = xs.length - k from by omega]; rfl, trivial⟩ rfl, by show xs.length - (k + 1) < xs.length - k; omega⟩
      · simp only [decide_eq_false_iff_not] at hc4
        have hd1 : 0 ≤ xs.getD k 0 + 1000000000 - c := by omega
        have hd2 : xs.getD k 0 + 1000000000 - c < 1000000000 := by omega
        have hd3 : (0 : Int) ≤ 1 := by omega
        have hd4 : (1 : Int) ≤ 1 := by omega
        have hdS : xs.getD k 0 + 1000000000 - c - 1000000000 * 1 = xs.getD k 0 - c - ys.getD k 0 := by omega
        refine dw_skip <| dw_region (by kernel_rfl) <| dl_r (sem_move rfl rfl) <| dl_r (sem_move rfl rfl) <| dl_r (sem_move rfl rfl) ?_
        refine dl_r (sem_index_o sl22 rfl rfl (by (first | omega | (simp; omega))) rfl) ?_
        refine dl_st (sem_store (us := ((zs ++ List.replicate (xs.length - k) 0).set k (((xs.getD k 0) + 1000000000) - c)).map (CellD.i .u32)) ty89 rfl rfl rfl rfl (by simp; omega) (O_set (by (first | omega | (simp; omega)))) rfl) ?_
        refine dl_end <| dw_region (by kernel_rfl) <| dl_r (sem_move rfl rfl) ?_
        refine dl_r (sem_ari (r := (k : Int) + 1) rfl rfl (ari_i64_add (by (first | omega | (simp; omega))) (by (first | omega | (simp; omega)))) rfl) ?_
        refine dl_r (sem_assign rfl rfl) <| dl_end ?_
        exact ⟨⟨(k + 1, 1, zs ++ [xs.getD k 0 + 1000000000 - c]), hI.step hk hd1 hd2 hd3 hd4 hdS⟩, sub_of ⟨rfl, rfl, rfl, rfl, by rw [show ((k + 1 : Nat) : Int) = (k : Int) + 1 from by omega]; rfl, trivial⟩ ⟨by rw [show xs.length - (k + 1) = xs.length - k - 1 from by omega, ← set_end (m := xs.length - k - 1) (d := xs.getD k 0 + 1000000000 - c) g6, show xs.length - k - 1 + 1 = xs.length - k from by omega]; rfl, trivial⟩ rfl, by show xs.length - (k + 1) < xs.length - k; omega⟩
  · have hk : k = xs.length := by simp only [decide_eq_false_iff_not] at hc1; omega
    have hfin : val xs - val ys = val (zs ++ List.replicate (xs.length - k) 0) := by rw [show xs.length - k = 0 from by omega]; simp only [List.replicate_zero, List.append_nil]; rw [hI.done hk hlen hle]
    have hLf : Lim (zs ++ List.replicate (xs.length - k) 0) := hI.L.append (Lim.zeros _)
    refine dw_exit <| dw_seq ?_
    refine dw_relM (t := 5) (zs := zs ++ List.replicate (xs.length - k) 0) (ys := zs ++ List.replicate (xs.length - k) 0) rfl rfl (by first | omega | (simp; omega) | simp) (by omega) (by omega) (List.take_of_length_le (by first | omega | (simp; omega) | simp)) ?_
    refine dw_region (by kernel_rfl) <| dl_r (sem_move rfl rfl) <| dl_r (sem_call rfl rfl (rTrim_ok hLf (by simp; omega)) rfl) <| dl_r (sem_assign rfl rfl) <| dl_end <| dw_ret ?_
    rw [hfin]
    exact ⟨.inr rfl, (resL_tmp rfl resL_nil)⟩
end Go.Proofs.YthlnndkgpgfbnaaGreat
